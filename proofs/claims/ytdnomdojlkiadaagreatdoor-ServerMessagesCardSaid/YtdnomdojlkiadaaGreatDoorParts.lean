/-
  THE PARTS OF THE LAW's FUNCTION, AND WHAT IS ASKED OF THE LOOP's BODY.
-/
import Derived.Test.YtdnomdojlkiadaaGreatDoorTxtDef
import Derived.Test.YtdnomdojlkiadaaGreatDoorEvFive
open Go Go.Ev
namespace Go.Proofs.Tryz
noncomputable def B3 : Code := bodyOf Tryz.f3
noncomputable def preE : Code := sqA (sqB B3)
noncomputable def loopE : Code := sqA (sqB (sqB B3))
noncomputable def roundE : Code := inB (inB (sqB loopE))
noncomputable def elemE : Code := inB (sqA (sqB (sqB roundE)))
noncomputable def restE : Code := sqB elemE
/-- The message of error 254, and of one class. -/
noncomputable def nullE : AVal := .tup [.str 11 131076170302993303166153317, .bool true]
noncomputable def syntaxE : AVal := .tup [.str 13 9537540304760131123232459879013, .bool true]
noncomputable def frE (k : AVal) : AFr := ⟨79, T.put (T.put (T.put (T.put .nil 6 (some k)) 25 (some (.opq 0))) 26 (some (.opq 1))) 27 (some (.opq 2)), .any, []⟩
/-- The loop's body, its element in the class k, whose message is v, ends normally, and the list, its length and the count stay. -/
noncomputable def bodyChk (k v : AVal) : Bool :=
  normKeeps (ccode Tryz.prog noGl noopE (cPact (⟨5, [k], v⟩ :: ⟨5, [.int .i64 254], nullE⟩ :: txtPacts) 60) 100000 restE (frE k) ⟨0, .nil⟩) 79 [(25, 0), (26, 1), (27, 2)]
end Go.Proofs.Tryz
