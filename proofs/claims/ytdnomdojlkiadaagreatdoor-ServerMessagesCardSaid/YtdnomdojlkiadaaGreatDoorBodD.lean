/-
  THE LOOP's BODY IN THE CLASSES OF KINDS, part D.
-/
import Derived.Test.YtdnomdojlkiadaaGreatDoorParts
open Go Go.Ev
namespace Go.Proofs.Tryz
theorem bod9 : bodyChk (.int .i64 241) (.tup [.str 16 146793563361271689495407446918356431461, .bool true]) = true := by kernel_rfl
theorem bod10 : bodyChk (.int .i64 242) (.tup [.str 19 2462787319999444106488927319984832718484697701, .bool true]) = true := by kernel_rfl
theorem bod11 : bodyChk (.int .i64 243) (.tup [.str 15 526620277456661680147548177626722917, .bool true]) = true := by kernel_rfl
end Go.Proofs.Tryz
