/-
  THE LOOP's BODY IN ALL CLASSES.
-/
import Derived.Test.YtdnomdojlkiadaaGreatDoorBodA
import Derived.Test.YtdnomdojlkiadaaGreatDoorBodB
import Derived.Test.YtdnomdojlkiadaaGreatDoorBodC
import Derived.Test.YtdnomdojlkiadaaGreatDoorBodD
import Derived.Test.YtdnomdojlkiadaaGreatDoorMsgs
open Go Go.Ev
namespace Go.Proofs.Tryz
theorem bods : ∀ p ∈ clsE, bodyChk p.1 p.2 = true := by
  intro p hp
  simp only [clsE, List.mem_cons, List.mem_nil_iff, or_false] at hp
  rcases hp with rfl | rfl | rfl | rfl | rfl | rfl | rfl | rfl | rfl | rfl | rfl | rfl | rfl | rfl | rfl | rfl | rfl | rfl | rfl | rfl | rfl
  · exact bod0
  · exact bod1
  · exact bod2
  · exact bod3
  · exact bod4
  · exact bod5
  · exact bod6
  · exact bod7
  · exact bod8
  · exact bod9
  · exact bod10
  · exact bod11
  · exact bod12
  · exact bod13
  · exact bod14
  · exact bod15
  · exact bod16
  · exact bod17
  · exact bod18
  · exact bod19
  · exact bod20
end Go.Proofs.Tryz
