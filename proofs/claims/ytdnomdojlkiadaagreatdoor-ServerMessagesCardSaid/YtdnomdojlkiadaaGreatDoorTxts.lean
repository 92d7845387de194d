/-
  ALL TEXTS.
-/
import Derived.Test.YtdnomdojlkiadaaGreatDoorTxtA
import Derived.Test.YtdnomdojlkiadaaGreatDoorTxtB
open Go Go.Ev
namespace Go.Proofs.Tryz
theorem txtPacts_ok : ∀ p ∈ txtPacts, Closed Tryz.prog noGl p.f p.args p.v := by
  intro p hp
  simp only [txtPacts, List.mem_cons, List.mem_nil_iff, or_false] at hp
  rcases hp with rfl | rfl | rfl | rfl | rfl | rfl | rfl | rfl | rfl | rfl | rfl | rfl | rfl | rfl | rfl | rfl | rfl | rfl | rfl | rfl | rfl | rfl | rfl | rfl | rfl | rfl | rfl | rfl | rfl | rfl | rfl | rfl | rfl | rfl | rfl | rfl | rfl | rfl | rfl | rfl | rfl | rfl | rfl | rfl | rfl | rfl | rfl | rfl | rfl | rfl | rfl | rfl | rfl | rfl | rfl | rfl | rfl | rfl | rfl | rfl | rfl | rfl | rfl | rfl | rfl | rfl | rfl | rfl | rfl | rfl | rfl | rfl | rfl | rfl | rfl | rfl
  · exact txt0
  · exact cln0
  · exact txt1
  · exact cln1
  · exact txt2
  · exact cln2
  · exact txt3
  · exact cln3
  · exact txt4
  · exact cln4
  · exact txt5
  · exact cln5
  · exact txt6
  · exact cln6
  · exact txt7
  · exact cln7
  · exact txt8
  · exact cln8
  · exact txt9
  · exact cln9
  · exact txt10
  · exact cln10
  · exact txt11
  · exact cln11
  · exact txt12
  · exact cln12
  · exact txt13
  · exact cln13
  · exact txt14
  · exact cln14
  · exact txt15
  · exact cln15
  · exact txt16
  · exact cln16
  · exact txt17
  · exact cln17
  · exact txt18
  · exact cln18
  · exact txt19
  · exact cln19
  · exact txt20
  · exact cln20
  · exact txt21
  · exact cln21
  · exact txt22
  · exact cln22
  · exact txt23
  · exact cln23
  · exact txt24
  · exact cln24
  · exact txt25
  · exact cln25
  · exact txt26
  · exact cln26
  · exact txt27
  · exact cln27
  · exact txt28
  · exact cln28
  · exact txt29
  · exact cln29
  · exact txt30
  · exact cln30
  · exact txt31
  · exact cln31
  · exact txt32
  · exact cln32
  · exact txt33
  · exact cln33
  · exact txt34
  · exact cln34
  · exact txt35
  · exact cln35
  · exact txt36
  · exact cln36
  · exact txt37
  · exact cln37
end Go.Proofs.Tryz
