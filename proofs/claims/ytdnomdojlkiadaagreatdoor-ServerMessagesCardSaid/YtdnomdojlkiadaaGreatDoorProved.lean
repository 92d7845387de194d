/-
  OF EVERY LIST OF KINDS pergolalaw28.ServerMessages RETURNS true, AND THE LIST READS BEHIND THE CALL AS IT DID BEFORE: the card of the statement, tied to the program's text. Its condition: the listed package-level variables read as the program's text lays them (the card ties them); none besides.
-/
import Derived.Test.YtdnomdojlkiadaaGreatDoorWalk
import Derived.Test.YtdnomdojlkiadaaGreatDoorRows
import Derived.Test.YtdnomdojlkiadaaGreatDoorTie
import Derived.Test.YtdnomdojlkiadaaGreatDoorCards
import Derived.ProofKit
import Derived.Lay
import Derived.LaidOnce
import Derived.ChangeSlices
import Derived.Carry
import Derived.SevenTiedAt
namespace Go.Proofs.YtdnomdojlkiadaaGreatDoor
open Go Go.ChangeShapes Go.WideShapes Go.ChangeAt Go.RowKit
theorem Tryz.ownE : ownKnob Tryz.prog.godebug = none := by kernel_rfl
theorem Tryz.laidOutE : laidOutB Tryz.prog = true := by kernel_rfl
theorem Tryz.cells3E : Tryz.prog.cellsOf 3 = 1 := by kernel_rfl
set_option maxRecDepth 100000 in
theorem lifted (os : Os) (started : os.Started) (H : Type) (enc : TypeId × Value → H) :
    ReturnsInHanded {} Tryz.checked os 3 .any (fun w args => (Rows.serverMessagesSpec.pre enc Tryz.prog Tryz.f3 [] false w args ∧ laidMetH Tryz.prog Rows.serverMessagesRow.laid w) ∧ sizedMet enc Tryz.prog Tryz.f3 (OpenSpec.ofChange Rows.serverMessagesSpec) false w args)
      (Rows.serverMessagesSpec.post enc Tryz.prog Tryz.f3 false true false false) := by
  refine returnsInHanded_of_change_and (C := Tryz.checked) (X := fun w _ => laidMetH Tryz.prog Rows.serverMessagesRow.laid w) (fun _ _ _ hh h => h.of_heap hh) Tryz.ownE started (by kernel_rfl) Tryz.func3
    (ChangeSpec.witness_shaped (enc := enc) (C := Tryz.checked) (os := os) (X := fun w _ => laidMetH Tryz.prog Rows.serverMessagesRow.laid w) false (World.laidAll Tryz.prog os Rows.serverMessagesRow.laid) #[.slice none 0 0] 8 (World.laidAll_os _ _ _)
      (World.shaped_of_ZipB (by kernel_rfl) (by kernel_rfl)) (by kernel_rfl) (by kernel_rfl) (by kernel_rfl)
      (by rw [MakeChecks.laidMetH_plain _ _ _ (by kernel_rfl)]; exact laidMet_laidAll _ (by kernel_rfl) (by kernel_rfl))) ?_
  intro W base args ds gs before hval0 hW _ _ _ _
  have hval : ∀ (j : Nat) t v, Tryz.f3.params[j]? = some t → args[j]? = some v → Value.okWide Tryz.prog W .any base t v := hval0
  have hW' := hW
  obtain ⟨p, q, hA0, hV, rfl, _, _⟩ := hW
  have hA : DataW.TrodAll enc Tryz.prog W 0 (fun _ => true) true Tryz.f3.params.toList args.toList ds p := hA0
  rw [Tryz.params3] at hA hval
  obtain ⟨v0, d0, rfl, rfl, h0⟩ := trodAll_one hA
  obtain ⟨rfl, rfl⟩ := trodVars_none hV
  obtain ⟨a0, len, cap, rfl⟩ := okWide_slice Tryz.underlying22 (hval 0 22 v0 rfl rfl)
  have h0k := h0
  obtain ⟨fuel, hf⟩ := h0
  clear hA0 hval0
  simp only [List.append_nil] at hW'
  have hlt : ∀ x ∈ p, x.block < W.heap.size := fun x hx => by simpa using hW'.lt x hx
  have fin : ∀ W', Below W.heap.size W W' → ∃ v, Ending.returned (.bool true) = Ending.returned v ∧ Rows.serverMessagesSpec.post enc Tryz.prog Tryz.f3 false true false false W #[.slice a0 len cap] v W' := fun W' hb => by
    refine ⟨_, rfl, _, _, _, [], p, [], hW', trodAll_mk1 (shut_bool Tryz.underlying4 _), ?_, rfl, hb.frame _, fun h => by cases h⟩
    exact trodAll_mk1 (Below.trod Tryz.laidOutE (by kernel_rfl) (of_decide_eq_true (by kernel_rfl)) h0k hb hlt)
  have main : Tryz.Lst (.slice a0 len cap) len W ∧ len ≤ 9223372036854775807 := by
    rcases open_ints Tryz.underlying22 Tryz.underlying3 Tryz.cells3E hf with ⟨hcs, hx⟩ | ⟨a, len', cap', zs, hcs, _, hl, hm, hz, hx, hcell, hwz⟩
    · simp [Value.cells] at hcs
      obtain ⟨rfl, rfl, rfl⟩ := hcs
      exact ⟨.inl rfl, by omega⟩
    · simp [Value.cells] at hcs
      obtain ⟨rfl, rfl, rfl⟩ := hcs
      simp only [Prod.mk.injEq] at hx
      obtain ⟨rfl, rfl⟩ := hx
      simp only [if_true] at hz
      unfold maxLen at hm
      refine ⟨?_, by omega⟩
      by_cases hl0 : len = 0
      · exact .inl hl0
      · obtain ⟨b, off, spot⟩ := a
        have hspot : spot = none := by simpa [Addr.add] using World.cell?_spot (hcell 0 (by omega))
        subst hspot
        have hbW : b < W.heap.size := hlt (.cell b off) (MemPlace.mem_row.2 ⟨0, by omega, by simp⟩)
        refine .inr ⟨b, off, cap, rfl, hbW, fun i hi => ⟨zs.getD i 0, by rw [← add_plain]; exact hcell i (by omega), ?_⟩⟩
        have hmem : zs.getD i 0 ∈ zs := by
          have hi' : i < zs.length := by omega
          simp [hi']
        have := hwz _ hmem
        simpa [Lit.wf, IntKind.min, IntKind.max, IntKind.signed, IntKind.bits] using this
  exact (Tryz.walk _ len W a0 cap rfl main.1 main.2).mono fun e W' ⟨he, hb⟩ => by subst he; exact fin W' hb
theorem holds : Rows.ServerMessagesSaid :=
  OpenClaim.holds_of_wide 3 Tryz.f3 rfl rfl rfl rfl rfl rfl rfl ⟨rfl, rfl, rfl, rfl, rfl⟩ rfl rfl rfl rfl rfl (by kernel_rfl) Tryz.func3 (by kernel_rfl)
    (of_decide_eq_true (by kernel_rfl)) (by unfold Func.isWrapper; first | (rw [if_pos (by decide +kernel)]; kernel_rfl) | (rw [if_neg (by decide +kernel)]; exact ⟨rfl, rfl⟩))
    (fun os started H enc _ => lifted os started H enc)
theorem card_holds : Rows.ServerMessagesCardSaid :=
  Claim7.holds_tied_plain_at .later [] [.data, .data, .data, .data, .data, .pinned, .pinned, .pinned] true (true, "97f0b447e9fd81f5de1077b55198aa2296338c1c28aaf78a591211026314feb0") true holds (fun _ h => by cases h) (by kernel_rfl) (fun _ h => by cases h) serverMessages_row_tie rfl ⟨rfl, rfl⟩ (by kernel_rfl) rfl
    (fun f fn hf hfn => by
      obtain rfl : f = 3 := Option.some.inj ((show Tryz.prog.funcNamed Rows.serverMessagesRow.func = some 3 by kernel_rfl).symm.trans hf) |>.symm
      obtain rfl : fn = Tryz.f3 := (Option.some.inj (Tryz.func3.symm.trans hfn)).symm
      exact ⟨by kernel_rfl, fun j t ht => by
        rw [Tryz.params3] at ht
        have hm : t ∈ [22] := by simpa using Array.mem_of_getElem? ht
        have hall : ([22].all fun u => !Tryz.prog.wantsStandIn u) = true := by kernel_rfl
        exact (show Tryz.prog.wantsStandIn t = false by simpa using List.all_eq_true.1 hall t hm)⟩)
    (by kernel_rfl)
#print axioms card_holds
end Go.Proofs.YtdnomdojlkiadaaGreatDoor
