/-
  THE DEFERRED FUNCTION THAT FINDS NO PANIC; THE CALLER BY THE EVALUATOR.
-/
import Derived.Test.YtdnomdojlkiadaaGreatDoorTab
import Derived.WalkKit
import Derived.Recover
open Go Go.Ev
namespace Go.Proofs.Tryz
theorem neq_nilsE {P : Program} (w : World) {t : TypeId} {ms : Array (String × TypeId)} (ht : P.underlying t = some (.interface ms)) : (binOp .neq t .nilIface .nilIface).run P w = .ok (.bool false) w := by
  have h : ∀ d : Nat, (Op.equalIn (d + 1) t .nilIface .nilIface).run P w = .ok true w := fun d => by simp [Op.equalIn, run_underlying ht]
  simp only [binOp]
  simp [Op.equal, Op.maxDepth, h 9999]
theorem idle29 (args : Array Value) (w : World) : CallsD Tryz.prog 29 args .returning w fun e u' w' => (∃ v, e = .returned v) ∧ u' = .returning ∧ Same w w' := by
  refine callsD_of_wpS Tryz.func29 rfl fun c₀ cs hu => ?_
  have hsz : 8 ≤ (args ++ Array.replicate (Tryz.f29.ntmps - args.size) undef).size := by
    simp [Tryz.ntmps29]; omega
  generalize (args ++ Array.replicate (Tryz.f29.ntmps - args.size) undef) = tm at hsz
  have hnn : ∀ w, (binOp .neq 20 .nilIface .nilIface).run Tryz.prog w = .ok (.bool false) w := fun w => neq_nilsE w Tryz.underlying20
  apply wpS_seq
  apply wpS_region
  have h2 : 2 < tm.size := by omega
  have h3 : 3 < tm.size := by omega
  have h4 : 4 < tm.size := by omega
  have h5 : 5 < tm.size := by omega
  simp [wpOpsS, go_sem, recoverD, hu, Exit.thenS, h3]
  apply wpS_seq
  apply wpS_region
  simp [wpOpsS, go_sem, recoverD, hu, hnn, Exit.thenS, h2, h4, Act.put]
  refine wpS_cond (t := false) (by simp [Act.eval, h5]) ?_
  simp only [Bool.false_eq_true, if_false]
  refine wpS_of_wp (wp_skip ?_)
  cases c₀
  simp_all [bodyPostS, results, Tryz.results29, Same.refl]
noncomputable def noopE (f : FuncId) : Bool := Nat.beq f 29
theorem noopE_ok : NoopOk Tryz.prog noopE := by
  intro f cap args w hf
  obtain rfl : f = 29 := Nat.eq_of_beq_eq_true hf
  refine ⟨args ++ cap, ?_, idle29 _ w⟩
  simp [invoke]
noncomputable def cE (n : Nat) : Caller := callN Tryz.prog noGl noopE tabE 100000 noBase n
theorem cE_ok (n : Nat) : CallOk Tryz.prog noGl (cE n) := callN_ok noGorE mixedE noopE_ok tabE_ok noBase_ok n
/-- The functions of which contracts are kept: 5, 13, 37. -/
noncomputable def gateE (call : Caller) : Caller := fun f args σ => bif (bif Nat.beq f 37 then true else bif Nat.beq f 13 then true else Nat.beq f 5) then call f args σ else .fail []
theorem gateE_ok {call : Caller} (h : CallOk Tryz.prog noGl call) : CallOk Tryz.prog noGl (gateE call) := by
  intro f args σ v σ' hc
  unfold gateE at hc
  cases hb : (bif Nat.beq f 37 then true else bif Nat.beq f 13 then true else Nat.beq f 5)
  · rw [hb] at hc; cases hc
  · rw [hb] at hc; exact h f args σ v σ' hc
noncomputable def cPact (l : List Pact) (n : Nat) : Caller := callN Tryz.prog noGl noopE tabE 100000 (gateE (pactN l)) n
theorem cPact_ok {l : List Pact} (h : ∀ p ∈ l, Closed Tryz.prog noGl p.f p.args p.v) (n : Nat) : CallOk Tryz.prog noGl (cPact l n) := callN_ok noGorE mixedE noopE_ok tabE_ok (gateE_ok (pactN_ok h)) n
end Go.Proofs.Tryz
