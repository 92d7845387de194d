/-
  THE WALK: of whatever list of kinds the law returns true, and nothing that was there turns.
-/
import Derived.Test.YtdnomdojlkiadaaGreatDoorBods
import Derived.Test.YtdnomdojlkiadaaGreatDoorTxts
import Derived.WalkKit
open Go Go.Ev
open Go.RowKit (Below)
namespace Go.Proofs.Tryz
/-- Where a piece of code says that it stands. -/
def posE (c : Code) : String := match c with
  | .region _ ops _ => (match ops.toList with
    | o :: _ => o.pos
    | [] => "")
  | _ => ""
theorem B3_body : Tryz.f3.body = some B3 := by kernel_rfl
theorem B3_seq : B3 = .seq (.region 0 #[⟨some 2, .assign (.const (.bool false)), 4, posE (sqA B3), #[], none⟩] false) (.seq preE (.seq loopE (.seq (.region 17 #[⟨some 2, .assign (.const (.bool true)), 4, posE (sqA (sqB (sqB (sqB B3)))), #[], none⟩] false) .ret))) := by kernel_rfl
theorem loopE_seq : loopE = .seq (.region 4 #[⟨some 25, .move (.tmp 0), 22, posE (sqA loopE), #[], none⟩, ⟨some 26, .call ⟨.builtin .len, #[.tmp 25], #[22]⟩, 3, posE (sqA loopE), #[⟨0, .data⟩], none⟩, ⟨some 27, .move (.const (.int .i64 0)), 3, posE (sqA loopE), #[], none⟩] false) (.block 0 (.loop roundE)) := by kernel_rfl
theorem roundE_seq : roundE = .seq (.region 5 #[⟨some 28, .binOp .lss 3 (.tmp 27) (.tmp 26) 3, 0, posE (sqA roundE), #[], none⟩] false) (.seq (.cond (.tmp 28) .skip (.exit 0)) (.seq (.block 1 elemE)
    (.region 16 #[⟨some 78, .binOp .add 3 (.tmp 27) (.const (.int .i64 1)) 3, 3, posE (sqB (sqB (sqB roundE))), #[], none⟩, ⟨some 27, .move (.tmp 78), 3, posE (sqB (sqB (sqB roundE))), #[⟨0, .data⟩], none⟩] false))) := by kernel_rfl
theorem elemE_seq : elemE = .seq (.region 6 #[⟨some 29, .indexAddr 22 (.tmp 25) (.tmp 27), 0, posE (sqA elemE), #[], none⟩, ⟨some 30, .load 3 (.tmp 29), 3, posE (sqA elemE), #[⟨0, .data⟩], none⟩, ⟨some 6, .assign (.tmp 30), 3, posE (sqA elemE), #[⟨1, .data⟩, ⟨0, .phase⟩, ⟨1, .phase⟩], none⟩] false) restE := by kernel_rfl
/-- The law's first test: of the message of error 70. -/
theorem pre_chk : normKeeps (ccode Tryz.prog noGl noopE (cPact [⟨5, [.int .i64 70], syntaxE⟩] 60) 100000 preE ⟨79, T.put .nil 0 (some (.opq 0)), .any, []⟩ ⟨0, .nil⟩) 79 [(0, 0)] = true := by kernel_rfl
/-- The list that is gone through. -/
def Lst (v : Value) (n : Nat) (W : World) : Prop :=
  n = 0 ∨ ∃ b off cap, v = .slice (some ⟨b, off, none⟩) n cap ∧ b < W.heap.size ∧ (∀ i, i < n → ∃ k : Int, W.cell? ⟨b, off + i, none⟩ = some (.int .i64 k) ∧ -9223372036854775808 ≤ k ∧ k ≤ 9223372036854775807)
theorem putD {tm : Array Value} {i j : Nat} {v : Value} (h : j < tm.size) : (tm.setIfInBounds i v).getD j undef = if i = j then v else tm.getD j undef := by
  by_cases e : i = j
  · subst e; simp [h]
  · simp [e, Array.getElem?_setIfInBounds_ne e]
/-- What stands at the loop's head. -/
structure Inv (v : Value) (n : Nat) (W : World) (a : Act) (w : World) : Prop where
  size : a.tmps.size = 79
  d : a.defers = []
  l : a.tmps.getD 25 undef = v
  len : a.tmps.getD 26 undef = .int .i64 n
  cnt : ∃ i : Nat, i ≤ n ∧ a.tmps.getD 27 undef = .int .i64 i
  old : Below W.heap.size W w
theorem getD_get {tm : Array Value} {i : Nat} {v : Value} (hs : i < tm.size) (h : tm.getD i undef = v) : tm[i]? = some v := by
  simp [hs] at h; simp [hs, h]
theorem frE_rel {w : World} {tm : Array Value} {k : AVal} {x : Value} {env : Nat → Option Value} {b : Nat} (hs : tm.size = 79) (h6 : tm.getD 6 undef = x) (hk : ∀ G w, VRel G w k x)
    (h25 : env 0 = some (tm.getD 25 undef)) (o25 : (tm.getD 25 undef).oneCell' = true) (h26 : env 1 = some (tm.getD 26 undef)) (o26 : (tm.getD 26 undef).oneCell' = true) (h27 : env 2 = some (tm.getD 27 undef)) (o27 : (tm.getD 27 undef).oneCell' = true) :
    FRel ⟨b, fun _ => none, fun _ _ => False, env⟩ w (frE k) ⟨tm, []⟩ := by
  refine ⟨hs, fun i => ?_, .nil⟩
  unfold frE
  rw [AFr.val_put, AFr.val_put, AFr.val_put, AFr.val_put]
  by_cases e27 : i = 27
  · subst e27; rw [if_pos rfl]; exact .opq 2 _ h27 o27
  · rw [if_neg e27]
    by_cases e26 : i = 26
    · subst e26; rw [if_pos rfl]; exact .opq 1 _ h26 o26
    · rw [if_neg e26]
      by_cases e25 : i = 25
      · subst e25; rw [if_pos rfl]; exact .opq 0 _ h25 o25
      · rw [if_neg e25]
        by_cases e6 : i = 6
        · subst e6; rw [if_pos rfl, show (tm.getD 6 undef) = x from h6]; exact hk _ _
        · rw [if_neg e6]; exact .any _
theorem n64 (z : Int) (h1 : -9223372036854775808 ≤ z) (h2 : z ≤ 9223372036854775807) : IntKind.wrap .i64 z = z := by
  simp only [IntKind.wrap, IntKind.signed, IntKind.bits, Bool.true_and]
  split <;> rename_i h <;> simp at h <;> omega
def left (n : Nat) (a : Act) : Nat := n - (match a.tmps.getD 27 undef with | .int _ i => i.toNat | _ => 0)
theorem region5 {p : String} {Q : Exit → Act → World → Prop} {tm : Array Value} {w : World} {i n : Nat} (h27 : tm.getD 27 undef = .int .i64 i) (h26 : tm.getD 26 undef = .int .i64 n)
    (h : Q .normal ⟨tm.setIfInBounds 28 (.bool (decide (i < n))), []⟩ w) :
    (Code.region 5 #[⟨some 28, .binOp .lss 3 (.tmp 27) (.tmp 26) 3, 0, p, #[], none⟩] false).wp Tryz.prog Q ⟨tm, []⟩ w := by
  apply wp_region
  simp [wpOps, go_sem, Act.put, Act.eval, h27, h26]
  exact .inl h
theorem region6 {p : String} {Q : Exit → Act → World → Prop} {tm : Array Value} {w : World} {i n cap b off : Nat} {k : Int} (hs : tm.size = 79) (h25 : tm.getD 25 undef = .slice (some ⟨b, off, none⟩) n cap) (h27 : tm.getD 27 undef = .int .i64 i)
    (hi : i < n) (hc : w.cell? ⟨b, off + i, none⟩ = some (.int .i64 k))
    (h : Q .normal ⟨((tm.setIfInBounds 29 (.pointer (some ⟨b, off + i, none⟩))).setIfInBounds 30 (.int .i64 k)).setIfInBounds 6 (.int .i64 k), []⟩ w) :
    (Code.region 6 #[⟨some 29, .indexAddr 22 (.tmp 25) (.tmp 27), 0, p, #[], none⟩, ⟨some 30, .load 3 (.tmp 29), 3, p, #[⟨0, .data⟩], none⟩, ⟨some 6, .assign (.tmp 30), 3, p, #[⟨1, .data⟩, ⟨0, .phase⟩, ⟨1, .phase⟩], none⟩] false).wp Tryz.prog Q ⟨tm, []⟩ w := by
  apply wp_region
  simp [wpOps, go_sem, Act.put, Act.eval, h27, h25, Tryz.underlying22, hs, hi, hc]
  exact .inl (.inl (.inl h))
theorem region16 {p : String} {Q : Exit → Act → World → Prop} {tm : Array Value} {w : World} {i : Nat} (hs : tm.size = 79) (h27 : tm.getD 27 undef = .int .i64 i) (hi : (i : Int) < 9223372036854775807)
    (h : Q .normal ⟨(tm.setIfInBounds 78 (.int .i64 (i + 1))).setIfInBounds 27 (.int .i64 (i + 1)), []⟩ w) :
    (Code.region 16 #[⟨some 78, .binOp .add 3 (.tmp 27) (.const (.int .i64 1)) 3, 3, p, #[], none⟩, ⟨some 27, .move (.tmp 78), 3, p, #[⟨0, .data⟩], none⟩] false).wp Tryz.prog Q ⟨tm, []⟩ w := by
  apply wp_region
  simp [wpOps, go_sem, Act.put, Act.eval, h27, hs, n64 ((i : Int) + 1) (by omega) (by omega)]
  exact .inl (.inl h)
theorem region4 {p : String} {Q : Exit → Act → World → Prop} {tm : Array Value} {w : World} {a : Option Addr} {n cap : Nat} (hs : tm.size = 79) (h0 : tm.getD 0 undef = .slice a n cap)
    (h : Q .normal ⟨((tm.setIfInBounds 25 (.slice a n cap)).setIfInBounds 26 (.int .i64 n)).setIfInBounds 27 (.int .i64 0), []⟩ w) :
    (Code.region 4 #[⟨some 25, .move (.tmp 0), 22, p, #[], none⟩, ⟨some 26, .call ⟨.builtin .len, #[.tmp 25], #[22]⟩, 3, p, #[⟨0, .data⟩], none⟩, ⟨some 27, .move (.const (.int .i64 0)), 3, p, #[], none⟩] false).wp Tryz.prog Q ⟨tm, []⟩ w := by
  apply wp_region
  simp [wpOps, go_sem, Act.put, Act.eval, h0, Tryz.underlying22, hs]
  exact .inl (.inl (.inl h))
theorem region0 {p : String} {Q : Exit → Act → World → Prop} {tm : Array Value} {w : World} (h : Q .normal ⟨tm.setIfInBounds 2 (.bool false), []⟩ w) :
    (Code.region 0 #[⟨some 2, .assign (.const (.bool false)), 4, p, #[], none⟩] false).wp Tryz.prog Q ⟨tm, []⟩ w := by
  apply wp_region
  simp [wpOps, go_sem, Act.put, Act.eval]
  exact .inl h
theorem region17 {p : String} {Q : Exit → Act → World → Prop} {tm : Array Value} {w : World} (h : Q .normal ⟨tm.setIfInBounds 2 (.bool true), []⟩ w) :
    (Code.region 17 #[⟨some 2, .assign (.const (.bool true)), 4, p, #[], none⟩] false).wp Tryz.prog Q ⟨tm, []⟩ w := by
  apply wp_region
  simp [wpOps, go_sem, Act.put, Act.eval]
  exact .inl h
theorem preE_ok {Q : Exit → Act → World → Prop} {tm : Array Value} {w : World} {v : Value} {b : Nat} (hb : b ≤ w.heap.size) (hs : tm.size = 79) (h0 : tm.getD 0 undef = v) (hv : v.oneCell' = true)
    (h : ∀ tm' w', Below b w w' → tm'.size = 79 → tm'.getD 0 undef = v → Q .normal ⟨tm', []⟩ w') : preE.wp Tryz.prog Q ⟨tm, []⟩ w := by
  refine piece_ok noGorE mixedE (cPact_ok (l := [⟨5, [.int .i64 70], syntaxE⟩]) (fun p hp => ?_) 60) pre_chk (empty_at (fun i => if i = 0 then some v else none) w hb) ?_ ?_
  · obtain rfl := List.mem_singleton.1 hp
    exact msgSyntax
  · refine ⟨hs, fun i => ?_, .nil⟩
    rw [AFr.val_put]
    by_cases e : i = 0
    · subst e; rw [if_pos rfl, show tm.getD 0 undef = v from h0]; exact .opq 0 _ rfl hv
    · rw [if_neg e]; exact .any _
  · intro a' w' hbel hsz hd hk
    obtain ⟨x, hx, hx'⟩ := hk (0, 0) (by simp)
    obtain ⟨tm', ds⟩ := a'
    cases hx
    cases hd
    exact h tm' w' hbel hsz hx'
theorem restE_ok {Q : Exit → Act → World → Prop} {tm : Array Value} {w : World} {k : Int} {b : Nat} (hb : b ≤ w.heap.size) (hs : tm.size = 79) (h6 : tm.getD 6 undef = .int .i64 k) (hk : -9223372036854775808 ≤ k ∧ k ≤ 9223372036854775807)
    (o25 : (tm.getD 25 undef).oneCell' = true) (o26 : (tm.getD 26 undef).oneCell' = true) (o27 : (tm.getD 27 undef).oneCell' = true)
    (h : ∀ tm' w', Below b w w' → tm'.size = 79 → tm'.getD 25 undef = tm.getD 25 undef → tm'.getD 26 undef = tm.getD 26 undef → tm'.getD 27 undef = tm.getD 27 undef → Q .normal ⟨tm', []⟩ w') : restE.wp Tryz.prog Q ⟨tm, []⟩ w := by
  obtain ⟨p, hp, hrel⟩ := clsE_all k hk
  have hchk := bods p hp
  unfold bodyChk at hchk
  refine piece_ok noGorE mixedE (cPact_ok (l := ⟨5, [p.1], p.2⟩ :: ⟨5, [.int .i64 254], nullE⟩ :: txtPacts) (fun q hq => ?_) 60) hchk
    (empty_at (fun i => if i = 0 then some (tm.getD 25 undef) else if i = 1 then some (tm.getD 26 undef) else if i = 2 then some (tm.getD 27 undef) else none) w hb)
    (frE_rel hs h6 hrel rfl o25 rfl o26 rfl o27) ?_
  · rcases List.mem_cons.1 hq with rfl | hq
    · exact clsE_ok p hp
    · rcases List.mem_cons.1 hq with rfl | hq
      · exact msgNull
      · exact txtPacts_ok q hq
  · intro a' w' hbel hsz hd hkeep
    obtain ⟨x0, e0, f0⟩ := hkeep (25, 0) (by simp)
    obtain ⟨x1, e1, f1⟩ := hkeep (26, 1) (by simp)
    obtain ⟨x2, e2, f2⟩ := hkeep (27, 2) (by simp)
    obtain ⟨tm', ds⟩ := a'
    cases e0; cases e1; cases e2
    cases hd
    exact h tm' w' hbel hsz f0 f1 f2
/-- One round of the loop. -/
theorem round_ok {Q : Exit → Act → World → Prop} {v : Value} {n : Nat} {W w : World} {a : Act} (hL : Lst v n W) (hn : n ≤ 9223372036854775807) (hv : v.oneCell' = true) (hI : Inv v n W a w)
    (hend : ∀ a' w', a'.tmps.size = 79 → a'.defers = [] → Below W.heap.size W w' → Q (.exit 0) a' w') :
    roundE.wp Tryz.prog (Exit.then (fun a' w' => Inv v n W a' w' ∧ left n a' < left n a) Q) a w := by
  obtain ⟨tm, ds⟩ := a
  obtain ⟨hs, hd, hl, hlen, ⟨i, hi, hc⟩, hold⟩ := hI
  simp only at hs hd hl hlen hc
  subst hd
  rw [roundE_seq]
  refine wp_seq (region5 hc hlen ?_)
  have hs1 : (tm.setIfInBounds 28 (.bool (decide (i < n)))).size = 79 := by simpa using hs
  have get1 : ∀ j, j < 79 → j ≠ 28 → (tm.setIfInBounds 28 (.bool (decide (i < n)))).getD j undef = tm.getD j undef := fun j hj hne => by
    rw [putD (by omega), if_neg (Ne.symm hne)]
  have c1 : (tm.setIfInBounds 28 (.bool (decide (i < n)))).getD 28 undef = .bool (decide (i < n)) := by rw [putD (by omega), if_pos rfl]
  have l1 := (get1 25 (by omega) (by omega)).trans hl
  have n1 := (get1 26 (by omega) (by omega)).trans hlen
  have i1 := (get1 27 (by omega) (by omega)).trans hc
  generalize tm.setIfInBounds 28 (.bool (decide (i < n))) = t1 at hs1 c1 l1 n1 i1 ⊢
  refine wp_seq ?_
  by_cases hin : i < n
  · refine wp_cond_true (by simpa [Act.eval, hin] using c1) (wp_skip ?_)
    refine wp_seq (wp_block ?_)
    rcases hL with rfl | ⟨b, off, cap, rfl, hb, hcells⟩
    · omega
    obtain ⟨k, hk, hk1, hk2⟩ := hcells i hin
    have hk' : w.cell? ⟨b, off + i, none⟩ = some (.int .i64 k) := (hold.cell (p := ⟨b, off + i, none⟩) hb).trans hk
    rw [elemE_seq]
    refine wp_seq (region6 hs1 l1 i1 hin hk' ?_)
    have hs2 : (((t1.setIfInBounds 29 (.pointer (some ⟨b, off + i, none⟩))).setIfInBounds 30 (.int .i64 k)).setIfInBounds 6 (.int .i64 k)).size = 79 := by simpa using hs1
    have get2 : ∀ j, j < 79 → j ≠ 29 → j ≠ 30 → j ≠ 6 → (((t1.setIfInBounds 29 (.pointer (some ⟨b, off + i, none⟩))).setIfInBounds 30 (.int .i64 k)).setIfInBounds 6 (.int .i64 k)).getD j undef = t1.getD j undef := fun j hj a1 a2 a3 => by
      rw [putD (by simp; omega), if_neg (Ne.symm a3), putD (by simp; omega), if_neg (Ne.symm a2), putD (by omega), if_neg (Ne.symm a1)]
    have c2 : (((t1.setIfInBounds 29 (.pointer (some ⟨b, off + i, none⟩))).setIfInBounds 30 (.int .i64 k)).setIfInBounds 6 (.int .i64 k)).getD 6 undef = .int .i64 k := by rw [putD (by simp; omega), if_pos rfl]
    have l2 := (get2 25 (by omega) (by omega) (by omega) (by omega)).trans l1
    have n2 := (get2 26 (by omega) (by omega) (by omega) (by omega)).trans n1
    have i2 := (get2 27 (by omega) (by omega) (by omega) (by omega)).trans i1
    generalize ((t1.setIfInBounds 29 (.pointer (some ⟨b, off + i, none⟩))).setIfInBounds 30 (.int .i64 k)).setIfInBounds 6 (.int .i64 k) = t2 at hs2 c2 l2 n2 i2 ⊢
    refine restE_ok hold.size hs2 c2 ⟨hk1, hk2⟩ (by rw [l2]; rfl) (by rw [n2]; rfl) (by rw [i2]; rfl) fun tm' w' hbel hsz e25 e26 e27 => ?_
    have hold' : Below W.heap.size W w' := hold.trans hbel
    refine region16 hsz (e27.trans i2) (by omega) ?_
    have g3 : ∀ j, j < 79 → j ≠ 78 → j ≠ 27 → ((tm'.setIfInBounds 78 (.int .i64 ((i : Int) + 1))).setIfInBounds 27 (.int .i64 ((i : Int) + 1))).getD j undef = tm'.getD j undef := fun j hj a1 a2 => by
      rw [putD (by simp; omega), if_neg (Ne.symm a2), putD (by omega), if_neg (Ne.symm a1)]
    have c3 : ((tm'.setIfInBounds 78 (.int .i64 ((i : Int) + 1))).setIfInBounds 27 (.int .i64 ((i : Int) + 1))).getD 27 undef = .int .i64 ((i : Int) + 1) := by rw [putD (by simp; omega), if_pos rfl]
    refine ⟨⟨by simpa using hsz, rfl, (g3 25 (by omega) (by omega) (by omega)).trans (e25.trans l2), (g3 26 (by omega) (by omega) (by omega)).trans (e26.trans n2), ⟨i + 1, by omega, by simpa using c3⟩, hold'⟩, ?_⟩
    unfold left
    simp only [c3, hc]
    rw [show ((i : Int) + 1).toNat = i + 1 by omega, show (i : Int).toNat = i by omega]
    omega
  · refine wp_cond_false (by simpa [Act.eval, hin] using c1) (wp_exit ?_)
    exact hend _ _ hs1 rfl hold
theorem walk (v : Value) (n : Nat) (W : World) (a0 : Option Addr) (cap : Nat) (hform : v = .slice a0 n cap) (hL : Lst v n W) (hn : n ≤ 9223372036854775807) :
    Calls Tryz.prog 3 #[v] W fun e w' => e = .returned (.bool true) ∧ Below W.heap.size W w' := by
  have hv : v.oneCell' = true := by rw [hform]; rfl
  refine calls_of_wp Tryz.func3 B3_body ?_
  have hs0 : (#[v] ++ Array.replicate (Tryz.f3.ntmps - (#[v] : Array Value).size) undef).size = 79 := by simp [Tryz.ntmps3]
  have h0 : (#[v] ++ Array.replicate (Tryz.f3.ntmps - (#[v] : Array Value).size) undef).getD 0 undef = v := by simp
  generalize #[v] ++ Array.replicate (Tryz.f3.ntmps - (#[v] : Array Value).size) undef = tm at hs0 h0
  rw [B3_seq]
  refine wp_seq (region0 ?_)
  refine wp_seq (preE_ok (Nat.le_refl _) (by simpa using hs0) (by rw [putD (by omega), if_neg (by omega)]; exact h0) hv fun t1 w1 hb1 hs1 h1 => ?_)
  rw [loopE_seq]
  refine wp_seq (wp_seq (region4 hs1 (h1.trans hform) ?_))
  refine wp_block (wp_loop (Inv v n W) (fun a _ => left n a) ?_ fun a w hI => round_ok hL hn hv hI fun a' w' hs' hd' hb' => ?_)
  · refine ⟨by simpa using hs1, rfl, ?_, ?_, ⟨0, by omega, ?_⟩, hb1⟩
    · rw [putD (by simp; omega), if_neg (by omega), putD (by simp; omega), if_neg (by omega), putD (by omega), if_pos rfl, hform]
    · rw [putD (by simp; omega), if_neg (by omega), putD (by simp; omega), if_pos rfl]
    · rw [putD (by simp; omega), if_pos rfl]; rfl
  · obtain ⟨t2, d2⟩ := a'
    simp only at hs' hd'
    subst hd'
    refine wp_seq (region17 (wp_ret ?_))
    have hr : (results Tryz.f3 (t2.setIfInBounds 2 (.bool true))).run Tryz.prog w' = .ok (.bool true) w' := by
      simp [results, Tryz.results3, hs']
    exact ⟨rfl, _, hr, rfl, hb'⟩
end Go.Proofs.Tryz
