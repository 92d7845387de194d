/-
  EVALUATOR, PART G: loads, stores, new variables, addresses.
  EVALUATOR, PART H: slices and texts: index, cut, length, conversion; composite values.
  EVALUATOR, PART I: composite values, conversions between texts and bytes.
  EVALUATOR, PART J: build, buildSlice, makeSlice; texts to bytes and back.
  EVALUATOR, PART K: append.
  EVALUATOR, PART L: append on abstract values.
-/
import Derived.Test.YtdnomdojlkiadaaGreatDoorEvOne
import Derived.Great.BuildSlice
namespace Go.Ev

noncomputable def loadA (σ : AHeap) (p : AVal) (n : Nat) : Option (List AVal) :=
  match p with
  | .ptr b off => (match σ.get b with | some (.cells cs _ _) => mid cs off n | _ => none)
  | .pv cells off => mid cells off n
  | _ => none
theorem addr_add (B o j : Nat) : (⟨B, o, none⟩ : Addr).add j = ⟨B, o + j, none⟩ := by
  unfold Addr.add
  split
  · rename_i h; subst h; rfl
  · rfl
section
variable {P : Program} {gl : Globs} {σ : AHeap} {G : Gh} {w : World}
theorem blk_cells (hw : WInv gl G σ w) {b B o : Nat} {cs : List AVal} {pr : Nat} {f : Bool} (hg : σ.get b = some (.cells cs pr f)) (ho : G.own b = some (B, o)) :
    ∃ (c : Array Value) (e : TypeId), w.heap[B]? = some (.cells c e (0, 0)) ∧ o + cs.length ≤ c.size ∧ (f = true → o + cs.length = c.size) ∧ VRels G w cs ((c.toList.drop o).take cs.length) := by
  obtain ⟨c, e, vs, h1, h2, h3, h4, h5⟩ := hw.blk' hg ho
  exact ⟨c, e, h1, h2, h3, h4 ▸ h5⟩
theorem mid_rel {cs r : List AVal} {vs : List Value} (h : VRels G w cs vs) {i n : Nat} (hm : mid cs i n = some r) : VRels G w r ((vs.drop i).take n) ∧ ((vs.drop i).take n).length = n := by
  obtain ⟨h1, h2⟩ := mid_some hm
  subst h1
  have := (h.drop i).take n
  exact ⟨this, by rw [← this.length]; exact h2⟩
theorem loadA_ok (hw : WInv gl G σ w) {p : AVal} {x : Value} (hp : VRel G w p x) {n : Nat} {cs : List AVal} (h : loadA σ p n = some cs) :
    ∃ (B o : Nat) (vs : List Value), x = .pointer (some ⟨B, o, none⟩) ∧ vs.length = n ∧ VRels G w cs vs ∧ ∀ (j : Nat) (v : Value), vs[j]? = some v → w.cell? ⟨B, o + j, none⟩ = some v := by
  cases hp <;> simp only [loadA, reduceCtorEq] at h
  case ptr b off B o ho =>
    split at h
    · rename_i cs' pr f hg
      obtain ⟨c, e, h1, h2, _, h5⟩ := blk_cells hw hg ho
      obtain ⟨h6, h7⟩ := mid_rel h5 h
      refine ⟨B, o + off, _, rfl, h7, h6, fun j v hj => ?_⟩
      rw [cell_of_cells h1]
      rw [List.getElem?_take] at hj
      split at hj
      · rw [List.getElem?_drop, List.getElem?_take] at hj
        split at hj
        · rw [List.getElem?_drop] at hj
          rw [← hj, Array.getElem?_toList]
          congr 1
          omega
        · cases hj
      · cases hj
    · cases h
  case pv cells off B o vs hr hs =>
    obtain ⟨h6, h7⟩ := mid_rel hs h
    refine ⟨B, o + off, _, rfl, h7, h6, fun j v hj => ?_⟩
    rw [List.getElem?_take] at hj
    split at hj
    · rw [List.getElem?_drop] at hj
      have := (hr _ _ hj).2
      rw [← this]
      congr 2
      omega
    · cases hj
theorem run_loadCells_of {B o n : Nat} {vs : List Value} (hl : vs.length = n) (h : ∀ (j : Nat) (v : Value), vs[j]? = some v → w.cell? ⟨B, o + j, none⟩ = some v) : (loadCells ⟨B, o, none⟩ n).run P w = .ok vs.toArray w := by
  subst hl
  exact run_loadCells_list w _ vs fun j v hj => by rw [addr_add]; exact h j v hj
theorem run_sizeOf {t : TypeId} {i : TypeInfo} (h : P.info? t = some i) : (sizeOf t).run P w = .ok i.size w := by simp [sizeOf, typeInfo, h]
theorem run_typeInfo {t : TypeId} {i : TypeInfo} (h : P.info? t = some i) : (typeInfo t).run P w = .ok i w := by simp [typeInfo, h]
theorem run_zeroValue {t : TypeId} {i : TypeInfo} {z : Value} (h : P.info? t = some i) (hz : i.zero = some z) : (zeroValue t).run P w = .ok z w := by simp [zeroValue, typeInfo, h, hz]
def aggD : TypeDesc → Bool
  | .struct _ | .array _ _ => true
  | _ => false
theorem run_isAgg {t : TypeId} {d : TypeDesc} (h : P.underlying t = some d) : (isAgg t).run P w = .ok (aggD d) w := by
  cases d <;> simp [isAgg, run_underlying h, aggD]
noncomputable def loadOp (agg : Bool) (n : Nat) (σ : AHeap) (p : AVal) : Option AVal :=
  bif agg then (match loadA σ p n with | some cs => some (.agg cs) | none => none)
  else (match loadA σ p 1 with | some [c] => some c | _ => none)
theorem loadOp_ok (hw : WInv gl G σ w) (t : TypeId) (d : TypeDesc) (i : TypeInfo) (hd : P.underlying t = some d) (hi : P.info? t = some i) {p : AVal} {x : Value} (hp : VRel G w p x) :
    POk P G w (loadOp (aggD d) i.size σ p) (Instr.loadAt t x) := by
  intro v hv
  unfold loadOp at hv
  cases ha : aggD d
  · rw [ha] at hv
    simp only [cond_false] at hv
    split at hv
    · rename_i c hl
      cases hv
      obtain ⟨B, o, vs, rfl, h1, h2, h3⟩ := loadA_ok hw hp hl
      cases h2 with
      | cons _ y _ ys hy hys =>
        cases hys
        have := h3 0 y rfl
        rw [Nat.add_zero] at this
        exact ⟨y, by simp [Instr.loadAt, Instr.sureAddr, loadVar, run_isAgg hd, ha, this], hy⟩
    · cases hv
  · rw [ha] at hv
    simp only [cond_true] at hv
    split at hv
    · rename_i cs hl
      cases hv
      obtain ⟨B, o, vs, rfl, h1, h2, h3⟩ := loadA_ok hw hp hl
      have := run_loadCells_of (P := P) h1 h3
      exact ⟨.agg vs.toArray, by simp [Instr.loadAt, Instr.sureAddr, loadVar, run_isAgg hd, ha, run_sizeOf hi, this], .agg _ _ (by simpa using h2)⟩
    · cases hv

/-! ### Cells of a value -/
def okCell : AVal → Bool
  | .any | .agg _ | .tup _ => false
  | _ => true
theorem okCell_one {a : AVal} {v : Value} (h : VRel G w a v) (ho : okCell a = true) : v.oneCell' = true := by
  cases h <;> first | rfl | assumption | (simp [okCell] at ho; done)
noncomputable def okCells (l : List AVal) : Bool := List.rec (motive := fun _ => Bool) true (fun a _ ih => Bool.rec (motive := fun _ => Bool) false ih (okCell a)) l
theorem okCells_all {l : List AVal} (h : okCells l = true) : ∀ a ∈ l, okCell a = true := by
  induction l with
  | nil => intro a ha; cases ha
  | cons x l ih =>
    have h' : Bool.rec (motive := fun _ => Bool) false (okCells l) (okCell x) = true := h
    cases hx : okCell x
    · rw [hx] at h'; cases h'
    · rw [hx] at h'
      intro a ha
      cases ha with
      | head => exact hx
      | tail _ ha => exact ih h' a ha
theorem okCells_one {l : List AVal} {vs : List Value} (h : VRels G w l vs) (ho : okCells l = true) : ∀ v ∈ vs, v.oneCell' = true := by
  intro v hv
  obtain ⟨i, hi⟩ := List.mem_iff_getElem?.1 hv
  have hlt : i < l.length := by
    rw [h.length]
    rcases Nat.lt_or_ge i vs.length with h' | h'
    · exact h'
    · rw [List.getElem?_eq_none h'] at hi; cases hi
  obtain ⟨u, hu, hr⟩ := h.get (List.getElem?_eq_getElem hlt)
  rw [hi] at hu; cases hu
  exact okCell_one hr (okCells_all ho _ (List.getElem_mem hlt))
noncomputable def cellsOf (a : AVal) : Option (List AVal) :=
  match a with
  | .agg cs => some cs
  | .any => none
  | .tup _ => none
  | a => some [a]
theorem cellsOf_ok {a : AVal} {v : Value} (h : VRel G w a v) {cs : List AVal} (hc : cellsOf a = some cs) : VRels G w cs v.cells.toList := by
  cases h <;> simp only [cellsOf, reduceCtorEq, Option.some.injEq] at hc <;> subst hc
  case agg cells cs h => exact h
  case opq i h ho =>
    have : v.cells = #[v] := by cases v <;> first | rfl | cases ho
    rw [this]
    exact .cons _ _ _ _ (.opq i v h ho) .nil
  all_goals exact .cons _ _ _ _ (by first | assumption | (constructor <;> assumption) | constructor) .nil

/-! ### Stores -/
noncomputable def storeA (σ : AHeap) (p : AVal) (cs : List AVal) : Option AHeap :=
  match p with
  | .ptr b off => (match σ.get b with
    | some (.cells old pr f) => bif Nat.ble pr off then (match cs with | [] => none | _ :: _ => (match lay old cs off with | some n => some (σ.set b (.cells n pr f)) | none => none)) else none
    | _ => none)
  | _ => none
theorem get_lay {α : Type} (l vs : List α) (i j : Nat) (h : i + vs.length ≤ l.length) : (l.take i ++ vs ++ l.drop (i + vs.length))[j]? = if j < i then l[j]? else if j < i + vs.length then vs[j - i]? else l[j]? := by
  rw [List.getElem?_append, List.getElem?_append, List.getElem?_take, List.getElem?_drop]
  have e1 : (l.take i).length = i := by rw [List.length_take]; omega
  have e2 : (l.take i ++ vs).length = i + vs.length := by rw [List.length_append, e1]
  rw [e1, e2]
  by_cases h1 : j < i
  · rw [if_pos (by omega), if_pos h1, if_pos h1, if_pos h1]
  · by_cases h2 : j < i + vs.length
    · rw [if_pos h2, if_neg h1, if_neg h1, if_pos h2]
    · rw [if_neg h2, if_neg h1, if_neg h2]
      congr 1
      omega
/-- Cells are written into a block of the heap's, from place at_ on, where none is kept. -/
theorem write_ok (hw : WInv gl G σ w) {b B o : Nat} {old cs n : List AVal} {pr at_ : Nat} {f : Bool} (hg : σ.get b = some (.cells old pr f)) (ho : G.own b = some (B, o)) (hp : pr ≤ at_)
    (hl : lay old cs at_ = some n) {vs : List Value} (hv : VRels G w cs vs) (hne : cs ≠ []) (h1 : ∀ v ∈ vs, v.oneCell' = true) :
    ∃ w', (storeCells ⟨B, o + at_, none⟩ vs).run P w = .ok () w' ∧ WInv gl G (σ.set b (.cells n pr f)) w' ∧ Ext σ G w (σ.set b (.cells n pr f)) G w' := by
  obtain ⟨c, e, h2, h3, h4, h5⟩ := blk_cells hw hg ho
  obtain ⟨h6, h7⟩ := lay_some hl hne
  have hlen := hv.length
  have hst := run_storeCells_at (P := P) B (o + at_) e vs 0 c w h2 (by omega) h1
  rw [Nat.add_zero] at hst
  generalize hc' : (c.toList.take (o + at_) ++ vs ++ c.toList.drop (o + at_ + vs.length)).toArray = c' at hst
  have hget : ∀ j, c'[j]? = if j < o + at_ then c[j]? else if j < o + at_ + vs.length then vs[j - (o + at_)]? else c[j]? := fun j => by
    rw [← hc', List.getElem?_toArray, get_lay c.toList vs (o + at_) j (by have := Array.length_toList (xs := c); omega)]
    simp only [Array.getElem?_toList]
  have hsize : c'.size = c.size := by
    rw [← hc', List.size_toArray]
    simp only [List.length_append, List.length_take, List.length_drop, Array.length_toList]
    omega
  have hhere : (w.setRow B c').heap[B]? = some (.cells c' e (0, 0)) := setRow_heap w B c c' e (0, 0) h2
  have hwr : Wrote w (w.setRow B c') B (.cells c' e (0, 0)) := ⟨hhere, fun B' hB' => setRow_other w B B' c' hB', by simp, rfl, rfl, rfl⟩
  refine ⟨w.setRow B c', hst, ?_⟩
  refine hw.put hg ho hwr (fun i hi => ?_) (fun e' n' hs => ?_) (fun g => ⟨c', e, _, hhere, by rw [h7]; simp; omega, fun hf => by rw [h7, hsize, ← h4 hf]; simp; omega, rfl, ?_⟩)
  · obtain ⟨_, hk⟩ := hw.imm B i hi
    obtain ⟨cs1, p1, f1, hk1, hlt⟩ := hk b _ o hg ho
    cases hk1
    refine ⟨?_, n, pr, f, rfl, hlt⟩
    rw [cell_of_cells hhere, cell_of_cells h2, hget, if_pos (by omega)]
  · simp only [World.shape?, h2, Option.some.injEq, Prod.mk.injEq] at hs
    simp only [World.shape?, hhere, hsize]
    rw [hs.1, hs.2]
  · refine VRels.of_get ?_ fun i a v ha hv' => ?_
    · rw [h7]; simp; omega
    · rw [List.getElem?_take] at hv'
      split at hv'
      · rename_i hi
        rw [List.getElem?_drop, Array.getElem?_toList, hget] at hv'
        rw [h7, get_lay _ _ _ _ h6] at ha
        by_cases c1 : i < at_
        · rw [if_pos c1] at ha
          rw [if_pos (by omega)] at hv'
          obtain ⟨u, hu, hr⟩ := h5.get ha
          rw [List.getElem?_take] at hu
          split at hu
          · rw [List.getElem?_drop, Array.getElem?_toList, hv'] at hu
            cases hu
            exact hr.mono g
          · cases hu
        · rw [if_neg c1] at ha
          rw [if_neg (by omega)] at hv'
          by_cases c2 : i < at_ + cs.length
          · rw [if_pos c2] at ha
            rw [if_pos (by omega)] at hv'
            obtain ⟨u, hu, hr⟩ := hv.get ha
            rw [show o + i - (o + at_) = i - at_ by omega, hu] at hv'
            cases hv'
            exact hr.mono g
          · rw [if_neg c2] at ha
            rw [if_neg (by omega)] at hv'
            obtain ⟨u, hu, hr⟩ := h5.get ha
            rw [List.getElem?_take] at hu
            split at hu
            · rw [List.getElem?_drop, Array.getElem?_toList, hv'] at hu
              cases hu
              exact hr.mono g
            · cases hu
      · cases hv'
theorem storeA_ok (hw : WInv gl G σ w) {p : AVal} {x : Value} (hp : VRel G w p x) {cs : List AVal} {vs : List Value} (hv : VRels G w cs vs) (h1 : ∀ v ∈ vs, v.oneCell' = true) {σ' : AHeap} (h : storeA σ p cs = some σ') :
    ∃ (a : Addr) (w' : World), x = .pointer (some a) ∧ (storeCells a vs).run P w = .ok () w' ∧ WInv gl G σ' w' ∧ Ext σ G w σ' G w' := by
  cases hp <;> simp only [storeA, reduceCtorEq] at h
  case ptr b off B o ho =>
    split at h
    · rename_i old pr f hg
      cases hb : Nat.ble pr off
      · rw [hb] at h; cases h
      · rw [hb] at h
        simp only [cond_true] at h
        split at h
        · cases h
        · split at h
          · rename_i n hl
            cases h
            obtain ⟨w', k1, k2, k3⟩ := write_ok (P := P) hw hg ho (Nat.le_of_ble_eq_true hb) hl hv (by simp) h1
            exact ⟨_, w', rfl, k1, k2, k3⟩
          · cases h
    · cases h
noncomputable def storeOp (n : Nat) (σ : AHeap) (p v : AVal) : Option AHeap :=
  match cellsOf v with
  | some cs => bif Nat.beq cs.length n && okCells cs then storeA σ p cs else none
  | none => none
theorem storeOp_ok (hw : WInv gl G σ w) (t : TypeId) (i : TypeInfo) (hi : P.info? t = some i) {p a : AVal} {x y : Value} (hp : VRel G w p x) (ha : VRel G w a y) {σ' : AHeap} (h : storeOp i.size σ p a = some σ') :
    ∃ w', (Instr.storeAt t x y).run P w = .ok () w' ∧ WInv gl G σ' w' ∧ Ext σ G w σ' G w' := by
  unfold storeOp at h
  split at h
  · rename_i cs hc
    have hv := cellsOf_ok ha hc
    cases hb : (Nat.beq cs.length i.size && okCells cs)
    · rw [hb] at h; cases h
    · rw [hb] at h
      rw [Bool.and_eq_true, Nat.beq_eq] at hb
      obtain ⟨ad, w', rfl, k1, k2, k3⟩ := storeA_ok (P := P) hw hp hv (okCells_one hv hb.2) h
      have hsz : y.cells.size = i.size := by rw [← hb.1, hv.length]; simp
      exact ⟨w', by simp [Instr.storeAt, Instr.sureAddr, storeVar, run_sizeOf hi, hsz, k1], k2, k3⟩
  · cases h

/-! ### New variables -/
theorem newVar_ok (hw : WInv gl G σ w) (t : TypeId) {cs : List AVal} {y : Value} (hv : VRels G w cs y.cells.toList) :
    ∃ w' G', (newVar t y).run P w = .ok ⟨w.heap.size, 0, none⟩ w' ∧ WInv gl G' (σ.push (.cells cs 0 true)) w' ∧ Ext σ G w (σ.push (.cells cs 0 true)) G' w' ∧ VRel G' w' (.ptr σ.next 0) (.pointer (some ⟨w.heap.size, 0, none⟩)) := by
  have n := Newb.alloc w (.cells y.cells t)
  have hlen : cs.length = y.cells.size := by rw [hv.length]; simp
  obtain ⟨G', h1, h2, h3⟩ := hw.push n (.cells cs 0 true) (fun G' g => ⟨y.cells, t, _, n.here, by omega, fun _ => by omega, rfl, by
    rw [List.drop_zero, hlen, ← Array.length_toList, List.take_length]; exact hv.mono g⟩)
  exact ⟨_, G', by simp [newVar, newRow], h1, h2, by simpa using VRel.ptr (G := G') (w := w.alloc (.cells y.cells t)) σ.next 0 _ _ h3⟩
noncomputable def allocOp (zc : List AVal) (σ : AHeap) : Option (AVal × AHeap) := some (.ptr σ.next 0, σ.push (.cells zc 0 true))
theorem allocOp_ok (hw : WInv gl G σ w) (t : TypeId) (i : TypeInfo) (z : Value) (hi : P.info? t = some i) (hz : i.zero = some z) : VOk P gl σ G w (allocOp (z.cells.toList.map ofVal1) σ) (Instr.alloc t true (.tuple #[])) := by
  intro v σ' hv
  cases hv
  obtain ⟨w', G', h1, h2, h3, h4⟩ := newVar_ok (P := P) hw t (y := z) (map_ofVal1_ok _)
  exact ⟨_, w', G', by simp [Instr.alloc, run_zeroValue hi hz, h1], h2, h3, h4⟩
noncomputable def boxOp (σ : AHeap) (a : AVal) : Option (AVal × AHeap) :=
  match cellsOf a with
  | some cs => some (.ptr σ.next 0, σ.push (.cells cs 0 true))
  | none => none
theorem boxOp_ok (hw : WInv gl G σ w) (t : TypeId) {a : AVal} {y : Value} (ha : VRel G w a y) : VOk P gl σ G w (boxOp σ a) (Instr.box t y) := by
  intro v σ' hv
  unfold boxOp at hv
  split at hv
  · rename_i cs hc
    cases hv
    obtain ⟨w', G', h1, h2, h3, h4⟩ := newVar_ok (P := P) hw t (cellsOf_ok ha hc)
    exact ⟨_, w', G', by simp [Instr.box, h1], h2, h3, h4⟩
  · cases hv

/-! ### Addresses -/
def ptrAdd (p : AVal) (n : Nat) : Option AVal :=
  match p with
  | .ptr b off => some (.ptr b (Nat.add off n))
  | .pv cs off => some (.pv cs (Nat.add off n))
  | _ => none
theorem ptrAdd_ok {p q : AVal} {x : Value} {n : Nat} (hp : VRel G w p x) (h : ptrAdd p n = some q) : ∃ a : Addr, x = .pointer (some a) ∧ VRel G w q (.pointer (some (a.add n))) := by
  cases hp <;> simp only [ptrAdd, reduceCtorEq, Option.some.injEq] at h <;> subst h
  case ptr b off B o ho => exact ⟨_, rfl, by rw [addr_add, Nat.add_assoc]; exact .ptr _ _ _ _ ho⟩
  case pv cells off B o cs hr hs => exact ⟨_, rfl, by rw [addr_add, Nat.add_assoc]; exact .pv _ _ _ _ _ hr hs⟩
theorem fieldAt_ok (t : TypeId) (fs : Array Field) (f : Nat) (fd : Field) (i : TypeInfo) (ht : P.underlying t = some (.struct fs)) (hf : fs[f]? = some fd) (hi : P.info? fd.type = some i) (hz : i.size ≠ 0)
    {p : AVal} {x : Value} (hp : VRel G w p x) : POk P G w (ptrAdd p fd.offset) (Instr.fieldAt t x f) := by
  intro q hq
  obtain ⟨a, rfl, hr⟩ := ptrAdd_ok hp hq
  exact ⟨_, by simp [Instr.fieldAt, run_underlying ht, hf, Instr.sureAddr, fieldPlace, run_sizeOf hi, hz], hr⟩
end
end Go.Ev
namespace Go.Ev

def natOf (a : AVal) : Option Nat :=
  match a with
  | .int _ (.ofNat j) => some j
  | _ => none
theorem natOf_ok {G : Gh} {w : World} {a : AVal} {x : Value} (h : VRel G w a x) {j : Nat} (hj : natOf a = some j) : ∃ k, x = .int k (j : Int) := by
  unfold natOf at hj
  split at hj
  · rename_i k j'
    cases hj
    cases h
    exact ⟨k, rfl⟩
  · cases hj

section
variable {P : Program} {gl : Globs} {σ : AHeap} {G : Gh} {w : World}
/-! ### The address of an element -/
def idxSlice (esz : Nat) (s i : AVal) : Option AVal :=
  match natOf i with
  | none => none
  | some j =>
    match s with
    | .sl b off len esz' _ => bif Nat.blt j len && Nat.beq esz esz' then some (.ptr b (Nat.add off (Nat.mul j esz))) else none
    | .vs cells esz' len _ => bif Nat.blt j len && Nat.beq esz esz' then some (.pv cells (Nat.mul j esz)) else none
    | .vb len n => bif Nat.blt j len && Nat.beq esz 1 then some (.pv [.int .u8 (.ofNat (sByte n j))] 0) else none
    | _ => none
theorem run_idxSlice (t e : TypeId) (ei : TypeInfo) (ht : P.underlying t = some (.slice e)) (he : P.info? e = some ei) (a : Addr) (len cap j : Nat) (k : IntKind) (hj : j < len) :
    (Instr.indexAt t (.slice (some a) len cap) (.int k (j : Int))).run P w = .ok (.pointer (some (a.add (j * ei.size)))) w := by
  have h0 : (0 : Int) ≤ (j : Int) := by omega
  have h1 : (j : Int) < (len : Int) := by omega
  simp [Instr.indexAt, asIntOf, run_underlying ht, run_sizeOf he, hj]
theorem idxSlice_ok (t e : TypeId) (ei : TypeInfo) (ht : P.underlying t = some (.slice e)) (he : P.info? e = some ei) {s i : AVal} {x y : Value} (hs : VRel G w s x) (hi : VRel G w i y) :
    POk P G w (idxSlice ei.size s i) (Instr.indexAt t x y) := by
  intro v hv
  unfold idxSlice at hv
  split at hv
  · cases hv
  · rename_i j hj
    obtain ⟨k, rfl⟩ := natOf_ok hi hj
    split at hv
    · rename_i b off len esz' cap
      cases hb : (Nat.blt j len && Nat.beq ei.size esz')
      · rw [hb] at hv; cases hv
      · rw [hb] at hv; cases hv
        rw [Bool.and_eq_true, blt_iff, Nat.beq_eq] at hb
        obtain ⟨h1, rfl⟩ := hb
        cases hs with
        | sl _ _ _ _ _ B o c sz e' ho hz hl hc h1' h2' =>
          refine ⟨_, run_idxSlice t e ei ht he _ _ _ _ _ h1, ?_⟩
          rw [addr_add, Nat.add_assoc]
          exact .ptr _ _ _ _ ho
        | sl0 => omega
    · rename_i cells esz' len full
      cases hb : (Nat.blt j len && Nat.beq ei.size esz')
      · rw [hb] at hv; cases hv
      · rw [hb] at hv; cases hv
        rw [Bool.and_eq_true, blt_iff, Nat.beq_eq] at hb
        obtain ⟨h1, rfl⟩ := hb
        cases hs with
        | vs _ _ _ _ B o c cs hr hss hn hl hf =>
        refine ⟨_, run_idxSlice t e ei ht he _ _ _ _ _ h1, ?_⟩
        rw [addr_add]
        exact .pv _ _ _ _ _ hr hss
    · rename_i len n
      cases hb : (Nat.blt j len && Nat.beq ei.size 1)
      · rw [hb] at hv; cases hv
      · rw [hb] at hv; cases hv
        rw [Bool.and_eq_true, blt_iff, Nat.beq_eq] at hb
        obtain ⟨h1, h2⟩ := hb
        cases hs with
        | vb _ _ B o c bs hn he' hr hl =>
        refine ⟨_, run_idxSlice t e ei ht he _ _ _ _ _ h1, ?_⟩
        rw [addr_add, h2, Nat.mul_one]
        subst hn
        subst he'
        have hbj := sByte_eq bs j h1
        refine .pv _ 0 B (o + j) [byteVal bs[j]] (fun i c hc => ?_) (.cons _ _ _ _ (by rw [hbj]; exact .int _ _) .nil)
        cases i with
        | succ i => simp at hc
        | zero =>
          simp at hc
          subst hc
          exact hr j _ (by simp [List.getElem?_eq_getElem h1])
    · cases hv
def idxArr (len esz : Nat) (p i : AVal) : Option AVal :=
  match natOf i with
  | none => none
  | some j => bif Nat.blt j len then ptrAdd p (Nat.mul j esz) else none
theorem idxArr_ok (t e : TypeId) (n : Nat) (ei : TypeInfo) (ht : P.underlying t = some (.array n e)) (he : P.info? e = some ei) {p i : AVal} {x y : Value} (hs : VRel G w p x) (hi : VRel G w i y) :
    POk P G w (idxArr n ei.size p i) (Instr.indexAt t x y) := by
  intro v hv
  unfold idxArr at hv
  split at hv
  · cases hv
  · rename_i j hj
    obtain ⟨k, rfl⟩ := natOf_ok hi hj
    cases hb : Nat.blt j n
    · rw [hb] at hv; cases hv
    · rw [hb] at hv
      rw [blt_iff] at hb
      obtain ⟨a, rfl, hr⟩ := ptrAdd_ok hs hv
      have h0 : (0 : Int) ≤ (j : Int) := by omega
      have h1 : (j : Int) < (n : Int) := by omega
      exact ⟨_, by simp [Instr.indexAt, asIntOf, run_underlying ht, run_sizeOf he, Instr.sureAddr, hb], hr⟩

/-! ### A cut -/
/-- low and high, both within 'most'. -/
def cutOf (len most : Nat) (lo hi : Option AVal) : Option (Nat × Nat) :=
  match (match lo with | none => some 0 | some a => natOf a), (match hi with | none => some len | some a => natOf a) with
  | some l, some h => bif Nat.ble l h && Nat.ble h most then some (l, h) else none
  | _, _ => none
inductive ORel (G : Gh) (w : World) : Option AVal → Option Value → Prop
  | none : ORel G w none none
  | some (a : AVal) (x : Value) (h : VRel G w a x) : ORel G w (some a) (some x)
theorem run_sliceBound {k : IntKind} {j y : Nat} {code : BoundsCode} (h : j ≤ y) : (Instr.sliceBound (.int k (j : Int)) y code).run P w = .ok j w := by
  have h0 : (0 : Int) ≤ (j : Int) := by omega
  have h1 : (j : Int) ≤ (y : Int) := by omega
  simp [Instr.sliceBound, asIntOf, h]
theorem cutOf_ok {len most : Nat} {lo hi : Option AVal} {l h : Nat} (hc : cutOf len most lo hi = some (l, h)) {xl xh : Option Value} (hl : ORel G w lo xl) (hh : ORel G w hi xh) (b : Bool) (cap : Nat) (hm : most ≤ cap) :
    (Instr.sliceBounds b len cap xl xh none).run P w = .ok (l, h, cap) w ∧ l ≤ h ∧ h ≤ most := by
  unfold cutOf at hc
  split at hc
  · rename_i l' h' e1 e2
    cases hb : (Nat.ble l' h' && Nat.ble h' most)
    · rw [hb] at hc; cases hc
    · rw [hb] at hc; cases hc
      rw [Bool.and_eq_true, Nat.ble_eq, Nat.ble_eq] at hb
      obtain ⟨h1, h2⟩ := hb
      refine ⟨?_, h1, h2⟩
      cases hl with
      | none =>
        simp only [Option.some.injEq] at e1
        subst e1
        cases hh with
        | none =>
          simp only [Option.some.injEq] at e2
          subst e2
          simp [Instr.sliceBounds]
        | some a x hx =>
          obtain ⟨k, rfl⟩ := natOf_ok hx e2
          have := @run_sliceBound P w k h cap (if b then .sliceAcap else .sliceAlen) (by omega)
          simp [Instr.sliceBounds, this]
      | some a x hx =>
        obtain ⟨k, rfl⟩ := natOf_ok hx e1
        have k1 := @run_sliceBound P w k l h .sliceB h1
        cases hh with
        | none =>
          simp only [Option.some.injEq] at e2
          subst e2
          simp [Instr.sliceBounds, k1]
        | some a' x' hx' =>
          obtain ⟨k', rfl⟩ := natOf_ok hx' e2
          have k2 := @run_sliceBound P w k' h cap (if b then .sliceAcap else .sliceAlen) (by omega)
          simp [Instr.sliceBounds, k1, k2]
  · cases hc
noncomputable def cutSlice (esz : Nat) (s : AVal) (lo hi : Option AVal) : Option AVal :=
  match s with
  | .sl b off len esz' cap => (match cutOf len (cap.getD len) lo hi with
    | some (l, h) => bif Nat.beq esz esz' then some (.sl b (Nat.add off (Nat.mul l esz)) (Nat.sub h l) esz (match cap with | some c => some (Nat.sub c l) | none => none)) else none
    | none => none)
  | .vs cells esz' len full => (match cutOf len len lo hi with
    | some (l, h) => bif Nat.beq esz esz' then (match mid cells (Nat.mul l esz) (Nat.mul (Nat.sub h l) esz) with
      | some cs => some (.vs cs esz (Nat.sub h l) (full && Nat.beq h len))
      | none => none) else none
    | none => none)
  | .vb len n => (match cutOf len len lo hi with
    | some (l, h) => bif Nat.beq esz 1 then some (.vb (Nat.sub h l) (sCut n l h)) else none
    | none => none)
  | .nils => (match cutOf 0 0 lo hi with
    | some _ => some .nils
    | none => none)
  | _ => none
theorem run_cutSlice (t e : TypeId) (ei : TypeInfo) (ht : P.underlying t = some (.slice e)) (he : P.info? e = some ei) (a : Option Addr) (len cap l h : Nat) {xl xh : Option Value}
    (hb : (Instr.sliceBounds true len cap xl xh none).run P w = .ok (l, h, cap) w) :
    (Instr.sliceAt t (.slice a len cap) xl xh none).run P w = .ok (.slice (if cap = l then a else a.map (·.add (l * ei.size))) (h - l) (cap - l)) w := by
  simp [Instr.sliceAt, Instr.slice, run_underlying ht, hb, run_sizeOf he]
theorem Row.sub {B o : Nat} {cs : List Value} (h : Row G w B o cs) (i n : Nat) : Row G w B (o + i) ((cs.drop i).take n) := by
  intro j c hj
  rw [List.getElem?_take] at hj
  split at hj
  · rw [List.getElem?_drop] at hj
    rw [Nat.add_assoc]
    exact h _ _ hj
  · cases hj
theorem cutSlice_ok (t e : TypeId) (ei : TypeInfo) (ht : P.underlying t = some (.slice e)) (he : P.info? e = some ei) {s : AVal} {x : Value} (hs : VRel G w s x) {lo hi : Option AVal} {xl xh : Option Value} (hl : ORel G w lo xl) (hh : ORel G w hi xh) :
    POk P G w (cutSlice ei.size s lo hi) (Instr.sliceAt t x xl xh none) := by
  intro v hv
  unfold cutSlice at hv
  split at hv
  · rename_i b off len esz' cap
    split at hv
    · rename_i l h hc
      cases hb : Nat.beq ei.size esz'
      · rw [hb] at hv; cases hv
      · rw [hb] at hv; cases hv
        have hb' := Nat.eq_of_beq_eq_true hb
        subst hb'
        cases hs with
        | sl _ _ _ _ _ B o c sz e' ho hz hl' hc' h1' h2' =>
          have hcap : cap.getD len ≤ c := by
            cases cap with
            | none => exact hl'
            | some c' => rw [h2' c' rfl]; exact Nat.le_refl _
          obtain ⟨k1, k2, k3⟩ := cutOf_ok (P := P) hc hl hh true c hcap
          refine ⟨_, run_cutSlice t e ei ht he _ _ _ _ _ k1, ?_⟩
          by_cases hcl : c = l
          · rw [if_pos hcl]
            have e1 : h - l = 0 := by omega
            have e2 : c - l = 0 := by omega
            show VRel G w (.sl b _ (h - l) _ _) _
            rw [e1, e2]
            refine .sl0 _ _ _ _ _ fun c' hc'' => ?_
            cases cap with
            | none => cases hc''
            | some c0 => cases hc''; have := h2' c0 rfl; show c0 - l = 0; omega
          · rw [if_neg hcl]
            have hmul : l * ei.size + (c - l) * ei.size = c * ei.size := by rw [← Nat.add_mul]; congr 1; omega
            show VRel G w _ (.slice (some ((⟨B, o + off, none⟩ : Addr).add (l * ei.size))) (h - l) (c - l))
            rw [addr_add, Nat.add_assoc]
            refine .sl b (off + l * ei.size) (h - l) ei.size _ B o (c - l) sz e' ho hz (by omega) (by omega) (fun hn => ?_) (fun c' hc'' => ?_)
            · cases cap with
              | none => have := h1' rfl; omega
              | some c0 => cases hn
            · cases cap with
              | none => cases hc''
              | some c0 => cases hc''; have := h2' c0 rfl; show c0 - l = c - l; omega
        | sl0 _ _ _ _ a ha =>
          have hcap : cap.getD 0 ≤ 0 := by
            cases cap with
            | none => exact Nat.le_refl _
            | some c' => rw [ha c' rfl]; exact Nat.le_refl _
          obtain ⟨k1, k2, k3⟩ := cutOf_ok (P := P) hc hl hh true 0 hcap
          have hl0 : l = 0 := by omega
          have hh0 : h = 0 := by omega
          subst hl0; subst hh0
          refine ⟨_, run_cutSlice t e ei ht he _ _ _ _ _ k1, ?_⟩
          rw [if_pos rfl]
          refine .sl0 _ _ _ _ _ fun c' hc'' => ?_
          cases cap with
          | none => cases hc''
          | some c0 => cases hc''; exact ha c0 rfl
    · cases hv
  · rename_i cells esz' len full
    split at hv
    · rename_i l h hc
      cases hb : Nat.beq ei.size esz'
      · rw [hb] at hv; cases hv
      · rw [hb] at hv
        simp only [cond_true] at hv
        split at hv
        · rename_i cs hm
          cases hv
          have hb' := Nat.eq_of_beq_eq_true hb
          subst hb'
          cases hs with
          | vs _ _ _ _ B o c vs hr hss hn hl' hf =>
          obtain ⟨k1, k2, k3⟩ := cutOf_ok (P := P) hc hl hh true c hl'
          refine ⟨_, run_cutSlice t e ei ht he _ _ _ _ _ k1, ?_⟩
          obtain ⟨m1, m2⟩ := mid_rel hss hm
          have hfull : (full && Nat.beq h len) = true → c - l = h - l := fun hf' => by
            rw [Bool.and_eq_true, Nat.beq_eq] at hf'
            have := hf hf'.1
            omega
          have hlen : cs.length = (h - l) * ei.size := (mid_some hm).2
          by_cases hcl : c = l
          · rw [if_pos hcl]
            have e1 : h - l = 0 := by omega
            refine .vs cs ei.size (h - l) _ B o (c - l) _ (fun i c' hi => ?_) m1 hlen (by omega) hfull
            have : (vs.drop (Nat.mul l ei.size)).take (Nat.mul (Nat.sub h l) ei.size) = [] := by
              show List.take ((h - l) * ei.size) _ = []
              rw [e1]; simp
            rw [this] at hi
            simp at hi
          · rw [if_neg hcl]
            show VRel G w _ (.slice (some ((⟨B, o, none⟩ : Addr).add (l * ei.size))) (h - l) (c - l))
            rw [addr_add]
            exact .vs cs ei.size (h - l) _ B (o + l * ei.size) (c - l) _ (hr.sub _ _) m1 hlen (by omega) hfull
        · cases hv
    · cases hv
  · rename_i len n
    split at hv
    · rename_i l h hc
      cases hb : Nat.beq ei.size 1
      · rw [hb] at hv; cases hv
      · rw [hb] at hv; cases hv
        have hb' := Nat.eq_of_beq_eq_true hb
        cases hs with
        | vb _ _ B o c bs hn hen hr hl' =>
        obtain ⟨k1, k2, k3⟩ := cutOf_ok (P := P) hc hl hh true c hl'
        refine ⟨_, run_cutSlice t e ei ht he _ _ _ _ _ k1, ?_⟩
        subst hn; subst hen
        have hlen : ((bs.drop l).take (h - l)).length = h - l := by rw [List.length_take, List.length_drop]; omega
        have hmap : ((bs.drop l).take (h - l)).map byteVal = ((bs.map byteVal).drop l).take (h - l) := by rw [List.map_take, List.map_drop]
        by_cases hcl : c = l
        · rw [if_pos hcl]
          refine .vb (h - l) _ B o (c - l) ((bs.drop l).take (h - l)) hlen (sCut_eq _ _ _).symm (fun i c' hi => ?_) (by omega)
          have e1 : h - l = 0 := by omega
          rw [e1] at hi
          simp at hi
        · rw [if_neg hcl, hb', Nat.mul_one]
          show VRel G w _ (.slice (some ((⟨B, o, none⟩ : Addr).add l)) (h - l) (c - l))
          rw [addr_add]
          exact .vb (h - l) _ B (o + l) (c - l) ((bs.drop l).take (h - l)) hlen (sCut_eq _ _ _).symm (by rw [hmap]; exact hr.sub _ _) (by omega)
    · cases hv
  · split at hv
    · rename_i lh hc
      cases hv
      cases hs
      obtain ⟨l, h⟩ := lh
      obtain ⟨k1, k2, k3⟩ := cutOf_ok (P := P) hc hl hh true 0 (Nat.le_refl _)
      have hl0 : l = 0 := by omega
      have hh0 : h = 0 := by omega
      subst hl0; subst hh0
      exact ⟨_, run_cutSlice t e ei ht he _ _ _ _ _ k1, .nils⟩
    · cases hv
  · cases hv
def cutStr (s : AVal) (lo hi : Option AVal) : Option AVal :=
  match s with
  | .str len n => (match cutOf len len lo hi with
    | some (l, h) => some (.str (Nat.sub h l) (sCut n l h))
    | none => none)
  | _ => none
theorem cutStr_ok (t : TypeId) (ht : P.underlying t = some .string) {s : AVal} {x : Value} (hs : VRel G w s x) {lo hi : Option AVal} {xl xh : Option Value} (hl : ORel G w lo xl) (hh : ORel G w hi xh) :
    POk P G w (cutStr s lo hi) (Instr.sliceAt t x xl xh none) := by
  intro v hv
  unfold cutStr at hv
  split at hv
  · rename_i len n
    split at hv
    · rename_i l h hc
      cases hv
      cases hs with
      | str s' _ _ h1 h2 =>
      subst h1; subst h2
      obtain ⟨k1, k2, k3⟩ := cutOf_ok (P := P) hc hl hh false s'.size (Nat.le_refl _)
      refine ⟨.string (s'.extract l h), by simp [Instr.sliceAt, Instr.slice, run_underlying ht, k1], .str _ _ _ ?_ ?_⟩
      · rw [ByteArray.size_extract]; show min h s'.size - l = h - l; omega
      · rw [sCut_eq, ByteArray.data_extract, Array.toList_extract, List.extract_eq_take_drop]
    · cases hv
  · cases hv

/-! ### len -/
def lenA (a : AVal) : Option Nat :=
  match a with
  | .str len _ => some len
  | .sl _ _ len _ _ => some len
  | .vs _ _ len _ => some len
  | .vb len _ => some len
  | .nils => some 0
  | _ => none
theorem lenA_slice_ok (t ty e : TypeId) (ht : P.underlying t = some (.slice e)) (a : AVal) (x : Value) (h : VRel G w a x) (hs : ∀ l n, a ≠ .str l n) : POk P G w ((lenA a).map fun n => .int .i64 (.ofNat n)) (Builtin.len_ #[t] ty #[x]) := by
  intro v hv
  rw [Option.map_eq_some_iff] at hv
  obtain ⟨n, h1, rfl⟩ := hv
  cases h <;> simp only [lenA, reduceCtorEq, Option.some.injEq] at h1
  case str => exact absurd rfl (hs _ _)
  all_goals subst h1
  all_goals exact ⟨goInt _, by simp [Builtin.len_, run_underlying ht], .int _ _⟩
theorem lenA_str_ok (t ty : TypeId) (ht : P.underlying t = some .string) (l n : Nat) (x : Value) (h : VRel G w (.str l n) x) : POk P G w (some (.int .i64 (.ofNat l))) (Builtin.len_ #[t] ty #[x]) := by
  intro v hv
  cases hv
  cases h with
  | str s _ _ h1 h2 =>
  subst h1
  exact ⟨goInt s.size, by simp [Builtin.len_, run_underlying ht], .int _ _⟩
end
end Go.Ev
namespace Go.Ev
section
variable {P : Program} {gl : Globs} {σ : AHeap} {G : Gh} {w : World}
/-! ### Parts are laid into cells -/
noncomputable def fillA (acc : List AVal) : List (Nat × Nat × AVal) → Option (List AVal)
  | [] => some acc
  | (off, size, a) :: r => match cellsOf a with
    | some [] => none
    | some cs => bif Nat.beq cs.length size then (match lay acc cs off with | some acc' => fillA acc' r | none => none) else none
    | none => none
theorem foldl_set (l : List Value) : ∀ (k off : Nat) (cs : Array Value), off + k + l.length ≤ cs.size →
    ((l.zipIdx k).foldl (fun cs (x : Value × Nat) => cs.setIfInBounds (off + x.2) x.1) cs).toList = cs.toList.take (off + k) ++ l ++ cs.toList.drop (off + k + l.length) := by
  induction l with
  | nil => intro k off cs _; simp
  | cons v l ih =>
    intro k off cs h
    simp only [List.length_cons] at h
    rw [List.zipIdx_cons, List.foldl_cons, ih (k + 1) off _ (by simp; omega)]
    dsimp only
    apply List.ext_getElem?
    intro j
    have hl : (cs.setIfInBounds (off + k) v).toList.length = cs.size := by simp
    have hc : cs.toList.length = cs.size := Array.length_toList
    rw [get_lay _ _ _ _ (by omega), get_lay _ _ _ _ (by simp only [List.length_cons]; omega)]
    simp only [List.length_cons, Array.getElem?_toList]
    by_cases h1 : j < off + k
    · rw [if_pos (by omega), if_pos h1, Array.getElem?_setIfInBounds_ne (by omega)]
    · by_cases h2 : j = off + k
      · subst h2
        rw [if_pos (by omega), if_neg (by omega), if_pos (by omega), Array.getElem?_setIfInBounds_self_of_lt (by omega)]
        simp
      · rw [if_neg (by omega), if_neg h1]
        by_cases h3 : j < off + k + (l.length + 1)
        · rw [if_pos (by omega), if_pos h3, show j - (off + k) = (j - (off + (k + 1))) + 1 by omega, List.getElem?_cons_succ]
        · rw [if_neg (by omega), if_neg h3, Array.getElem?_setIfInBounds_ne (by omega)]
inductive PRels (G : Gh) (w : World) (place : Nat → Option (Nat × Nat)) : List (Nat × Nat × AVal) → List (Nat × Value) → Prop
  | nil : PRels G w place [] []
  | cons (off size : Nat) (a : AVal) (i : Nat) (v : Value) (as : List (Nat × Nat × AVal)) (vs : List (Nat × Value)) (hp : place i = some (off, size)) (h : VRel G w a v) (hs : PRels G w place as vs) :
      PRels G w place ((off, size, a) :: as) ((i, v) :: vs)
theorem lay_rel {acc cs acc' : List AVal} {off : Nat} {xs vs : List Value} (ha : VRels G w acc xs) (hc : VRels G w cs vs) (hne : cs ≠ []) (h : lay acc cs off = some acc') :
    off + vs.length ≤ xs.length ∧ VRels G w acc' (xs.take off ++ vs ++ xs.drop (off + vs.length)) := by
  obtain ⟨h1, h2⟩ := lay_some h hne
  have e1 := ha.length
  have e2 := hc.length
  refine ⟨by omega, ?_⟩
  subst h2
  rw [← e2]
  exact ((ha.take off).append hc).append (ha.drop _)
theorem fillA_ok (place : Nat → Option (Nat × Nat)) : ∀ {as : List (Nat × Nat × AVal)} {vs : List (Nat × Value)} {acc r : List AVal} {cells : Array Value}, PRels G w place as vs → VRels G w acc cells.toList → fillA acc as = some r →
    ∃ cells', Instr.fill place cells vs = some cells' ∧ VRels G w r cells'.toList := by
  intro as
  induction as with
  | nil =>
    intro vs acc r cells hp ha h
    cases hp
    cases h
    exact ⟨cells, rfl, ha⟩
  | cons x as ih =>
    intro vs acc r cells hp ha h
    cases hp with
    | cons off size a i v _ vs hpl hv hs =>
      simp only [fillA] at h
      cases hc : cellsOf a with
      | none => rw [hc] at h; cases h
      | some cs =>
        rw [hc] at h
        have hcv := cellsOf_ok hv hc
        have hlen := hcv.length
        cases cs with
        | nil =>
          cases h
        | cons c cs =>
          simp only at h
          cases hb : Nat.beq (c :: cs).length size
          · rw [hb] at h; cases h
          · rw [hb] at h
            have hz : (c :: cs).length = size := Nat.eq_of_beq_eq_true hb
            simp only [cond_true] at h
            split at h
            · rename_i acc' hl
              obtain ⟨m1, m2⟩ := lay_rel ha hcv (by simp) hl
              have hsz : v.cells.size = size := by rw [← Array.length_toList, ← hlen]; exact hz
              have m1' : off + v.cells.size ≤ cells.size := by
                have := Array.length_toList (xs := cells)
                have := Array.length_toList (xs := v.cells)
                omega
              have hfold : (v.cells.zipIdx.foldl (fun (cs : Array Value) (x : Value × Nat) => cs.setIfInBounds (off + x.2) x.1) cells).toList = cells.toList.take off ++ v.cells.toList ++ cells.toList.drop (off + v.cells.toList.length) := by
                rw [← Array.foldl_toList, Array.toList_zipIdx]
                have := foldl_set v.cells.toList 0 off cells (by rw [Array.length_toList]; omega)
                simpa using this
              obtain ⟨cells', k1, k2⟩ := ih (cells := v.cells.zipIdx.foldl (fun (cs : Array Value) (x : Value × Nat) => cs.setIfInBounds (off + x.2) x.1) cells) hs (by rw [hfold]; exact m2) h
              refine ⟨cells', ?_, k2⟩
              simp only [Instr.fill, hpl]
              rw [if_neg (by simp [hsz]; omega)]
              exact k1
            · cases h
end
end Go.Ev
namespace Go.Ev
section
variable {P : Program} {gl : Globs} {σ : AHeap} {G : Gh} {w : World}
theorem run_list_mapM {α β : Type} (g : α → Sem β) (h : α → β) : ∀ (l : List α), (∀ x ∈ l, (g x).run P w = .ok (h x) w) → (l.mapM g).run P w = .ok (l.map h) w
  | [], _ => by simp
  | x :: l, hx => by
    rw [List.mapM_cons, Sem.run_bind, hx x (by simp)]
    simp [run_list_mapM g h l (fun y hy => hx y (by simp [hy]))]
theorem run_array_mapM {α β : Type} (g : α → Sem β) (h : α → β) (a : Array α) (ha : ∀ x ∈ a.toList, (g x).run P w = .ok (h x) w) : (a.mapM g).run P w = .ok (a.map h) w := by
  rw [Array.mapM_eq_mapM_toList, Sem.run_map, run_list_mapM g h _ ha, Result.andThen_ok]
  congr 1
  apply Array.toList_inj.1
  simp
def placeOf (P : Program) (f : Field) : Nat × Nat := (f.offset, ((P.info? f.type).map (·.size)).getD 0)
theorem build_struct_ok (t : TypeId) (fs : Array Field) (i : TypeInfo) (z : Value) (ht : P.underlying t = some (.struct fs)) (hi : P.info? t = some i) (hz : i.zero = some z) (hfs : ∀ f ∈ fs.toList, (P.info? f.type).isSome = true)
    {as : List (Nat × Nat × AVal)} {vs : Array (Nat × Value)} (hp : PRels G w (fun j => (fs.map (placeOf P))[j]?) as vs.toList) : POk P G w ((fillA (z.cells.toList.map ofVal1) as).map .agg) (Instr.build t vs) := by
  intro v hv
  rw [Option.map_eq_some_iff] at hv
  obtain ⟨r, h1, rfl⟩ := hv
  obtain ⟨cells', k1, k2⟩ := fillA_ok _ hp (map_ofVal1_ok _) h1
  have hm := run_array_mapM (P := P) (w := w) (fun f : Field => do pure (f.offset, ← sizeOf f.type)) (placeOf P) fs (fun f hf => by
    obtain ⟨fi, hfi⟩ := Option.isSome_iff_exists.1 (hfs f hf)
    simp [run_sizeOf hfi, placeOf, hfi])
  refine ⟨.agg cells', ?_, .agg _ _ k2⟩
  simp only [Instr.build, Sem.run_bind, run_zeroValue hi hz, Result.andThen_ok, run_underlying ht, hm]
  rw [k1]
  rfl
theorem build_array_ok (t e : TypeId) (n : Nat) (i ei : TypeInfo) (z : Value) (ht : P.underlying t = some (.array n e)) (hi : P.info? t = some i) (he : P.info? e = some ei) (hz : i.zero = some z)
    {as : List (Nat × Nat × AVal)} {vs : Array (Nat × Value)} (hp : PRels G w (fun j => some (j * ei.size, ei.size)) as vs.toList) : POk P G w ((fillA (z.cells.toList.map ofVal1) as).map .agg) (Instr.build t vs) := by
  intro v hv
  rw [Option.map_eq_some_iff] at hv
  obtain ⟨r, h1, rfl⟩ := hv
  obtain ⟨cells', k1, k2⟩ := fillA_ok _ hp (map_ofVal1_ok _) h1
  refine ⟨.agg cells', ?_, .agg _ _ k2⟩
  simp only [Instr.build, Sem.run_bind, run_zeroValue hi hz, Result.andThen_ok, run_underlying ht, run_sizeOf he]
  rw [k1]
  rfl

/-! ### Rows of zeros -/
noncomputable def zrep (zc : List AVal) (n : Nat) : List AVal := Nat.rec (motive := fun _ => List AVal) [] (fun _ ih => zc ++ ih) n
theorem zrow_get (z : Array Value) (n : Nat) (hz : 0 < z.size) (j : Nat) (hj : j < n * z.size) : ((List.range (n * z.size)).map fun i => z[i % z.size]!)[j]? = z[j % z.size]? := by
  have h1 : j % z.size < z.size := Nat.mod_lt _ hz
  simp [hj, h1]
theorem zrep_ok {zc : List AVal} {z : Array Value} (h : VRels G w zc z.toList) (hz : 0 < z.size) (n : Nat) : VRels G w (zrep zc n) ((Array.range (n * z.size)).map fun i => z[i % z.size]!).toList := by
  have e : ((Array.range (n * z.size)).map fun i => z[i % z.size]!).toList = (List.range (n * z.size)).map fun i => z[i % z.size]! := by simp
  rw [e]
  have hl : zc.length = z.size := h.length.trans Array.length_toList
  have hlen : (zrep zc n).length = n * z.size := by
    induction n with
    | zero => rw [Nat.zero_mul]; rfl
    | succ n ih =>
      have : zrep zc (n + 1) = zc ++ zrep zc n := rfl
      rw [this, List.length_append, ih (by simp) , hl, Nat.succ_mul]
      omega
  refine VRels.of_get (by rw [hlen]; simp) fun i a v ha hv => ?_
  have hi : i < n * z.size := by
    rcases Nat.lt_or_ge i (n * z.size) with h' | h'
    · exact h'
    · rw [List.getElem?_eq_none (by omega)] at ha; cases ha
  rw [zrow_get z n hz i hi] at hv
  have key : ∀ n i, i < n * z.size → (zrep zc n)[i]? = zc[i % z.size]? := by
    intro n
    induction n with
    | zero => intro i hi; omega
    | succ n ih =>
      intro i hi
      have : zrep zc (n + 1) = zc ++ zrep zc n := rfl
      rw [this, List.getElem?_append, hl]
      by_cases h1 : i < z.size
      · rw [if_pos h1, Nat.mod_eq_of_lt h1]
      · rw [if_neg h1, ih (i - z.size) (by rw [Nat.succ_mul] at hi; omega)]
        congr 1
        exact (Nat.mod_eq_sub_mod (by omega)).symm
  rw [key n i hi] at ha
  obtain ⟨u, hu, hr⟩ := h.get ha
  rw [Array.getElem?_toList, hv] at hu
  cases hu
  exact hr

/-! ### A slice's literal: it never changes -/
noncomputable def bsOp (zc : List AVal) (esz len : Nat) (as : List (Nat × Nat × AVal)) : Option AVal :=
  match fillA (zrep zc len) as with
  | some cells => bif Nat.beq cells.length (Nat.mul len esz) && Nat.ble (Nat.mul len esz) 16777216 then some (.vs cells esz len true) else none
  | none => none
theorem bsOp_ok (hw : WInv gl G σ w) (t e : TypeId) (ei : TypeInfo) (z : Value) (len : Nat) (ht : P.underlying t = some (.slice e)) (he : P.info? e = some ei) (hz : ei.zero = some z) (hzs : z.cells.size = ei.size) (hz0 : 0 < ei.size)
    {as : List (Nat × Nat × AVal)} {vs : Array (Nat × Value)} (hp : PRels G w (fun j => some (j * ei.size, ei.size)) as vs.toList) :
    VOk P gl σ G w ((bsOp (z.cells.toList.map ofVal1) ei.size len as).map fun v => (v, σ)) (Instr.buildSlice t len vs) := by
  intro v σ' hv
  rw [Option.map_eq_some_iff] at hv
  obtain ⟨u, h1, h2⟩ := hv
  cases h2
  unfold bsOp at h1
  split at h1
  · rename_i cells hf
    cases hb : (Nat.beq cells.length (Nat.mul len ei.size) && Nat.ble (Nat.mul len ei.size) 16777216)
    · rw [hb] at h1; cases h1
    · rw [hb] at h1; cases h1
      rw [Bool.and_eq_true, Nat.beq_eq, Nat.ble_eq] at hb
      obtain ⟨b1, b2⟩ := hb
      have b1' : cells.length = len * ei.size := b1
      have b2' : ¬ len * ei.size > 2 ^ 24 := by have : len * ei.size ≤ 16777216 := b2; omega
      have hzr := zrep_ok (G := G) (w := w) (map_ofVal1_ok z.cells.toList) (by omega) len
      rw [hzs] at hzr
      obtain ⟨cells', k1, k2⟩ := fillA_ok _ hp hzr hf
      have hlen : cells.length = cells'.size := k2.length.trans Array.length_toList
      obtain ⟨G', m1, m2, m3⟩ := hw.pushImm (Newb.alloc w (.cells cells' e))
      refine ⟨.slice (some ⟨w.heap.size, 0, none⟩) len len, w.alloc (.cells cells' e), G', ?_, m1, m2, .vs cells ei.size len true w.heap.size 0 len cells'.toList (fun i c hc => ?_) (k2.mono m2.goes) b1' (Nat.le_refl _) (fun _ => rfl)⟩
      · by_cases h0 : len * ei.size = 0
        · have e1 : ∀ f : Nat → Value, (Array.range (len * ei.size)).map f = #[] := fun f => by rw [h0]; simp
          rw [e1] at k1
          simp only [Instr.buildSlice, Sem.run_bind, run_underlying ht, Result.andThen_ok, run_sizeOf he]
          rw [if_neg b2', if_pos h0]
          simp [e1, k1, newRow]
        · simp only [Instr.buildSlice, Sem.run_bind, run_underlying ht, Result.andThen_ok, run_sizeOf he]
          rw [if_neg b2', if_neg h0]
          simp only [Sem.run_bind, run_zeroValue he hz, Result.andThen_ok, Sem.run_pure, hzs]
          rw [k1]
          simp [newRow]
      · obtain ⟨n1, n2⟩ := m3 i c (by simpa using hc)
        rw [Nat.zero_add]
        exact ⟨n1, n2⟩
  · cases h1

/-! ### A text's bytes -/
theorem toBytes_ok (hw : WInv gl G σ w) (src dst e : TypeId) (hs : P.underlying src = some .string) (hd : P.underlying dst = some (.slice e)) (he : P.underlying e = some (.int .u8)) (len n : Nat) (x : Value) (h : VRel G w (.str len n) x) :
    VOk P gl σ G w (some (.vb len n, σ)) (convert src dst x) := by
  intro v σ' hv
  cases hv
  cases h with
  | str s _ _ h1 h2 =>
  subst h1; subst h2
  have hw' := hw.same (Same.drew w)
  have hsz : (w.drew).heap.size = w.heap.size := rfl
  obtain ⟨G', m1, m2, m3⟩ := hw'.pushImm (Newb.alloc w.drew (.cells (bytesRow s (grownCap w s.size 0 e)) e ((bytesRow s (grownCap w s.size 0 e)).size, (bytesRow s (grownCap w s.size 0 e)).size + 1)))
  refine ⟨_, _, G', run_bytes_of_string w src dst e s hs hd he, m1, (Ext.same (Same.drew w)).trans m2, .vb s.size _ w.heap.size 0 _ s.data.toList (ba_toList s) rfl (fun i c hc => ?_) ?_⟩
  · rw [List.getElem?_map] at hc
    have hc' : (bytesRow s (grownCap w s.size 0 e))[i]? = some c := by
      unfold bytesRow
      have hi : i < s.data.size := by
        rcases Nat.lt_or_ge i s.data.size with h' | h'
        · exact h'
        · rw [Array.getElem?_toList, Array.getElem?_eq_none h'] at hc; cases hc
      rw [Array.getElem?_append_left (by simpa using hi), Array.getElem?_map]
      rw [Array.getElem?_toList] at hc
      exact hc
    obtain ⟨n1, n2⟩ := m3 i c hc'
    rw [Nat.zero_add]
    exact ⟨n1, n2⟩
  · show s.size ≤ s.size + _
    omega
/-- The bytes that cells hold, as one number. -/
noncomputable def bytesOf (l : List AVal) : Option Nat :=
  List.rec (motive := fun _ => Option Nat) (some 0) (fun a _ ih => match natOf a with
    | some m => (bif Nat.blt m 256 then (match ih with | some r => some (Nat.add m (Nat.mul 256 r)) | none => none) else none)
    | none => none) l
def isU8 : AVal → Bool
  | .int .u8 _ => true
  | _ => false
noncomputable def allU8 (l : List AVal) : Bool := List.rec (motive := fun _ => Bool) true (fun a _ ih => Bool.rec (motive := fun _ => Bool) false ih (isU8 a)) l
theorem bytesOf_ok {l : List AVal} {vs : List Value} (h : VRels G w l vs) (hu : allU8 l = true) {n : Nat} (hb : bytesOf l = some n) : ∃ bs : List UInt8, bs.length = l.length ∧ enc bs = n ∧ vs = bs.map byteVal := by
  induction l generalizing vs n with
  | nil => cases h; cases hb; exact ⟨[], rfl, rfl, rfl⟩
  | cons a l ih =>
    cases h with
    | cons _ v _ vs hv hs =>
      have hu' : Bool.rec (motive := fun _ => Bool) false (allU8 l) (isU8 a) = true := hu
      have hb' : (match natOf a with
        | some m => (bif Nat.blt m 256 then (match bytesOf l with | some r => some (Nat.add m (Nat.mul 256 r)) | none => none) else none)
        | none => none) = some n := hb
      cases ha : isU8 a
      · rw [ha] at hu'; cases hu'
      · rw [ha] at hu'
        split at hb'
        · rename_i m hm
          cases hlt : Nat.blt m 256
          · rw [hlt] at hb'; cases hb'
          · rw [hlt] at hb'
            rw [blt_iff] at hlt
            simp only [cond_true] at hb'
            split at hb'
            · rename_i r hr
              cases hb'
              obtain ⟨bs, e1, e2, e3⟩ := ih hs hu' hr
              obtain ⟨k, rfl⟩ := natOf_ok hv hm
              have hk : k = .u8 := by
                unfold isU8 at ha
                split at ha
                · cases hv; rfl
                · cases ha
              subst hk
              have hmb : (UInt8.ofNat m).toNat = m := by simp; omega
              refine ⟨UInt8.ofNat m :: bs, by simp [e1], ?_, ?_⟩
              · show (UInt8.ofNat m).toNat + 256 * enc bs = m + 256 * r
                rw [hmb, e2]
              · rw [List.map_cons, ← e3]
                unfold byteVal
                rw [hmb]
            · cases hb'
        · cases hb'
noncomputable def toStr (σ : AHeap) (a : AVal) : Option AVal :=
  match a with
  | .vb len n => some (.str len n)
  | .nils => some (.str 0 0)
  | .vs cells esz len _ => bif Nat.beq esz 1 && allU8 cells then (match bytesOf cells with | some n => some (.str len n) | none => none) else none
  | .sl b off len esz _ => bif Nat.beq esz 1 then (match loadA σ (.ptr b off) len with
      | some cells => (bif allU8 cells then (match bytesOf cells with | some n => some (.str len n) | none => none) else none)
      | none => none) else none
  | _ => none
theorem run_toStr (src dst e : TypeId) (hs : P.underlying src = some (.slice e)) (he : P.underlying e = some (.int .u8)) (hd : P.underlying dst = some .string) (B o cap : Nat) (bs : List UInt8)
    (hc : ∀ (j : Nat) (v : Value), (bs.map byteVal)[j]? = some v → w.cell? ⟨B, o + j, none⟩ = some v) : (convert src dst (.slice (some ⟨B, o, none⟩) bs.length cap)).run P w = .ok (.string ⟨bs.toArray⟩) w :=
  run_convert_bytes_back w src dst e _ cap bs hs he hd fun j hj => by
    rw [addr_add]
    exact hc j _ (by simp [List.getElem?_eq_getElem hj]; rfl)
theorem str_of_bytes (bs : List UInt8) : VRel G w (.str bs.length (enc bs)) (.string ⟨bs.toArray⟩) := .str _ _ _ (by show bs.toArray.size = _; simp) (by simp)
theorem toStr_ok (hw : WInv gl G σ w) (src dst e : TypeId) (hs : P.underlying src = some (.slice e)) (he : P.underlying e = some (.int .u8)) (hd : P.underlying dst = some .string) {a : AVal} {x : Value} (h : VRel G w a x) :
    POk P G w (toStr σ a) (convert src dst x) := by
  intro v hv
  unfold toStr at hv
  split at hv
  · cases hv
    cases h with
    | vb _ _ B o c bs hn hen hr hl =>
    subst hn; subst hen
    exact ⟨_, run_toStr src dst e hs he hd B o c bs fun j v hj => (hr j v hj).2, str_of_bytes bs⟩
  · cases hv
    cases h
    exact ⟨.string .empty, by simp [convert, run_underlying hs, run_underlying hd, run_underlying he, Conv.bytesToString], .str _ _ _ rfl rfl⟩
  · rename_i cells esz len full
    cases hb : (Nat.beq esz 1 && allU8 cells)
    · rw [hb] at hv; cases hv
    · rw [hb] at hv
      simp only [cond_true] at hv
      split at hv
      · rename_i n hn
        cases hv
        rw [Bool.and_eq_true, Nat.beq_eq] at hb
        cases h with
        | vs _ _ _ _ B o c cs hr hss hlen hl hf =>
        obtain ⟨bs, e1, e2, e3⟩ := bytesOf_ok hss hb.2 hn
        subst e3
        have : len = bs.length := by rw [e1, hlen, hb.1, Nat.mul_one]
        subst this
        subst e2
        exact ⟨_, run_toStr src dst e hs he hd B o c bs fun j v hj => (hr j v hj).2, str_of_bytes bs⟩
      · cases hv
  · rename_i b off len esz cap
    cases hb : Nat.beq esz 1
    · rw [hb] at hv; cases hv
    · rw [hb] at hv
      simp only [cond_true] at hv
      split at hv
      · rename_i cells hlo
        cases hu : allU8 cells
        · rw [hu] at hv; cases hv
        · rw [hu] at hv
          simp only [cond_true] at hv
          split at hv
          · rename_i n hn
            cases hv
            cases h with
            | sl _ _ _ _ _ B o c sz e' ho hz hl hc h1 h2 =>
              obtain ⟨B', o', vs, k1, k2, k3, k4⟩ := loadA_ok hw (VRel.ptr (w := w) b off B o ho) hlo
              cases k1
              obtain ⟨bs, e1, e2, e3⟩ := bytesOf_ok k3 hu hn
              subst e3
              have : len = bs.length := by rw [← k2]; simp
              subst this
              subst e2
              exact ⟨_, run_toStr src dst e hs he hd _ _ c bs k4, str_of_bytes bs⟩
            | sl0 _ _ _ _ a h0 =>
              have hnil : cells = [] := by
                have : cells.length = 0 := by
                  simp only [loadA] at hlo
                  split at hlo
                  · exact (mid_some hlo).2
                  · cases hlo
                exact List.eq_nil_of_length_eq_zero this
              subst hnil
              cases hn
              refine ⟨.string ⟨([] : List UInt8).toArray⟩, ?_, str_of_bytes []⟩
              simp [convert, run_underlying hs, run_underlying hd, run_underlying he, Conv.bytesToString, loadCells, loadCellsFrom]
              rfl
          · cases hv
      · cases hv
  · cases hv
end
end Go.Ev
namespace Go.Ev
def byteA (m : Nat) : AVal := .int .u8 (.ofNat m)
noncomputable def bytesA (len n : Nat) : List AVal := Nat.rec (motive := fun _ => Nat → List AVal) (fun _ => []) (fun _ ih n => byteA (Nat.mod n 256) :: ih (Nat.div n 256)) len n
theorem bytesA_eq (len n : Nat) : bytesA len n = (dec len n).map byteA := by
  induction len generalizing n with
  | zero => rfl
  | succ len ih =>
    show byteA (Nat.mod n 256) :: bytesA len (Nat.div n 256) = _
    rw [ih]
    rfl
section
variable {P : Program} {gl : Globs} {σ : AHeap} {G : Gh} {w : World}
theorem bytesA_rel (bs : List UInt8) : VRels G w (bytesA bs.length (enc bs)) (bs.map byteVal) := by
  rw [bytesA_eq, dec_enc]
  induction bs with
  | nil => exact .nil
  | cons b bs ih => exact .cons _ _ _ _ (.int _ _) ih
noncomputable def srcA (σ : AHeap) (esz : Nat) (x : AVal) : Option (Nat × List AVal) :=
  match x with
  | .sl b off len esz' _ => bif Nat.beq esz esz' then (match loadA σ (.ptr b off) (Nat.mul len esz) with | some cells => some (len, cells) | none => none) else none
  | .vs cells esz' len _ => bif Nat.beq esz esz' then some (len, cells) else none
  | .vb len n => bif Nat.beq esz 1 then some (len, bytesA len n) else none
  | .str len n => bif Nat.beq esz 1 then some (len, bytesA len n) else none
  | .nils => some (0, [])
  | _ => none
theorem Same.cell {w w' : World} (s : Same w w') (a : Addr) : w'.cell? a = w.cell? a := by simp only [World.cell?, s.heap]
theorem srcA_ok (hw : WInv gl G σ w) {esz : Nat} {x : AVal} {y : Value} (h : VRel G w x y) {n : Nat} {cells : List AVal} (hs : srcA σ esz x = some (n, cells)) :
    (Builtin.lenOf y).run P w = .ok n w ∧ ∃ vs : List Value, VRels G w cells vs ∧ vs.length = n * esz ∧ ∀ w', Same w w' → (Builtin.firstCells esz n y).run P w' = .ok vs.toArray w' := by
  unfold srcA at hs
  split at hs
  · rename_i b off len esz' cap
    cases hb : Nat.beq esz esz'
    · rw [hb] at hs; cases hs
    · rw [hb] at hs
      simp only [cond_true] at hs
      split at hs
      · rename_i cs hl
        cases hs
        have he := Nat.eq_of_beq_eq_true hb
        subst he
        cases h with
        | sl _ _ _ _ _ B o c sz e' ho hz hl' hc h1 h2 =>
          obtain ⟨B', o', vs, k1, k2, k3, k4⟩ := loadA_ok hw (VRel.ptr (w := w) b off B o ho) hl
          cases k1
          exact ⟨by simp [Builtin.lenOf], vs, k3, k2, fun w' s => run_loadCells_of (w := w') k2 fun j v hj => (s.cell _).trans (k4 j v hj)⟩
        | sl0 _ _ _ _ a h0 =>
          have hnil : cells = [] := by
            simp only [loadA] at hl
            split at hl
            · have := (mid_some hl).2
              exact List.eq_nil_of_length_eq_zero (by rw [this]; show 0 * esz = 0; omega)
            · cases hl
          subst hnil
          exact ⟨by simp [Builtin.lenOf], [], .nil, by simp, fun w' s => by simp [Builtin.firstCells, loadCells, loadCellsFrom]⟩
      · cases hs
  · rename_i cs esz' len full
    cases hb : Nat.beq esz esz'
    · rw [hb] at hs; cases hs
    · rw [hb] at hs
      cases hs
      have he := Nat.eq_of_beq_eq_true hb
      subst he
      cases h with
      | vs _ _ _ _ B o c vs hr hss hn hl hf =>
        have hlen : vs.length = n * esz := by rw [← hss.length]; exact hn
        exact ⟨by simp [Builtin.lenOf], vs, hss, hlen, fun w' s => run_loadCells_of (w := w') hlen fun j v hj => (s.cell _).trans (hr j v hj).2⟩
  · rename_i len m
    cases hb : Nat.beq esz 1
    · rw [hb] at hs; cases hs
    · rw [hb] at hs
      cases hs
      have he := Nat.eq_of_beq_eq_true hb
      subst he
      cases h with
      | vb _ _ B o c bs hn hen hr hl =>
        subst hn; subst hen
        have hlen : (bs.map byteVal).length = bs.length * 1 := by simp
        exact ⟨by simp [Builtin.lenOf], _, bytesA_rel bs, hlen, fun w' s => run_loadCells_of (w := w') hlen fun j v hj => (s.cell _).trans (hr j v hj).2⟩
  · rename_i len m
    cases hb : Nat.beq esz 1
    · rw [hb] at hs; cases hs
    · rw [hb] at hs
      cases hs
      have he := Nat.eq_of_beq_eq_true hb
      subst he
      cases h with
      | str s _ _ h1 h2 =>
        subst h2
        have hl : n = s.data.toList.length := by rw [ba_toList]; exact h1.symm
        subst hl
        refine ⟨by simp [Builtin.lenOf], _, bytesA_rel s.data.toList, by simp, fun w' _ => ?_⟩
        simp only [Builtin.firstCells, Sem.run_pure]
        congr 1
        apply Array.toList_inj.1
        rw [ByteArray.data_extract]
        simp [List.extract_eq_take_drop]
        congr 1
        exact List.take_of_length_le (by simp)
  · cases hs
    cases h
    exact ⟨by simp [Builtin.lenOf], [], .nil, by simp, fun w' _ => by simp [Builtin.firstCells]⟩
  · cases hs

/-! ### The model's append, its three ways -/
def srcD : TypeDesc → Bool
  | .slice _ | .string => true
  | _ => false
section
variable (t u ty e : TypeId) (ei : TypeInfo) (du : TypeDesc) (ht : P.underlying t = some (.slice e)) (hu : P.underlying u = some du) (hd : srcD du = true) (he : P.info? e = some ei)
include ht hu hd he
theorem run_app_room (a : Addr) (sLen sCap n : Nat) (x : Value) (hn : (Builtin.lenOf x).run P w = .ok n w) (vs : List Value) (hf : (Builtin.firstCells ei.size n x).run P w = .ok vs.toArray w) (hle : sLen + n ≤ sCap) {w' : World}
    (hst : (storeCells (a.add (sLen * ei.size)) vs).run P w = .ok () w') : (Builtin.append_ #[t, u] ty #[.slice (some a) sLen sCap, x]).run P w = .ok (.slice (some a) (sLen + n) sCap) w' := by
  cases du <;> simp only [srcD, Bool.false_eq_true] at hd
  all_goals simp [Builtin.append_, run_underlying ht, run_underlying hu, sizeOf, typeInfo, he, hn, hle, hf, hst]
theorem run_app_keep (base : Option Addr) (sLen sCap : Nat) (x : Value) (hn : (Builtin.lenOf x).run P w = .ok 0 w) (hf : (Builtin.firstCells ei.size 0 x).run P w = .ok #[] w) (hle : sLen ≤ sCap) :
    (Builtin.append_ #[t, u] ty #[.slice base sLen sCap, x]).run P w = .ok (.slice base sLen sCap) w := by
  cases base <;> cases du <;> simp only [srcD, Bool.false_eq_true] at hd
  all_goals simp [Builtin.append_, run_underlying ht, run_underlying hu, sizeOf, typeInfo, he, hn, hle, hf, storeCells]
theorem run_app_new (base : Option Addr) (sLen sCap n : Nat) (x : Value) (z : Value) (hz : ei.zero = some z) (hn : (Builtin.lenOf x).run P w = .ok n w) (vs os : List Value)
    (hf : (Builtin.firstCells ei.size n x).run P w.drew = .ok vs.toArray w.drew) (ho : (Builtin.firstCells ei.size sLen (.slice base sLen sCap)).run P w.drew = .ok os.toArray w.drew)
    (hle : ¬ sLen + n ≤ sCap) (hb : (sLen + n) * ei.bytes ≤ 1099511627776) (hb1 : sLen + n ≤ 1099511627776) :
    (Builtin.append_ #[t, u] ty #[.slice base sLen sCap, x]).run P w = .ok (.slice (some ⟨w.heap.size, 0, none⟩) (sLen + n) (grownCap w (sLen + n) sCap e))
      (w.drew.alloc (.cells (os.toArray ++ vs.toArray ++ Builtin.zeroCells z.cells (grownCap w (sLen + n) sCap e - (sLen + n))) e)) := by
  have h48' : ¬ (281474976710656 < Builtin.nextslicecap (sLen + n) sCap * ei.bytes) := by
    have := growslice_fits (need := sLen + n) (old := sCap) (bytes := ei.bytes) (by omega) (by omega)
    omega
  have h63' : ¬ (9223372036854775807 < ((sLen : Int) + (n : Int))) := by omega
  cases du <;> simp only [srcD, Bool.false_eq_true] at hd
  all_goals
    simp [Builtin.append_, run_underlying ht, run_underlying hu, sizeOf, typeInfo, zeroValue, he, hz, hn, hle, h63', h48', Question.forced, hf, ho, newRow, grownCap]
    congr 2
    apply Array.ext'
    simp [List.append_assoc]
end
end
end Go.Ev
namespace Go.Ev
section
variable {P : Program} {gl : Globs} {σ : AHeap} {G : Gh} {w : World}
noncomputable def appNew (esz bytes : Nat) (σ : AHeap) (need : Nat) (cells : List AVal) : Option (AVal × AHeap) :=
  bif Nat.ble (Nat.mul need bytes) 1099511627776 && Nat.ble need 1099511627776 then some (.sl σ.next 0 need esz none, σ.push (.cells cells 0 false)) else none
noncomputable def appendA (esz bytes : Nat) (σ : AHeap) (s x : AVal) : Option (AVal × AHeap) :=
  match srcA σ esz x with
  | none => none
  | some (n, xs) =>
    match s with
    | .nils => bif Nat.beq n 0 then some (.nils, σ) else appNew esz bytes σ n xs
    | .vb len m => bif Nat.beq n 0 then some (.vb len m, σ) else none
    | .vs cells esz' len full =>
      bif Nat.beq n 0 then some (.vs cells esz' len full, σ)
      else bif full && Nat.beq esz esz' then appNew esz bytes σ (Nat.add len n) (cells ++ xs) else none
    | .sl b off len esz' cap =>
      bif Nat.beq n 0 then some (.sl b off len esz' cap, σ)
      else bif Nat.beq esz esz' && okCells xs then
        (match σ.get b with
        | some (.cells cs pr full) =>
          (match cap with
          | some c =>
            bif Nat.ble (Nat.add len n) c then
              (bif Nat.ble pr (Nat.add off (Nat.mul len esz)) then (match lay cs xs (Nat.add off (Nat.mul len esz)) with
                | some cs' => some (.sl b off (Nat.add len n) esz (some c), σ.set b (.cells cs' pr full))
                | none => none) else none)
            else (match mid cs off (Nat.mul len esz) with
              | some old => appNew esz bytes σ (Nat.add len n) (old ++ xs)
              | none => none)
          | none =>
            bif Nat.blt 0 len && Nat.ble (Nat.add off (Nat.mul (Nat.add len n) esz)) cs.length then
              (bif Nat.ble pr (Nat.add off (Nat.mul len esz)) then (match lay cs xs (Nat.add off (Nat.mul len esz)) with
                | some cs' => some (.sl b off (Nat.add len n) esz none, σ.set b (.cells cs' pr full))
                | none => none) else none)
            else (match mid cs off (Nat.mul len esz) with
              | some old =>
                bif Nat.ble pr (Nat.add off (Nat.mul len esz)) && (Nat.ble (Nat.mul (Nat.add len n) bytes) 1099511627776 && Nat.ble (Nat.add len n) 1099511627776) then
                  some (.sl σ.next 0 (Nat.add len n) esz none, (σ.del b).push (.cells (old ++ xs) (Nat.sub pr off) false))
                else none
              | none => none))
        | _ => none)
      else none
    | _ => none
theorem grown_ge (w : World) (need old : Nat) (e : TypeId) : need ≤ grownCap w need old e := by
  show need ≤ need + _
  omega
/-- A new block behind an append. -/
theorem newb_ok (hw : WInv gl G σ w) {w' : World} {c : Array Value} {e : TypeId} (nb : Newb w w' (.cells c e (0, 0))) {cells : List AVal} {vs : List Value} (hv : VRels G w cells vs) (hc : c.toList.take vs.length = vs) (pr : Nat) {need esz cap : Nat}
    (hcap : cap * esz = c.size) (hn : need ≤ cap) :
    ∃ G', WInv gl G' (σ.push (.cells cells pr false)) w' ∧ Ext σ G w (σ.push (.cells cells pr false)) G' w' ∧ VRel G' w' (.sl σ.next 0 need esz none) (.slice (some ⟨w.heap.size, 0, none⟩) need cap) := by
  have hl := hv.length
  have hle : vs.length ≤ c.size := by
    have := congrArg List.length hc
    rw [List.length_take] at this
    have h2 : c.toList.length = c.size := Array.length_toList
    omega
  obtain ⟨G', h1, h2, h3⟩ := hw.push nb (.cells cells pr false) (fun G' g => ⟨c, e, _, nb.here, by omega, (fun h => by cases h), rfl, by
    rw [List.drop_zero, hl, hc]; exact hv.mono g⟩)
  refine ⟨G', h1, h2, ?_⟩
  have := VRel.sl (G := G') (w := w') σ.next 0 need esz none w.heap.size 0 cap c.size e h3 (by simp only [World.shape?, nb.here]) hn (by omega) (fun _ => by omega) (fun _ h => by cases h)
  simpa using this
theorem take_app (os vs : List Value) (r : Array Value) : (os.toArray ++ vs.toArray ++ r).toList.take (os ++ vs).length = os ++ vs := by
  have : (os.toArray ++ vs.toArray ++ r).toList = (os ++ vs) ++ r.toList := by simp
  rw [this, List.take_left]
theorem appNew_ok (hw : WInv gl G σ w) (t u ty e : TypeId) (ei : TypeInfo) (du : TypeDesc) (ht : P.underlying t = some (.slice e)) (hu : P.underlying u = some du) (hd : srcD du = true) (he : P.info? e = some ei)
    (z : Value) (hz : ei.zero = some z) (hzs : z.cells.size = ei.size) (base : Option Addr) (sLen sCap n : Nat) (x : Value) (hn : (Builtin.lenOf x).run P w = .ok n w) (vs os : List Value)
    (hf : (Builtin.firstCells ei.size n x).run P w.drew = .ok vs.toArray w.drew) (ho : (Builtin.firstCells ei.size sLen (.slice base sLen sCap)).run P w.drew = .ok os.toArray w.drew)
    (hvl : vs.length = n * ei.size) (hol : os.length = sLen * ei.size) (hle : ¬ sLen + n ≤ sCap) {cells : List AVal} (hc : VRels G w cells (os ++ vs)) (pr : Nat)
    (hb : (sLen + n) * ei.bytes ≤ 1099511627776) (hb1 : sLen + n ≤ 1099511627776) :
    ∃ y w' G', (Builtin.append_ #[t, u] ty #[.slice base sLen sCap, x]).run P w = .ok y w' ∧ WInv gl G' (σ.push (.cells cells pr false)) w' ∧ Ext σ G w (σ.push (.cells cells pr false)) G' w' ∧ VRel G' w' (.sl σ.next 0 (sLen + n) ei.size none) y := by
  have hw' := hw.same (Same.drew w)
  have hg := grown_ge w (sLen + n) sCap e
  have hcap : grownCap w (sLen + n) sCap e * ei.size = (os.toArray ++ vs.toArray ++ Builtin.zeroCells z.cells (grownCap w (sLen + n) sCap e - (sLen + n))).size := by
    rw [Array.size_append, Array.size_append, size_zeroCells, List.size_toArray, List.size_toArray, hvl, hol, hzs, ← Nat.add_mul, ← Nat.add_mul]
    congr 1
    omega
  obtain ⟨G', m1, m2, m3⟩ := newb_ok hw' (Newb.alloc w.drew (.cells (os.toArray ++ vs.toArray ++ Builtin.zeroCells z.cells (grownCap w (sLen + n) sCap e - (sLen + n))) e)) (hc.mono (Same.drew w).goes) (take_app os vs _) pr hcap hg
  exact ⟨_, _, G', run_app_new t u ty e ei du ht hu hd he base sLen sCap n x z hz hn vs os hf ho hle hb hb1, m1, (Ext.same (Same.drew w)).trans m2, m3⟩
/-- In place, beyond what is known of the block: another name holds it. -/
theorem moveTo_ok (hw : WInv gl G σ w) {b B o off m : Nat} {cs old xs : List AVal} {pr : Nat} {f : Bool} (hg : σ.get b = some (.cells cs pr f)) (ho : G.own b = some (B, o)) (hp : pr ≤ off + m) (hm : mid cs off m = some old)
    {vs : List Value} (hv : VRels G w xs vs) (h1 : ∀ v ∈ vs, v.oneCell' = true) {e : TypeId} {sz : Nat} (hs : w.shape? B = some (e, sz)) (hroom : o + off + m + vs.length ≤ sz) :
    ∃ w' G', (storeCells ⟨B, o + off + m, none⟩ vs).run P w = .ok () w' ∧ WInv gl G' ((σ.del b).push (.cells (old ++ xs) (pr - off) false)) w' ∧ Ext σ G w ((σ.del b).push (.cells (old ++ xs) (pr - off) false)) G' w' ∧
      G'.own σ.next = some (B, o + off) ∧ w'.shape? B = some (e, sz) := by
  obtain ⟨c, e', h2, h3, h4, h5⟩ := blk_cells hw hg ho
  have hcs : e' = e ∧ c.size = sz := by
    simp only [World.shape?, h2, Option.some.injEq, Prod.mk.injEq] at hs
    exact hs
  obtain ⟨rfl, rfl⟩ := hcs
  obtain ⟨m1, m2⟩ := mid_rel h5 hm
  have hmid := mid_some hm
  have hml := mid_eq hm
  have hst := run_storeCells_at (P := P) B (o + off + m) e' vs 0 c w h2 (by omega) h1
  rw [Nat.add_zero] at hst
  generalize hc' : (c.toList.take (o + off + m) ++ vs ++ c.toList.drop (o + off + m + vs.length)).toArray = c' at hst
  have hget : ∀ j, c'[j]? = if j < o + off + m then c[j]? else if j < o + off + m + vs.length then vs[j - (o + off + m)]? else c[j]? := fun j => by
    rw [← hc', List.getElem?_toArray, get_lay c.toList vs (o + off + m) j (by have := Array.length_toList (xs := c); omega)]
    simp only [Array.getElem?_toList]
  have hsize : c'.size = c.size := by
    rw [← hc', List.size_toArray]
    simp only [List.length_append, List.length_take, List.length_drop, Array.length_toList]
    omega
  have hhere : (w.setRow B c').heap[B]? = some (.cells c' e' (0, 0)) := setRow_heap w B c c' e' (0, 0) h2
  have hwr : Wrote w (w.setRow B c') B (.cells c' e' (0, 0)) := ⟨hhere, fun B' hB' => setRow_other w B B' c' hB', by simp, rfl, rfl, rfl⟩
  have hvl := hv.length
  obtain ⟨G', k1, k2, k3⟩ := hw.move (o2 := o + off) (k' := .cells (old ++ xs) (pr - off) false) hg ho hwr (fun i hi => by
    obtain ⟨_, hk⟩ := hw.imm B i hi
    obtain ⟨cs1, p1, f1, hk1, hlt⟩ := hk b _ o hg ho
    cases hk1
    exact ⟨by rw [cell_of_cells hhere, cell_of_cells h2, hget, if_pos (by omega)], _, _, _, rfl, by omega⟩) (fun e n hs => by
    simp only [World.shape?, h2, Option.some.injEq, Prod.mk.injEq] at hs
    simp only [World.shape?, hhere, hsize]
    rw [hs.1, hs.2]) (fun G' g => ⟨c', e', _, hhere, by rw [List.length_append, hmid.2, hsize]; omega, (fun h => by cases h), rfl, by
      refine VRels.of_get ?_ fun i a v ha hv' => ?_
      · simp only [List.length_take, List.length_drop, List.length_append, hmid.2]
        have : c'.toList.length = c'.size := Array.length_toList
        omega
      · rw [List.getElem?_take] at hv'
        split at hv'
        · rename_i hi
          rw [List.getElem?_drop, Array.getElem?_toList, hget] at hv'
          rw [List.getElem?_append, hmid.2] at ha
          rw [List.length_append, hmid.2] at hi
          by_cases c1 : i < m
          · rw [if_pos c1] at ha
            rw [if_pos (by omega)] at hv'
            obtain ⟨x, hx, hr⟩ := m1.get ha
            rw [List.getElem?_take, if_pos c1, List.getElem?_drop, List.getElem?_take] at hx
            split at hx
            · rw [List.getElem?_drop, Array.getElem?_toList] at hx
              rw [show o + off + i = o + (off + i) by omega, hx] at hv'
              cases hv'
              exact hr.mono g
            · cases hx
          · rw [if_neg c1] at ha
            rw [if_neg (by omega), if_pos (by omega)] at hv'
            obtain ⟨x, hx, hr⟩ := hv.get ha
            rw [show o + off + i - (o + off + m) = i - m by omega, hx] at hv'
            cases hv'
            exact hr.mono g
        · cases hv'⟩)
  exact ⟨w.setRow B c', G', hst, k1, k2, k3, by simp only [World.shape?, hhere, hsize]⟩
theorem appendA_ok (hw : WInv gl G σ w) (t u ty e : TypeId) (ei : TypeInfo) (du : TypeDesc) (ht : P.underlying t = some (.slice e)) (hu : P.underlying u = some du) (hd : srcD du = true) (he : P.info? e = some ei)
    (z : Value) (hz : ei.zero = some z) (hzs : z.cells.size = ei.size) (hz0 : 0 < ei.size) {s x : AVal} {ys yx : Value} (hs : VRel G w s ys) (hx : VRel G w x yx) :
    VOk P gl σ G w (appendA ei.size ei.bytes σ s x) (Builtin.append_ #[t, u] ty #[ys, yx]) := by
  intro v σ' hv
  unfold appendA at hv
  split at hv
  · cases hv
  rename_i n xs hsrc
  obtain ⟨hn, vs, hvr, hvl, hf⟩ := srcA_ok (P := P) hw hx hsrc
  have hfw := hf w (Same.refl w)
  have hfd := hf w.drew (Same.drew w)
  have keep : Nat.beq n 0 = true → n = 0 ∧ vs = [] := fun h => by
    have h0 := Nat.eq_of_beq_eq_true h
    subst h0
    exact ⟨rfl, List.eq_nil_of_length_eq_zero (by rw [hvl]; omega)⟩
  have npos : Nat.beq n 0 = false → 0 < n := fun h => by
    rcases Nat.eq_zero_or_pos n with rfl | h'
    · cases h
    · exact h'
  have xne : 0 < n → xs ≠ [] := fun h e => by
    subst e
    have := hvr.length
    have : 0 < n * ei.size := Nat.mul_pos h hz0
    simp at *
    omega
  have appN : ∀ need cells, appNew ei.size ei.bytes σ need cells = some (v, σ') → need * ei.bytes ≤ 1099511627776 ∧ need ≤ 1099511627776 ∧ v = .sl σ.next 0 need ei.size none ∧ σ' = σ.push (.cells cells 0 false) := fun need cells h => by
    unfold appNew at h
    cases hb : (Nat.ble (Nat.mul need ei.bytes) 1099511627776 && Nat.ble need 1099511627776)
    · rw [hb] at h; cases h
    · rw [hb] at h; cases h
      rw [Bool.and_eq_true, Nat.ble_eq, Nat.ble_eq] at hb
      exact ⟨hb.1, hb.2, rfl, rfl⟩
  split at hv
  · -- nil
    cases hs
    cases hb : Nat.beq n 0
    · rw [hb] at hv
      have hnp := npos hb
      obtain ⟨b1, b2, rfl, rfl⟩ := appN _ _ hv
      obtain ⟨y, w', G', k1, k2, k3, k4⟩ := appNew_ok (P := P) hw t u ty e ei du ht hu hd he z hz hzs none 0 0 n yx hn vs [] hfd (by simp [Builtin.firstCells]) hvl (by simp) (by omega) hvr 0 (by simpa using b1) (by simpa using b2)
      rw [Nat.zero_add] at k4
      exact ⟨y, w', G', k1, k2, k3, k4⟩
    · rw [hb] at hv; cases hv
      obtain ⟨rfl, rfl⟩ := keep hb
      exact ⟨_, w, G, run_app_keep t u ty e ei du ht hu hd he none 0 0 yx hn hfw (Nat.le_refl _), hw, .refl _ _ _, .nils⟩
  · cases hb : Nat.beq n 0
    · rw [hb] at hv; cases hv
    · rw [hb] at hv; cases hv
      obtain ⟨rfl, rfl⟩ := keep hb
      cases hs with
      | vb _ _ B o c bs h1 h2 hr hl => exact ⟨_, w, G, run_app_keep t u ty e ei du ht hu hd he _ _ c yx hn hfw hl, hw, .refl _ _ _, .vb _ _ B o c bs h1 h2 hr hl⟩
  · rename_i cells esz' len full
    cases hb : Nat.beq n 0
    · rw [hb] at hv
      have hnp := npos hb
      simp only [cond_false] at hv
      cases hb2 : (full && Nat.beq ei.size esz')
      · rw [hb2] at hv; cases hv
      · rw [hb2] at hv
        rw [Bool.and_eq_true, Nat.beq_eq] at hb2
        obtain ⟨hfull, rfl⟩ := hb2
        obtain ⟨b1, b2, rfl, rfl⟩ := appN _ _ hv
        cases hs with
        | vs _ _ _ _ B o c os hr hss hn' hl hfl =>
          have hcl := hfl hfull
          subst hcl
          have hol : os.length = c * ei.size := by rw [← hss.length]; exact hn'
          have ho : (Builtin.firstCells ei.size c (.slice (some ⟨B, o, none⟩) c c)).run P w.drew = .ok os.toArray w.drew := run_loadCells_of (w := w.drew) hol fun j v hj => (hr j v hj).2
          obtain ⟨y, w', G', k1, k2, k3, k4⟩ := appNew_ok (P := P) hw t u ty e ei du ht hu hd he z hz hzs (some ⟨B, o, none⟩) c c n yx hn vs os hfd ho hvl hol (by omega) (hss.append hvr) 0 b1 b2
          exact ⟨y, w', G', k1, k2, k3, k4⟩
    · rw [hb] at hv; cases hv
      obtain ⟨rfl, rfl⟩ := keep hb
      cases hs with
      | vs _ _ _ _ B o c os hr hss hn' hl hfl => exact ⟨_, w, G, run_app_keep t u ty e ei du ht hu hd he _ _ c yx hn hfw hl, hw, .refl _ _ _, .vs _ _ _ _ B o c os hr hss hn' hl hfl⟩
  · rename_i b off len esz' cap
    cases hb : Nat.beq n 0
    · rw [hb] at hv
      have hnp := npos hb
      simp only [cond_false] at hv
      cases hb2 : (Nat.beq ei.size esz' && okCells xs)
      · rw [hb2] at hv; cases hv
      · rw [hb2] at hv
        rw [Bool.and_eq_true, Nat.beq_eq] at hb2
        obtain ⟨rfl, hok⟩ := hb2
        have hone := okCells_one hvr hok
        have hxne := xne hnp
        simp only [cond_true] at hv
        split at hv
        · rename_i cs pr full hg
          -- the old cells, for a new block
          have olds : ∀ old, mid cs off (Nat.mul len ei.size) = some old → ∀ (base : Addr) (c : Nat), (len = 0 ∨ ∃ B o, G.own b = some (B, o) ∧ base = ⟨B, o + off, none⟩) →
              ∃ os : List Value, VRels G w old os ∧ os.length = len * ei.size ∧ (Builtin.firstCells ei.size len (.slice (some base) len c)).run P w.drew = .ok os.toArray w.drew := by
            intro old hm base c hbase
            rcases hbase with h0 | ⟨B, o, hown, rfl⟩
            · subst h0
              have h0l : old = [] := List.eq_nil_of_length_eq_zero (by rw [(mid_some hm).2]; show 0 * ei.size = 0; omega)
              subst h0l
              exact ⟨[], .nil, by simp, by simp [Builtin.firstCells, loadCells, loadCellsFrom]⟩
            · have hlo : loadA σ (.ptr b off) (Nat.mul len ei.size) = some old := by simp only [loadA, hg]; exact hm
              obtain ⟨B', o', os, k1, k2, k3, k4⟩ := loadA_ok hw (VRel.ptr (w := w) b off B o hown) hlo
              cases k1
              exact ⟨os, k3, k2, run_loadCells_of (w := w.drew) k2 fun j v hj => k4 j v hj⟩
          -- a new block, the old one staying
          have fresh : ∀ (base : Addr) (c : Nat) old, mid cs off (Nat.mul len ei.size) = some old → (len = 0 ∨ ∃ B o, G.own b = some (B, o) ∧ base = ⟨B, o + off, none⟩) → ¬ len + n ≤ c →
              appNew ei.size ei.bytes σ (Nat.add len n) (old ++ xs) = some (v, σ') →
              ∃ y w' G', (Builtin.append_ #[t, u] ty #[.slice (some base) len c, yx]).run P w = .ok y w' ∧ WInv gl G' σ' w' ∧ Ext σ G w σ' G' w' ∧ VRel G' w' v y := by
            intro base c old hm hbase hle ha
            obtain ⟨b1, b2, rfl, rfl⟩ := appN _ _ ha
            obtain ⟨os, o1, o2, o3⟩ := olds old hm base c hbase
            exact appNew_ok (P := P) hw t u ty e ei du ht hu hd he z hz hzs (some base) len c n yx hn vs os hfd o3 hvl o2 hle (o1.append hvr) 0 b1 b2
          have place : ∀ B o c sz e', G.own b = some (B, o) → w.shape? B = some (e', sz) → o + off + c * ei.size ≤ sz → len + n ≤ c → ∀ cs', Nat.ble pr (Nat.add off (Nat.mul len ei.size)) = true → lay cs xs (Nat.add off (Nat.mul len ei.size)) = some cs' →
              ∃ w', (Builtin.append_ #[t, u] ty #[.slice (some ⟨B, o + off, none⟩) len c, yx]).run P w = .ok (.slice (some ⟨B, o + off, none⟩) (len + n) c) w' ∧ WInv gl G (σ.set b (.cells cs' pr full)) w' ∧ Ext σ G w (σ.set b (.cells cs' pr full)) G w' := by
            intro B o c sz e' hown hz' hroom hle cs' hp hl
            obtain ⟨w', k1, k2, k3⟩ := write_ok (P := P) hw hg hown (Nat.le_of_ble_eq_true hp) hl hvr hxne hone
            refine ⟨w', run_app_room t u ty e ei du ht hu hd he _ len c n yx hn vs hfw hle ?_, k2, k3⟩
            rw [addr_add, Nat.add_assoc]
            exact k1
          split at hv
          · -- a known capacity
            rename_i c0
            cases hle : Nat.ble (Nat.add len n) c0
            · rw [hle] at hv
              simp only [cond_false] at hv
              have hle' : ¬ len + n ≤ c0 := fun h => by
                have h2 : Nat.ble (Nat.add len n) c0 = true := by rw [Nat.ble_eq]; exact h
                rw [hle] at h2; cases h2
              split at hv
              · rename_i old hm
                cases hs with
                | sl _ _ _ _ _ B o c sz e' hown hz' hl hc h1 h2 =>
                  have := h2 c0 rfl
                  subst this
                  exact fresh _ _ old hm (.inr ⟨B, o, hown, rfl⟩) hle' hv
                | sl0 _ _ _ _ a h0 =>
                  have := h0 c0 rfl
                  subst this
                  exact fresh _ _ old hm (.inl rfl) hle' hv
              · cases hv
            · rw [hle] at hv
              have hle' : len + n ≤ c0 := Nat.le_of_ble_eq_true hle
              simp only [cond_true] at hv
              cases hp : Nat.ble pr (Nat.add off (Nat.mul len ei.size))
              · rw [hp] at hv; cases hv
              · rw [hp] at hv
                simp only [cond_true] at hv
                split at hv
                · rename_i cs' hlay
                  cases hv
                  cases hs with
                  | sl _ _ _ _ _ B o c sz e' hown hz' hl hc h1 h2 =>
                    have := h2 c0 rfl
                    subst this
                    obtain ⟨w', k1, k2, k3⟩ := place B o c0 sz e' hown hz' hc hle' cs' hp hlay
                    exact ⟨_, w', G, k1, k2, k3, .sl b off (len + n) ei.size (some c0) B o c0 sz e' hown (k3.goes.shape _ _ _ hz') hle' hc (fun h => by cases h) h2⟩
                  | sl0 _ _ _ _ a h0 =>
                    have := h0 c0 rfl
                    omega
                · cases hv
          · -- an unknown one
            cases hin : (Nat.blt 0 len && Nat.ble (Nat.add off (Nat.mul (Nat.add len n) ei.size)) cs.length)
            · rw [hin] at hv
              simp only [cond_false] at hv
              split at hv
              · rename_i old hm
                cases hbb : (Nat.ble pr (Nat.add off (Nat.mul len ei.size)) && (Nat.ble (Nat.mul (Nat.add len n) ei.bytes) 1099511627776 && Nat.ble (Nat.add len n) 1099511627776))
                · rw [hbb] at hv; cases hv
                · rw [hbb] at hv
                  cases hv
                  rw [Bool.and_eq_true, Bool.and_eq_true, Nat.ble_eq, Nat.ble_eq, Nat.ble_eq] at hbb
                  obtain ⟨hp, b1, b2⟩ := hbb
                  have grow : ∀ (base : Addr) (c : Nat), (len = 0 ∨ ∃ B o, G.own b = some (B, o) ∧ base = ⟨B, o + off, none⟩) → ¬ len + n ≤ c →
                      ∃ y w' G', (Builtin.append_ #[t, u] ty #[.slice (some base) len c, yx]).run P w = .ok y w' ∧ WInv gl G' ((σ.del b).push (.cells (old ++ xs) (pr - off) false)) w' ∧
                        Ext σ G w ((σ.del b).push (.cells (old ++ xs) (pr - off) false)) G' w' ∧ VRel G' w' (.sl σ.next 0 (len + n) ei.size none) y := by
                    intro base c hbase hle
                    obtain ⟨os, o1, o2, o3⟩ := olds old hm base c hbase
                    obtain ⟨f1, f2⟩ := hw.forget b
                    obtain ⟨y, w', G', k1, k2, k3, k4⟩ := appNew_ok (P := P) f1 t u ty e ei du ht hu hd he z hz hzs (some base) len c n yx hn vs os hfd o3 hvl o2 hle (o1.append hvr) (pr - off) b1 b2
                    exact ⟨y, w', G', k1, k2, f2.trans k3, k4⟩
                  cases hs with
                  | sl _ _ _ _ _ B o c sz e' hown hz' hl hc h1 h2 =>
                    by_cases hle : len + n ≤ c
                    · have hsz := h1 rfl
                      have hroom : o + off + len * ei.size + vs.length ≤ sz := by
                        rw [hvl]
                        have h5 : (len + n) * ei.size ≤ c * ei.size := Nat.mul_le_mul_right _ hle
                        rw [Nat.add_mul] at h5
                        omega
                      obtain ⟨w', G', k1, k2, k3, k4, k5⟩ := moveTo_ok (P := P) hw hg hown hp hm hvr hone hz' hroom
                      refine ⟨_, w', G', run_app_room t u ty e ei du ht hu hd he _ len c n yx hn vs hfw hle (by rw [addr_add]; exact k1), k2, k3, ?_⟩
                      have := VRel.sl (G := G') (w := w') σ.next 0 (len + n) ei.size none B (o + off) c sz e' k4 k5 hle (by omega) (fun _ => by omega) (fun _ h => by cases h)
                      simpa using this
                    · exact grow _ c (.inr ⟨B, o, hown, rfl⟩) hle
                  | sl0 _ _ _ _ a h0 => exact grow _ 0 (.inl rfl) (by omega)
              · cases hv
            · rw [hin] at hv
              rw [Bool.and_eq_true, blt_iff, Nat.ble_eq] at hin
              obtain ⟨hlen0, hin⟩ := hin
              simp only [cond_true] at hv
              cases hp : Nat.ble pr (Nat.add off (Nat.mul len ei.size))
              · rw [hp] at hv; cases hv
              · rw [hp] at hv
                simp only [cond_true] at hv
                split at hv
                · rename_i cs' hlay
                  cases hv
                  cases hs with
                  | sl _ _ _ _ _ B o c sz e' hown hz' hl hc h1 h2 =>
                    have hsz := h1 rfl
                    obtain ⟨cc, ee, q1, q2, _, _⟩ := blk_cells hw hg hown
                    have hcc : cc.size = sz := by
                      simp only [World.shape?, q1, Option.some.injEq, Prod.mk.injEq] at hz'
                      exact hz'.2
                    have hle' : len + n ≤ c := by
                      have hin' : off + (len + n) * ei.size ≤ cs.length := hin
                      have : (len + n) * ei.size ≤ c * ei.size := by omega
                      exact Nat.le_of_mul_le_mul_right this hz0
                    obtain ⟨w', k1, k2, k3⟩ := place B o c sz e' hown hz' hc hle' cs' hp hlay
                    exact ⟨_, w', G, k1, k2, k3, .sl b off (len + n) ei.size none B o c sz e' hown (k3.goes.shape _ _ _ hz') hle' hc (fun _ => hsz) (fun _ h => by cases h)⟩
                  | sl0 _ _ _ _ a h0 => omega
                · cases hv
        · cases hv
    · rw [hb] at hv; cases hv
      obtain ⟨rfl, rfl⟩ := keep hb
      cases hs with
      | sl _ _ _ _ _ B o c sz e' hown hz' hl hc h1 h2 => exact ⟨_, w, G, run_app_keep t u ty e ei du ht hu hd he _ _ c yx hn hfw hl, hw, .refl _ _ _, .sl b off len esz' cap B o c sz e' hown hz' hl hc h1 h2⟩
      | sl0 _ _ _ _ a h0 => exact ⟨_, w, G, run_app_keep t u ty e ei du ht hu hd he _ _ 0 yx hn hfw (Nat.le_refl _), hw, .refl _ _ _, .sl0 b off esz' cap a h0⟩
  · cases hv
end
end Go.Ev
