/-
  EVALUATOR, PART M: make, maps, going through a text.
  EVALUATOR, PART N: going through a text.
  EVALUATOR, PART O: one operation.
  EVALUATOR, PART P: an operation made ready, and that it is the model's.
  EVALUATOR, PART Q: that an operation made ready does what the model's does.
  EVALUATOR, PART R: every operation.
-/
import Derived.Test.YtdnomdojlkiadaaGreatDoorEvTwo
import Derived.Laws.MakeOwn
namespace Go.Ev
section
variable {P : Program} {gl : Globs} {σ : AHeap} {G : Gh} {w : World}
noncomputable def mkSlice (zc : List AVal) (esz bytes : Nat) (σ : AHeap) (l c : AVal) : Option (AVal × AHeap) :=
  match natOf l, natOf c with
  | some l, some c => bif Nat.ble l c && (Nat.ble (Nat.mul c bytes) 1099511627776 && Nat.ble c 1099511627776) then some (.sl σ.next 0 l esz (some c), σ.push (.cells (zrep zc c) 0 true)) else none
  | _, _ => none
theorem mkSlice_ok (hw : WInv gl G σ w) (t e : TypeId) (ei : TypeInfo) (z : Value) (ht : P.underlying t = some (.slice e)) (he : P.info? e = some ei) (hz : ei.zero = some z) (hzs : z.cells.size = ei.size) (hz0 : 0 < ei.size)
    {al ac : AVal} {xl xc : Value} (hl : VRel G w al xl) (hc : VRel G w ac xc) : VOk P gl σ G w (mkSlice (z.cells.toList.map ofVal1) ei.size ei.bytes σ al ac) (Instr.makeSlice t xl xc) := by
  intro v σ' hv
  unfold mkSlice at hv
  split at hv
  · rename_i l c e1 e2
    cases hb : (Nat.ble l c && (Nat.ble (Nat.mul c ei.bytes) 1099511627776 && Nat.ble c 1099511627776))
    · rw [hb] at hv; cases hv
    · rw [hb] at hv; cases hv
      rw [Bool.and_eq_true, Bool.and_eq_true, Nat.ble_eq, Nat.ble_eq, Nat.ble_eq] at hb
      obtain ⟨b1, b2, b3⟩ := hb
      have b2' : c * ei.bytes ≤ 1099511627776 := b2
      obtain ⟨k1, rfl⟩ := natOf_ok hl e1
      obtain ⟨k2, rfl⟩ := natOf_ok hc e2
      have hzr := zrep_ok (G := G) (w := w) (map_ofVal1_ok z.cells.toList) (by omega) c
      rw [hzs] at hzr
      have hlen := hzr.length
      generalize hrow : (Array.range (c * ei.size)).map (fun i => z.cells[i % ei.size]!) = row at hzr hlen
      have hrs : row.size = c * ei.size := by rw [← hrow]; simp
      have hlen' : (zrep (z.cells.toList.map ofVal1) c).length = row.size := hlen.trans Array.length_toList
      obtain ⟨G', m1, m2, m3⟩ := hw.push (Newb.alloc w (.cells row e)) (.cells (zrep (z.cells.toList.map ofVal1) c) 0 true) (fun G' g => ⟨row, e, _, (Newb.alloc w (.cells row e)).here, by omega, fun _ => by omega, rfl, by
        rw [List.drop_zero, hlen, List.take_length]; exact hzr.mono g⟩)
      refine ⟨.slice (some ⟨w.heap.size, 0, none⟩) l c, w.alloc (.cells row e), G', ?_, m1, m2, ?_⟩
      · have n2 : (ei.bytes : Int) * (c : Int) ≤ 281474976710656 := by
          have h1 : ((c * ei.bytes : Nat) : Int) ≤ ((1099511627776 : Nat) : Int) := Int.ofNat_le.2 b2'
          rw [Int.natCast_mul, Int.mul_comm] at h1
          omega
        have hr := run_make (P := P) w t e ei z ht he hz k1 k2 (l : Int) (c : Int) (by omega) (by omega) n2 (by omega)
        have hrow2 : madeCells z.cells ((c : Int).toNat * ei.size) = row := by rw [Int.toNat_natCast, ← hrow]; unfold madeCells; rw [hzs]
        rw [hr, hrow2, Int.toNat_natCast, Int.toNat_natCast]
      · have := VRel.sl (G := G') (w := w.alloc (.cells row e)) σ.next 0 l ei.size (some c) w.heap.size 0 c row.size e m3 (by simp only [World.shape?, (Newb.alloc w (.cells row e)).here]) b1 (by omega) (fun h => by cases h) (fun c' h => by cases h; rfl)
        simpa using this
  · cases hv

/-! ### Maps -/
noncomputable def mkMap (σ : AHeap) : Option (AVal × AHeap) := some (.map σ.next, σ.push (.map [] 0))
theorem mkMap_ok (hw : WInv gl G σ w) (t k e : TypeId) (ht : P.underlying t = some (.map k e)) (r : Option Value) (hr : ∀ x, r = some x → ∃ k n, x = .int k n) : VOk P gl σ G w (mkMap σ) (Instr.makeMap t r) := by
  intro v σ' hv
  cases hv
  obtain ⟨G', m1, m2, m3⟩ := hw.push (Newb.alloc w (.map #[] 0)) (.map [] 0) (fun G' g => ⟨rfl, #[], (Newb.alloc w (.map #[] 0)).here, .nil, fun x hx => by cases hx⟩)
  refine ⟨.map (some w.heap.size), w.alloc (.map #[] 0), G', ?_, m1, m2, .map _ _ m3⟩
  cases r with
  | none => simp [Instr.makeMap]
  | some x =>
    obtain ⟨k, n, rfl⟩ := hr x rfl
    simp [Instr.makeMap, run_underlying ht, asInt, asIntOf]
/-- Are two keys of a plain kind the same? -/
def keyEq (d : TypeDesc) (a b : AVal) : Option Bool :=
  match d with
  | .string => (match a with | .str l n => (match b with | .str m q => some (Nat.beq l m && Nat.beq n q) | _ => none) | _ => none)
  | .int _ => (match a with | .int k n => (match b with | .int k' m => bif keq k k' then some (ieq n m) else none | _ => none) | _ => none)
  | .bool => (match a with | .bool x => (match b with | .bool y => some (x == y) | _ => none) | _ => none)
  | _ => none
theorem ba_beq (a b : ByteArray) : (a == b) = (a.toList == b.toList) := by
  have h0 : (a == b) = (a.data == b.data) := by cases a; cases b; rfl
  rw [h0, Bool.eq_iff_iff, beq_iff_eq, beq_iff_eq, ByteArray.toList_eq, ByteArray.toList_eq]
  exact ⟨fun h => by rw [h], fun h => Array.toList_inj.1 h⟩
theorem keyEq_ok {d : TypeDesc} {a b : AVal} {x y : Value} (ha : VRel G w a x) (hb : VRel G w b y) {r : Bool} (h : keyEq d a b = some r) : Instr.sameNow d x y = some r ∧ (r = true → x = y ∧ Instr.sameBits 10000 x x = true) := by
  cases d <;> simp only [keyEq, reduceCtorEq] at h
  case string =>
    cases ha <;> simp only [reduceCtorEq] at h
    cases hb <;> simp only [reduceCtorEq, Option.some.injEq] at h
    rename_i _ h1 h2 _ _ _ h3 h4
    subst h
    cases h2; cases h4
    rename_i s _ s' _
    rw [← h1, ← h3, ← ba_toList, ← ba_toList, str_eq_iff]
    refine ⟨by rw [← ba_beq]; rfl, fun h => ?_⟩
    have e : s = s' := by
      rw [beq_iff_eq, ByteArray.toList_eq, ByteArray.toList_eq] at h
      exact ByteArray.ext (Array.toList_inj.1 h)
    subst e
    have e2 : (s == s) = true := by rw [ba_beq]; simp
    exact ⟨rfl, e2⟩
  case int kd =>
    cases ha <;> simp only [reduceCtorEq] at h
    cases hb <;> simp only [reduceCtorEq] at h
    rename_i k n k' m
    cases hk : keq k k'
    · rw [hk] at h; cases h
    · rw [hk] at h; cases h
      have := keq_iff.1 hk
      subst this
      rw [ieq_eq]
      exact ⟨by simp [Instr.sameNow], fun h => by
        have e := beq_iff_eq.1 h
        subst e
        simp [Instr.sameBits]⟩
  case bool =>
    cases ha <;> simp only [reduceCtorEq] at h
    cases hb <;> simp only [reduceCtorEq, Option.some.injEq] at h
    subst h
    refine ⟨rfl, fun h => ?_⟩
    have e := beq_iff_eq.1 h
    subst e
    simp [Instr.sameBits]
noncomputable def findA (d : TypeDesc) (k : AVal) : List (AVal × AVal × Nat) → Nat → Option (Option (Nat × AVal))
  | [], _ => some none
  | (k', v, _) :: es, i => match keyEq d k k' with
    | some true => some (some (i, v))
    | some false => findA d k es (Nat.succ i)
    | none => none
theorem findA_ok {d : TypeDesc} {k : AVal} {x : Value} (hk : VRel G w k x) : ∀ {es : List (AVal × AVal × Nat)} {xs : List MapEntry} {i : Nat} {r : Option (Nat × AVal)}, MRels G w es xs → findA d k es i = some r →
    (r = none → Instr.findNow d x xs i = some none) ∧ (∀ j v, r = some (j, v) → ∃ y m, Instr.findNow d x xs i = some (some (j, y)) ∧ VRel G w v y ∧ j = i + m ∧ ∃ e, xs[m]? = some e ∧ x = e.key ∧ Instr.sameBits 10000 x x = true) := by
  intro es
  induction es with
  | nil =>
    intro xs i r hm h
    cases hm
    cases h
    exact ⟨fun _ => rfl, fun _ _ h => by cases h⟩
  | cons a es ih =>
    intro xs i r hm h
    cases hm with
    | cons k' v b e _ xs hk' hv hb hs =>
    simp only [findA] at h
    split at h
    · rename_i he
      cases h
      obtain ⟨q1, q2⟩ := keyEq_ok hk hk' he
      refine ⟨(fun h => by cases h), fun j v' hj => ?_⟩
      cases hj
      exact ⟨e.val, 0, by simp [Instr.findNow, q1], hv, by omega, e, rfl, q2 rfl⟩
    · rename_i he
      obtain ⟨q1, q2⟩ := keyEq_ok hk hk' he
      obtain ⟨p1, p2⟩ := ih hs h
      refine ⟨(fun hr => by simp [Instr.findNow, q1]; exact p1 hr), fun j v' hj => ?_⟩
      obtain ⟨y, m, r1, r2, r3, e', r4, r5, r6⟩ := p2 j v' hj
      exact ⟨y, m + 1, by simp [Instr.findNow, q1]; exact r1, r2, by have : Nat.succ i = i + 1 := rfl; omega, e', by simpa using r4, r5, r6⟩
    · cases h
def plainKey : TypeDesc → Bool
  | .string | .int _ | .bool => true
  | _ => false
theorem run_checkKey (b : Bool) (n : Nat) (k : TypeId) (d : TypeDesc) (hk : P.underlying k = some d) (hd : plainKey d = true) (x : Value) : (Instr.checkKey b (n + 1) k x).run P w = .ok () w := by
  rw [Instr.checkKey, Sem.run_bind, run_underlying hk]
  cases d <;> simp only [plainKey, Bool.false_eq_true] at hd <;> rfl
theorem run_findKey (k : TypeId) (d : TypeDesc) (hk : P.underlying k = some d) (x : Value) (xs : List MapEntry) {r : Option (Nat × Value)} (h : Instr.findNow d x xs 0 = some r) : (Instr.findKey k x xs).run P w = .ok r w := by
  simp [Instr.findKey, run_underlying hk, h]
noncomputable def lookA (d : TypeDesc) (zero : AVal) (ok : Bool) (σ : AHeap) (m k : AVal) : Option AVal :=
  match (match m with
    | .nilm => some []
    | .map b => (match σ.get b with | some (.map es _) => some es | _ => none)
    | _ => none) with
  | some es => (match findA d k es 0 with
    | some (some (_, v)) => some (bif ok then .tup [v, .bool true] else v)
    | some none => some (bif ok then .tup [zero, .bool false] else zero)
    | none => none)
  | none => none
theorem run_getObj {r : Nat} {o : Obj} (h : w.heap[r]? = some o) (hc : ∀ c e f, o ≠ .cells c e f) : (getObj r).run P w = .ok o w := by
  simp only [getObj, Sem.run, h]
theorem lookA_ok (hw : WInv gl G σ w) (t k e : TypeId) (d : TypeDesc) (ei : TypeInfo) (z : Value) (ok : Bool) (ht : P.underlying t = some (.map k e)) (hk : P.underlying k = some d) (hd : plainKey d = true) (he : P.info? e = some ei) (hz : ei.zero = some z)
    {am ak : AVal} {xm xk : Value} (hm : VRel G w am xm) (hkr : VRel G w ak xk) : POk P G w (lookA d (ofVal z) ok σ am ak) (Instr.lookup t xm xk ok) := by
  intro v hv
  unfold lookA at hv
  split at hv
  · rename_i es hes
    have hent : ∃ entries : Array MapEntry, MRels G w es entries.toList ∧ ((xm = .map none ∧ entries = #[]) ∨ ∃ r cl, xm = .map (some r) ∧ w.heap[r]? = some (.map entries cl)) := by
      split at hes
      · cases hes
        cases hm
        exact ⟨#[], .nil, .inl ⟨rfl, rfl⟩⟩
      · rename_i b
        split at hes
        · rename_i es' cl hg
          cases hes
          cases hm with
          | map _ B ho =>
          obtain ⟨_, entries, h1, h2, _⟩ := hw.blk' hg ho
          exact ⟨entries, h2, .inr ⟨B, cl, rfl, h1⟩⟩
        · cases hes
      · cases hes
    obtain ⟨entries, hrel, hx⟩ := hent
    have hck : ∀ b, (Instr.checkKey b 10000 k xk).run P w = .ok () w := fun b => run_checkKey b 9999 k d hk hd xk
    split at hv
    · rename_i i v' hf
      cases hv
      obtain ⟨_, p2⟩ := findA_ok hkr hrel hf
      obtain ⟨y, m, r1, r2, _⟩ := p2 _ _ rfl
      have hfk := run_findKey (P := P) (w := w) k d hk xk _ r1
      refine ⟨if ok then .tuple #[y, .bool true] else y, ?_, ?_⟩
      · rcases hx with ⟨rfl, rfl⟩ | ⟨r, cl, rfl, hr⟩
        · simp [Instr.lookup, run_underlying ht, hck, hfk]
        · simp [Instr.lookup, run_underlying ht, run_getObj hr (fun _ _ _ => nofun), hck, hfk]
      · cases ok
        · exact r2
        · exact .tup _ _ (.cons _ _ _ _ r2 (.cons _ _ _ _ (.bool _) .nil))
    · rename_i hf
      cases hv
      obtain ⟨p1, _⟩ := findA_ok hkr hrel hf
      have hfk := run_findKey (P := P) (w := w) k d hk xk _ (p1 rfl)
      refine ⟨if ok then .tuple #[z, .bool false] else z, ?_, ?_⟩
      · rcases hx with ⟨rfl, rfl⟩ | ⟨r, cl, rfl, hr⟩
        · simp [Instr.lookup, run_underlying ht, hck, hfk, run_zeroValue he hz]
        · simp [Instr.lookup, run_underlying ht, run_getObj hr (fun _ _ _ => nofun), hck, hfk, run_zeroValue he hz]
      · cases ok
        · exact ofVal_ok z
        · exact .tup _ _ (.cons _ _ _ _ (ofVal_ok z) (.cons _ _ _ _ (.bool _) .nil))
    · cases hv
  · cases hv
/-- The block of a map or of an iterator gets another content. -/
theorem setObj_ok (hw : WInv gl G σ w) {b B : Nat} {k k' : ABlk} {o o' : Obj} (hg : σ.get b = some k) (ho : G.own b = some (B, 0)) (hh : w.heap[B]? = some o) (hc : ∀ c e f, o ≠ .cells c e f)
    (hk : ∀ w', Goes G w G w' → w'.heap[B]? = some o' → BlkRel G w' B 0 k') : ∃ w', (setObj B o').run P w = .ok () w' ∧ WInv gl G (σ.set b k') w' ∧ Ext σ G w (σ.set b k') G w' := by
  let w' : World := { w with heap := w.heap.setIfInBounds B o' }
  have hB : B < w.heap.size := lt_of_heap hh
  have hhere : w'.heap[B]? = some o' := by show (w.heap.setIfInBounds B o')[B]? = _; rw [Array.getElem?_setIfInBounds_self_of_lt hB]
  have hwr : Wrote w w' B o' := ⟨hhere, fun B' hne => by show (w.heap.setIfInBounds B o')[B']? = _; rw [Array.getElem?_setIfInBounds_ne (Ne.symm hne)], by show (w.heap.setIfInBounds B o').size = _; simp, rfl, rfl, rfl⟩
  have hrun : (setObj B o').run P w = .ok () w' := by simp only [setObj, Sem.run, hh]; rfl
  have notimm : ∀ i, ¬ G.imm B i := fun i hi => by
    obtain ⟨h1, _⟩ := hw.imm B i hi
    simp only [World.cell?, hh] at h1
    cases o <;> first | exact hc _ _ _ rfl | simp at h1
  obtain ⟨h1, h2⟩ := hw.put (k' := k') hg ho hwr (fun i hi => absurd hi (notimm i)) (fun e n hs => by
    simp only [World.shape?, hh] at hs
    cases o <;> first | exact absurd rfl (hc _ _ _) | simp at hs) (fun g => hk w' g hhere)
  exact ⟨w', hrun, h1, h2⟩
theorem MRels.get {as : List (AVal × AVal × Nat)} {es : List MapEntry} (h : MRels G w as es) {i : Nat} {e : MapEntry} (he : es[i]? = some e) : ∃ k v b, as[i]? = some (k, v, b) ∧ VRel G w k e.key ∧ VRel G w v e.val ∧ e.born = b := by
  induction h generalizing i with
  | nil => simp at he
  | cons k v b e' as es hk hv hb _ ih =>
    cases i with
    | zero => simp at he; subst he; exact ⟨k, v, b, rfl, hk, hv, hb⟩
    | succ i => simpa using ih (by simpa using he)
theorem MRels.snoc {as : List (AVal × AVal × Nat)} {es : List MapEntry} (h : MRels G w as es) {k v : AVal} {b : Nat} {e : MapEntry} (hk : VRel G w k e.key) (hv : VRel G w v e.val) (hb : e.born = b) : MRels G w (as ++ [(k, v, b)]) (es ++ [e]) := by
  induction h with
  | nil => exact .cons _ _ _ _ _ _ hk hv hb .nil
  | cons k' v' b' e' as es hk' hv' hb' _ ih => exact .cons _ _ _ _ _ _ hk' hv' hb' ih
/-- Entry number i gets another key and value. -/
noncomputable def mset (k v : AVal) : List (AVal × AVal × Nat) → Nat → List (AVal × AVal × Nat)
  | [], _ => []
  | (k', v', b) :: r, i => match i with
    | 0 => (k, v, b) :: r
    | Nat.succ j => (k', v', b) :: mset k v r j
theorem MRels.mset {as : List (AVal × AVal × Nat)} {es : List MapEntry} (h : MRels G w as es) {k v : AVal} {x y : Value} (hk : VRel G w k x) (hv : VRel G w v y) (i : Nat) : MRels G w (mset k v as i) (es.modify i fun e => { e with key := x, val := y }) := by
  induction h generalizing i with
  | nil => simp; exact .nil
  | cons k' v' b e as es hk' hv' hb hs ih =>
    cases i with
    | zero => exact .cons k v b _ as es hk hv hb hs
    | succ i => exact .cons k' v' b e _ _ hk' hv' hb (ih i)
theorem mset_born {k v : AVal} : ∀ {as : List (AVal × AVal × Nat)} {i n : Nat}, (∀ x ∈ as, x.2.2 < n) → ∀ x ∈ mset k v as i, x.2.2 < n := by
  intro as
  induction as with
  | nil => intro i n _ x hx; cases hx
  | cons a as ih =>
    intro i n h x hx
    obtain ⟨k', v', b⟩ := a
    cases i with
    | zero =>
      rcases List.mem_cons.1 hx with rfl | hx
      · exact h (k', v', b) (by simp)
      · exact h x (by simp [hx])
    | succ i =>
      rcases List.mem_cons.1 hx with rfl | hx
      · exact h (k', v', b) (by simp)
      · exact ih (fun y hy => h y (by simp [hy])) x hx
noncomputable def putA (d : TypeDesc) (σ : AHeap) (m k v : AVal) : Option AHeap :=
  match m with
  | .map b => (match σ.get b with
    | some (.map es clock) => (match findA d k es 0 with
      | some (some (i, _)) => some (σ.set b (.map (mset k v es i) clock))
      | some none => some (σ.set b (.map (es ++ [(k, v, clock)]) (Nat.succ clock)))
      | none => none)
    | _ => none)
  | _ => none
theorem putA_ok (hw : WInv gl G σ w) (t k e : TypeId) (d : TypeDesc) (ht : P.underlying t = some (.map k e)) (hk : P.underlying k = some d) (hd : plainKey d = true)
    {am ak av : AVal} {xm xk xv : Value} (hm : VRel G w am xm) (hkr : VRel G w ak xk) (hv : VRel G w av xv) {σ' : AHeap} (h : putA d σ am ak av = some σ') :
    ∃ w', (Instr.mapUpdate t xm xk xv).run P w = .ok () w' ∧ WInv gl G σ' w' ∧ Ext σ G w σ' G w' := by
  unfold putA at h
  split at h
  · rename_i b
    split at h
    · rename_i es clock hg
      cases hm with
      | map _ B ho =>
      obtain ⟨_, entries, h1, h2, h3⟩ := hw.blk' hg ho
      have hck : ∀ b, (Instr.checkKey b 10000 k xk).run P w = .ok () w := fun b => run_checkKey b 9999 k d hk hd xk
      have hgo := run_getObj (P := P) h1 (fun _ _ _ => nofun)
      split at h
      · rename_i i v' hf
        cases h
        obtain ⟨_, p2⟩ := findA_ok hkr h2 hf
        obtain ⟨y, m, r1, _, r3, e', r4, r5, r6⟩ := p2 _ _ rfl
        have r3' : i = m := by omega
        subst r3'
        have hfk := run_findKey (P := P) (w := w) k d hk xk _ r1
        have hstay : (Instr.keyThatStays (((entries[i]?).map (·.key)).getD xk) xk).run P w = .ok xk w := by
          have he' : entries[i]? = some e' := by rw [← Array.getElem?_toList]; exact r4
          rw [he', Option.map_some, Option.getD_some, ← r5]
          simp [Instr.keyThatStays, r6]
        obtain ⟨w', k1, k2, k3⟩ := setObj_ok (P := P) (k' := .map (mset ak av es i) clock) (o' := .map (entries.modify i fun e => { e with key := xk, val := xv }) clock) hw hg ho h1 (fun _ _ _ => nofun) (fun w' g hh =>
          ⟨rfl, _, hh, by rw [Array.toList_modify]; exact (h2.mono g).mset (hkr.mono g) (hv.mono g) i, mset_born h3⟩)
        exact ⟨w', by simp [Instr.mapUpdate, run_underlying ht, hgo, hck, hfk, hstay, k1], k2, k3⟩
      · rename_i hf
        cases h
        obtain ⟨p1, _⟩ := findA_ok hkr h2 hf
        have hfk := run_findKey (P := P) (w := w) k d hk xk _ (p1 rfl)
        obtain ⟨w', k1, k2, k3⟩ := setObj_ok (P := P) (k' := .map (es ++ [(ak, av, clock)]) (clock + 1)) (o' := .map (entries.push { key := xk, val := xv, born := clock }) (clock + 1)) hw hg ho h1 (fun _ _ _ => nofun) (fun w' g hh =>
          ⟨rfl, _, hh, by rw [Array.toList_push]; exact (h2.mono g).snoc (hkr.mono g) (hv.mono g) rfl, fun x hx => by
            rcases List.mem_append.1 hx with hx | hx
            · exact Nat.lt_succ_of_lt (h3 x hx)
            · simp at hx; subst hx; exact Nat.lt_succ_self _⟩)
        exact ⟨w', by simp [Instr.mapUpdate, run_underlying ht, hgo, hck, hfk, k1], k2, k3⟩
      · cases h
    · cases h
  · cases h
end
end Go.Ev
namespace Go.Ev
def decA (len n i : Nat) : Nat × Nat :=
  let at' (k : Nat) : Nat := sByte n (i + k)
  let cont (k : Nat) : Bool := i + k < len && at' k / 64 == 2
  let b0 := at' 0
  if b0 < 0x80 then (b0, 1)
  else if b0 / 32 == 6 && cont 1 then
    let c := (b0 % 32) * 64 + at' 1 % 64
    if c ≥ 0x80 then (c, 2) else (Utf8.runeError, 1)
  else if b0 / 16 == 14 && cont 1 && cont 2 then
    let c := (b0 % 16) * 4096 + (at' 1 % 64) * 64 + at' 2 % 64
    if c ≥ 0x800 && Utf8.valid c then (c, 3) else (Utf8.runeError, 1)
  else if b0 / 8 == 30 && cont 1 && cont 2 && cont 3 then
    let c := (b0 % 8) * 262144 + (at' 1 % 64) * 4096 + (at' 2 % 64) * 64 + at' 3 % 64
    if c ≥ 0x10000 && Utf8.valid c then (c, 4) else (Utf8.runeError, 1)
  else (Utf8.runeError, 1)
theorem sByte_all (s : ByteArray) (j : Nat) : sByte (enc s.data.toList) j = (s.get! j).toNat := by
  by_cases h : j < s.size
  · have hl : j < s.data.toList.length := by rw [ba_toList]; exact h
    rw [sByte_eq _ _ hl]
    congr 1
    rw [Array.getElem_toList]
    show s.data[j] = s.data[j]!
    exact (getElem!_pos s.data j h).symm
  · have hl : s.data.toList.length ≤ j := by rw [ba_toList]; omega
    have h1 : sByte (enc s.data.toList) j = 0 := by
      show (enc s.data.toList >>> (8 * j)) % 256 = 0
      rw [enc_drop, List.drop_eq_nil_of_le hl]
      rfl
    rw [h1]
    have h2 : s.get! j = default := by
      show s.data[j]! = default
      exact getElem!_neg s.data j h
    rw [h2]
    rfl
theorem decA_eq (s : ByteArray) (i : Nat) : decA s.size (enc s.data.toList) i = Utf8.decode s i := by
  unfold decA Utf8.decode
  simp only [sByte_all]
section
variable {P : Program} {gl : Globs} {σ : AHeap} {G : Gh} {w : World}
noncomputable def rangeA (σ : AHeap) (a : AVal) : Option (AVal × AHeap) :=
  match a with
  | .str len n => some (.ptr σ.next 0, σ.push (.iter len n 0))
  | _ => none
theorem rangeA_ok (hw : WInv gl G σ w) (t : TypeId) (ht : P.underlying t = some .string) {a : AVal} {x : Value} (h : VRel G w a x) : VOk P gl σ G w (rangeA σ a) (Instr.range t x) := by
  intro v σ' hv
  unfold rangeA at hv
  split at hv
  · cases hv
    cases h with
    | str s _ _ h1 h2 =>
    obtain ⟨G', m1, m2, m3⟩ := hw.push (Newb.alloc w (.stringIter s 0)) (.iter _ _ 0) (fun G' g => ⟨rfl, s, (Newb.alloc w (.stringIter s 0)).here, h1, h2⟩)
    exact ⟨.pointer (some ⟨w.heap.size, 0, none⟩), w.alloc (.stringIter s 0), G', by simp [Instr.range, run_underlying ht], m1, m2, by simpa using VRel.ptr (G := G') (w := w.alloc (.stringIter s 0)) σ.next 0 _ _ m3⟩
  · cases hv
noncomputable def nextA (σ : AHeap) (it : AVal) : Option (AVal × AHeap) :=
  match it with
  | .ptr b 0 => (match σ.get b with
    | some (.iter len n pos) => bif Nat.blt pos len then
        (match decA len n pos with
        | (c, wd) => some (.tup [.bool true, .int .i64 (.ofNat pos), .int .i32 (.ofNat c)], σ.set b (.iter len n (Nat.add pos wd))))
      else some (.tup [.bool false], σ)
    | _ => none)
  | _ => none
theorem nextA_ok (hw : WInv gl G σ w) (ty : TypeId) {a : AVal} {x : Value} (h : VRel G w a x) : VOk P gl σ G w (nextA σ a) (Instr.next x true ty) := by
  intro v σ' hv
  unfold nextA at hv
  split at hv
  · rename_i b
    split at hv
    · rename_i len n pos hg
      cases h with
      | ptr _ _ B o ho =>
      obtain ⟨rfl, s, h1, rfl, rfl⟩ := hw.blk' hg ho
      have hgo := run_getObj (P := P) h1 (fun _ _ _ => nofun)
      cases hb : Nat.blt pos s.size
      · rw [hb] at hv; cases hv
        have hb' : ¬ pos < s.size := fun h => by rw [← blt_iff, hb] at h; cases h
        exact ⟨.tuple #[.bool false], w, G, by simp [Instr.next, hgo, hb'], hw, .refl _ _ _, .tup _ _ (.cons _ _ _ _ (.bool _) .nil)⟩
      · rw [hb] at hv
        have hb' := blt_iff.1 hb
        simp only [cond_true, decA_eq] at hv
        cases hv
        obtain ⟨w', k1, k2, k3⟩ := setObj_ok (P := P) (k' := .iter s.size (enc s.data.toList) (Nat.add pos (Utf8.decode s pos).2)) (o' := .stringIter s (pos + (Utf8.decode s pos).2)) hw hg ho h1 (fun _ _ _ => nofun) (fun w' g hh => ⟨rfl, s, hh, rfl, rfl⟩)
        exact ⟨.tuple #[.bool true, goInt pos, .int .i32 (Utf8.decode s pos).1], w', G, by simp [Instr.next, hgo, hb', k1], k2, k3, .tup _ _ (.cons _ _ _ _ (.bool _) (.cons _ _ _ _ (.int _ _) (.cons _ _ _ _ (.int _ _) .nil)))⟩
    · cases hv
  · cases hv
noncomputable def mapLenA (σ : AHeap) (a : AVal) : Option AVal :=
  match a with
  | .nilm => some (.int .i64 (.ofNat 0))
  | .map b => (match σ.get b with | some (.map es _) => some (.int .i64 (.ofNat es.length)) | _ => none)
  | _ => none
theorem MRels.length {as : List (AVal × AVal × Nat)} {es : List MapEntry} (h : MRels G w as es) : as.length = es.length := by
  induction h with
  | nil => rfl
  | cons _ _ _ _ _ _ _ _ _ _ ih => simp [ih]
theorem mapLenA_ok (hw : WInv gl G σ w) (t ty k e : TypeId) (ht : P.underlying t = some (.map k e)) {a : AVal} {x : Value} (h : VRel G w a x) : POk P G w (mapLenA σ a) (Builtin.len_ #[t] ty #[x]) := by
  intro v hv
  unfold mapLenA at hv
  split at hv
  · cases hv
    cases h
    exact ⟨goInt 0, by simp [Builtin.len_, run_underlying ht], .int _ _⟩
  · rename_i b
    split at hv
    · rename_i es cl hg
      cases hv
      cases h with
      | map _ B ho =>
      obtain ⟨_, entries, h1, h2, _⟩ := hw.blk' hg ho
      have hl : es.length = entries.size := h2.length.trans Array.length_toList
      exact ⟨goInt entries.size, by simp [Builtin.len_, run_underlying ht, run_getObj h1 (fun _ _ _ => nofun)], by rw [hl]; exact .int _ _⟩
    · cases hv
  · cases hv
end
end Go.Ev
namespace Go.Ev
inductive ARes where
  | fail
  | val (v : AVal) (σ : AHeap)
  | skip (σ : AHeap)
  | call (f : FuncId) (args : List AVal)
  | dfr (f : FuncId)
structure Clo where
  run : AFr → AHeap → ARes
def ResOk (P : Program) (gl : Globs) (σ : AHeap) (G : Gh) (w : World) : ARes → Result Next → Prop
  | .fail, _ => True
  | .val v σ', r => ∃ x w' G', r = .ok (.value x) w' ∧ WInv gl G' σ' w' ∧ Ext σ G w σ' G' w' ∧ VRel G' w' v x
  | .skip σ', r => ∃ w' G', r = .ok .skip w' ∧ WInv gl G' σ' w' ∧ Ext σ G w σ' G' w'
  | .call f as, r => (∃ fn, P.funcs[f]? = some fn ∧ fn.body.isSome = true) ∧ ∃ vs : Array Value, r = .ok (.enter f vs) w ∧ VRels G w as vs.toList
  | .dfr f, r => ∃ cap args, r = .ok (.defer ⟨.fn (.func f) cap, args⟩) w
noncomputable def ofP (σ : AHeap) (r : Option AVal) : ARes := Option.rec (motive := fun _ => ARes) .fail (fun v => .val v σ) r
noncomputable def ofV (r : Option (AVal × AHeap)) : ARes := Option.rec (motive := fun _ => ARes) .fail (fun p => .val p.1 p.2) r
noncomputable def ofS (r : Option AHeap) : ARes := Option.rec (motive := fun _ => ARes) .fail (fun s => .skip s) r
section
variable {P : Program} {gl : Globs} {σ : AHeap} {G : Gh} {w : World}
theorem ofP_ok (hw : WInv gl G σ w) {r : Option AVal} {s : Sem Value} (h : POk P G w r s) : ResOk P gl σ G w (ofP σ r) ((do pure (Next.value (← s)) : Sem Next).run P w) := by
  cases r with
  | none => trivial
  | some v =>
    obtain ⟨x, hx, hr⟩ := h v rfl
    exact ⟨x, w, G, by simp [hx], hw, .refl _ _ _, hr⟩
theorem ofV_ok {r : Option (AVal × AHeap)} {s : Sem Value} (h : VOk P gl σ G w r s) : ResOk P gl σ G w (ofV r) ((do pure (Next.value (← s)) : Sem Next).run P w) := by
  cases r with
  | none => trivial
  | some p =>
    obtain ⟨v, σ'⟩ := p
    obtain ⟨x, w', G', hx, h1, h2, hr⟩ := h v σ' rfl
    exact ⟨x, w', G', by simp [hx], h1, h2, hr⟩
theorem ofS_ok {r : Option AHeap} {s : Sem Unit} (h : ∀ σ', r = some σ' → ∃ w' G', s.run P w = .ok () w' ∧ WInv gl G' σ' w' ∧ Ext σ G w σ' G' w') : ResOk P gl σ G w (ofS r) ((do s; pure Next.skip : Sem Next).run P w) := by
  cases r with
  | none => trivial
  | some σ' =>
    obtain ⟨w', G', hx, h1, h2⟩ := h σ' rfl
    exact ⟨w', G', by simp [hx], h1, h2⟩
/-! ### Operands in rows -/
noncomputable def opnds (gl : Globs) (l : List Operand) : List OCl := l.map (opnd gl)
noncomputable def evals (τ : AFr) (l : List OCl) : List AVal := l.map (·.f τ)
theorem evals_ok (hw : WInv gl G σ w) {τ : AFr} {a : Act} (hf : FRel G w τ a) (l : List Operand) : VRels G w (evals τ (opnds gl l)) (l.map a.eval) := by
  induction l with
  | nil => exact .nil
  | cons x l ih => exact .cons _ _ _ _ (opnd_ok hw hf x) ih
noncomputable def optO (gl : Globs) (x : Option Operand) : Option OCl := x.map (opnd gl)
noncomputable def optE (τ : AFr) (x : Option OCl) : Option AVal := x.map (·.f τ)
theorem optE_ok (hw : WInv gl G σ w) {τ : AFr} {a : Act} (hf : FRel G w τ a) (x : Option Operand) : ORel G w (optE τ (optO gl x)) (x.map a.eval) := by
  cases x with
  | none => exact .none
  | some x => exact .some _ _ (opnd_ok hw hf x)
noncomputable def mkParts (gl : Globs) (place : Nat → Option (Nat × Nat)) : List (Nat × Operand) → Option (List (Nat × Nat × OCl))
  | [] => some []
  | (i, x) :: r => match place i with
    | some (off, size) => (match mkParts gl place r with
      | some l => some ((off, size, opnd gl x) :: l)
      | none => none)
    | none => none
noncomputable def evParts (τ : AFr) (l : List (Nat × Nat × OCl)) : List (Nat × Nat × AVal) := l.map fun x => (x.1, x.2.1, x.2.2.f τ)
theorem mkParts_ok (hw : WInv gl G σ w) {τ : AFr} {a : Act} (hf : FRel G w τ a) (place : Nat → Option (Nat × Nat)) : ∀ {l : List (Nat × Operand)} {r : List (Nat × Nat × OCl)}, mkParts gl place l = some r → PRels G w place (evParts τ r) (l.map fun x => (x.1, a.eval x.2)) := by
  intro l
  induction l with
  | nil => intro r h; cases h; exact .nil
  | cons x l ih =>
    intro r h
    obtain ⟨i, x⟩ := x
    simp only [mkParts] at h
    split at h
    · rename_i off size hp
      split at h
      · rename_i l' hl
        cases h
        exact .cons off size _ i _ _ _ hp (opnd_ok hw hf x) (ih hl)
      · cases h
    · cases h
theorem parts_toList (parts : Array (Nat × Operand)) (ρ : Operand → Value) : (parts.map fun (i, x) => (i, ρ x)).toList = parts.toList.map fun x => (x.1, ρ x.2) := by simp

/-! ### Two operands -/
noncomputable def binA (op : BinOp) (d : TypeDesc) (a b : AVal) : Option AVal :=
  match a with
  | .int k x => (match b with
    | .int k' y => (match op with
      | .shl => shOp .shl k x y
      | .shr => shOp .shr k x y
      | op => bif keq k k' then intOp op k x y else none)
    | _ => none)
  | .itv k lo hi => (match b with | .int k' y => bif keq k k' then itvOp op lo hi y else none | _ => none)
  | .str l n => (match b with | .str m q => strOp op l n m q | _ => none)
  | .bool x => (match b with | .bool y => (match d with | .bool => boolOp op x y | _ => none) | _ => none)
  | a => nilOp op d a b
theorem eqGuard_ok {op : BinOp} {t : TypeId} {x y : Operand} {a b : Value} (h1 : a ≠ .nilIface ∨ b ≠ .nilIface) (h2 : ∀ cs, a ≠ .agg cs) : (eqGuard op t x y a b).run P w = .ok () w := by
  unfold eqGuard
  cases op <;> first | rfl | skip
  all_goals
    cases a <;> first | rfl | exact absurd rfl (h2 _) | skip
    cases b <;> first | rfl | simp at h1
theorem nilEq_shape {d : TypeDesc} {a b : AVal} {r : Bool} (h : nilEq d a b = some r) {x y : Value} (hx : VRel G w a x) (hy : VRel G w b y) : (x ≠ .nilIface ∨ y ≠ .nilIface) ∧ ∀ cs, x ≠ .agg cs := by
  unfold nilEq at h
  split at h <;> (try (cases h; done)) <;> split at h <;> (try (cases h; done)) <;> split at h <;> (try (cases h; done)) <;> cases hx <;> cases hy <;>
    (refine ⟨?_, fun _ => nofun⟩; first | (left; intro hh; cases hh; done) | (right; intro hh; cases hh; done))
theorem nilOp_some {op : BinOp} {d : TypeDesc} {a b v : AVal} (h : nilOp op d a b = some v) : ∃ r, nilEq d a b = some r := by
  cases op <;> simp only [nilOp, reduceCtorEq] at h
  all_goals
    rw [Option.map_eq_some_iff] at h
    obtain ⟨r, h1, _⟩ := h
    exact ⟨r, h1⟩
theorem binA_ok (op : BinOp) (t : TypeId) (d : TypeDesc) (ht : P.underlying t = some d) (ox oy : Operand) {a b : AVal} {x y : Value} (ha : VRel G w a x) (hb : VRel G w b y) :
    POk P G w (binA op d a b) (do eqGuard op t ox oy x y; binOp op t x y) := by
  intro v hv
  have fin : POk P G w (binA op d a b) (binOp op t x y) → ((x ≠ .nilIface ∨ y ≠ .nilIface) ∧ ∀ cs, x ≠ .agg cs) → ∃ z, (do eqGuard op t ox oy x y; binOp op t x y : Sem Value).run P w = .ok z w ∧ VRel G w v z := by
    intro h hs
    obtain ⟨z, hz, hr⟩ := h v hv
    exact ⟨z, by rw [Sem.run_bind, eqGuard_ok hs.1 hs.2]; exact hz, hr⟩
  have ha0 := ha
  cases ha
  case int k n =>
    cases hb <;> simp only [binA, reduceCtorEq] at hv
    rename_i k' m
    refine fin ?_ ⟨.inl nofun, fun _ => nofun⟩
    simp only [binA]
    split
    · exact shOp_ok _ _ _ _ _ _
    · exact shOp_ok _ _ _ _ _ _
    · cases hk : keq k k'
      · intro v h; cases h
      · have := keq_iff.1 hk
        subst this
        exact intOp_ok _ _ _ _ _
  case itv k lo hi n h1 h2 =>
    cases hb <;> simp only [binA, reduceCtorEq] at hv
    rename_i k' m
    refine fin ?_ ⟨.inl nofun, fun _ => nofun⟩
    simp only [binA]
    cases hk : keq k k'
    · intro v h; cases h
    · have := keq_iff.1 hk
      subst this
      exact itvOp_ok _ _ _ _ _ _ h1 h2 _
  case str s len m h1 h2 =>
    cases hb <;> simp only [binA, reduceCtorEq] at hv
    rename_i s' len' m' h3 h4
    refine fin ?_ ⟨.inl nofun, fun _ => nofun⟩
    simp only [binA]
    subst h2; subst h4
    rw [← h1, ← h3, ← ba_toList, ← ba_toList]
    exact strOp_ok _ _ _ _
  case bool x =>
    cases hb <;> simp only [binA, reduceCtorEq] at hv
    refine fin ?_ ⟨.inl nofun, fun _ => nofun⟩
    simp only [binA]
    split
    · exact boolOp_ok _ _ _ _ ht
    · intro v h; cases h
  all_goals
    simp only [binA] at hv fin
    obtain ⟨r, hr⟩ := nilOp_some hv
    exact fin (nilOp_ok op d t ht _ _ _ _ ha0 hb) (nilEq_shape hr ha0 hb)
end
end Go.Ev
namespace Go.Ev
noncomputable def bad : Clo := ⟨fun _ _ => .fail⟩
def callable (P : Program) (f : FuncId) : Bool :=
  match P.funcs[f]? with
  | some fn => fn.body.isSome
  | none => false
noncomputable def pickA (c a b : AVal) : Option AVal :=
  match c with
  | .bool t => some (bif t then a else b)
  | _ => none
def checkA (a : AVal) : Option AVal :=
  match a with
  | .ptr b off => some (.ptr b off)
  | .pv cs off => some (.pv cs off)
  | _ => none
def fieldA (agg : Bool) (off n : Nat) (a : AVal) : Option AVal :=
  match a with
  | .agg cs => bif agg then some (.agg ((cs.drop off).take n)) else cs[off]?
  | _ => none
def minmax (mx : Bool) (a b : AVal) : Option AVal :=
  match a with
  | .int k x => (match b with
    | .int _ y => some (.int k (bif mx then (bif ilt x y then y else x) else (bif ilt y x then y else x)))
    | _ => none)
  | _ => none
/-- A call of a value. -/
noncomputable def callV (P : Program) (f : AVal) (args : List AVal) : ARes :=
  match f with
  | .fn (.func g) fst caps => bif callable P g then .call g (fst ++ args ++ caps) else .fail
  | _ => .fail
noncomputable def dfrV (noop : FuncId → Bool) (f : AVal) (args : List AVal) : ARes :=
  match f with
  | .fn (.func g) [] _ => (match args with | [] => bif noop g then .dfr g else .fail | _ => .fail)
  | _ => .fail
noncomputable def cBuiltin (P : Program) (gl : Globs) (b : Builtin) (ts : Array TypeId) (args : Array Operand) : Clo :=
  match b, ts.toList, args.toList with
  | .len, [t], [x] => (let c := opnd gl x
    match P.underlying t with
    | some .string => ⟨fun τ σ => ofP σ (match c.f τ with | .str l _ => some (.int .i64 (.ofNat l)) | _ => none)⟩
    | some (.slice _) => ⟨fun τ σ => ofP σ (match c.f τ with | .str _ _ => none | a => (lenA a).map fun n => .int .i64 (.ofNat n))⟩
    | some (.map _ _) => ⟨fun τ σ => ofP σ (mapLenA σ (c.f τ))⟩
    | some (.array n _) => ⟨fun _ σ => .val (.int .i64 (.ofNat n)) σ⟩
    | _ => bad)
  | .append, [t, u], [s, x] => (let cs := opnd gl s
    let cx := opnd gl x
    match P.underlying t, P.underlying u with
    | some (.slice e), some du => (match P.info? e with
      | some ei => (match ei.zero with
        | some z => bif srcD du && Nat.beq z.cells.size ei.size && Nat.blt 0 ei.size then (let esz := ei.size; let by' := ei.bytes; ⟨fun τ σ => ofV (appendA esz by' σ (cs.f τ) (cx.f τ))⟩) else bad
        | none => bad)
      | none => bad)
    | _, _ => bad)
  | .max, _, [x, y] => (let a := opnd gl x; let b := opnd gl y; ⟨fun τ σ => ofP σ (minmax true (a.f τ) (b.f τ))⟩)
  | .min, _, [x, y] => (let a := opnd gl x; let b := opnd gl y; ⟨fun τ σ => ofP σ (minmax false (a.f τ) (b.f τ))⟩)
  | _, _, _ => bad
noncomputable def cop (P : Program) (gl : Globs) (noop : FuncId → Bool) (op : Op) : Clo :=
  match op with
  | .move x | .assign x => let c := opnd gl x; ⟨fun τ σ => .val (c.f τ) σ⟩
  | .pick c a b => let c := opnd gl c; let a := opnd gl a; let b := opnd gl b; ⟨fun τ σ => ofP σ (pickA (c.f τ) (a.f τ) (b.f τ))⟩
  | .alloc e => (match P.info? e with
    | some i => (match i.zero with
      | some z => (let zc := z.cells.toList.map ofVal1; ⟨fun _ σ => ofV (allocOp zc σ)⟩)
      | none => bad)
    | none => bad)
  | .box _ x => let c := opnd gl x; ⟨fun τ σ => ofV (boxOp σ (c.f τ))⟩
  | .build t parts => (match P.info? t with
    | some i => (match i.zero with
      | some z => (match P.underlying t with
        | some (.struct fs) => bif fs.toList.all fun f => (P.info? f.type).isSome then (match mkParts gl (fun j => (fs.map (placeOf P))[j]?) parts.toList with
          | some ps => (let zc := z.cells.toList.map ofVal1; ⟨fun τ σ => ofP σ ((fillA zc (evParts τ ps)).map .agg)⟩)
          | none => bad) else bad
        | some (.array _ e) => (match P.info? e with
          | some ei => (match mkParts gl (fun j => some (j * ei.size, ei.size)) parts.toList with
            | some ps => (let zc := z.cells.toList.map ofVal1; ⟨fun τ σ => ofP σ ((fillA zc (evParts τ ps)).map .agg)⟩)
            | none => bad)
          | none => bad)
        | _ => bad)
      | none => bad)
    | none => bad)
  | .buildSlice t len parts => (match P.underlying t with
    | some (.slice e) => (match P.info? e with
      | some ei => (match ei.zero with
        | some z => bif Nat.beq z.cells.size ei.size && Nat.blt 0 ei.size then (match mkParts gl (fun j => some (j * ei.size, ei.size)) parts.toList with
          | some ps => (let zc := z.cells.toList.map ofVal1; let esz := ei.size; ⟨fun τ σ => ofV ((bsOp zc esz len (evParts τ ps)).map fun v => (v, σ))⟩)
          | none => bad) else bad
        | none => bad)
      | none => bad)
    | _ => bad)
  | .load t a => (match P.underlying t, P.info? t with
    | some d, some i => (let c := opnd gl a; let g := aggD d; let n := i.size; ⟨fun τ σ => ofP σ (loadOp g n σ (c.f τ))⟩)
    | _, _ => bad)
  | .store t a x => (match P.info? t with
    | some i => (let c := opnd gl a; let v := opnd gl x; let n := i.size; ⟨fun τ σ => ofS (storeOp n σ (c.f τ) (v.f τ))⟩)
    | none => bad)
  | .nilCheck x => let c := opnd gl x; ⟨fun τ σ => ofP σ (checkA (c.f τ))⟩
  | .binOp op t x y _ => (match P.underlying t with
    | some d => (let a := opnd gl x; let b := opnd gl y; ⟨fun τ σ => ofP σ (binA op d (a.f τ) (b.f τ))⟩)
    | none => bad)
  | .unOp op _ x => let c := opnd gl x; ⟨fun τ σ => ofP σ (unA op (c.f τ))⟩
  | .convert src dst x => (let c := opnd gl x
    match P.underlying src, P.underlying dst with
    | some _, some (.int k) => ⟨fun τ σ => ofP σ (convInt k (c.f τ))⟩
    | some .string, some (.slice e) => (match P.underlying e with
      | some (.int .u8) => ⟨fun τ σ => ofV (match c.f τ with | .str l n => some (.vb l n, σ) | _ => none)⟩
      | _ => bad)
    | some (.slice e), some .string => (match P.underlying e with
      | some (.int .u8) => ⟨fun τ σ => ofP σ (toStr σ (c.f τ))⟩
      | _ => bad)
    | some .string, some .string => ⟨fun τ σ => ofP σ (match c.f τ with | .str l n => some (.str l n) | _ => none)⟩
    | _, _ => bad)
  | .makeInterface t x => bif P.concrete t then (let c := opnd gl x; ⟨fun τ σ => .val (.ifc t (c.f τ)) σ⟩) else bad
  | .makeFunc fn fst caps => let a := opnds gl fst.toList; let b := opnds gl caps.toList; ⟨fun τ σ => .val (.fn fn (evals τ a) (evals τ b)) σ⟩
  | .makeMap t none => (match P.underlying t with
    | some (.map _ _) => ⟨fun _ σ => ofV (mkMap σ)⟩
    | _ => bad)
  | .makeMap t (some x) => (match P.underlying t with
    | some (.map _ _) => (let c := opnd gl x; ⟨fun τ σ => match c.f τ with | .int _ _ => ofV (mkMap σ) | _ => .fail⟩)
    | _ => bad)
  | .makeSlice t l c => (match P.underlying t with
    | some (.slice e) => (match P.info? e with
      | some ei => (match ei.zero with
        | some z => bif Nat.beq z.cells.size ei.size && Nat.blt 0 ei.size then (let zc := z.cells.toList.map ofVal1; let esz := ei.size; let by' := ei.bytes; let a := opnd gl l; let b := opnd gl c; ⟨fun τ σ => ofV (mkSlice zc esz by' σ (a.f τ) (b.f τ))⟩) else bad
        | none => bad)
      | none => bad)
    | _ => bad)
  | .slice t x lo hi none => (let c := opnd gl x; let l := optO gl lo; let h := optO gl hi
    match P.underlying t with
    | some .string => ⟨fun τ σ => ofP σ (cutStr (c.f τ) (optE τ l) (optE τ h))⟩
    | some (.slice e) => (match P.info? e with
      | some ei => (let esz := ei.size; ⟨fun τ σ => ofP σ (cutSlice esz (c.f τ) (optE τ l) (optE τ h))⟩)
      | none => bad)
    | _ => bad)
  | .fieldAddr t x f => (match P.underlying t with
    | some (.struct fs) => (match fs[f]? with
      | some fd => (match P.info? fd.type with
        | some i => bif Nat.beq i.size 0 then bad else (let c := opnd gl x; let n := fd.offset; ⟨fun τ σ => ofP σ (ptrAdd (c.f τ) n)⟩)
        | none => bad)
      | none => bad)
    | _ => bad)
  | .field t x f => (match P.underlying t with
    | some (.struct fs) => (match fs[f]? with
      | some fd => (match P.underlying fd.type, P.info? fd.type with
        | some d, some i => (let c := opnd gl x; let n := fd.offset; let g := aggD d; let s := i.size; ⟨fun τ σ => ofP σ (fieldA g n s (c.f τ))⟩)
        | _, _ => bad)
      | none => bad)
    | _ => bad)
  | .indexAddr t x i => (let c := opnd gl x; let j := opnd gl i
    match P.underlying t with
    | some (.slice e) => (match P.info? e with
      | some ei => (let esz := ei.size; ⟨fun τ σ => ofP σ (idxSlice esz (c.f τ) (j.f τ))⟩)
      | none => bad)
    | some (.array n e) => (match P.info? e with
      | some ei => (let esz := ei.size; ⟨fun τ σ => ofP σ (idxArr n esz (c.f τ) (j.f τ))⟩)
      | none => bad)
    | _ => bad)
  | .index t x i => (let c := opnd gl x; let j := opnd gl i
    match P.underlying t with
    | some .string => ⟨fun τ σ => ofP σ (sIndexA (c.f τ) (j.f τ))⟩
    | _ => bad)
  | .lookup t m k ok => (match P.underlying t with
    | some (.map kt e) => (match P.underlying kt, P.info? e with
      | some d, some ei => (match ei.zero with
        | some z => bif plainKey d then (let zv := ofVal z; let cm := opnd gl m; let ck := opnd gl k; ⟨fun τ σ => ofP σ (lookA d zv ok σ (cm.f τ) (ck.f τ))⟩) else bad
        | none => bad)
      | _, _ => bad)
    | _ => bad)
  | .mapUpdate t m k v | .insert t m k v => (match P.underlying t with
    | some (.map kt _) => (match P.underlying kt with
      | some d => bif plainKey d then (let cm := opnd gl m; let ck := opnd gl k; let cv := opnd gl v; ⟨fun τ σ => ofS (putA d σ (cm.f τ) (ck.f τ) (cv.f τ))⟩) else bad
      | none => bad)
    | _ => bad)
  | .range t x => (match P.underlying t with
    | some .string => (let c := opnd gl x; ⟨fun τ σ => ofV (rangeA σ (c.f τ))⟩)
    | _ => bad)
  | .next it true => let c := opnd gl it; ⟨fun τ σ => ofV (nextA σ (c.f τ))⟩
  | .typeAssert x _ t ok => bif P.concrete t then (let c := opnd gl x; ⟨fun τ σ => ofP σ (assertA t ok (c.f τ))⟩) else bad
  | .extract x i => let c := opnd gl x; ⟨fun τ σ => ofP σ (extractA (c.f τ) i)⟩
  | .call { callee := .value (.func f), args, .. } => bif callable P f then (let l := opnds gl args.toList; ⟨fun τ _ => .call f (evals τ l)⟩) else bad
  | .call { callee := .value x, args, .. } => let c := opnd gl x; let l := opnds gl args.toList; ⟨fun τ _ => callV P (c.f τ) (evals τ l)⟩
  | .call { callee := .builtin b, args, argTypes } => cBuiltin P gl b argTypes args
  | .defer { callee := .value x, args, .. } => let c := opnd gl x; let l := opnds gl args.toList; ⟨fun τ _ => dfrV noop (c.f τ) (evals τ l)⟩
  | _ => bad
end Go.Ev
namespace Go.Ev
def ClOk (P : Program) (gl : Globs) (o : Oper) (c : Clo) : Prop :=
  ∀ (τ : AFr) (σ : AHeap) (G : Gh) (w : World) (a : Act), WInv gl G σ w → FRel G w τ a → ResOk P gl σ G w (c.run τ σ) ((execOp a.eval o).run P w)
/-- No function with a body bears the one name that the model treats apart. -/
def NoGor (P : Program) : Prop := ∀ (f : FuncId) (fn : Func), P.funcs[f]? = some fn → fn.body.isSome = true → (fn.name == "runtime.NumGoroutine") = false
section
variable {P : Program} {gl : Globs}
theorem bad_ok (o : Oper) : ClOk P gl o bad := fun _ _ _ _ _ _ _ => trivial
section
variable {σ : AHeap} {G : Gh} {w : World}
theorem pickA_ok {c a b : AVal} {x y z : Value} (hc : VRel G w c x) (ha : VRel G w a y) (hb : VRel G w b z) : ∀ v, pickA c a b = some v → ∃ t, x = .bool t ∧ VRel G w v (if t then y else z) := by
  intro v hv
  unfold pickA at hv
  split at hv
  · cases hv
    cases hc
    rename_i t
    exact ⟨t, rfl, by cases t <;> assumption⟩
  · cases hv
theorem checkA_ok {a v : AVal} {x : Value} (h : VRel G w a x) (hv : checkA a = some v) : ∃ ad, x = .pointer (some ad) ∧ VRel G w v x := by
  unfold checkA at hv
  split at hv
  · cases hv
    have h0 := h
    cases h
    exact ⟨_, rfl, h0⟩
  · cases hv
    have h0 := h
    cases h
    exact ⟨_, rfl, h0⟩
  · cases hv
theorem fieldA_ok (t : TypeId) (fs : Array Field) (f : Nat) (fd : Field) (d : TypeDesc) (i : TypeInfo) (ht : P.underlying t = some (.struct fs)) (hf : fs[f]? = some fd) (hd : P.underlying fd.type = some d) (hi : P.info? fd.type = some i)
    {a : AVal} {x : Value} (h : VRel G w a x) : POk P G w (fieldA (aggD d) fd.offset i.size a) (Instr.field t x f) := by
  intro v hv
  unfold fieldA at hv
  split at hv
  · rename_i cs
    cases h with
    | agg _ vs hs =>
    cases hg : aggD d
    · rw [hg] at hv
      simp only [cond_false] at hv
      obtain ⟨y, hy, hr⟩ := hs.get hv
      rw [Array.getElem?_toList] at hy
      exact ⟨y, by simp [Instr.field, run_underlying ht, hf, part, run_isAgg hd, hg, asAgg, hy], hr⟩
    · rw [hg] at hv
      cases hv
      refine ⟨.agg (vs.extract fd.offset (fd.offset + i.size)), by simp [Instr.field, run_underlying ht, hf, part, run_isAgg hd, hg, asAgg, run_sizeOf hi], .agg _ _ ?_⟩
      rw [Array.toList_extract, List.extract_eq_take_drop]
      have : fd.offset + i.size - fd.offset = i.size := by omega
      rw [this]
      exact (hs.drop _).take _
  · cases hv
theorem minmax_ok (mx : Bool) {a b : AVal} {x y : Value} (ha : VRel G w a x) (hb : VRel G w b y) (ts : Array TypeId) (ty : TypeId) : POk P G w (minmax mx a b) (if mx then Builtin.max_ ts ty #[x, y] else Builtin.min_ ts ty #[x, y]) := by
  intro v hv
  unfold minmax at hv
  split at hv
  · split at hv
    · cases hv
      cases ha; cases hb
      rename_i k n _ _ m
      cases mx
      · refine ⟨.int k (if m < n then m else n), by simp [Builtin.min_, Builtin.min2], ?_⟩
        by_cases h : m < n
        · rw [if_pos h]; simp only [cond_false, ilt_iff.2 h, cond_true]; exact .int _ _
        · have : ilt m n = false := by rw [ilt_eq]; simp [h]
          rw [if_neg h]; simp only [cond_false, this]; exact .int _ _
      · refine ⟨.int k (if n < m then m else n), by simp [Builtin.max_, Builtin.max2], ?_⟩
        by_cases h : n < m
        · rw [if_pos h]; simp only [cond_true, ilt_iff.2 h]; exact .int _ _
        · have : ilt n m = false := by rw [ilt_eq]; simp [h]
          rw [if_neg h]; simp only [cond_true, this, cond_false]; exact .int _ _
    · cases hv
  · cases hv
theorem run_callFunc (hN : NoGor P) {f : FuncId} {fn : Func} (hf : P.funcs[f]? = some fn) (hb : fn.body.isSome = true) (args : Array Value) : (callFunc f args).run P w = .ok (.enter f args) w := by
  have h1 := hN f fn hf hb
  have h2 : fn.body.isNone = false := by cases h : fn.body <;> simp_all
  unfold callFunc
  rw [Sem.run_bind, run_program, Result.andThen_ok, hf]
  simp only [h1, h2, Bool.false_eq_true, if_false]
  rfl
theorem callable_some {f : FuncId} (h : callable P f = true) : ∃ fn, P.funcs[f]? = some fn ∧ fn.body.isSome = true := by
  unfold callable at h
  split at h
  · rename_i fn hf; exact ⟨fn, hf, h⟩
  · cases h
theorem callV_ok (hN : NoGor P) {f : AVal} {x : Value} {as : List AVal} {vs : Array Value} (hf : VRel G w f x) (ha : VRels G w as vs.toList) :
    ResOk P gl σ G w (callV P f as) ((do let d ← Deferred.ofValue x vs; invoke d.target d.args : Sem Next).run P w) := by
  unfold callV
  split
  · rename_i g fst caps
    cases hc : callable P g
    · trivial
    · obtain ⟨fn, h1, h2⟩ := callable_some hc
      cases hf with
      | fn _ _ _ fs cs k1 k2 =>
      refine ⟨⟨fn, h1, h2⟩, fs ++ vs ++ cs, ?_, ?_⟩
      · simp only [Deferred.ofValue, Sem.run_bind, Sem.run_pure, Result.andThen_ok, invoke]
        exact run_callFunc hN h1 h2 _
      · simp only [Array.toList_append]
        exact (k1.append ha).append k2
  · trivial
theorem dfrV_ok (noop : FuncId → Bool) {f : AVal} {x : Value} {as : List AVal} {vs : Array Value} (hf : VRel G w f x) (ha : VRels G w as vs.toList) :
    ResOk P gl σ G w (dfrV noop f as) ((do pure (.defer (← Deferred.ofValue x vs)) : Sem Next).run P w) := by
  unfold dfrV
  split
  · rename_i g caps
    split
    · cases hn : noop g
      · trivial
      · cases hf with
        | fn _ _ _ fs cs k1 k2 =>
        exact ⟨cs, fs ++ vs, by simp [Deferred.ofValue]⟩
    · trivial
  · trivial
end
theorem array_two {α : Type} {xs : Array α} {a b : α} (h : xs.toList = [a, b]) : xs = #[a, b] := Array.toList_inj.1 (by simpa using h)
theorem array_one {α : Type} {xs : Array α} {a : α} (h : xs.toList = [a]) : xs = #[a] := Array.toList_inj.1 (by simpa using h)
theorem cBuiltin_ok (b : Builtin) (ts : Array TypeId) (args : Array Operand) (dst : Option Tmp) (type : TypeId) (pos : String) (after : Array Edge) (guard : Option (Nat × Bool)) :
    ClOk P gl { dst, op := .call { callee := .builtin b, args, argTypes := ts }, type, pos, after, guard } (cBuiltin P gl b ts args) := by
  intro τ σ G w a hw hf
  have key : ∀ (s : Sem Value) (r : ARes), ResOk P gl σ G w r ((do pure (Next.value (← s)) : Sem Next).run P w) → (∀ c, builtin b ts type c (args.map a.eval) = (do pure (Next.value (← s)))) →
      ResOk P gl σ G w r ((execOp a.eval { dst, op := .call { callee := .builtin b, args, argTypes := ts }, type, pos, after, guard }).run P w) := by
    intro s r h1 h2
    have : (execOp a.eval { dst, op := .call { callee := .builtin b, args, argTypes := ts }, type, pos, after, guard }) = (do pure (Next.value (← s))) := by
      simp only [execOp, resolve, pure_bind, invoke]
      exact h2 _
    rw [this]
    exact h1
  unfold cBuiltin
  split
  · rename_i t x hts hargs
    have e1 := array_one hts
    have e2 := array_one hargs
    subst e1; subst e2
    have hx := opnd_ok hw hf x
    split
    · rename_i ht
      refine key (Builtin.len_ #[t] type #[a.eval x]) _ (ofP_ok hw ?_) (fun _ => by simp [builtin])
      intro v hv
      split at hv
      · rename_i l n hl
        rw [hl] at hx
        exact lenA_str_ok t type ht l n _ hx v hv
      · cases hv
    · rename_i e ht
      refine key (Builtin.len_ #[t] type #[a.eval x]) _ (ofP_ok hw ?_) (fun _ => by simp [builtin])
      intro v hv
      split at hv
      · cases hv
      · rename_i hns
        exact lenA_slice_ok t type e ht _ _ hx hns v hv
    · rename_i k e ht
      exact key (Builtin.len_ #[t] type #[a.eval x]) _ (ofP_ok hw (mapLenA_ok hw t type k e ht hx)) (fun _ => by simp [builtin])
    · rename_i n e ht
      refine key (Builtin.len_ #[t] type #[a.eval x]) (ofP σ (some (.int .i64 (.ofNat n)))) (ofP_ok hw ?_) (fun _ => by simp [builtin])
      intro v hv
      cases hv
      exact ⟨goInt n, by simp [Builtin.len_, run_underlying ht], .int _ _⟩
    · trivial
  · rename_i t u s x hts hargs
    have e1 := array_two hts
    have e2 := array_two hargs
    subst e1; subst e2
    split
    · rename_i e du ht hu
      split
      · rename_i ei he
        split
        · rename_i z hz
          cases hb : (srcD du && Nat.beq z.cells.size ei.size && Nat.blt 0 ei.size)
          · trivial
          · rw [Bool.and_eq_true, Bool.and_eq_true, Nat.beq_eq, blt_iff] at hb
            exact key (Builtin.append_ #[t, u] type #[a.eval s, a.eval x]) _ (ofV_ok (appendA_ok hw t u type e ei du ht hu hb.1.1 he z hz hb.1.2 hb.2 (opnd_ok hw hf s) (opnd_ok hw hf x))) (fun _ => by simp [builtin])
        · trivial
      · trivial
    · trivial
  · rename_i x y hargs
    have e2 := array_two hargs
    subst e2
    exact key (Builtin.max_ ts type #[a.eval x, a.eval y]) _ (ofP_ok hw (minmax_ok true (opnd_ok hw hf x) (opnd_ok hw hf y) ts type)) (fun _ => by simp [builtin])
  · rename_i x y hargs
    have e2 := array_two hargs
    subst e2
    exact key (Builtin.min_ ts type #[a.eval x, a.eval y]) _ (ofP_ok hw (minmax_ok false (opnd_ok hw hf x) (opnd_ok hw hf y) ts type)) (fun _ => by simp [builtin])
  · trivial
end
end Go.Ev
namespace Go.Ev
section
variable {P : Program} {gl : Globs}
theorem cop_ok (hN : NoGor P) (noop : FuncId → Bool) (o : Oper) : ClOk P gl o (cop P gl noop o.op) := by
  obtain ⟨dst, op, type, pos, after, guard⟩ := o
  show ClOk P gl _ (cop P gl noop op)
  unfold cop
  split <;> try (exact bad_ok _)
  · -- move
    rename_i x
    exact fun τ σ G w a hw hf => ⟨a.eval x, w, G, rfl, hw, .refl _ _ _, opnd_ok hw hf x⟩
  · rename_i x
    exact fun τ σ G w a hw hf => ⟨a.eval x, w, G, rfl, hw, .refl _ _ _, opnd_ok hw hf x⟩
  · -- pick
    rename_i c x y
    intro τ σ G w a hw hf
    have h := ofP_ok (P := P) (r := pickA ((opnd gl c).f τ) ((opnd gl x).f τ) ((opnd gl y).f τ)) (s := do pure (if ← asBool (a.eval c) then a.eval x else a.eval y)) hw (fun v hv => by
      obtain ⟨t, ht, hr⟩ := pickA_ok (opnd_ok hw hf c) (opnd_ok hw hf x) (opnd_ok hw hf y) v hv
      exact ⟨_, by simp [ht, asBool], hr⟩)
    have e : execOp a.eval { dst, op := Op.pick c x y, type, pos, after, guard } = (do pure (Next.value (← (do pure (if ← asBool (a.eval c) then a.eval x else a.eval y) : Sem Value)))) := by
      simp [execOp]
    rw [e]
    exact h
  · -- alloc
    rename_i e
    split
    · rename_i i hi
      split
      · rename_i z hz
        exact fun τ σ G w a hw hf => ofV_ok (allocOp_ok hw e i z hi hz)
      · exact bad_ok _
    · exact bad_ok _
  · -- box
    rename_i t x
    exact fun τ σ G w a hw hf => ofV_ok (boxOp_ok hw t (opnd_ok hw hf x))
  · -- build
    rename_i t parts
    split
    · rename_i i hi
      split
      · rename_i z hz
        split
        · rename_i fs ht
          cases hall : fs.toList.all fun f => (P.info? f.type).isSome
          · exact bad_ok _
          · simp only [cond_true]
            split
            · rename_i ps hps
              intro τ σ G w a hw hf
              exact ofP_ok hw (build_struct_ok t fs i z ht hi hz (fun f hf' => List.all_eq_true.1 hall f hf') (by rw [parts_toList]; exact mkParts_ok hw hf _ hps))
            · exact bad_ok _
        · rename_i n e ht
          split
          · rename_i ei he
            split
            · rename_i ps hps
              intro τ σ G w a hw hf
              exact ofP_ok hw (build_array_ok t e n i ei z ht hi he hz (by rw [parts_toList]; exact mkParts_ok hw hf _ hps))
            · exact bad_ok _
          · exact bad_ok _
        · exact bad_ok _
      · exact bad_ok _
    · exact bad_ok _
  · -- buildSlice
    rename_i t len parts
    split
    · rename_i e ht
      split
      · rename_i ei he
        split
        · rename_i z hz
          cases hb : (Nat.beq z.cells.size ei.size && Nat.blt 0 ei.size)
          · exact bad_ok _
          · rw [Bool.and_eq_true, Nat.beq_eq, blt_iff] at hb
            simp only [cond_true]
            split
            · rename_i ps hps
              intro τ σ G w a hw hf
              exact ofV_ok (bsOp_ok hw t e ei z len ht he hz hb.1 hb.2 (by rw [parts_toList]; exact mkParts_ok hw hf _ hps))
            · exact bad_ok _
        · exact bad_ok _
      · exact bad_ok _
    · exact bad_ok _
  · -- load
    rename_i t x
    split
    · rename_i d i hd hi
      exact fun τ σ G w a hw hf => ofP_ok hw (loadOp_ok hw t d i hd hi (opnd_ok hw hf x))
    · exact bad_ok _
  · -- store
    rename_i t x y
    split
    · rename_i i hi
      exact fun τ σ G w a hw hf => ofS_ok fun σ' h => by
        obtain ⟨w', h1, h2, h3⟩ := storeOp_ok (P := P) hw t i hi (opnd_ok hw hf x) (opnd_ok hw hf y) h
        exact ⟨w', G, h1, h2, h3⟩
    · exact bad_ok _
  · -- nilCheck
    rename_i x
    intro τ σ G w a hw hf
    show ResOk P gl σ G w (ofP σ (checkA ((opnd gl x).f τ))) _
    have hx := opnd_ok hw hf x
    cases hc : checkA ((opnd gl x).f τ) with
    | none => trivial
    | some v =>
      obtain ⟨ad, he, hr⟩ := checkA_ok hx hc
      exact ⟨a.eval x, w, G, by simp [execOp, he], hw, .refl _ _ _, hr⟩
  · -- binOp
    rename_i op t x y yt
    split
    · rename_i d hd
      exact fun τ σ G w a hw hf => ofP_ok hw (binA_ok op t d hd x y (opnd_ok hw hf x) (opnd_ok hw hf y))
    · exact bad_ok _
  · rename_i op t x
    exact fun τ σ G w a hw hf => ofP_ok hw (unA_ok op _ _ (opnd_ok hw hf x))
  · -- convert
    rename_i src dst' x
    split
    · rename_i d k hs hd
      exact fun τ σ G w a hw hf => ofP_ok hw (convInt_ok src dst' k (by rw [hs]; rfl) hd _ _ (opnd_ok hw hf x))
    · rename_i e hs hd
      split
      · rename_i he
        intro τ σ G w a hw hf
        have hx := opnd_ok hw hf x
        refine ofV_ok ?_
        intro v σ' hv
        split at hv
        · rename_i l n hl
          rw [hl] at hx
          exact toBytes_ok hw src dst' e hs hd he l n _ hx v σ' hv
        · cases hv
      · exact bad_ok _
    · rename_i e hs hd
      split
      · rename_i he
        exact fun τ σ G w a hw hf => ofP_ok hw (toStr_ok hw src dst' e hs he hd (opnd_ok hw hf x))
      · exact bad_ok _
    · rename_i hs hd
      intro τ σ G w a hw hf
      have hx := opnd_ok hw hf x
      refine ofP_ok hw ?_
      intro v hv
      split at hv
      · rename_i l n hl
        rw [hl] at hx
        cases hv
        have hx0 := hx
        generalize a.eval x = y at hx hx0
        cases hx with
        | str s _ _ h1 h2 => exact ⟨.string s, by simp [convert, run_underlying hs, run_underlying hd], hx0⟩
      · cases hv
    · exact bad_ok _
  · -- makeInterface
    rename_i t x
    cases hc : P.concrete t
    · exact bad_ok _
    · exact fun τ σ G w a hw hf => ⟨.iface t (a.eval x), w, G, by simp [execOp, run_makeInterface w t _ hc], hw, .refl _ _ _, .ifc _ _ _ (opnd_ok hw hf x)⟩
  · -- makeFunc
    rename_i fn fst caps
    exact fun τ σ G w a hw hf => ⟨.func fn (fst.map a.eval) (caps.map a.eval), w, G, by simp [execOp, Instr.makeFunc], hw, .refl _ _ _, .fn _ _ _ _ _ (by rw [Array.toList_map]; exact evals_ok hw hf _) (by rw [Array.toList_map]; exact evals_ok hw hf _)⟩
  · rename_i t
    split
    · rename_i k e ht
      exact fun τ σ G w a hw hf => ofV_ok (mkMap_ok hw t k e ht none (fun x h => by cases h))
    · exact bad_ok _
  · rename_i t x
    split
    · rename_i k e ht
      intro τ σ G w a hw hf
      have hx := opnd_ok hw hf x
      show ResOk P gl σ G w (match (opnd gl x).f τ with | .int _ _ => ofV (mkMap σ) | _ => .fail) _
      split
      · rename_i k' n hl
        rw [hl] at hx
        refine ofV_ok (mkMap_ok hw t k e ht (some (a.eval x)) (fun y h => ?_))
        cases h
        generalize a.eval x = y at hx
        cases hx
        exact ⟨_, _, rfl⟩
      · trivial
    · exact bad_ok _
  · -- makeSlice
    rename_i t l c
    split
    · rename_i e ht
      split
      · rename_i ei he
        split
        · rename_i z hz
          cases hb : (Nat.beq z.cells.size ei.size && Nat.blt 0 ei.size)
          · exact bad_ok _
          · rw [Bool.and_eq_true, Nat.beq_eq, blt_iff] at hb
            exact fun τ σ G w a hw hf => ofV_ok (mkSlice_ok hw t e ei z ht he hz hb.1 hb.2 (opnd_ok hw hf l) (opnd_ok hw hf c))
        · exact bad_ok _
      · exact bad_ok _
    · exact bad_ok _
  · -- slice
    rename_i t x lo hi
    split
    · rename_i ht
      exact fun τ σ G w a hw hf => ofP_ok hw (cutStr_ok t ht (opnd_ok hw hf x) (optE_ok hw hf lo) (optE_ok hw hf hi))
    · rename_i e ht
      split
      · rename_i ei he
        exact fun τ σ G w a hw hf => ofP_ok hw (cutSlice_ok t e ei ht he (opnd_ok hw hf x) (optE_ok hw hf lo) (optE_ok hw hf hi))
      · exact bad_ok _
    · exact bad_ok _
  · -- fieldAddr
    rename_i t x f
    split
    · rename_i fs ht
      split
      · rename_i fd hfd
        split
        · rename_i i hi
          cases hz : Nat.beq i.size 0
          · simp only [cond_false]
            exact fun τ σ G w a hw hf => ofP_ok hw (fieldAt_ok t fs f fd i ht hfd hi (fun e => by rw [e] at hz; cases hz) (opnd_ok hw hf x))
          · exact bad_ok _
        · exact bad_ok _
      · exact bad_ok _
    · exact bad_ok _
  · -- field
    rename_i t x f
    split
    · rename_i fs ht
      split
      · rename_i fd hfd
        split
        · rename_i d i hd hi
          exact fun τ σ G w a hw hf => ofP_ok hw (fieldA_ok t fs f fd d i ht hfd hd hi (opnd_ok hw hf x))
        · exact bad_ok _
      · exact bad_ok _
    · exact bad_ok _
  · -- indexAddr
    rename_i t x i
    split
    · rename_i e ht
      split
      · rename_i ei he
        exact fun τ σ G w a hw hf => ofP_ok hw (idxSlice_ok t e ei ht he (opnd_ok hw hf x) (opnd_ok hw hf i))
      · exact bad_ok _
    · rename_i n e ht
      split
      · rename_i ei he
        exact fun τ σ G w a hw hf => ofP_ok hw (idxArr_ok t e n ei ht he (opnd_ok hw hf x) (opnd_ok hw hf i))
      · exact bad_ok _
    · exact bad_ok _
  · -- index
    rename_i t x i
    split
    · rename_i ht
      exact fun τ σ G w a hw hf => ofP_ok hw (sIndexA_ok t ht _ _ _ _ (opnd_ok hw hf x) (opnd_ok hw hf i))
    · exact bad_ok _
  · -- lookup
    rename_i t m k ok
    split
    · rename_i kt e ht
      split
      · rename_i d ei hk he
        split
        · rename_i z hz
          cases hd : plainKey d
          · exact bad_ok _
          · exact fun τ σ G w a hw hf => ofP_ok hw (lookA_ok hw t kt e d ei z ok ht hk hd he hz (opnd_ok hw hf m) (opnd_ok hw hf k))
        · exact bad_ok _
      · exact bad_ok _
    · exact bad_ok _
  · -- mapUpdate
    rename_i t m k v
    split
    · rename_i kt e ht
      split
      · rename_i d hk
        cases hd : plainKey d
        · exact bad_ok _
        · exact fun τ σ G w a hw hf => ofS_ok fun σ' h => by
            obtain ⟨w', h1, h2, h3⟩ := putA_ok (P := P) hw t kt e d ht hk hd (opnd_ok hw hf m) (opnd_ok hw hf k) (opnd_ok hw hf v) h
            exact ⟨w', G, h1, h2, h3⟩
      · exact bad_ok _
    · exact bad_ok _
  · rename_i t m k v
    split
    · rename_i kt e ht
      split
      · rename_i d hk
        cases hd : plainKey d
        · exact bad_ok _
        · exact fun τ σ G w a hw hf => ofS_ok fun σ' h => by
            obtain ⟨w', h1, h2, h3⟩ := putA_ok (P := P) hw t kt e d ht hk hd (opnd_ok hw hf m) (opnd_ok hw hf k) (opnd_ok hw hf v) h
            exact ⟨w', G, h1, h2, h3⟩
      · exact bad_ok _
    · exact bad_ok _
  · -- range
    rename_i t x
    split
    · rename_i ht
      exact fun τ σ G w a hw hf => ofV_ok (rangeA_ok hw t ht (opnd_ok hw hf x))
    · exact bad_ok _
  · rename_i it
    exact fun τ σ G w a hw hf => ofV_ok (nextA_ok hw type (opnd_ok hw hf it))
  · -- typeAssert
    rename_i x xt t ok
    cases hc : P.concrete t
    · exact bad_ok _
    · exact fun τ σ G w a hw hf => ofP_ok hw (assertA_ok xt t ok hc _ _ (opnd_ok hw hf x))
  · rename_i x i
    exact fun τ σ G w a hw hf => ofP_ok hw (extractA_ok _ _ i (opnd_ok hw hf x))
  · -- a call of a function
    rename_i f args tys
    cases hc : callable P f
    · exact bad_ok _
    · obtain ⟨fn, h1, h2⟩ := callable_some hc
      intro τ σ G w a hw hf
      refine ⟨⟨fn, h1, h2⟩, args.map a.eval, ?_, by rw [Array.toList_map]; exact evals_ok hw hf _⟩
      have := run_callFunc (w := w) hN h1 h2 (args.map a.eval)
      simp only [execOp, resolve, Act.eval, Deferred.ofValue, Sem.run_bind, Sem.run_pure, Result.andThen_ok, invoke]
      simpa using this
  · -- of a value
    rename_i x args tys _
    intro τ σ G w a hw hf
    exact callV_ok hN (opnd_ok hw hf x) (vs := args.map a.eval) (by rw [Array.toList_map]; exact evals_ok hw hf _)
  · exact cBuiltin_ok _ _ _ _ _ _ _ _
  · -- defer
    rename_i x args tys
    intro τ σ G w a hw hf
    exact dfrV_ok noop (opnd_ok hw hf x) (vs := args.map a.eval) (by rw [Array.toList_map]; exact evals_ok hw hf _)
end
end Go.Ev
