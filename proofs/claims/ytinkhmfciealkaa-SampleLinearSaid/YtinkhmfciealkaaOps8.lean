/- make, maps, and all operations together. -/
import Derived.Test.YtinkhmfciealkaaOps7
set_option linter.unusedSimpArgs false
namespace Go.Ev
open Go.RowKit

section
variable {P : Program} {s s' : PS} {o : Oper}

theorem step_makeSlice {T : TypeId} {x y : Operand} (ho : o.op = .makeSlice T x y) (h : makeSliceOp P s o T (evL s x) (evL s y) = some (true, s')) : StepOk P s o s' := by
  unfold makeSliceOp at h
  split at h
  case h_2 => cases h
  rename_i E d k1 n k2 c hu hd hx hy
  split at h
  case h_2 => cases h
  rename_i e z he hz
  split at h
  case h_2 => cases h
  rename_i x0 hb
  split at h
  case isFalse => cases h
  rename_i hc
  obtain ⟨hsz, hpos, hzl⟩ := hc
  split at h
  case h_2 => cases h
  rename_i s1 hs1
  obtain ⟨hcond, rfl⟩ := Prod.mk.inj (Option.some.inj h)
  simp only [roomFor, Bool.and_eq_true, decide_eq_true_eq] at hcond
  obtain ⟨h0, rfl, hr1, hr2⟩ := hcond
  refine StepOk.made hd fun B0 w0 β p a w inv => ?_
  obtain ⟨i, zv, hi, hzv, hzr⟩ := zero_ok (P := P) (w := w) (p := p) (β := β) (H := s.blk) hz
  have hbytes : P.bytesOf E = i.bytes := by simp [Program.bytesOf, hi]
  have hisz : i.size = e.size := by rw [hsz]; simp [Program.cellsOf, hi]
  have ex := evL_int inv hx
  have ey := evL_int inv hy
  obtain ⟨m, rfl⟩ := Int.eq_ofNat_of_zero_le h0
  simp only [Int.toNat_natCast] at hr1 hr2 hs1
  have hb2 : i.bytes * m ≤ 281474976710656 := by rw [← hbytes, Nat.mul_comm]; omega
  have hm2 : m ≤ maxLen := by unfold maxLen; omega
  obtain ⟨w', hrun, hown, hgrow⟩ := run_make_full (P := P) w B0 T E i zv e.size hu hi hzv hisz k1 k2 m hb2 hm2 inv.base
  have hzlen : zv.cells.toList.length = e.size := by rw [← hzr.1]; exact hzl
  have hmade := made_flat zv.cells.toList (by omega) m
  rw [hzlen] at hmade
  have hel := build_ok hb hzr
  have hrow : Rows' e.size (RepT w p e) (List.replicate m x0) ((List.replicate m zv.cells.toList).flatten) := by
    refine ⟨by simp [hzlen], fun j y hj => ?_⟩
    rw [List.getElem?_replicate] at hj
    split at hj
    · rename_i hjm
      obtain rfl := Option.some.inj hj
      have e1 : (((List.replicate m zv.cells.toList).flatten).drop (j * e.size)).take e.size = zv.cells.toList := by
        have h2 : (List.replicate m zv.cells.toList).flatten = (List.replicate j zv.cells.toList).flatten ++ (zv.cells.toList ++ (List.replicate (m - j - 1) zv.cells.toList).flatten) := by
          rw [← List.flatten_cons, ← List.flatten_append, ← List.replicate_succ, List.replicate_append_replicate]
          congr 2
          omega
        have h3 : ((List.replicate j zv.cells.toList).flatten).length = j * e.size := by simp [hzlen]
        rw [h2, ← h3, List.drop_left, ← hzlen, List.take_left]
      rw [e1]
      exact hel
    · cases hj
  have hbel : Below w.heap.size w w' := (Below.refl _ w).grown hgrow (Nat.le_refl _) (fun k hk => by cases hk)
  obtain ⟨β', hinv⟩ := inv.allocAt hs1 (r0 := .slice (some ⟨w.heap.size, 0, none⟩) m m) (v := .slice (some ⟨w.heap.size, 0, none⟩) m m) hbel (fun b hb => by obtain rfl := Option.some.inj hb; exact Nat.le_refl _) (fun β' H' hk hβ hH => by
    refine ⟨⟨_, by rw [List.length_replicate]; exact hown, hpos, ?_⟩, repC_l (w := w') (p := p) (c := .full d) ⟨hβ, by rw [hH]; trivial, rfl⟩⟩
    have hmd : (madeCells zv.cells (m * e.size)).toList = (List.replicate m zv.cells.toList).flatten := by
      simpa using hmade
    rw [hmd]
    exact rows_imp (fun b hb => ⟨hb, hbel.block b (inv.shared b hb).1⟩) hrow)
  refine ⟨_, _, ?_, β', p, hinv⟩
  simp only [execOp, ho, ex, ey, Sem.run_bind, hrun, Result.andThen_ok, Sem.run_pure]

/-! ### Maps with integer keys -/

theorem vof_int {us : List Value} {k : IntKind} {n : Int} {v : Value} {w : World} {p : Nat → Prop} (h : RepT w p (.int k) n us) (hv : VOf false us v) : v = .int k n := by
  simp only [RepT] at h
  simp only [VOf, Bool.false_eq_true, if_false] at hv
  rw [h] at hv
  simpa using hv.symm

/-- A map's entries, and what stands for them. -/
def Ents (w : World) (p : Nat → Prop) (k : IntKind) (v : Sh) (es : List (Int × v.T)) (ms : List MapEntry) : Prop :=
  ms.length = es.length ∧ ∀ (i : Nat) (x : Int × v.T) (m : MapEntry), es[i]? = some x → ms[i]? = some m → m.key = .int k x.1 ∧ ∃ us, RepT w p v x.2 us ∧ us.length = v.size ∧ VOf v.isAgg us m.val

theorem ents_of {w : World} {p : Nat → Prop} {k : IntKind} {v : Sh} {es : List (Int × v.T)} {ms : Array MapEntry} (hs : ms.size = es.length)
    (h : ∀ (i : Nat) (x : (Sh.int k).T × v.T) (m : MapEntry), es[i]? = some x → ms[i]? = some m → (∃ us, RepT w p (.int k) x.1 us ∧ us.length = (Sh.int k).size ∧ VOf (Sh.int k).isAgg us m.key) ∧ (∃ us, RepT w p v x.2 us ∧ us.length = v.size ∧ VOf v.isAgg us m.val)) : Ents w p k v es ms.toList := by
  refine ⟨by simpa using hs, fun i x m hx hm => ?_⟩
  obtain ⟨⟨us, a1, a2, a3⟩, hv⟩ := h i x m hx (by simpa using hm)
  exact ⟨vof_int a1 a3, hv⟩

theorem Ents.uncons {w : World} {p : Nat → Prop} {k : IntKind} {v : Sh} {x : Int × v.T} {es : List (Int × v.T)} {ms : List MapEntry} (h : Ents w p k v (x :: es) ms) :
    ∃ m ms', ms = m :: ms' ∧ m.key = .int k x.1 ∧ (∃ us, RepT w p v x.2 us ∧ us.length = v.size ∧ VOf v.isAgg us m.val) ∧ Ents w p k v es ms' := by
  cases ms with
  | nil => have := h.1; simp at this
  | cons m ms' =>
    obtain ⟨h1, h2⟩ := h.2 0 x m rfl rfl
    exact ⟨m, ms', rfl, h1, h2, by have := h.1; simpa using this, fun i y n hy hn => h.2 (i + 1) y n (by simpa using hy) (by simpa using hn)⟩

theorem find_ok {w : World} {p : Nat → Prop} {k k0 : IntKind} {v : Sh} (n : Int) (d : v.T) : ∀ {es : List (Int × v.T)} {ms : List MapEntry} (j : Nat), Ents w p k v es ms →
    ∃ r, Instr.findNow (.int k0) (.int k n) ms j = some r ∧ (r = none → mapHas n es = false ∧ mapGet n d es = d) ∧
      (∀ i u, r = some (i, u) → mapHas n es = true ∧ ∃ i' m, i = j + i' ∧ ms[i']? = some m ∧ u = m.val ∧ m.key = .int k n ∧ ∃ us, RepT w p v (mapGet n d es) us ∧ us.length = v.size ∧ VOf v.isAgg us u)
  | [], ms, j, h => by
    have : ms = [] := List.eq_nil_of_length_eq_zero h.1
    subst this
    exact ⟨none, rfl, fun _ => ⟨rfl, rfl⟩, fun i u h => by cases h⟩
  | (q, y) :: es, ms, j, h => by
    obtain ⟨m, ms', rfl, hkey, hval, hrest⟩ := h.uncons
    simp only [Instr.findNow, hkey, Instr.sameNow, if_true]
    cases hq : n == q with
    | true =>
      refine ⟨some (j, m.val), rfl, (fun h => by cases h), fun i u hu => ?_⟩
      obtain ⟨rfl, rfl⟩ := Prod.mk.inj (Option.some.inj hu)
      refine ⟨by simp [mapHas, hq], 0, m, rfl, rfl, rfl, by rw [hkey, beq_iff_eq.1 hq], ?_⟩
      simpa [mapGet, hq] using hval
    | false =>
      obtain ⟨r, h1, h2, h3⟩ := find_ok (k0 := k0) n d (j + 1) hrest
      refine ⟨r, h1, fun hr => by simpa [mapHas, mapGet, hq] using h2 hr, fun i u hu => ?_⟩
      obtain ⟨a1, i', m', a2, a3, a4, a5, a6⟩ := h3 i u hu
      refine ⟨by simpa [mapHas, hq] using a1, i' + 1, m', by omega, by simpa using a3, a4, a5, by simpa [mapGet, hq] using a6⟩

theorem run_checkKey_int {K : TypeId} {k0 k : IntKind} (hu : P.underlying K = some (.int k0)) (w : World) (b : Bool) (m : Nat) (n : Int) : (Instr.checkKey b (m + 1) K (.int k n)).run P w = .ok () w := by
  simp [Instr.checkKey, run_underlying hu]

theorem step_lookup {T : TypeId} {x y : Operand} {c : Bool} (ho : o.op = .lookup T x y c) (h : lookupOp P s o T (evL s x) (evL s y) c = some (true, s')) : StepOk P s o s' := by
  unfold lookupOp at h
  split at h
  case h_2 => cases h
  rename_i K E hu
  split at h
  case h_2 => cases h
  rename_i v z k n he hz hy
  split at h
  case h_2 => cases h
  rename_i d hb
  split at h
  case isFalse => cases h
  rename_i hkt
  obtain ⟨k0, hku⟩ : ∃ k0, P.underlying K = some (.int k0) := by
    unfold isIntT at hkt
    cases hK : P.underlying K with
    | none => simp [hK] at hkt
    | some dd => cases dd <;> simp [hK] at hkt; exact ⟨_, rfl⟩
  simp only [] at h
  split at h
  case h_2 => cases h
  rename_i es hes
  split at h
  case isFalse => cases h
  rename_i hagg
  -- the map in memory
  have mem : ∀ {B0 w0 β p a w}, Inv B0 w0 β p s a w → ∃ r : Option Nat, a.eval x = .map r ∧ ((r = none ∧ es = []) ∨ ∃ b ms clock, r = some b ∧ w.heap[b]? = some (.map ms clock) ∧ Ents w p k v es ms.toList) := by
    intro B0 w0 β p a w inv
    split at hes
    · rename_i k' v' es' hx
      split at hes
      · rename_i hv'
        subst hv'
        split at hes
        · rename_i hk'
          subst hk'
          obtain rfl : es' = es := Option.some.inj hes
          have cx := evL_ok inv x (by rw [hx]; intro e; cases e)
          rw [hx] at cx
          simp only [RepL, RepT] at cx
          obtain ⟨r, ex, hr⟩ := cx
          refine ⟨r, by simpa using ex, hr.imp id ?_⟩
          rintro ⟨b, ms, clock, rfl, _, hh, hs, hm⟩
          exact ⟨b, ms, clock, rfl, hh, ents_of hs hm⟩
        · cases hes
      · cases hes
    · rename_i t hx
      have cx := evL_ok inv x (by rw [hx]; intro e; cases e)
      rw [hx] at cx
      obtain ⟨hr, _, _⟩ := cx
      split at hes
      · rename_i k' v' es' hs
        split at hes
        · rename_i hv'
          subst hv'
          split at hes
          · rename_i hk'
            subst hk'
            obtain rfl : es' = es := Option.some.inj hes
            have hrep := inv.blk hr
            rw [hs] at hrep
            obtain ⟨b, ms, clock, e1, _, hh, hsz, hm⟩ := hrep
            exact ⟨some b, e1, .inr ⟨b, ms, clock, rfl, hh, ents_of hsz hm⟩⟩
          · cases hes
        · cases hes
      · cases hes
    · cases hes
  -- what is found
  have key : ∀ {B0 w0 β p a w}, Inv B0 w0 β p s a w → ∃ u, (execOp a.eval o).run P w = .ok (.value (if c then .tuple #[u, .bool (mapHas n es)] else u)) w ∧ RepC w p β s.blk (v.cv (mapGet n d es)) u := by
    intro B0 w0 β p a w inv
    obtain ⟨i, zv, hi, hzv, hzr⟩ := zero_ok (P := P) (w := w) (p := p) (β := β) (H := s.blk) hz
    have hzd := build_ok hb hzr
    have ey := evL_int inv hy
    have hzval : RepC w p β s.blk (v.cv d) zv := by
      refine cv_ok hzd ?_
      rw [hagg]
      exact zero_vof hz hi hzv
    obtain ⟨r, ex, hr⟩ := mem inv
    have hrun : ∀ (ms : Array MapEntry) (g : Nat) (clock : Nat), w.heap[g]? = some (.map ms clock) → Ents w p k v es ms.toList → a.eval x = .map (some g) → ∃ u, (execOp a.eval o).run P w = .ok (.value (if c then .tuple #[u, .bool (mapHas n es)] else u)) w ∧ RepC w p β s.blk (v.cv (mapGet n d es)) u := by
      intro ms g clock hh hents ex
      obtain ⟨r, h1, h2, h3⟩ := find_ok (k0 := k0) n d 0 hents
      cases r with
      | none =>
        obtain ⟨a1, a2⟩ := h2 rfl
        refine ⟨zv, ?_, by rw [a2]; exact hzval⟩
        cases c <;> simp [execOp, ho, ex, ey, Instr.lookup, run_underlying hu, getObj, Sem.run, hh, run_checkKey_int hku w _ 9999 n, Instr.findKey, run_underlying hku, h1, zeroValue, typeInfo, hi, hzv, a1]
      | some iu =>
        obtain ⟨i1, u⟩ := iu
        obtain ⟨a1, i', m, _, _, _, _, us, b1, b2, b3⟩ := h3 i1 u rfl
        refine ⟨u, ?_, cv_ok b1 b3⟩
        cases c <;> simp [execOp, ho, ex, ey, Instr.lookup, run_underlying hu, getObj, Sem.run, hh, run_checkKey_int hku w _ 9999 n, Instr.findKey, run_underlying hku, h1, a1]
    rcases hr with ⟨rfl, rfl⟩ | ⟨b, ms, clock, rfl, hh, hents⟩
    · refine ⟨zv, ?_, hzval⟩
      cases c <;> simp [execOp, ho, ex, ey, Instr.lookup, run_underlying hu, run_checkKey_int hku w _ 9999 n, Instr.findKey, run_underlying hku, Instr.findNow, zeroValue, typeInfo, hi, hzv, mapHas]
    · exact hrun ms b clock hh hents ex
  split at h
  · rename_i hc
    subst hc
    obtain rfl := congrArg Prod.snd (okStep h)
    refine StepOk.value fun B0 w0 β p a w inv => ?_
    obtain ⟨u, hr, hu⟩ := key inv
    refine ⟨_, by simpa using hr, _, rfl, rfl, fun i c v hc hv => ?_⟩
    match i with
    | 0 => simp at hc hv; subst hc; subst hv; exact hu
    | 1 => simp at hc hv; subst hc; subst hv; exact rfl
    | i + 2 => simp at hc
  · rename_i hc
    obtain rfl := congrArg Prod.snd (okStep h)
    refine StepOk.value fun B0 w0 β p a w inv => ?_
    obtain ⟨u, hr, hu⟩ := key inv
    exact ⟨u, by simpa [hc] using hr, hu⟩

theorem below_setObj {w : World} {B0 b : Nat} {x : Obj} (hb : B0 ≤ b) : Below B0 w { w with heap := w.heap.setIfInBounds b x } :=
  ⟨rfl, rfl, rfl, by simp, fun k hk => by simp [Array.getElem?_setIfInBounds, show b ≠ k from by omega]⟩

theorem step_makeMap {T : TypeId} (ho : o.op = .makeMap T none) (h : makeMapOp P s o T = some (true, s')) : StepOk P s o s' := by
  unfold makeMapOp at h
  split at h
  case h_2 => cases h
  rename_i d k v hd hsh
  split at h
  case h_2 => cases h
  rename_i s1 hs1
  obtain rfl := (Prod.mk.inj (Option.some.inj h)).2
  refine StepOk.made hd fun B0 w0 β p a w inv => ?_
  obtain ⟨β', hinv⟩ := inv.allocAt hs1 (r0 := .map (some w.heap.size)) (v := .map (some w.heap.size)) (below_alloc w (.map #[] 0)) (fun b hb => by obtain rfl := Option.some.inj hb; exact Nat.le_refl _) (fun β' H' hk hβ hH => by
    refine ⟨⟨w.heap.size, #[], 0, rfl, inv.base, heap_alloc_new w _, rfl, fun i x m hx => by simp at hx⟩, repC_l (w := w.alloc (.map #[] 0)) (p := p) (c := .mref d) ⟨hβ, by rw [hH]; trivial, rfl⟩⟩)
  refine ⟨_, _, ?_, β', p, hinv⟩
  simp [execOp, ho, Instr.makeMap]

/-- What is put into a map. -/
theorem put_found {w : World} {p : Nat → Prop} {k : IntKind} {v : Sh} (n : Int) (y : v.T) {u : Value} {us : List Value} (h1 : RepT w p v y us) (h2 : us.length = v.size) (h3 : VOf v.isAgg us u) (k0 : IntKind) :
    ∀ {es : List (Int × v.T)} {ms : List MapEntry} (j i : Nat) (x : Value), Ents w p k v es ms → Instr.findNow (.int k0) (.int k n) ms j = some (some (i, x)) →
      j ≤ i ∧ (∃ m, ms[i - j]? = some m ∧ m.key = .int k n) ∧ Ents w p k v (mapPut n y es) (ms.modify (i - j) fun e => { e with key := .int k n, val := u })
  | [], ms, j, i, x, h, hf => by
    have : ms = [] := List.eq_nil_of_length_eq_zero h.1
    subst this
    simp [Instr.findNow] at hf
  | (q, z) :: es, ms, j, i, x, h, hf => by
    obtain ⟨m, ms', rfl, hkey, hval, hrest⟩ := h.uncons
    simp only [Instr.findNow, hkey, Instr.sameNow, if_true] at hf
    cases hq : n == q with
    | true =>
      rw [hq] at hf
      simp only [Option.some.injEq, Prod.mk.injEq] at hf
      obtain ⟨rfl, rfl⟩ := hf
      have hnq := beq_iff_eq.1 hq
      refine ⟨Nat.le_refl _, ⟨m, by simp, by rw [hkey, hnq]⟩, ?_⟩
      simp only [Nat.sub_self, mapPut, hq, cond_true]
      refine ⟨by simp [hrest.1], fun i' x' m' hx hm => ?_⟩
      cases i' with
      | zero => simp at hx hm; subst hx; subst hm; exact ⟨rfl, us, h1, h2, h3⟩
      | succ i' => simp at hx hm; exact hrest.2 i' x' m' hx hm
    | false =>
      rw [hq] at hf
      simp only [] at hf
      obtain ⟨a1, a2, a3⟩ := put_found n y h1 h2 h3 k0 (j + 1) i x hrest hf
      have e : i - j = (i - (j + 1)) + 1 := by omega
      refine ⟨by omega, by rw [e]; simpa using a2, ?_⟩
      rw [e]
      simp only [mapPut, hq, cond_false]
      refine ⟨by have := a3.1; simp at this ⊢; exact this, fun i' x' m' hx hm => ?_⟩
      cases i' with
      | zero => simp at hx hm; subst hx; subst hm; exact ⟨hkey, hval⟩
      | succ i' => simp at hx hm; exact a3.2 i' x' m' hx (by simpa using hm)

theorem put_new {w : World} {p : Nat → Prop} {k : IntKind} {v : Sh} (n : Int) (y : v.T) {u : Value} {us : List Value} (h1 : RepT w p v y us) (h2 : us.length = v.size) (h3 : VOf v.isAgg us u) (k0 : IntKind) (born : Nat) :
    ∀ {es : List (Int × v.T)} {ms : List MapEntry} (j : Nat), Ents w p k v es ms → Instr.findNow (.int k0) (.int k n) ms j = some none →
      Ents w p k v (mapPut n y es) (ms ++ [{ key := .int k n, val := u, born := born }])
  | [], ms, j, h, hf => by
    have : ms = [] := List.eq_nil_of_length_eq_zero h.1
    subst this
    refine ⟨rfl, fun i' x' m' hx hm => ?_⟩
    cases i' with
    | zero => simp [mapPut] at hx hm; subst hx; subst hm; exact ⟨rfl, us, h1, h2, h3⟩
    | succ i' => simp [mapPut] at hx
  | (q, z) :: es, ms, j, h, hf => by
    obtain ⟨m, ms', rfl, hkey, hval, hrest⟩ := h.uncons
    simp only [Instr.findNow, hkey, Instr.sameNow, if_true] at hf
    cases hq : n == q with
    | true => rw [hq] at hf; simp at hf
    | false =>
      rw [hq] at hf
      simp only [] at hf
      have a3 := put_new n y h1 h2 h3 k0 born (j + 1) hrest hf
      simp only [mapPut, hq, cond_false]
      refine ⟨by have := a3.1; simp at this ⊢; exact this, fun i' x' m' hx hm => ?_⟩
      cases i' with
      | zero => simp at hx hm; subst hx; subst hm; exact ⟨hkey, hval⟩
      | succ i' => simp at hx hm; exact a3.2 i' x' m' hx (by simpa using hm)

theorem step_mapUpdate {T : TypeId} {x y z : Operand} (ho : o.op = .mapUpdate T x y z) (hd : o.dst = none) (h : mapUpdateOp P s T (evL s x) (evL s y) (evC s z) = some (true, s')) : StepOk P s o s' := by
  unfold mapUpdateOp at h
  split at h
  case h_2 => cases h
  rename_i K E t k n hu hx hy
  split at h
  case h_2 => cases h
  rename_i k' v es hs
  split at h
  case isFalse => cases h
  rename_i hc
  obtain ⟨hk, hagg, hkt, hkn⟩ := hc
  subst hk
  obtain ⟨k0, hku⟩ : ∃ k0, P.underlying K = some (.int k0) := by
    unfold isIntT at hkt
    cases hK : P.underlying K with
    | none => simp [hK] at hkt
    | some dd => cases dd <;> simp [hK] at hkt; exact ⟨_, rfl⟩
  split at h
  case h_2 => cases h
  rename_i y' hb
  obtain rfl := (Prod.mk.inj (Option.some.inj h)).2
  refine StepOk.skip (fun B0 w0 β p a w inv => ?_) hd
  have cx := evL_ok inv x (by rw [hx]; intro e; cases e)
  rw [hx] at cx
  obtain ⟨hr, _, _⟩ := cx
  have ey := evL_int inv hy
  have cz := evC_ok inv z
  have hcz := cells_known cz hkn
  have hrt := build_ok hb hcz
  have hvof : VOf v.isAgg (a.eval z).cells.toList (a.eval z) := by
    rw [hagg]
    cases hz : evC s z with
    | l c =>
      rw [hz] at cz
      have hne : c ≠ .undef := by intro e; subst e; rw [hz] at hkn; simp [CV.known] at hkn
      simp only [CV.isAggC, VOf, Bool.false_eq_true, if_false]
      rw [cells_one (repL_of hne cz).oneCell]
    | agg cs =>
      rw [hz] at cz
      obtain ⟨vs, e, _⟩ := cz
      rw [e]
      simp [CV.isAggC, VOf, Value.cells]
  have hrep := inv.blk hr
  rw [hs] at hrep
  obtain ⟨b, ms, clock, e1, hB, hh, hsz, hm⟩ := hrep
  have hents := ents_of hsz hm
  have hlt : b < w.heap.size := (Array.getElem?_eq_some_iff.1 hh).1
  have finish : ∀ (ms' : Array MapEntry) (clock' : Nat), Ents w p k v (mapPut n y' es) ms'.toList → ∃ β' p', Inv B0 w0 β' p' (s.setB t (.map (.int k) v (mapPut n y' es))) a { w with heap := w.heap.setIfInBounds b (.map ms' clock') } := by
    intro ms' clock' hents'
    refine ⟨β, p, inv.write hr (below_setObj hB) (fun g hg => ?_) (by rw [hs]; exact ⟨_, rfl⟩) (fun hk => ?_)⟩
    · have : b ≠ g := fun e => hg (by rw [e1, e]; rfl)
      simp [Array.getElem?_setIfInBounds, this]
    · refine ⟨b, ms', clock', e1, hB, by simp [Array.getElem?_setIfInBounds, hlt], by simpa using hents'.1, fun i x m hx hm => ?_⟩
      obtain ⟨a1, us, a2, a3, a4⟩ := hents'.2 i x m hx (by simpa using hm)
      exact ⟨⟨[.int k x.1], rfl, rfl, by simp [VOf, Sh.isAgg, a1]⟩, us, RepT.mono hk.data a2, a3, a4⟩
  obtain ⟨r, h1, h2, h3⟩ := find_ok (k0 := k0) n v.dflt 0 hents
  cases r with
  | none =>
    have hput := put_new n y' hrt hrt.length hvof k0 clock 0 hents h1
    refine ⟨_, ?_, finish (ms.push { key := .int k n, val := a.eval z, born := clock }) (clock + 1) (by simpa using hput)⟩
    simp [execOp, ho, e1, ey, Instr.mapUpdate, run_underlying hu, getObj, setObj, Sem.run, hh, run_checkKey_int hku w _ 9999 n, Instr.findKey, run_underlying hku, h1]
  | some iu =>
    obtain ⟨i1, u⟩ := iu
    obtain ⟨a1, i', m, e2, a3, a4, a5, _⟩ := h3 i1 u rfl
    obtain ⟨_, _, hput⟩ := put_found n y' hrt hrt.length hvof k0 0 i1 u hents h1
    rw [Nat.sub_zero] at hput
    have hkey : ((ms[i1]?).map (·.key)).getD (Value.int k n) = .int k n := by
      rw [Nat.zero_add] at e2
      subst e2
      have : ms[i1]? = some m := by simpa using a3
      rw [this]; exact a5
    refine ⟨_, ?_, finish (ms.modify i1 fun e => { e with key := .int k n, val := a.eval z }) clock (by simpa [Array.toList_modify] using hput)⟩
    simp [execOp, ho, e1, ey, Instr.mapUpdate, run_underlying hu, getObj, setObj, Sem.run, hh, run_checkKey_int hku w _ 9999 n, Instr.findKey, run_underlying hku, h1, Instr.keyThatStays]
    intro hsame
    rw [hkey] at hsame
    simp [Instr.sameBits] at hsame

theorem complex_eq (ts : Array TypeId) (ty : TypeId) (a b : Nat) : Builtin.complex_ ts ty #[.float .f32 a, .float .f32 b] = pure (.complex .f32 a b) := rfl
theorem real_eq (ts : Array TypeId) (ty : TypeId) (k : FloatKind) (a b : Nat) : Builtin.real_ ts ty #[.complex k a b] = pure (.float k a) := rfl
theorem imag_eq (ts : Array TypeId) (ty : TypeId) (k : FloatKind) (a b : Nat) : Builtin.imag_ ts ty #[.complex k a b] = pure (.float k b) := rfl

theorem run_len {T : TypeId} {x : Operand} {ts : Array TypeId} (ht : ts.toList = [T]) {args : Array Operand} (ha : args.toList = [x]) (ho : o.op = .call { callee := .builtin .len, args := args, argTypes := ts }) (a : Act) {w : World} {v : Value}
    (h : (Builtin.len_ #[T] o.type #[a.eval x]).run P w = .ok v w) : (execOp a.eval o).run P w = .ok (.value v) w := by
  obtain ⟨l⟩ := args
  obtain rfl : l = [x] := ha
  obtain ⟨l⟩ := ts
  obtain rfl : l = [T] := ht
  simp [execOp, ho, resolve, invoke, builtin, h]

theorem step_builtin {b : Builtin} {args : Array Operand} {ts : Array TypeId} (ho : o.op = .call { callee := .builtin b, args := args, argTypes := ts }) (h : builtinOp P s o b args.toList ts.toList = some (true, s')) : StepOk P s o s' := by
  unfold builtinOp at h
  split at h
  · rename_i x T ha ht
    split at h
    · rename_i n E hu
      obtain rfl := congrArg Prod.snd (okL_eq h)
      refine StepOk.value fun B0 w0 β p a w inv => ⟨.int .i64 n, run_len ht ha ho a (by simp [Builtin.len_, run_underlying hu, goInt]), rfl⟩
    · rename_i E hu
      split at h
      · rename_i n hn
        obtain rfl := congrArg Prod.snd (okL_eq h)
        refine StepOk.value fun B0 w0 β p a w inv => ⟨.int .i64 n, ?_, rfl⟩
        obtain ⟨ad, cap, e⟩ := lenOf_ok inv hn
        exact run_len ht ha ho a (by simp [Builtin.len_, run_underlying hu, goInt, e])
      · cases h
    · rename_i hu
      split at h
      · rename_i b hx
        obtain rfl := congrArg Prod.snd (okL_eq h)
        refine StepOk.value fun B0 w0 β p a w inv => ⟨.int .i64 b.size, ?_, rfl⟩
        have cx := evL_ok inv x (by rw [hx]; intro e; cases e)
        rw [hx] at cx
        have ex : a.eval x = .string b := cx
        exact run_len ht ha ho a (by simp [Builtin.len_, run_underlying hu, goInt, ex])
      · cases h
    · rename_i k v hu
      split at h
      · rename_i n hn
        obtain rfl := congrArg Prod.snd (okL_eq h)
        refine StepOk.value fun B0 w0 β p a w inv => ⟨.int .i64 n, ?_, rfl⟩
        rcases lenMap_ok inv hn with ⟨e, rfl⟩ | ⟨r, ms, c, e, hh, hl⟩
        · exact run_len ht ha ho a (by simp [Builtin.len_, run_underlying hu, goInt, e])
        · exact run_len ht ha ho a (by simp [Builtin.len_, run_underlying hu, goInt, e, getObj, Sem.run, hh, hl])
      · cases h
    · cases h
  · rename_i x y T U ha ht
    split at h
    · rename_i hTU
      subst hTU
      obtain ⟨l⟩ := args
      obtain rfl : l = [x, y] := ha
      obtain ⟨l⟩ := ts
      obtain rfl : l = [T, T] := ht
      exact step_append ho h
    · cases h
  · exact step_minmax (isMax := true) rfl ho h
  · exact step_minmax (isMax := false) rfl ho h
  · rename_i x y ha
    obtain ⟨l⟩ := args
    obtain rfl : l = [x, y] := ha
    split at h
    · rename_i m n hx hy
      obtain rfl := congrArg Prod.snd (okL_eq h)
      refine StepOk.value fun B0 w0 β p a w inv => ?_
      have cx := evL_ok inv x (by rw [hx]; intro e; cases e)
      have cy := evL_ok inv y (by rw [hy]; intro e; cases e)
      rw [hx] at cx
      rw [hy] at cy
      obtain ⟨b1, e1, f1⟩ := cx
      obtain ⟨b2, e2, f2⟩ := cy
      have e1' : a.eval x = .float .f32 b1 := by simpa using e1
      have e2' : a.eval y = .float .f32 b2 := by simpa using e2
      exact ⟨.complex .f32 b1 b2, by simp [execOp, ho, resolve, invoke, builtin, e1', e2', complex_eq], b1, b2, rfl, f1, f2⟩
    · cases h
  · rename_i x ha
    obtain ⟨l⟩ := args
    obtain rfl : l = [x] := ha
    split at h
    · rename_i m n hx
      obtain rfl := congrArg Prod.snd (okL_eq h)
      refine StepOk.value fun B0 w0 β p a w inv => ?_
      have cx := evL_ok inv x (by rw [hx]; intro e; cases e)
      rw [hx] at cx
      obtain ⟨b1, b2, e1, f1, f2⟩ := cx
      have e1' : a.eval x = .complex .f32 b1 b2 := by simpa using e1
      exact ⟨.float .f32 b1, by simp [execOp, ho, resolve, invoke, builtin, e1', real_eq], b1, rfl, f1⟩
    · cases h
  · rename_i x ha
    obtain ⟨l⟩ := args
    obtain rfl : l = [x] := ha
    split at h
    · rename_i m n hx
      obtain rfl := congrArg Prod.snd (okL_eq h)
      refine StepOk.value fun B0 w0 β p a w inv => ?_
      have cx := evL_ok inv x (by rw [hx]; intro e; cases e)
      rw [hx] at cx
      obtain ⟨b1, b2, e1, f1, f2⟩ := cx
      have e1' : a.eval x = .complex .f32 b1 b2 := by simpa using e1
      exact ⟨.float .f32 b2, by simp [execOp, ho, resolve, invoke, builtin, e1', imag_eq], b2, rfl, f2⟩
    · cases h
  · cases h

/-- EVERY OPERATION: what the evaluator says is what the model does. -/
theorem step_ok (h : stepOp P s o = some (true, s')) : StepOk P s o s' := by
  unfold stepOp at h
  split at h
  · rename_i x ho
    obtain rfl := congrArg Prod.snd (okStep h)
    exact step_move (.inl ho)
  · rename_i x ho
    obtain rfl := congrArg Prod.snd (okStep h)
    exact step_move (.inr ho)
  · rename_i T ho
    split at h
    · rename_i z hz; exact step_alloc ho hz h
    · cases h
  · rename_i T x ho
    split at h
    · rename_i hk; exact step_box ho hk h
    · cases h
  · rename_i T x ho; exact step_load ho h
  · rename_i T x y ho
    split at h
    · rename_i hd; exact step_store ho hd h
    · cases h
  · rename_i x ho; exact step_nilCheck ho h
  · rename_i op T x y U ho; exact step_binOp ho h
  · rename_i op T x ho; exact step_unOp ho h
  · rename_i T U x ho; exact step_convert ho h
  · rename_i T parts ho; exact step_build ho h
  · rename_i T n parts ho; exact step_buildSlice ho h
  · rename_i T x y ho; exact step_makeSlice ho h
  · rename_i T x lo hi ho; exact step_slice ho h
  · rename_i T x f ho; exact step_fieldAddr ho h
  · rename_i T x f ho; exact step_field ho h
  · rename_i T x y ho
    split at h
    · rename_i k n hy; exact step_indexAddr ho hy h
    · cases h
  · rename_i T x y ho
    split at h
    · rename_i k n hy; exact step_index ho hy h
    · cases h
  · rename_i x i ho
    split at h
    · rename_i vs hx
      split at h
      · rename_i v hv
        obtain rfl := congrArg Prod.snd (okStep h)
        exact step_extract ho hx hv
      · cases h
    · cases h
  · rename_i T m k c ho; exact step_lookup ho h
  · rename_i T ho; exact step_makeMap ho h
  · rename_i T m k x ho
    split at h
    · rename_i hd; exact step_mapUpdate ho hd h
    · cases h
  · rename_i b args ts ho; exact step_builtin ho h
  · cases h
end
end Go.Ev
