/- The verified evaluator: operations: writing, building, growing, maps, builtins. -/
import Derived.Test.YtlngennlccaneaaCoreB
set_option linter.unusedSimpArgs false
noncomputable section
namespace Go.Ev
open Go.RowKit
section
variable {w : World} {p : Nat → Prop} {β : Nat → Option Value} {H : Nat → Blk}
theorem cells_one {v : Value} (h : v.oneCell' = true) : v.cells = #[v] := by
 cases v <;> first | rfl | simp [Value.oneCell'] at h
theorem cells_known {x : CV} {v : Value} (h : RepC w p β H x v) (hk : x.known = true) : RepLs w p β H x.cells v.cells.toList := by
 cases x with
 | l c =>
   have hc : c ≠ .undef := by intro e; subst e; simp [CV.known] at hk
   have := repL_of hc h
   rw [cells_one this.oneCell]
   exact repLs_one this
 | agg cs => obtain ⟨vs, rfl, h⟩ := h; exact h
theorem RepLs.oneCells {cs : List LV} {vs : List Value} (h : RepLs w p β H cs vs) : ∀ v ∈ vs, v.oneCell' = true := by
 intro v hv
 obtain ⟨i, hi, rfl⟩ := List.getElem_of_mem hv
 have hic : i < cs.length := by rw [h.1]; exact hi
 exact (h.2 i cs[i] vs[i] (List.getElem?_eq_getElem hic) (List.getElem?_eq_getElem hi)).oneCell
theorem take_put {α : Type} (V l : List α) (off n : Nat) (h : off + l.length ≤ n) (hn : n ≤ V.length) : (V.take off ++ l ++ V.drop (off + l.length)).take n = (V.take n).take off ++ l ++ (V.take n).drop (off + l.length) := by
 have hl : (V.take off ++ l).length = off + l.length := by rw [List.length_append, List.length_take]; omega
 rw [List.take_append, hl, List.take_of_length_le (by rw [hl]; exact h), List.take_take, Nat.min_eq_left (by omega), List.drop_take]
theorem RepLs.write {cs ds : List LV} {us vs : List Value} (h1 : RepLs w p β H cs us) (h2 : RepLs w p β H ds vs) {off : Nat} {cs' : List LV} (h : writeAt cs off ds = some cs') :
 off + vs.length ≤ us.length ∧ cs'.length = cs.length ∧ RepLs w p β H cs' (us.take off ++ vs ++ us.drop (off + vs.length)) := by
 simp only [writeAt] at h
 split at h
 ·rename_i hle
  obtain rfl := Option.some.inj h
  refine ⟨by rw [← h1.1, ← h2.1]; exact hle, by simp; omega, ?_⟩
  have a := h1.part 0 off
  have b := h1.part (off + ds.length) us.length
  simp only [List.drop_zero] at a
  rw [List.take_of_length_le (by rw [List.length_drop, h1.1]; omega), List.take_of_length_le (by rw [List.length_drop]; omega)] at b
  rw [← h2.1]
  exact (a.append h2).append b
 ·cases h
end
theorem take_write {α : Type} (l : List α) (a n : Nat) (vs : List α) (h : a + vs.length ≤ n) (hn : n ≤ l.length) :
 (l.take a ++ vs ++ l.drop (a + vs.length)).take n = (l.take n).take a ++ vs ++ (l.take n).drop (a + vs.length) := by
 have hl : (l.take a).length = a := by rw [List.length_take]; omega
 have hl2 : ((l.take n).take a).length = a := by simp only [List.length_take]; omega
 apply List.ext_getElem?
 intro m
 rw [List.getElem?_take]
 simp only [List.getElem?_append, List.length_append, hl, hl2, List.getElem?_take, List.getElem?_drop]
 by_cases h1 : m < n
 ·rw [if_pos h1]
  by_cases h2 : m < a + vs.length
  ·rw [if_pos h2, if_pos h2]
   by_cases h3 : m < a
   ·rw [if_pos h3, if_pos h3, if_pos h3, if_pos h3, if_pos h1]
   ·rw [if_neg h3, if_neg h3]
  ·rw [if_neg h2, if_neg h2, if_pos (by omega)]
 ·rw [if_neg h1, if_neg (by omega), if_neg (by omega)]
theorem rows_set {α : Type} {size : Nat} {R : α → List Value → Prop} {xs : List α} {us vs : List Value} (h : Rows' size R xs us) {i off : Nat} (hi : i < xs.length) (hoff : off + vs.length ≤ size) {y : α}
 (hy : R y (((us.drop (i * size)).take size).take off ++ vs ++ ((us.drop (i * size)).take size).drop (off + vs.length))) :
 Rows' size R (xs.set i y) (us.take (i * size + off) ++ vs ++ us.drop (i * size + off + vs.length)) := by
 have hbig : (i + 1) * size ≤ us.length := by rw [h.1]; exact Nat.mul_le_mul_right _ hi
 rw [Nat.add_mul, Nat.one_mul] at hbig
 have get : ∀ m, (us.take (i * size + off) ++ vs ++ us.drop (i * size + off + vs.length))[m]? = if m < i * size + off then us[m]? else if m < i * size + off + vs.length then vs[m - (i * size + off)]? else us[m]? := by
  intro m
  have hl : (us.take (i * size + off)).length = i * size + off := by rw [List.length_take]; omega
  rw [List.getElem?_append, List.length_append, hl]
  by_cases h1 : m < i * size + off
  ·rw [if_pos (by omega), List.getElem?_append, hl, if_pos h1, List.getElem?_take, if_pos h1, if_pos h1]
  ·rw [if_neg h1]
   by_cases h2 : m < i * size + off + vs.length
   ·rw [if_pos h2, if_pos h2, List.getElem?_append, hl, if_neg h1]
   ·rw [if_neg h2, if_neg h2, List.getElem?_drop]
    congr 1
    omega
 refine ⟨?_, fun j x hj => ?_⟩
 ·rw [List.length_set, ← h.1]
  simp only [List.length_append, List.length_take, List.length_drop]
  omega
 ·rw [List.getElem?_set] at hj
  by_cases hij : i = j
  ·subst hij
   rw [if_pos rfl, if_pos hi] at hj
   obtain rfl := Option.some.inj hj
   have e : ((us.take (i * size + off) ++ vs ++ us.drop (i * size + off + vs.length)).drop (i * size)).take size = ((us.drop (i * size)).take size).take off ++ vs ++ ((us.drop (i * size)).take size).drop (off + vs.length) := by
    apply List.ext_getElem?
    intro m
    have hl : (((us.drop (i * size)).take size).take off).length = off := by simp only [List.length_take, List.length_drop]; omega
    rw [List.getElem?_take, List.getElem?_drop, get, List.getElem?_append, List.length_append, hl]
    by_cases h1 : m < off
    ·rw [if_pos (by omega), if_pos (by omega), if_pos (by omega), List.getElem?_append, hl, if_pos h1, List.getElem?_take, if_pos h1, List.getElem?_take, if_pos (by omega), List.getElem?_drop]
    ·by_cases h2 : m < off + vs.length
     ·rw [if_pos (by omega), if_neg (by omega), if_pos (by omega), if_pos h2, List.getElem?_append, hl, if_neg h1]
      congr 1
      omega
     ·rw [if_neg h2, List.getElem?_drop, List.getElem?_take]
      by_cases h3 : m < size
      ·rw [if_pos h3, if_neg (by omega), if_neg (by omega), if_pos (by omega), List.getElem?_drop]
       congr 1
       omega
      ·rw [if_neg h3, if_neg (by omega)]
   rw [e]
   exact hy
  ·rw [if_neg hij] at hj
   have hjl : j < xs.length := (List.getElem?_eq_some_iff.1 hj).1
   have hr := h.2 j x hj
   have e : ((us.take (i * size + off) ++ vs ++ us.drop (i * size + off + vs.length)).drop (j * size)).take size = (us.drop (j * size)).take size := by
    apply List.ext_getElem?
    intro m
    rw [List.getElem?_take, List.getElem?_take, List.getElem?_drop, List.getElem?_drop, get]
    by_cases h1 : m < size
    ·rw [if_pos h1, if_pos h1]
     rcases Nat.lt_or_gt_of_ne hij with h2 | h2
     ·have : (i + 1) * size ≤ j * size := Nat.mul_le_mul_right _ h2
      rw [Nat.add_mul, Nat.one_mul] at this
      rw [if_neg (by omega), if_neg (by omega)]
     ·have : (j + 1) * size ≤ i * size := Nat.mul_le_mul_right _ h2
      rw [Nat.add_mul, Nat.one_mul] at this
      rw [if_pos (by omega)]
    ·rw [if_neg h1, if_neg h1]
   rw [e]
   exact hr
section
variable {P : Program} {s s' : PS} {o : Oper}
theorem below_setRow {B0 : Nat} {w : World} {b : Nat} {cs : Array Value} (hb : B0 ≤ b) : Below B0 w (w.setRow b cs) :=
 ⟨rfl, rfl, rfl, by simp [World.setRow], fun k hk => setRow_other w b k cs (by omega)⟩
theorem StepOk.skip (h : ∀ B0 w0 β p a w, Inv B0 w0 β p s a w → ∃ w', (execOp a.eval o).run P w = .ok .skip w' ∧ ∃ β' p', Inv B0 w0 β' p' s' a w') (hd : o.dst = none) : StepOk P s o s' := by
 intro B0 w0 a w ⟨β, p, hi⟩ next Q hn
 obtain ⟨w', hr, β', p', h'⟩ := h B0 w0 β p a w hi
 refine wpIn_of_run hr (fun _ e => by cases e) ?_
 show next (a.put o.dst undef) w'
 rw [hd]
 exact hn _ _ ⟨β', p', h'⟩
theorem run_store_at {T : TypeId} {x y : Operand} (ho : o.op = .store T x y) {a : Act} {w : World} {b q : Nat} {cur : Array Value} {U : TypeId} (hi : (P.info? T).isSome = true)
 (ex : a.eval x = .pointer (some ⟨b, q, none⟩)) (hh : w.heap[b]? = some (.cells cur U (0, 0))) (hl : (a.eval y).cells.size = P.cellsOf T) (hq : q + (a.eval y).cells.size ≤ cur.size) (h1 : ∀ v ∈ (a.eval y).cells.toList, v.oneCell' = true) :
 (execOp a.eval o).run P w = .ok .skip (w.setRow b (cur.toList.take q ++ (a.eval y).cells.toList ++ cur.toList.drop (q + (a.eval y).cells.size)).toArray) := by
 have hst := run_storeCells_at P b q U (a.eval y).cells.toList 0 cur w hh (by simpa using hq) h1
 simp only [Nat.add_zero, Array.length_toList] at hst
 simp [execOp, ho, ex, Instr.storeAt, Instr.sureAddr, storeVar, hl, run_sizeOf' hi, hst]
theorem mergeL_eq {c : Bool} {v u y : LV} (h : mergeL c v u = some y) : y = if c = true then v else u := by
 unfold mergeL at h
 split at h
 ·obtain rfl := Option.some.inj h
  cases c <;> rfl
 ·split at h
  ·rename_i hk
   obtain rfl := Option.some.inj h
   cases c
   ·rw [← hk]; rfl
   ·rfl
  ·cases h
 ·cases h
theorem mergeAll_eq {v : LV} {off : Nat} : ∀ {L l : List LV} {k : Nat}, mergeAll v off k L = some l → (off < k → l = L) ∧ (k ≤ off → l = L.set (off - k) v)
 | [], l, k, h => by
   obtain rfl := Option.some.inj h
   exact ⟨fun _ => rfl, fun _ => rfl⟩
 | u :: r, l, k, h => by
   unfold mergeAll at h
   split at h
   ·rename_i y hy
    split at h
    ·rename_i l' hl
     obtain rfl := Option.some.inj h
     obtain ⟨h1, h2⟩ := mergeAll_eq hl
     have hy := mergeL_eq hy
     constructor
     ·intro hk
      rw [if_neg (by intro e; have := Nat.eq_of_beq_eq_true e; omega)] at hy
      rw [hy, h1 (by omega)]
     ·intro hk
      by_cases e : k = off
      ·subst e
       rw [if_pos (Nat.beq_refl k)] at hy
       rw [hy, h1 (by omega), Nat.sub_self]
       rfl
      ·rw [if_neg (by intro e'; exact e (Nat.eq_of_beq_eq_true e'))] at hy
       rw [hy, h2 (by omega), show off - k = (off - (k + 1)) + 1 by omega]
       rfl
    ·cases h
   ·cases h
theorem writeSym_eq {cs cs' vs : List LV} {base off : Nat} (h : writeSym cs base off vs = some (true, cs')) : writeAt cs off vs = some cs' := by
 unfold writeSym at h
 split at h
 ·rename_i v
  split at h
  ·rename_i l hl
   obtain ⟨h1, rfl⟩ := Prod.mk.inj (Option.some.inj h)
   simp only [Bool.and_eq_true] at h1
   have hb : base ≤ off := Nat.le_of_ble_eq_true h1.1
   have hlt : off < cs.length := Nat.le_of_ble_eq_true h1.2
   have h2 := (mergeAll_eq hl).2 hb
   have hw : writeAt cs off [v] = if off + [v].length ≤ cs.length then some (cs.take off ++ [v] ++ cs.drop (off + [v].length)) else none := rfl
   rw [hw, if_pos (show off + [v].length ≤ cs.length by show off + 1 ≤ _; omega), h2]
   congr 1
   have e : cs.take base ++ (cs.drop base).set (off - base) v = cs.set off v := by
    apply List.ext_getElem?
    intro m
    simp only [List.getElem?_append, List.length_take, List.getElem?_take, List.getElem?_set, List.getElem?_drop, List.length_drop]
    by_cases c1 : m < base
    ·rw [if_pos (by omega), if_pos c1, if_neg (by omega)]
    ·rw [if_neg (by omega)]
     by_cases c2 : off = m
     ·rw [if_pos (by omega), if_pos (by omega), if_pos c2, if_pos (by omega)]
     ·rw [if_neg (by omega), if_neg c2]
      congr 1; omega
   rw [e, List.set_eq_take_append_cons_drop, if_pos hlt]
   simp
  ·cases h
 ·cases h
theorem cut_set {α : Type} (l : List α) (q i n : Nat) (v : α) (h : q + i < l.length) : ((l.take (q + i) ++ [v] ++ l.drop (q + i + 1)).drop q).take n = ((l.drop q).take n).set i v := by
 have e : l.take (q + i) ++ [v] ++ l.drop (q + i + 1) = l.set (q + i) v := by rw [List.set_eq_take_append_cons_drop, if_pos h]; simp
 rw [e, List.drop_set, if_neg (by omega), Nat.add_sub_cancel_left, List.take_set]
theorem rows_int {w : World} {p : Nat → Prop} {k : IntKind} {xs : List Int} {us : List Value} : Rows' 1 (RepT w p (.int k)) xs us ↔ us = xs.map (.int k) := by
 constructor
 ·rintro ⟨h1, h2⟩
  apply List.ext_getElem?
  intro i
  rw [List.getElem?_map]
  rw [Nat.mul_one] at h1
  rcases Nat.lt_or_ge i xs.length with hi | hi
  ·have hx := List.getElem?_eq_getElem hi
   have := h2 i _ hx
   rw [Nat.mul_one] at this
   simp only [RepT] at this
   have hiu : i < us.length := by omega
   rw [List.drop_eq_getElem_cons hiu] at this
   have this : us[i] = .int k xs[i] := (List.cons.inj this).1
   rw [hx, List.getElem?_eq_getElem hiu, this]; rfl
  ·rw [List.getElem?_eq_none hi, List.getElem?_eq_none (by omega)]; rfl
 ·rintro rfl
  refine ⟨by simp, fun i x hx => ?_⟩
  have hi := (List.getElem?_eq_some_iff.1 hx).1
  have hm : (xs.map (Value.int k))[i]? = some (.int k x) := by rw [List.getElem?_map, hx]; rfl
  obtain ⟨hl, hm⟩ := List.getElem?_eq_some_iff.1 hm
  simp only [RepT]
  rw [Nat.mul_one, List.drop_eq_getElem_cons hl, hm]; rfl
theorem ownsAt_set {w : World} {B0 : Nat} {T : TypeId} {n b q i cap : Nat} {cur : Array Value} {us : List Value} {v : Value} (hB : B0 ≤ b) (hh : w.heap[b]? = some (.cells cur T (0, 0))) (hn : n ≤ cap) (hm : cap ≤ maxLen) (hcs : q + cap ≤ cur.size) (hus : (cur.toList.drop q).take n = us) (hi : i < n) :
 ownsAt (w.setRow b (cur.toList.take (q + i) ++ [v] ++ cur.toList.drop (q + i + 1)).toArray) B0 T 1 (.slice (some ⟨b, q, none⟩) n cap) n (us.set i v) := by
 have hl : cur.toList.length = cur.size := Array.length_toList
 refine ⟨?_, .inr ⟨b, q, cap, _, rfl, hB, setRow_heap w b cur _ T _ hh, hn, hm, ?_, ?_⟩⟩
 ·rw [List.length_set, ← hus, List.length_take, List.length_drop]; omega
 ·simp only [List.size_toArray, List.length_append, List.length_take, List.length_drop, Array.length_toList, List.length_singleton]
  omega
 ·rw [List.toList_toArray, Nat.mul_one, cut_set _ _ _ _ _ (by omega), hus]
theorem step_store {T : TypeId} {x y : Operand} (ho : o.op = .store T x y) (hd : o.dst = none) (h : storeOp P s T (evC s y) (evL s x) = some (true, s')) : StepOk P s o s' := by
 unfold storeOp at h
 split at h
 ·rename_i t sz i off hx
  have hne : evL s x ≠ .undef := by rw [hx]; intro e; cases e
  split at h
  ·rename_i hc
   obtain ⟨hlen, hkn, hinf⟩ := hc
   have val : ∀ {B0 w0 β p a w}, Inv B0 w0 β p s a w → RepLs w p β s.blk (evC s y).cells (a.eval y).cells.toList ∧ (a.eval y).cells.size = P.cellsOf T := by
    intro B0 w0 β p a w inv
    have := cells_known (evC_ok inv y) hkn
    refine ⟨this, ?_⟩
    have h2 := this.1
    rw [hlen] at h2
    simpa using h2.symm
   split at h
   ·rename_i cs hs
    have cellsCase : ∀ cs', writeAt cs off (evC s y).cells = some cs' → s' = s.setB t (.cells cs') → StepOk P s o s' := by
     intro cs' hw es
     subst es
     refine StepOk.skip (fun B0 w0 β p a w inv => ?_) hd
     have cx := evL_ok inv x hne
     rw [hx] at cx
     obtain ⟨r, b, hr, hb, ex, hok⟩ := cx
     rw [hs] at hok
     rw [inv.off0 hr (.inl ⟨cs, hs⟩), show sz = 0 from hok, Nat.mul_zero, Nat.zero_add, Nat.zero_add] at ex
     obtain ⟨vs, U, hroot, hB, hh, hl⟩ := inv.cellsIn hr hb hs
     obtain ⟨hv, hvl⟩ := val inv
     obtain ⟨w1, w2, w3⟩ := hl.write hv hw
     have hle := hroot.le
     rw [List.length_take, Array.length_toList] at w1
     have hrun := run_store_at (P := P) ho hinf ex hh hvl (by omega) hv.oneCells
     refine ⟨_, hrun, β, p, inv.write hr (below_setRow hB) (fun g hg => setRow_other w b g _ (fun e => hg (by rw [e]; exact hb))) (by rw [hs]; exact w2.symm) (fun hk => ?_)⟩
     refine ⟨b, _, U, ?_, hB, setRow_heap w b vs _ U _ hh, ?_⟩
     ·rw [w2]
      have e : ∀ l : List Value, off + l.length ≤ vs.size → (vs.toList.take off ++ l ++ vs.toList.drop (off + l.length)).toArray.size = vs.size := fun l h => by
       simp only [List.size_toArray, List.length_append, List.length_take, List.length_drop, Array.length_toList]
       omega
      have := e (a.eval y).cells.toList (by rw [Array.length_toList]; omega)
      rw [Array.length_toList] at this
      rw [this]; exact hroot
     ·have h3 := RepLs.keep hk w3
      rw [w2]
      have := take_put vs.toList (a.eval y).cells.toList off cs.length (by rw [Array.length_toList]; omega) (by rw [Array.length_toList]; omega)
      rw [show (a.eval y).cells.toList.length = (a.eval y).cells.size from Array.length_toList] at this h3
      rw [List.toList_toArray, this]
      exact h3
    split at h
    ·split at h
     ·rename_i cs' hw
      exact cellsCase _ hw (Prod.mk.inj (Option.some.inj h)).2.symm
     ·cases h
    ·split at h
     ·rename_i cs' hw
      obtain ⟨h1, h2⟩ := Prod.mk.inj (Option.some.inj h)
      exact cellsCase cs'.2 (writeSym_eq (by rw [hw, ← h1])) h2.symm
     ·cases h
   ·rename_i e xs hs
    split at h
    ·rename_i hsz
     subst hsz
     split at h
     ·rename_i cs' hw
      split at h
      ·rename_i y' hbuild
       obtain rfl := Prod.mk.inj (Option.some.inj h) |>.2
       refine StepOk.skip (fun B0 w0 β p a w inv => ?_) hd
       have cx := evL_ok inv x hne
       rw [hx] at cx
       obtain ⟨r, b, hr, hb, ex, hok⟩ := cx
       rw [hs] at hok
       rw [inv.off0 hr (.inr ⟨e, xs, hs⟩), Nat.zero_add] at ex
       obtain ⟨vs, U, hroot, hB, hh, he, hrow⟩ := inv.arrAt hr hb hs
       have hi : i < xs.length := by
        rcases hok with ⟨h0, _⟩ | h
        ·omega
        ·exact h.2
       obtain ⟨hv, hvl⟩ := val inv
       have hel := hrow.2 i _ (getD_get e.dflt hi)
       obtain ⟨w1, w2, w3⟩ := (cells_ok (β := β) (H := s.blk) hel).write hv hw
       have hnew := build_ok hbuild w3
       have hbig : (i + 1) * e.size ≤ vs.toList.length := by rw [hrow.1]; exact Nat.mul_le_mul_right _ hi
       rw [Nat.add_mul, Nat.one_mul] at hbig
       rw [hel.length] at w1
       have hset := rows_set hrow hi (off := off) w1 hnew
       have hrun := run_store_at (P := P) ho hinf ex hh hvl (by simp at w1 hbig ⊢; omega) hv.oneCells
       refine ⟨_, hrun, β, p, inv.write hr (below_setRow hB) (fun g hg => setRow_other w b g _ (fun e => hg (by rw [e]; exact hb))) (by rw [hs]; exact ⟨_, rfl, by simp⟩) (fun hk => ?_)⟩
       refine ⟨b, _, U, hroot, hB, setRow_heap w b vs _ U _ hh, he, ?_⟩
       have := hset.imp fun _ _ h => RepT.mono hk.data h
       simpa using this
      ·cases h
     ·cases h
    ·split at h
     ·rename_i hz
      obtain ⟨rfl, rfl, rfl⟩ := hz
      split at h
      ·rename_i ys hrows
       obtain rfl := Prod.mk.inj (Option.some.inj h) |>.2
       refine StepOk.skip (fun B0 w0 β p a w inv => ?_) hd
       have cx := evL_ok inv x hne
       rw [hx] at cx
       obtain ⟨r, b, hr, hb, ex, hok⟩ := cx
       rw [inv.off0 hr (.inr ⟨e, xs, hs⟩), Nat.zero_add] at ex
       obtain ⟨vs, U, hroot, hB, hh, he, hrow⟩ := inv.arrAt hr hb hs
       obtain ⟨hv, hvl⟩ := val inv
       obtain ⟨hyl, hyrow⟩ := rows_ok hrows hv
       have hsame : (a.eval y).cells.size = vs.size := by
        have h1 := hyrow.1
        have h2 := hrow.1
        rw [hyl] at h1
        simp at h1 h2
        omega
       have hrun := run_store_at (P := P) ho hinf (by simpa using ex) hh hvl (by omega) hv.oneCells
       refine ⟨_, hrun, β, p, inv.write hr (below_setRow hB) (fun g hg => setRow_other w b g _ (fun e => hg (by rw [e]; exact hb))) (by rw [hs]; exact ⟨_, rfl, hyl.symm⟩) (fun hk => ?_)⟩
       refine ⟨b, _, U, hroot, hB, setRow_heap w b vs _ U _ hh, he, ?_⟩
       have := hyrow.imp fun _ _ h => RepT.mono hk.data h
       have e : vs.toList.drop (a.eval y).cells.size = [] := List.drop_eq_nil_of_le (by simp; omega)
       simpa [e] using this
      ·cases h
     ·cases h
   ·rename_i U e xs hs
    split at h
    ·rename_i hsz
     subst hsz
     split at h
     ·rename_i cs' hw
      split at h
      ·rename_i y' hbuild
       obtain rfl := Prod.mk.inj (Option.some.inj h) |>.2
       refine StepOk.skip (fun B0 w0 β p a w inv => ?_) hd
       have cx := evL_ok inv x hne
       rw [hx] at cx
       obtain ⟨r, b, hr, hb, ex, hok⟩ := cx
       rw [hs] at hok
       obtain ⟨_, hi⟩ := hok
       obtain ⟨q, cap, cur, us, hroot, hB, hh, hn, hm, hcs, hus, he, hrow⟩ := inv.bufAt hr hb hs
       rw [hroot] at ex
       have ex : a.eval x = .pointer (some ⟨b, q + (i * e.size + off), none⟩) := ex
       obtain ⟨hv, hvl⟩ := val inv
       have hel := hrow.2 i _ (getD_get e.dflt hi)
       obtain ⟨w1, w2, w3⟩ := (cells_ok (β := β) (H := s.blk) hel).write hv hw
       have hnew := build_ok hbuild w3
       have hbig : (i + 1) * e.size ≤ xs.length * e.size := Nat.mul_le_mul_right _ hi
       have hcap : xs.length * e.size ≤ cap * e.size := Nat.mul_le_mul_right _ hn
       rw [Nat.add_mul, Nat.one_mul] at hbig
       rw [hel.length] at w1
       have hset := rows_set hrow hi (off := off) w1 hnew
       have hfit : q + (i * e.size + off) + (a.eval y).cells.size ≤ cur.size := by simp at w1; omega
       have hrun := run_store_at (P := P) ho hinf ex hh hvl hfit hv.oneCells
       refine ⟨_, hrun, β, p, inv.write hr (below_setRow hB) (fun g hg => setRow_other w b g _ (fun e => hg (by rw [e]; exact hb))) (by rw [hs]; exact ⟨_, rfl, by simp⟩) (fun hk => ?_)⟩
       refine ⟨_, ⟨?_, .inr ⟨b, q, cap, _, by rw [List.length_set]; exact hroot, hB, setRow_heap w b cur _ U _ hh, by rw [List.length_set]; exact hn, hm, ?_, rfl⟩⟩, he, ?_⟩
       ·simp at w1
        simp only [List.length_set, List.length_take, List.length_append, List.length_drop, Array.length_toList]
        omega
       ·simp at w1
        simp only [List.size_toArray, List.length_append, List.length_take, List.length_drop, Array.length_toList]
        omega
       ·have h2 := hset.imp fun _ _ h => RepT.mono hk.data h
        rw [List.length_set]
        simp at w1
        have e2 := take_write (cur.toList.drop q) (i * e.size + off) (xs.length * e.size) (a.eval y).cells.toList (by simp; omega) (by simp; omega)
        rw [← hus] at e2
        have e3 : (cur.toList.take (q + (i * e.size + off)) ++ (a.eval y).cells.toList ++ cur.toList.drop (q + (i * e.size + off) + (a.eval y).cells.size)).drop q =
         (cur.toList.drop q).take (i * e.size + off) ++ (a.eval y).cells.toList ++ (cur.toList.drop q).drop (i * e.size + off + (a.eval y).cells.size) := by
         have e4 : q + (i * e.size + off + (a.eval y).cells.size) = q + (i * e.size + off) + (a.eval y).cells.size := by omega
         rw [List.append_assoc, List.drop_append_of_le_length (by simp; omega), List.drop_drop, List.drop_take, ← List.append_assoc, Nat.add_sub_cancel_left, e4]
        simp only [Array.length_toList] at e2 h2
        simp only [List.toList_toArray]
        rw [e3, e2]
        exact h2
      ·cases h
     ·cases h
    ·cases h
   ·rename_i U l hs
    split at h
    ·rename_i j hy
     split at h
     ·rename_i hoff
      subst hoff
      obtain rfl := Prod.mk.inj (Option.some.inj h) |>.2
      refine StepOk.skip (fun B0 w0 β p a w inv => ?_) hd
      have cx := evL_ok inv x hne
      rw [hx] at cx
      obtain ⟨r, b, hr, hb, ex, hok⟩ := cx
      rw [hs] at hok
      obtain ⟨rfl, hi⟩ := hok
      obtain ⟨q, cap, cur, us, hroot, hB, hh, hn, hm, hcs, hus, hl⟩ := inv.idsAt hr hb hs
      rw [hroot] at ex
      have ex : a.eval x = .pointer (some ⟨b, q + i, none⟩) := by rw [Nat.mul_one] at ex; exact ex
      have hrow : RepL w p β s.blk (.row j) (a.eval y) := by
       have := evC_ok inv y; rw [hy] at this; exact this
      have hone : (a.eval y).cells = #[a.eval y] := cells_one hrow.oneCell
      obtain ⟨_, hvl⟩ := val inv
      have hsize : (a.eval y).cells.size = 1 := by rw [hone]; rfl
      have hrun := run_store_at (P := P) ho hinf ex hh hvl (by omega) (by rw [hone]; intro v hv; obtain rfl := List.mem_singleton.1 hv; exact hrow.oneCell)
      rw [hone] at hrun
      refine ⟨_, hrun, β, p, inv.write hr (below_setRow hB) (fun g hg => setRow_other w b g _ (fun e => hg (by rw [e]; exact hb))) (by rw [hs]; exact ⟨_, rfl, by simp⟩) (fun hk => ?_)⟩
      refine ⟨us.set i (a.eval y), ?_, ?_⟩
      ·rw [hroot, List.length_set]
       exact ownsAt_set hB hh hn hm hcs hus.symm hi
      ·rw [List.map_set]
       have hl := RepLs.keep hk hl
       refine ⟨by rw [List.length_set, List.length_set]; exact hl.1, fun k c v hc hv => ?_⟩
       rw [List.getElem?_set] at hc hv
       by_cases hki : i = k
       ·rw [if_pos hki] at hc hv
        split at hc
        ·split at hv
         ·obtain rfl := Option.some.inj hc
          obtain rfl := Option.some.inj hv
          exact RepL.keep hk hrow
         ·cases hv
        ·cases hc
       ·rw [if_neg hki] at hc hv
        exact hl.2 k c v hc hv
     ·cases h
    ·cases h
   ·cases h
  ·cases h
 ·rename_i j k hx
  have hne : evL s x ≠ .undef := by rw [hx]; intro e; cases e
  split at h
  ·rename_i hc
   obtain ⟨hlen, hinf⟩ := hc
   split at h
   ·rename_i z hpl n hpl hy
    obtain rfl := Prod.mk.inj (Option.some.inj h) |>.2
    refine StepOk.skip (fun B0 w0 β p a w inv => ?_) hd
    have cx := evL_ok inv x hne
    rw [hx] at cx
    obtain ⟨r, b, hr, hb, ex, hok⟩ := cx
    obtain ⟨T0, rows, us, h1, h2, h3, h4, h5⟩ := inv.rowMem hr hok.is
    rw [hpl] at h1
    obtain rfl := Option.some.inj h1
    rw [h3] at hok
    have hk : k < (rowAt rows j).length := hok
    rcases h4.2 with ⟨rfl, _⟩ | ⟨g, q, cap, cur, rfl, hB, hh, hn, hm, hcs, hus⟩
    ·cases hb
    obtain rfl := Option.some.inj hb
    rw [Nat.mul_one] at hcs hus
    have ey : a.eval y = .int .i64 n := by
     have := evC_ok inv y; rw [hy] at this; exact this
    have hone : (a.eval y).cells = #[.int .i64 n] := by rw [ey]; rfl
    have hvl : (a.eval y).cells.size = P.cellsOf T := by rw [← hlen, hy, hone]; rfl
    have ex : a.eval x = .pointer (some ⟨g, q + k, none⟩) := ex
    have hrun := run_store_at (P := P) ho hinf ex hh hvl (by rw [hone]; show q + k + 1 ≤ _; omega) (by rw [hone]; intro v hv; obtain rfl := List.mem_singleton.1 hv; rfl)
    rw [hone] at hrun
    refine ⟨_, hrun, β, p, inv.writeAt hr (below_setRow hB) (fun g' hg => setRow_other w g g' _ (fun e => hg (by rw [e]; rfl))) (b0 := .rowb T0 ((rowAt rows j).set k n)) (by rw [h3]; exact ⟨_, rfl, by simp⟩) rfl (fun _ => rfl) rfl (fun t => ?_) (fun hk' => ?_)⟩
    ·rcases Nat.lt_or_ge t 16000 with ht | ht
     ·rw [if_neg (by omega), PS.blk_low ht, PS.blk_low ht]; rfl
     ·rw [PS.blk_high ht, PS.blk_high ht, PS.rowB, PS.rowB, hpl]
      dsimp only
      by_cases e : t = 16000 + j
      ·subst e
       rw [if_pos rfl, Nat.add_sub_cancel_left, List.getElem?_set_self h2]
      ·rw [if_neg e, List.getElem?_set_ne (by omega)]
    ·refine ⟨us.set k (.int .i64 n), ?_, ?_⟩
     ·rw [List.length_set]
      exact ownsAt_set hB hh hn hm hcs hus hk
     ·have := rows_int.1 h5
      exact rows_int.2 (by rw [this, List.map_set])
   ·cases h
  ·cases h
 ·cases h
end
end Go.Ev
namespace Go.Ev
open Go.RowKit
section
variable {B0 : Nat} {w0 : Base} {β : Nat → Option Value} {p : Nat → Prop} {s s' : PS} {a : Act} {w w' : World}
theorem Inv.newAt (inv : Inv B0 w0 β p s a w) {d : Nat} {b0 : Blk} {x : SV} (hs : s.new d b0 x = some s') {r0 v : Value} (hbel : Below B0 w w') (hdata : ∀ b, p b → w'.heap[b]? = w.heap[b]?) (hpin : ∀ D, Pinned B0 w p D → w'.heap[D]? = w.heap[D]?)
 (hown : ∀ t r b, t ≠ d → β t = some r → rootBlock r = some b → w'.heap[b]? = w.heap[b]?)
 (hr0 : ∀ b, rootBlock r0 = some b → ¬ p b ∧ ∀ t r, t ≠ d → β t = some r → rootBlock r ≠ some b)
 (hbx : ∀ (β' : Nat → Option Value) (H' : Nat → Blk), (∀ c u, RepL w p β s.blk c u → RepL w' p β' H' (c.kill d) u) → β' d = some r0 → H' d = b0 → RepB w' p β' H' B0 b0 r0 ∧ RepS w' p β' H' x v) (hsh : b0.shown = b0 := by rfl) :
 ∃ β', Inv B0 w0 β' p s' (a.put (some d) v) w' := by
 unfold PS.new at hs
 cases hlt : Nat.blt d s.n with
 | false => rw [hlt] at hs; cases hs
 | true =>
   rw [hlt] at hs
   obtain rfl := Option.some.inj hs
   have hd : d < s.n := by rw [Nat.blt_eq] at hlt; exact hlt
   obtain ⟨h1, hk1⟩ := inv.drop d (Nat.lt_of_lt_of_le hd inv.deep)
   refine ⟨_, h1.fresh (t0 := d) (Nat.lt_of_lt_of_le hd inv.deep) (by simp) hbel hdata hpin (fun t r b hr hb => ?_) (r0 := r0) (fun b hb => ⟨(hr0 b hb).1, fun t r hr => ?_⟩) (fun hk => ?_) hsh⟩
   ·by_cases htd : t = d
    ·simp [htd] at hr
    ·simp [htd] at hr; exact hown t r b htd hr hb
   ·by_cases htd : t = d
    ·simp [htd] at hr
    ·simp [htd] at hr; exact (hr0 b hb).2 t r htd hr
   ·have hdep := lt_depth (t := d) (n := (s.drop d).n) (by rw [PS.n_drop]; exact hd) h1.deep
    obtain ⟨hb, hx⟩ := hbx _ ((s.drop d).setB d b0).blk (fun c u hc => RepL.keep hk (hk1 c u hc)) (by simp) (by rw [PS.blk_setB' _ hdep hsh, if_pos rfl])
    exact ⟨hb, fun _ _ => hx⟩
theorem Inv.allocAt (inv : Inv B0 w0 β p s a w) {d : Nat} {b0 : Blk} {x : SV} (hs : s.new d b0 x = some s') {r0 v : Value} (hbel : Below w.heap.size w w')
 (hr0 : ∀ b, rootBlock r0 = some b → w.heap.size ≤ b)
 (hbx : ∀ (β' : Nat → Option Value) (H' : Nat → Blk), (∀ c u, RepL w p β s.blk c u → RepL w' p β' H' (c.kill d) u) → β' d = some r0 → H' d = b0 → RepB w' p β' H' B0 b0 r0 ∧ RepS w' p β' H' x v) (hsh : b0.shown = b0 := by rfl) :
 ∃ β', Inv B0 w0 β' p s' (a.put (some d) v) w' :=
 inv.newAt hs (hbel.mono inv.base) (fun b hb => hbel.block b (inv.shared b hb).1) (fun D hD => hbel.block D hD.lt) (fun t r b _ hr hb => hbel.block b ((inv.blk hr).root b hb).2)
   (fun b hb => ⟨fun hp => by have := hr0 b hb; have := (inv.shared b hp).1; omega, fun t r _ hr e => by have := hr0 b hb; have := ((inv.blk hr).root b e).2; omega⟩) hbx hsh
end
section
variable {P : Program} {s s' : PS} {o : Oper}
theorem StepOk.made {d : Nat} (hd : o.dst = some d) (h : ∀ B0 w0 β p a w, Inv B0 w0 β p s a w → ∃ v w', (execOp a.eval o).run P w = .ok (.value v) w' ∧ ∃ β' p', Inv B0 w0 β' p' s' (a.put (some d) v) w') : StepOk P s o s' := by
 intro B0 w0 a w ⟨β, p, hi⟩ next Q hn
 obtain ⟨v, w', hr, β', p', h'⟩ := h B0 w0 β p a w hi
 refine wpIn_of_run hr (fun _ e => by cases e) ?_
 show next (a.put o.dst v) w'
 rw [hd]
 exact hn _ _ ⟨β', p', h'⟩
theorem below_alloc (w : World) (x : Obj) : Below w.heap.size w (w.alloc x) := (Below.refl _ _).alloc (Nat.le_refl _) x
section
variable {w : World} {p : Nat → Prop} {β : Nat → Option Value} {H : Nat → Blk}
theorem oneCellB_eq {v : Value} (h : oneCellB v = true) : v.oneCell' = true := by cases v <;> first | rfl | simp [oneCellB] at h
theorem zeroLeaf_ok {v : Value} (h : oneCellB v = true) : RepL w p β H ((leafOf v).getD .undef) v := by
 cases hl : leafOf v with
 | none => exact oneCellB_eq h
 | some c => exact leafOf_ok hl
theorem zeroLeaves_ok : ∀ {vs : List Value} {cs : List LV}, zeroLeaves vs = some cs → RepLs w p β H cs vs
 | [], cs, h => by simp only [zeroLeaves] at h; obtain rfl := Option.some.inj h; exact repLs_nil
 | v :: vs, cs, h => by
   simp only [zeroLeaves] at h
   split at h
   ·rename_i h1
    split at h
    ·rename_i xs hx
     obtain rfl := Option.some.inj h
     exact (repLs_one (zeroLeaf_ok h1)).append (zeroLeaves_ok hx)
    ·cases h
   ·cases h
theorem zero_ok {t : TypeId} {z : CV} (h : zeroOf P t = some z) : ∃ i zv, P.info? t = some i ∧ i.zero = some zv ∧ RepLs w p β H z.cells zv.cells.toList := by
 unfold zeroOf at h
 split at h
 ·rename_i i hi
  split at h
  ·rename_i cs hz
   split at h
   ·rename_i xs hx
    obtain rfl := Option.some.inj h
    exact ⟨i, _, hi, hz, zeroLeaves_ok hx⟩
   ·cases h
  ·rename_i v _ hz
   split at h
   ·rename_i h1
    obtain rfl := Option.some.inj h
    exact ⟨i, v, hi, (by assumption), by rw [cells_one (oneCellB_eq h1)]; exact repLs_one (zeroLeaf_ok h1)⟩
   ·cases h
  ·cases h
 ·cases h
end
theorem zero_vof {t : TypeId} {z : CV} (h : zeroOf P t = some z) {i : TypeInfo} {zv : Value} (hi : P.info? t = some i) (hz : i.zero = some zv) : VOf z.isAggC zv.cells.toList zv := by
 unfold zeroOf at h
 rw [hi] at h
 simp only [hz] at h
 split at h
 ·rename_i cs hc
  obtain rfl := Option.some.inj hc
  split at h
  ·obtain rfl := Option.some.inj h
   simp [VOf, CV.isAggC, Value.cells]
  ·cases h
 ·rename_i v _ hc
  split at h
  ·rename_i h1
   have hv : zv.oneCell' = true := by
    have e : some zv = some v := by assumption
    obtain rfl := Option.some.inj e
    exact oneCellB_eq h1
   obtain rfl := Option.some.inj h
   simp only [VOf, CV.isAggC, Bool.false_eq_true, if_false]
   rw [cells_one hv]
  ·cases h
 ·cases h
theorem blkOf_ok {w : World} {p : Nat → Prop} {β : Nat → Option Value} {H : Nat → Blk} {B0 : Nat} {T : TypeId} {cs : List LV} {vs : Array Value} {b : Nat} {U : TypeId} (hB : B0 ≤ b) (hh : w.heap[b]? = some (.cells vs U (0, 0))) (hl : RepLs w p β H cs vs.toList) :
 RepB w p β H B0 (blkOf P T cs) (.pointer (some ⟨b, 0, none⟩)) ∧ refOk (blkOf P T cs) 0 0 := by
 have plain : RepB w p β H B0 (.cells cs) (.pointer (some ⟨b, 0, none⟩)) ∧ refOk (.cells cs) 0 0 := ⟨repB_cells hB hh hl, rfl⟩
 unfold blkOf
 split
 ·split
  ·split
   ·rename_i xs hrows
    split
    ·exact plain
    ·rename_i hs
     exact ⟨⟨b, vs, U, rfl, hB, hh, by omega, (rows_ok hrows hl).2⟩, .inl ⟨rfl, rfl⟩⟩
   ·exact plain
  ·exact plain
 ·exact plain
theorem newVar_ok {T : TypeId} {cs : List LV} (h : newVar P s o T cs = some (true, s')) (hrun : ∀ B0 w0 β p a w, Inv B0 w0 β p s a w → ∃ vs : Array Value, (execOp a.eval o).run P w = .ok (.value (.pointer (some ⟨w.heap.size, 0, none⟩))) (w.alloc (.cells vs T)) ∧ RepLs w p β s.blk cs vs.toList) : StepOk P s o s' := by
 unfold newVar at h
 split at h
 ·rename_i d hd
  split at h
  ·split at h
   ·rename_i s1 hs1
    obtain rfl := (Prod.mk.inj (Option.some.inj h)).2
    refine StepOk.made hd fun B0 w0 β p a w inv => ?_
    obtain ⟨vs, hr, hl⟩ := hrun B0 w0 β p a w inv
    obtain ⟨β', hi⟩ := inv.allocAt hs1 (r0 := .pointer (some ⟨w.heap.size, 0, none⟩)) (v := .pointer (some ⟨w.heap.size, 0, none⟩)) (below_alloc w (.cells vs T)) (fun b hb => by obtain rfl := Option.some.inj hb; exact Nat.le_refl _) (fun β' H' hk hβ hH => by
     have hl' := RepLs.of (f := LV.kill d) (fun c u hc => hk c u hc) hl
     obtain ⟨h1, h2⟩ := blkOf_ok (P := P) (T := T) (β := β') (H := H') (B0 := B0) inv.base (heap_alloc_new w _) hl'
     refine ⟨h1, repC_l (w := w.alloc (.cells vs T)) (p := p) (c := .ref d 0 0 0) ⟨_, w.heap.size, hβ, rfl, rfl, ?_⟩⟩
     rw [hH]; exact h2) (blkOf_shown P T _)
    exact ⟨_, _, hr, β', p, hi⟩
   ·cases h
  ·cases h
 ·cases h
theorem step_alloc {T : TypeId} (ho : o.op = .alloc T) {z : CV} (hz : zeroOf P T = some z) (h : newVar P s o T z.cells = some (true, s')) : StepOk P s o s' :=
 newVar_ok h fun B0 w0 β p a w inv => by
  obtain ⟨i, zv, hi, hzv, hl⟩ := zero_ok (P := P) (w := w) (p := p) (β := β) (H := s.blk) hz
  refine ⟨zv.cells, ?_, hl⟩
  simp [execOp, ho, Instr.alloc, zeroValue, typeInfo, hi, hzv, newVar, newRow, Go.newVar]
theorem step_box {T : TypeId} {x : Operand} (ho : o.op = .box T x) (hk : (evC s x).known = true) (h : newVar P s o T (evC s x).cells = some (true, s')) : StepOk P s o s' :=
 newVar_ok h fun B0 w0 β p a w inv => by
  refine ⟨(a.eval x).cells, ?_, cells_known (evC_ok inv x) hk⟩
  simp [execOp, ho, Instr.box, newVar, newRow, Go.newVar]
theorem fold_set (off : Nat) : ∀ (vs : List Value) (j : Nat) (cells : Array Value), off + j + vs.length ≤ cells.size →
 ((vs.zipIdx j).foldl (fun cs x => cs.setIfInBounds (off + x.2) x.1) cells).toList = cells.toList.take (off + j) ++ vs ++ cells.toList.drop (off + j + vs.length)
 | [], j, cells, h => by simp
 | v :: vs, j, cells, h => by
   simp only [List.zipIdx_cons, List.foldl_cons]
   rw [fold_set off vs (j + 1) _ (by simp at h ⊢; omega)]
   have e := list_seg_step cells.toList (off + j) v vs (by simp at h ⊢; omega)
   simpa [Array.toList_setIfInBounds, Nat.add_assoc] using e
section
variable {w : World} {p : Nat → Prop} {β : Nat → Option Value} {H : Nat → Blk}
theorem fill_ok {place : Nat → Option (Nat × Nat)} : ∀ {parts : List (Nat × CV)} {vparts : List (Nat × Value)} {cells cs' : List LV} {vcells : Array Value},
 parts.length = vparts.length → (∀ (i : Nat) (x : Nat × CV) (y : Nat × Value), parts[i]? = some x → vparts[i]? = some y → x.1 = y.1 ∧ RepC w p β H x.2 y.2) → RepLs w p β H cells vcells.toList → fillL place cells parts = some cs' →
 ∃ vs', Instr.fill place vcells vparts = some vs' ∧ RepLs w p β H cs' vs'.toList
 | [], [], cells, cs', vcells, _, _, hl, h => by
   simp only [fillL] at h
   obtain rfl := Option.some.inj h
   exact ⟨vcells, rfl, hl⟩
 | [], _ :: _, _, _, _, hlen, _, _, _ => by cases hlen
 | _ :: _, [], _, _, _, hlen, _, _, _ => by cases hlen
 | (i, c) :: parts, (j, v) :: vparts, cells, cs', vcells, hlen, hp, hl, h => by
   obtain ⟨e1, hc⟩ := hp 0 _ _ rfl rfl
   simp only at e1; subst e1
   simp only [fillL] at h
   simp only [Instr.fill]
   cases hpl : place i with
   | none => rw [hpl] at h; cases h
   | some os =>
     obtain ⟨off, size⟩ := os
     rw [hpl] at h
     simp only [] at h ⊢
     split at h
     ·rename_i hcond
      obtain ⟨hsz, hkn⟩ := hcond
      have hcc := cells_known hc hkn
      split at h
      ·rename_i cs1 hw
       obtain ⟨w1, w2, w3⟩ := hl.write hcc hw
       have hvs : v.cells.size = size := by rw [← hsz, hcc.1]; simp
       have hle : ¬ (v.cells.size ≠ size ∨ off + v.cells.size > vcells.size) := by
        intro h
        rcases h with h | h
        ·exact h hvs
        ·simp at w1; omega
       have hcond2 : (decide (v.cells.size ≠ size) || decide (off + v.cells.size > vcells.size)) = false := by
        simp only [Bool.or_eq_false_iff, decide_eq_false_iff_not]
        exact ⟨fun h => hle (.inl h), fun h => hle (.inr h)⟩
       rw [if_neg (by simpa using hle)]
       have hfold : (v.cells.zipIdx.foldl (fun cs (c, j) => cs.setIfInBounds (off + j) c) vcells).toList = vcells.toList.take off ++ v.cells.toList ++ vcells.toList.drop (off + v.cells.toList.length) := by
        have := fold_set off v.cells.toList 0 vcells (by simpa using w1)
        simp only [Nat.add_zero] at this
        rw [← this, ← Array.foldl_toList, Array.toList_zipIdx]
       exact fill_ok (by simpa using hlen) (fun i x y hx hy => hp (i + 1) x y (by simpa using hx) (by simpa using hy)) (by rw [hfold]; exact w3) h
      ·cases h
     ·cases h
end
theorem evParts_ok {B0 : Nat} {w0 : Base} {β : Nat → Option Value} {p : Nat → Prop} {a : Act} {w : World} (inv : Inv B0 w0 β p s a w) : ∀ (l : List (Nat × Operand)),
 (evParts s l).length = (l.map fun x => (x.1, a.eval x.2)).length ∧ ∀ (i : Nat) (x : Nat × CV) (y : Nat × Value), (evParts s l)[i]? = some x → (l.map fun x => (x.1, a.eval x.2))[i]? = some y → x.1 = y.1 ∧ RepC w p β s.blk x.2 y.2
 | [] => ⟨rfl, fun i x y hx => by simp [evParts] at hx⟩
 | (j, q) :: l => by
   obtain ⟨h1, h2⟩ := evParts_ok inv l
   refine ⟨by simp [evParts, h1], fun i x y hx hy => ?_⟩
   cases i with
   | zero => simp [evParts] at hx hy; subst hx; subst hy; exact ⟨rfl, evC_ok inv q⟩
   | succ i => simp only [evParts, List.getElem?_cons_succ, List.map_cons] at hx hy; exact h2 i x y hx hy
theorem mapM_places {w : World} : ∀ (fs : List Field), fs.all (fun f => (P.info? f.type).isSome) = true →
 (fs.mapM (m := Sem) fun f => do pure (f.offset, ← sizeOf f.type)).run P w = .ok (fs.map fun f => (f.offset, P.cellsOf f.type)) w
 | [], _ => rfl
 | f :: fs, h => by
   simp only [List.all_cons, Bool.and_eq_true] at h
   rw [List.mapM_cons, Sem.run_bind, Sem.run_bind, run_sizeOf' h.1]
   simp only [Result.andThen_ok, Sem.run_pure, Sem.run_bind, mapM_places fs h.2]
   rfl
theorem step_build {T : TypeId} {parts : Array (Nat × Operand)} (ho : o.op = .build T parts) (h : buildOp P s o T parts.toList = some (true, s')) : StepOk P s o s' := by
 unfold buildOp at h
 split at h
 ·rename_i z hz
  split at h
  ·rename_i fs hu
   split at h
   ·rename_i cs hf
    split at h
    ·rename_i hall
     obtain rfl := congrArg Prod.snd (okStep h)
     refine StepOk.value fun B0 w0 β p a w inv => ?_
     obtain ⟨i, zv, hi, hzv, hl⟩ := zero_ok (P := P) (w := w) (p := p) (β := β) (H := s.blk) hz
     obtain ⟨e1, e2⟩ := evParts_ok inv parts.toList
     obtain ⟨vs, r1, r2⟩ := fill_ok e1 e2 hl hf
     refine ⟨.agg vs, ?_, vs, rfl, r2⟩
     have hm := mapM_places (P := P) (w := w) fs.toList hall
     have hplace : (fun (i : Nat) => ((fs.toList.map fun (f : Field) => (f.offset, P.cellsOf f.type)).toArray)[i]?) = (fun (i : Nat) => (fs[i]?).map fun (f : Field) => (f.offset, P.cellsOf f.type)) := by
      funext i
      rw [List.getElem?_toArray, List.getElem?_map, Array.getElem?_toList]
     have hmA : (fs.mapM (m := Sem) fun (f : Field) => do pure (f.offset, ← sizeOf f.type)).run P w = .ok ((fs.toList.map fun (f : Field) => (f.offset, P.cellsOf f.type)).toArray) w := by
      rw [Array.mapM_eq_mapM_toList, Sem.run_map, hm]
      rfl
     simp only [execOp, ho, Instr.build, zeroValue, typeInfo, Sem.run_bind, run_program, Result.andThen_ok, hi, hzv, Sem.run_pure, run_underlying hu]
     rw [hmA]
     simp only [Result.andThen_ok, hplace, Array.toList_map]
     rw [r1]
     rfl
    ·cases h
   ·cases h
  ·rename_i n E hu
   split at h
   ·rename_i cs hf
    split at h
    ·rename_i hinf
     obtain rfl := congrArg Prod.snd (okStep h)
     refine StepOk.value fun B0 w0 β p a w inv => ?_
     obtain ⟨i, zv, hi, hzv, hl⟩ := zero_ok (P := P) (w := w) (p := p) (β := β) (H := s.blk) hz
     obtain ⟨e1, e2⟩ := evParts_ok inv parts.toList
     obtain ⟨vs, r1, r2⟩ := fill_ok e1 e2 hl hf
     refine ⟨.agg vs, ?_, vs, rfl, r2⟩
     simp [execOp, ho, Instr.build, zeroValue, typeInfo, hi, hzv, run_underlying hu, run_sizeOf' hinf, r1]
    ·cases h
   ·cases h
  ·cases h
 ·cases h
end
end Go.Ev
namespace Go.Ev
open Go.RowKit
section
variable {P : Program} {s s' : PS} {o : Oper}
theorem made_flat (z : List Value) (hz : 0 < z.length) : ∀ n, (madeCells z.toArray (n * z.length)).toList = (List.replicate n z).flatten := by
 intro n
 apply List.ext_getElem?
 intro j
 have hl : ((List.replicate n z).flatten).length = n * z.length := by simp
 have key : ∀ (n j : Nat), j < n * z.length → ((List.replicate n z).flatten)[j]? = z[j % z.length]? := by
  intro n
  induction n with
  | zero => intro j h; simp at h
  | succ n ih =>
    intro j h
    rw [List.replicate_succ, List.flatten_cons, List.getElem?_append]
    by_cases hj : j < z.length
    ·rw [if_pos hj, Nat.mod_eq_of_lt hj]
    ·rw [if_neg hj, ih (j - z.length) (by rw [Nat.add_mul, Nat.one_mul] at h; omega)]
     rw [← Nat.mod_eq_sub_mod (by omega)]
 by_cases hj : j < n * z.length
 ·rw [key n j hj]
  have hm : j % z.length < z.length := Nat.mod_lt _ hz
  simp [madeCells, hj, hm]
 ·rw [List.getElem?_eq_none (by rw [Array.length_toList, size_madeCells]; omega), List.getElem?_eq_none (by rw [hl]; omega)]
theorem repLs_replicate {w : World} {p : Nat → Prop} {β : Nat → Option Value} {H : Nat → Blk} {cs : List LV} {us : List Value} (h : RepLs w p β H cs us) : ∀ n, RepLs w p β H ((List.replicate n cs).flatten) ((List.replicate n us).flatten)
 | 0 => repLs_nil
 | n + 1 => by
   rw [List.replicate_succ, List.replicate_succ, List.flatten_cons, List.flatten_cons]
   exact h.append (repLs_replicate h n)
theorem rows_imp {w : World} {p : Nat → Prop} {e : Sh} {xs : List e.T} {us : List Value} {w' : World} {p' : Nat → Prop} (hd : ∀ b, p b → p' b ∧ w'.heap[b]? = w.heap[b]?) (h : Rows' e.size (RepT w p e) xs us) : Rows' e.size (RepT w' p' e) xs us :=
 h.imp fun _ _ h => RepT.mono hd h
theorem subAt_ok {w : World} {p : Nat → Prop} : ∀ {s : Sh} {x : s.T} {o : Nat} {t : Sh} {y : t.T} {us : List Value}, s.subAt x o = some ⟨t, y⟩ → RepT w p s x us → ∃ u, us[o]? = some u ∧ RepT w p t y [u]
 | .pair a b, x, o, t, y, us, h, hr => by
   simp only [RepT] at hr
   obtain ⟨us1, us2, rfl, h1, h2⟩ := hr
   have hl := h1.length
   simp only [Sh.subAt] at h
   split at h
   ·rename_i ho
    obtain ⟨u, e, hu⟩ := subAt_ok h h1
    exact ⟨u, by rw [List.getElem?_append_left (by omega)]; exact e, hu⟩
   ·rename_i ho
    obtain ⟨u, e, hu⟩ := subAt_ok h h2
    exact ⟨u, by rw [List.getElem?_append_right (by omega), hl]; exact e, hu⟩
 | .agg s, x, o, t, y, us, h, hr => by
   simp only [RepT] at hr
   exact subAt_ok (s := s) h hr
 | .int k, x, 0, t, y, us, h, hr => by
   obtain ⟨rfl, h⟩ := Sigma.mk.inj (Option.some.inj h)
   obtain rfl := eq_of_heq h
   have hr' := hr
   simp only [RepT] at hr
   exact ⟨_, by rw [hr]; rfl, by rw [← hr]; exact hr'⟩
 | .bool, x, 0, t, y, us, h, hr => by
   obtain ⟨rfl, h⟩ := Sigma.mk.inj (Option.some.inj h)
   obtain rfl := eq_of_heq h
   have hr' := hr
   simp only [RepT] at hr
   exact ⟨_, by rw [hr]; rfl, by rw [← hr]; exact hr'⟩
 | .str, x, 0, t, y, us, h, hr => by
   obtain ⟨rfl, h⟩ := Sigma.mk.inj (Option.some.inj h)
   obtain rfl := eq_of_heq h
   have hr' := hr
   simp only [RepT] at hr
   exact ⟨_, by rw [hr]; rfl, by rw [← hr]; exact hr'⟩
 | .int _, _, _ + 1, _, _, _, h, _ => by cases h
 | .bool, _, _ + 1, _, _, _, h, _ => by cases h
 | .str, _, _ + 1, _, _, _, h, _ => by cases h
 | .zf, _, _, _, _, _, h, _ | .zc, _, _, _, _, _, h, _ | .slice _, _, _, _, _, _, h, _ | .map _ _, _, _, _, _, _, h, _ | .unit, _, _, _, _, _, h, _ | .ptr _, _, _, _, _, _, h, _ | .optr _, _, _, _, _, _, h, _ | .clo _ _, _, _, _, _, _, h, _ | .err, _, _, _, _, _, h, _ => by simp [Sh.subAt] at h
theorem normL_ok {w : World} {p : Nat → Prop} {β : Nat → Option Value} {H : Nat → Blk} {c : LV} {v : Value} (h : RepL w p β H c v) : RepL w p β H (normL c) v := by
 unfold normL
 split
 ·rename_i sh x o
  split
  ·rename_i t y hs
   obtain ⟨b, q, us, rfl, hb, hr, hc⟩ := h
   obtain ⟨u, e, hu⟩ := subAt_ok hs hr
   refine ⟨b, q + o, [u], rfl, hb, hu, fun j hj => ?_⟩
   obtain rfl : j = 0 := by simp at hj; exact hj
   have hlt : o < us.length := (List.getElem?_eq_some_iff.1 e).1
   rw [Nat.add_zero, hc o hlt, e]
   rfl
  ·exact h
 ·exact h
theorem elem_ok {P : Program} {E : TypeId} {cs cs' : List LV} {e : Sh} (h : elemOf P E cs = some (e, cs')) {w : World} {p : Nat → Prop} {β : Nat → Option Value} {H : Nat → Blk} {vs : List Value} (hl : RepLs w p β H cs vs) : RepLs w p β H cs' vs := by
 unfold elemOf at h
 split at h
 ·obtain ⟨_, rfl⟩ := Prod.mk.inj (Option.some.inj h)
  exact hl
 ·split at h
  ·obtain ⟨_, rfl⟩ := Prod.mk.inj (Option.some.inj h)
   refine ⟨by rw [List.length_map]; exact hl.1, fun i c v hc hv => ?_⟩
   rw [List.getElem?_map] at hc
   cases hi : cs[i]? with
   | none => rw [hi] at hc; cases hc
   | some c0 =>
     rw [hi] at hc
     obtain rfl := Option.some.inj hc
     exact normL_ok (hl.2 i c0 v hi hv)
  ·cases h
theorem step_buildSlice {T : TypeId} {n : Nat} {parts : Array (Nat × Operand)} (ho : o.op = .buildSlice T n parts) (h : buildSliceOp P s o T n parts.toList = some (true, s')) : StepOk P s o s' := by
 unfold buildSliceOp at h
 split at h
 ·rename_i E d hu hd
  split at h
  ·rename_i z i0 hz hi0
   split at h
   ·rename_i cs hf
    split at h
    case h_2 => cases h
    rename_i e cs' hel
    split at h
    ·rename_i xs hrows
     split at h
     ·rename_i hc
      obtain ⟨hsz, hpos, hzl, hmax, hmax2⟩ := hc
      split at h
      ·rename_i s1 hs1
       obtain rfl := (Prod.mk.inj (Option.some.inj h)).2
       refine StepOk.made hd fun B0 w0 β p a w inv => ?_
       obtain ⟨i, zv, hi, hzv, hl⟩ := zero_ok (P := P) (w := w) (p := p) (β := β) (H := s.blk) hz
       obtain ⟨e1, e2⟩ := evParts_ok inv parts.toList
       have hzlen : zv.cells.toList.length = e.size := by rw [← hl.1]; exact hzl
       have hmade := made_flat zv.cells.toList (by omega) n
       rw [hzlen] at hmade
       have hbase : RepLs w p β s.blk ((List.replicate n z.cells).flatten) (madeCells zv.cells (n * e.size)).toList := by
        have h2 := repLs_replicate hl n
        rw [← hmade] at h2
        simpa using h2
       obtain ⟨vs, r1, r2⟩ := fill_ok e1 e2 hbase hf
       obtain ⟨hlen, hrow⟩ := rows_ok hrows (elem_ok hel r2)
       have hvs : vs.size = n * e.size := by have := hrow.1; rw [hlen] at this; simpa using this
       have hinfo : (P.info? E).isSome = true := by rw [hi]; rfl
       have hbel := below_alloc w (.cells vs E)
       obtain ⟨β', hinv⟩ := inv.allocAt hs1 (r0 := .slice (some ⟨w.heap.size, 0, none⟩) n n) (v := .slice (some ⟨w.heap.size, 0, none⟩) n n) hbel (fun b hb => by obtain rfl := Option.some.inj hb; exact Nat.le_refl _) (fun β' H' hk hβ hH => by
        refine ⟨⟨vs.toList, ?_, hpos, rows_imp (fun b hb => ⟨hb, hbel.block b (inv.shared b hb).1⟩) hrow⟩, repC_l (w := w.alloc (.cells vs E)) (p := p) (c := .full d) ⟨hβ, by rw [hH]; trivial, rfl⟩⟩
        rw [hlen]
        exact ownsAt_of (World.ownsRow_lit w vs n inv.base (by unfold maxLen; omega) hvs))
       refine ⟨_, _, ?_, β', p, hinv⟩
       have hnle : ¬ (n * e.size > 2 ^ 24) := by omega
       have hnle2 : ¬ (n * P.cellsOf E > 2 ^ 24) := by rw [← hsz]; exact hnle
       have hplace : (fun (i : Nat) => some (i * P.cellsOf E, P.cellsOf E)) = (fun (i : Nat) => some (i * P.cellsOf E, P.cellsOf E)) := rfl
       simp only [execOp, ho, Instr.buildSlice, Sem.run_bind, run_underlying hu, Result.andThen_ok, run_sizeOf' hinfo]
       rw [if_neg hnle2]
       simp only [Sem.run_pure, Result.andThen_ok]
       rw [hsz] at r1
       by_cases h0 : n * P.cellsOf E = 0
       ·have hm0 : madeCells zv.cells (n * P.cellsOf E) = #[] := by rw [h0]; simp [madeCells]
        rw [hm0] at r1
        have hr0 : ∀ z : Array Value, (Array.range (n * P.cellsOf E)).map (fun x => z[x % z.size]!) = #[] := by intro z; rw [h0]; simp
        rw [if_pos h0]
        simp only [Sem.run_pure, Result.andThen_ok, hr0, Array.toList_map]
        rw [r1]
        simp [newRow]
       ·rw [if_neg h0]
        simp only [Sem.run_bind, zeroValue, typeInfo, run_program, Result.andThen_ok, hi, hzv, Sem.run_pure, Array.toList_map]
        have hr0 : (Array.range (n * P.cellsOf E)).map (fun x => zv.cells[x % zv.cells.size]!) = madeCells zv.cells (n * P.cellsOf E) := rfl
        rw [hr0, r1]
        simp [newRow]
      ·cases h
     ·cases h
    ·cases h
   ·cases h
  ·cases h
 ·cases h
theorem step_buildCells {T : TypeId} {n : Nat} {parts : Array (Nat × Operand)} (ho : o.op = .buildSlice T n parts) (h : buildCellsOp P s o T n parts.toList = some (true, s')) : StepOk P s o s' := by
 unfold buildCellsOp at h
 split at h
 case h_2 => cases h
 rename_i E d hu hd
 split at h
 case h_2 => cases h
 rename_i z i0 hz hi0
 split at h
 case h_2 => cases h
 rename_i cs hf
 split at h
 case isFalse => cases h
 rename_i hc
 obtain ⟨hpos, hzl, hmax, hcl⟩ := hc
 split at h
 case h_2 => cases h
 rename_i s1 hs1
 obtain rfl := (Prod.mk.inj (Option.some.inj h)).2
 refine StepOk.made hd fun B0 w0 β p a w inv => ?_
 obtain ⟨i, zv, hi, hzv, hl⟩ := zero_ok (P := P) (w := w) (p := p) (β := β) (H := s.blk) hz
 obtain ⟨e1, e2⟩ := evParts_ok inv parts.toList
 have hzlen : zv.cells.toList.length = P.cellsOf E := by rw [← hl.1]; exact hzl
 have hmade := made_flat zv.cells.toList (by omega) n
 rw [hzlen] at hmade
 have hbase : RepLs w p β s.blk ((List.replicate n z.cells).flatten) (madeCells zv.cells (n * P.cellsOf E)).toList := by
  have h2 := repLs_replicate hl n
  rw [← hmade] at h2
  simpa using h2
 obtain ⟨vs, r1, r2⟩ := fill_ok e1 e2 hbase hf
 have hvs : vs.size = n * P.cellsOf E := by have := r2.1; rw [hcl] at this; simpa using this.symm
 have hinfo : (P.info? E).isSome = true := by rw [hi]; rfl
 have hbel := below_alloc w (.cells vs E)
 obtain ⟨β', hinv⟩ := inv.allocAt hs1 (r0 := .pointer (some ⟨w.heap.size, 0, none⟩)) (v := .slice (some ⟨w.heap.size, 0, none⟩) n n) hbel (fun b hb => by obtain rfl := Option.some.inj hb; exact Nat.le_refl _) (fun β' H' hk hβ hH => by
  have hl' := RepLs.of (f := LV.kill d) (fun c u hc => hk c u hc) r2
  refine ⟨repB_cells inv.base (heap_alloc_new w _) hl', repC_l (w := w.alloc (.cells vs E)) (p := p) (c := .cref d 0 n (fakeSh (P.cellsOf E))) ⟨_, n, _, rfl, Nat.le_refl _, hβ, ?_, w.heap.size, rfl, rfl⟩⟩
  rw [hH]
  have hn1 : n ≤ n * P.cellsOf E := Nat.le_mul_of_pos_right _ hpos
  have hlen : 0 + n * (fakeSh (P.cellsOf E)).size ≤ (cs.map (LV.kill d)).length := by rw [fakeSh_size, List.length_map, hcl]; omega
  exact ⟨hlen, by simp only [maxLen]; omega, hlen⟩)
 refine ⟨_, _, ?_, β', p, hinv⟩
 have hnle2 : ¬ (n * P.cellsOf E > 2 ^ 24) := by omega
 simp only [execOp, ho, Instr.buildSlice, Sem.run_bind, run_underlying hu, Result.andThen_ok, run_sizeOf' hinfo]
 rw [if_neg hnle2]
 simp only [Sem.run_pure, Result.andThen_ok]
 by_cases h0 : n * P.cellsOf E = 0
 ·have hm0 : madeCells zv.cells (n * P.cellsOf E) = #[] := by rw [h0]; simp [madeCells]
  rw [hm0] at r1
  have hr0 : ∀ z : Array Value, (Array.range (n * P.cellsOf E)).map (fun x => z[x % z.size]!) = #[] := by intro z; rw [h0]; simp
  rw [if_pos h0]
  simp only [Sem.run_pure, Result.andThen_ok, hr0, Array.toList_map]
  rw [r1]
  simp [newRow]
 ·rw [if_neg h0]
  simp only [Sem.run_bind, zeroValue, typeInfo, run_program, Result.andThen_ok, hi, hzv, Sem.run_pure, Array.toList_map]
  have hr0 : (Array.range (n * P.cellsOf E)).map (fun x => zv.cells[x % zv.cells.size]!) = madeCells zv.cells (n * P.cellsOf E) := rfl
  rw [hr0, r1]
  simp [newRow]
theorem step_buildRow {T : TypeId} {n : Nat} {parts : Array (Nat × Operand)} (ho : o.op = .buildSlice T n parts) (h : buildRowOp P s o T n parts.toList = some (true, s')) : StepOk P s o s' := by
 unfold buildRowOp at h
 split at h
 case h_2 => cases h
 rename_i E d x hu hd hparts
 split at h
 case h_2 => cases h
 rename_i z i0 t hz hi0 hx
 split at h
 case isFalse => cases h
 rename_i hc
 obtain ⟨rfl, hsz, hzl⟩ := hc
 split at h
 case h_2 => cases h
 rename_i y hy
 split at h
 case h_2 => cases h
 rename_i s1 hs1
 obtain rfl := (Prod.mk.inj (Option.some.inj h)).2
 refine StepOk.made hd fun B0 w0 β p a w inv => ?_
 obtain ⟨i, zv, hi, hzv, hl⟩ := zero_ok (P := P) (w := w) (p := p) (β := β) (H := s.blk) hz
 have hzlen : zv.cells.toList.length = P.cellsOf E := by rw [← hl.1, hzl]; exact hsz
 have cx := evL_ok inv x (by rw [hx]; intro e; cases e)
 rw [hx] at cx
 obtain ⟨β1, inv1, en, eg, tr⟩ := inv.toRow (j := y.1) (s1 := y.2) hy
 have hrow : RepL w p β1 y.2.blk (.row y.1) (a.eval x) := by
  have := tr _ _ cx
  simp only [LV.toRow, if_pos] at this
  exact this
 have hone : (a.eval x).cells = #[a.eval x] := cells_one hrow.oneCell
 have hmade := made_flat zv.cells.toList (by omega) 1
 rw [hzlen] at hmade
 have hinfo : (P.info? E).isSome = true := by rw [hi]; rfl
 have hfill : Instr.fill (fun i => some (i * P.cellsOf E, P.cellsOf E)) (madeCells zv.cells (1 * P.cellsOf E)) [(0, a.eval x)] = some #[a.eval x] := by
  have hms : (madeCells zv.cells (1 * P.cellsOf E)).size = 1 := by rw [size_madeCells]; omega
  obtain ⟨u, hu1⟩ : ∃ u, madeCells zv.cells (1 * P.cellsOf E) = #[u] := by
   match hq : madeCells zv.cells (1 * P.cellsOf E), hms with
   | ⟨[u]⟩, _ => exact ⟨u, rfl⟩
  rw [hu1]
  simp [Instr.fill, hone, ← hsz]
 have hbel := below_alloc w (.cells #[a.eval x] E)
 obtain ⟨β', hinv⟩ := inv1.allocAt hs1 (r0 := .slice (some ⟨w.heap.size, 0, none⟩) 1 1) (v := .slice (some ⟨w.heap.size, 0, none⟩) 1 1) hbel (fun b hb => by obtain rfl := Option.some.inj hb; exact Nat.le_refl _) (fun β' H' hk hβ hH => by
  have hl' := hk _ _ hrow
  refine ⟨⟨[a.eval x], ⟨rfl, .inr ⟨w.heap.size, 0, 1, #[a.eval x], rfl, inv.base, heap_alloc_new w _, Nat.le_refl _, by simp [maxLen], by simp, by simp⟩⟩, repLs_one hl'⟩, repC_l (w := w.alloc (.cells #[a.eval x] E)) (p := p) (c := .full d) ⟨hβ, by rw [hH]; trivial, rfl⟩⟩)
 refine ⟨_, _, ?_, β', p, hinv⟩
 have hnle2 : ¬ (1 * P.cellsOf E > 2 ^ 24) := by omega
 have hn0 : ¬ (1 * P.cellsOf E = 0) := by omega
 simp only [execOp, ho, Instr.buildSlice, Sem.run_bind, run_underlying hu, Result.andThen_ok, run_sizeOf' hinfo]
 rw [if_neg hnle2]
 simp only [Sem.run_pure, Result.andThen_ok]
 rw [if_neg hn0]
 simp only [Sem.run_bind, zeroValue, typeInfo, run_program, Result.andThen_ok, hi, hzv, Sem.run_pure, Array.toList_map, hparts, List.map_cons, List.map_nil]
 have hr0 : (Array.range (1 * P.cellsOf E)).map (fun x => zv.cells[x % zv.cells.size]!) = madeCells zv.cells (1 * P.cellsOf E) := rfl
 rw [hr0, hfill]
 simp [newRow]
theorem run_append_call {T U : TypeId} {x y : Operand} (ho : o.op = .call { callee := .builtin .append, args := #[x, y], argTypes := #[T, U] }) (a : Act) {w w' : World} {v : Value}
 (h : (Builtin.append_ #[T, U] o.type #[a.eval x, a.eval y]).run P w = .ok v w') : (execOp a.eval o).run P w = .ok (.value v) w' := by
 simp [execOp, ho, resolve, invoke, builtin, h]
theorem Rows'.append {α : Type} {size : Nat} {R : α → List Value → Prop} {xs ys : List α} {us vs : List Value} (h1 : Rows' size R xs us) (h2 : Rows' size R ys vs) : Rows' size R (xs ++ ys) (us ++ vs) := by
 refine ⟨by rw [List.length_append, List.length_append, h1.1, h2.1, Nat.add_mul], fun i x hi => ?_⟩
 rw [List.getElem?_append] at hi
 by_cases hlt : i < xs.length
 ·rw [if_pos hlt] at hi
  have hbig : (i + 1) * size ≤ xs.length * size := Nat.mul_le_mul_right _ hlt
  rw [Nat.add_mul, Nat.one_mul, ← h1.1] at hbig
  have := h1.2 i x hi
  rwa [List.drop_append_of_le_length (by omega), List.take_append_of_le_length (by rw [List.length_drop]; omega)]
 ·rw [if_neg hlt] at hi
  have := h2.2 _ x hi
  have e : i * size = us.length + (i - xs.length) * size := by
   rw [h1.1, ← Nat.add_mul]; congr 1; omega
  rwa [e, List.drop_length_add_append]
theorem rows_part {α : Type} {size : Nat} {R : α → List Value → Prop} {xs : List α} {us : List Value} (h : Rows' size R xs us) (off len : Nat) (hle : off + len ≤ xs.length) : Rows' size R ((xs.drop off).take len) ((us.drop (off * size)).take (len * size)) := by
 have hb : (off + len) * size ≤ xs.length * size := Nat.mul_le_mul_right _ hle
 rw [Nat.add_mul, ← h.1] at hb
 refine ⟨?_, fun i x hi => ?_⟩
 ·rw [List.length_take, List.length_drop, List.length_take, List.length_drop, Nat.min_eq_left (by omega), Nat.min_eq_left (by omega)]
 ·rw [List.getElem?_take] at hi
  split at hi
  ·rename_i hil
   rw [List.getElem?_drop] at hi
   have := h.2 _ x hi
   have h3 : (i + 1) * size ≤ len * size := Nat.mul_le_mul_right _ hil
   rw [Nat.add_mul, Nat.one_mul] at h3
   have e : ((us.drop (off * size)).take (len * size)).drop (i * size) = (us.drop ((off + i) * size)).take (len * size - i * size) := by
    rw [List.drop_take, List.drop_drop, Nat.add_mul]
   rw [e, List.take_take, Nat.min_eq_left (by omega)]
   exact this
  ·cases hi
theorem rows_one {w : World} {p : Nat → Prop} {e : Sh} {xs : List e.T} {us : List Value} (h : Rows' e.size (RepT w p e) xs us) : ∀ v ∈ us, v.oneCell' = true :=
 (rows_cells (β := fun _ => none) (H := fun _ => .free) h).oneCells
theorem ownsAt_cells {w : World} {B : Nat} {T : TypeId} {size n : Nat} {v : Value} {us : List Value} (h : ownsAt w B T size v n us) {ad : Addr} {len cap : Nat} (hv : v = .slice (some ad) len cap) : ∀ j u, us[j]? = some u → w.cell? (ad.add j) = some u := by
 intro j u hu
 rcases h.2 with ⟨e, _⟩ | ⟨g, q, cap', cur, e, _, hg, _, _, _, ht⟩
 ·rw [hv] at e; cases e
 ·rw [hv] at e
  obtain ⟨e1, _, _⟩ := Value.slice.inj e
  obtain rfl := Option.some.inj e1
  rw [Addr.add_lit, cell_of hg, ← List.getElem?_drop]
  rw [← ht, List.getElem?_take] at hu
  split at hu
  ·exact hu
  ·cases hu
theorem ownsAt_part {w : World} {B : Nat} {T : TypeId} {size n : Nat} {r : Value} {us : List Value} (h : ownsAt w B T size r n us) {b q off len cap : Nat} (hb : rootBlock r = some b) (hle : off + len ≤ n) (hcap : len ≤ cap)
 (hq : q = rootOff r + off * size ∨ (cap = 0 ∧ q ≤ rootOff r + off * size)) (hco : capOk r off cap) : ownsAt w B T size (.slice (some ⟨b, q, none⟩) len cap) len ((us.drop (off * size)).take (len * size)) := by
 rcases h.2 with ⟨rfl, _⟩ | ⟨g, q0, c, cur, rfl, h1, h2, h3, h4, h5, h6⟩
 ·cases hb
 ·obtain rfl := Option.some.inj hb
  have hmul : (off + len) * size ≤ n * size := Nat.mul_le_mul_right _ hle
  have hmul2 : (off + cap) * size ≤ c * size := Nat.mul_le_mul_right _ (show off + cap ≤ c from hco)
  rw [Nat.add_mul] at hmul hmul2
  have hl := h.1
  have hq : q = q0 + off * size ∨ (cap = 0 ∧ q ≤ q0 + off * size) := hq
  refine ⟨by rw [List.length_take, List.length_drop]; omega, .inr ⟨g, q, cap, cur, rfl, h1, h2, hcap, by have : off + cap ≤ c := hco; omega, ?_, ?_⟩⟩
  ·rcases hq with e | ⟨e1, e2⟩
   ·omega
   ·rw [e1, Nat.zero_mul]; omega
  ·rcases hq with e | ⟨e1, e2⟩
   ·rw [← h6, List.drop_take, List.take_take, List.drop_drop, e, Nat.min_eq_left (by omega)]
   ·have : len = 0 := by omega
    rw [this, Nat.zero_mul]; simp
theorem src_ok {B0 : Nat} {w0 : Base} {β : Nat → Option Value} {p : Nat → Prop} {a : Act} {w : World} (inv : Inv B0 w0 β p s a w) {x : Operand} {e : Sh} {ys : List e.T} (h : srcOf s (evL s x) = some ⟨e, ys⟩) :
 ∃ ad cap us, a.eval x = .slice ad ys.length cap ∧ (ad = none → ys = [] ∧ cap = 0) ∧ Rows' e.size (RepT w p e) ys us ∧ (∀ v ∈ us, v.oneCell' = true) ∧ ∀ ad', ad = some ad' → ∀ j u, us[j]? = some u → w.cell? (ad'.add j) = some u := by
 have hne : evL s x ≠ .undef := by intro e; rw [e] at h; cases h
 have cx := evL_ok inv x hne
 unfold srcOf at h
 split at h
 ·rename_i e' xs hx
  rw [hx] at cx
  obtain ⟨rfl, hh⟩ := Sigma.mk.inj (Option.some.inj h)
  obtain rfl := eq_of_heq hh
  simp only [RepL, RepT] at cx
  obtain ⟨ad, cap, ex, hcap, hel⟩ := cx
  have ex : a.eval x = .slice ad xs.length cap := by simpa using ex
  rcases hel with rfl | ⟨b, q, rfl, hb, hel⟩
  ·exact ⟨ad, cap, [], ex, fun h => ⟨rfl, hcap.2 h⟩, ⟨by simp, fun i x h => by simp at h⟩, fun v hv => by simp at hv, fun ad' _ j u hu => by simp at hu⟩
  ·let us : List Value := (List.range (xs.length * e'.size)).map fun m => (w.cell? ⟨b, q + m, none⟩).getD undef
   have hus : ∀ m, m < xs.length * e'.size → us[m]? = some ((w.cell? ⟨b, q + m, none⟩).getD undef) := by
    intro m hm
    simp [us, hm]
   have hlen : us.length = xs.length * e'.size := by simp [us]
   have seg : ∀ i y, xs[i]? = some y → ∃ ts, RepT w p e' y ts ∧ (us.drop (i * e'.size)).take e'.size = ts ∧ ∀ j, j < e'.size → w.cell? ⟨b, q + i * e'.size + j, none⟩ = ts[j]? := by
    intro i y hi
    obtain ⟨ts, r1, r2, r3⟩ := hel i y hi
    have hil : i < xs.length := (List.getElem?_eq_some_iff.1 hi).1
    have hbig : (i + 1) * e'.size ≤ xs.length * e'.size := Nat.mul_le_mul_right _ hil
    rw [Nat.add_mul, Nat.one_mul] at hbig
    refine ⟨ts, r1, ?_, r3⟩
    apply List.ext_getElem?
    intro j
    rw [List.getElem?_take]
    by_cases hj : j < e'.size
    ·rw [if_pos hj, List.getElem?_drop, hus _ (by omega), ← r3 j hj, Nat.add_assoc]
     have : ts[j]? = some ts[j] := List.getElem?_eq_getElem (by rw [r2]; exact hj)
     rw [← Nat.add_assoc, r3 j hj, this]
     rfl
    ·rw [if_neg hj, List.getElem?_eq_none (by rw [r2]; omega)]
   have hrow : Rows' e'.size (RepT w p e') xs us := ⟨hlen, fun i y hi => by
    obtain ⟨ts, r1, r2, _⟩ := seg i y hi
    rw [r2]; exact r1⟩
   refine ⟨_, cap, us, ex, fun h => (by cases h), hrow, rows_one hrow, fun ad' had j u hu => ?_⟩
   obtain rfl := Option.some.inj had
   rw [Addr.add_lit]
   have hj : j < xs.length * e'.size := by rw [← hlen]; exact (List.getElem?_eq_some_iff.1 hu).1
   have hsz : 0 < e'.size := Nat.pos_of_ne_zero fun h0 => by rw [h0, Nat.mul_zero] at hj; omega
   have hi : j / e'.size < xs.length := Nat.div_lt_of_lt_mul (by rwa [Nat.mul_comm] at hj)
   obtain ⟨ts, r1, r2, r3⟩ := seg (j / e'.size) _ (List.getElem?_eq_getElem hi)
   have hm : j % e'.size < e'.size := Nat.mod_lt _ hsz
   have hdm : j / e'.size * e'.size + j % e'.size = j := by rw [Nat.mul_comm]; exact Nat.div_add_mod j e'.size
   have h3 := r3 _ hm
   rw [Nat.add_assoc, hdm, ← r2, List.getElem?_take, if_pos hm, List.getElem?_drop, hdm, hu] at h3
   exact h3
 ·rename_i t hx
  rw [hx] at cx
  obtain ⟨hr, _, _⟩ := cx
  split at h
  ·rename_i U e' xs hs
   obtain ⟨rfl, hh⟩ := Sigma.mk.inj (Option.some.inj h)
   obtain rfl := eq_of_heq hh
   have hrep := inv.blk hr
   rw [hs] at hrep
   obtain ⟨us, hown, he, hrow⟩ := hrep
   rcases hown.2 with ⟨e1, e2⟩ | ⟨g, q, cap, cur, e1, _⟩
   ·have hxs : xs = [] := List.eq_nil_of_length_eq_zero e2
    subst hxs
    exact ⟨none, 0, us, by rw [e1]; rfl, fun _ => ⟨rfl, rfl⟩, hrow, rows_one hrow, fun ad' h => by cases h⟩
   ·refine ⟨_, cap, us, e1, fun h => (by cases h), hrow, rows_one hrow, fun ad' had j u hu => ?_⟩
    obtain rfl := Option.some.inj had
    exact ownsAt_cells hown e1 j u hu
  ·cases h
 ·rename_i t sz off len hx
  rw [hx] at cx
  obtain ⟨ad, cap, r, ex, hcap, hr, hok, ⟨b, q, hb, rfl, hq⟩, _⟩ := cx
  have fin : ∀ (e' : Sh) (xs : List e'.T), ((∃ U, s.blk t = .buf U e' xs) ∨ s.blk t = .arr e' xs) → sz = e'.size → off + len ≤ xs.length → (⟨e', (xs.drop off).take len⟩ : Σ e : Sh, List e.T) = ⟨e, ys⟩ →
   ∃ ad cap us, a.eval x = .slice ad ys.length cap ∧ (ad = none → ys = [] ∧ cap = 0) ∧ Rows' e.size (RepT w p e) ys us ∧ (∀ v ∈ us, v.oneCell' = true) ∧ ∀ ad', ad = some ad' → ∀ j u, us[j]? = some u → w.cell? (ad'.add j) = some u := by
   intro e' xs hs hsz hle heq
   obtain ⟨rfl, hh⟩ := Sigma.mk.inj heq
   obtain rfl := eq_of_heq hh
   obtain ⟨us, he, hrow, hc⟩ := inv.rowsAt hr hb hs
   have hp := rows_part hrow off len hle
   refine ⟨_, cap, _, by rw [ex, List.length_take, List.length_drop, Nat.min_eq_left (by omega)], fun h => (by cases h), hp, rows_one hp, fun ad' had j u hu => ?_⟩
   obtain rfl := Option.some.inj had
   rw [Addr.add_lit]
   rw [List.getElem?_take] at hu
   split at hu
   ·rename_i hjl
    rw [List.getElem?_drop] at hu
    have hlt := (List.getElem?_eq_some_iff.1 hu).1
    have hq : q = rootOff r + off * sz := hq.resolve_right (fun h => by
     have : len = 0 := by omega
     rw [this, Nat.zero_mul] at hjl
     omega)
    rw [hq, hsz, Nat.add_assoc, hc _ hlt, hu]
   ·cases hu
  split at h
  ·rename_i U e' xs hs
   rw [hs] at hok
   exact fin e' xs (.inl ⟨U, hs⟩) hok.1 hok.2 (Option.some.inj h)
  ·rename_i e' xs hs
   rw [hs] at hok
   exact fin e' xs (.inr hs) hok.1 hok.2 (Option.some.inj h)
  ·cases h
 ·rename_i t q len e' hx
  rw [hx] at cx
  obtain ⟨ad, cap, r, ex, hcap, hr, hok, b, hb, rfl⟩ := cx
  split at h
  ·rename_i cs hs
   split at h
   ·rename_i xs hrows
    obtain ⟨rfl, hh⟩ := Sigma.mk.inj (Option.some.inj h)
    obtain rfl := eq_of_heq hh
    obtain ⟨us', hh, hl⟩ := inv.cellsAt hr hb hs
    obtain ⟨hlen, hrow⟩ := rows_ok hrows (hl.part q (len * e'.size))
    refine ⟨_, cap, _, by rw [ex, hlen], fun h => (by cases h), hrow, rows_one hrow, fun ad' had j u hu => ?_⟩
    obtain rfl := Option.some.inj had
    rw [Addr.add_lit, inv.off0 hr (.inl ⟨cs, hs⟩), Nat.zero_add]
    rw [List.getElem?_take] at hu
    split at hu
    ·rw [List.getElem?_drop] at hu
     rw [hh _ (List.getElem?_eq_some_iff.1 hu).1]; exact hu
    ·cases hu
   ·cases h
  ·cases h
 ·cases h
theorem run_append_room_at (w : World) (t ty e : TypeId) (i : TypeInfo) (ht : P.underlying t = some (.slice e)) (hi : P.info? e = some i)
 (g q sLen sCap : Nat) (cur : Array Value) (hg : w.heap[g]? = some (.cells cur e (0, 0)))
 (a : Addr) (m c : Nat) (news : List Value) (hl : news.length = m * i.size) (hnews : ∀ j u, news[j]? = some u → w.cell? (a.add j) = some u) (h1 : ∀ u ∈ news, u.oneCell' = true)
 (hroom : sLen + m ≤ sCap) (hfit : q + sLen * i.size + news.length ≤ cur.size) :
 (Builtin.append_ #[t, t] ty #[.slice (some ⟨g, q, none⟩) sLen sCap, .slice (some a) m c]).run P w =
   .ok (.slice (some ⟨g, q, none⟩) (sLen + m) sCap) (w.setRow g (cur.toList.take (q + sLen * i.size) ++ news ++ cur.toList.drop (q + sLen * i.size + news.length)).toArray) := by
 have hf := run_firstCells_some (P := P) w i.size m a m c news hl hnews
 have hst := run_storeCells_at P g (q + sLen * i.size) e news 0 cur w hg (by simpa using hfit) h1
 simp only [Nat.add_zero] at hst
 simp [Builtin.append_, run_underlying ht, sizeOf, typeInfo, hi, Builtin.lenOf, hroom, hf, Addr.add_lit, hst]
theorem run_append_roomU (w : World) (t ty e U : TypeId) (i : TypeInfo) (ht : P.underlying t = some (.slice e)) (hi : P.info? e = some i)
 (g q sLen sCap : Nat) (cur : Array Value) (hg : w.heap[g]? = some (.cells cur U (0, 0)))
 (a : Addr) (m c : Nat) (news : List Value) (hl : news.length = m * i.size) (hnews : ∀ j u, news[j]? = some u → w.cell? (a.add j) = some u) (h1 : ∀ u ∈ news, u.oneCell' = true)
 (hroom : sLen + m ≤ sCap) (hfit : q + sLen * i.size + news.length ≤ cur.size) :
 (Builtin.append_ #[t, t] ty #[.slice (some ⟨g, q, none⟩) sLen sCap, .slice (some a) m c]).run P w =
   .ok (.slice (some ⟨g, q, none⟩) (sLen + m) sCap) (w.setRow g (cur.toList.take (q + sLen * i.size) ++ news ++ cur.toList.drop (q + sLen * i.size + news.length)).toArray) := by
 have hf := run_firstCells_some (P := P) w i.size m a m c news hl hnews
 have hst := run_storeCells_at P g (q + sLen * i.size) U news 0 cur w hg (by simpa using hfit) h1
 simp only [Nat.add_zero] at hst
 simp [Builtin.append_, run_underlying ht, sizeOf, typeInfo, hi, Builtin.lenOf, hroom, hf, Addr.add_lit, hst]
theorem run_append_refs (w : World) (t ty e U : TypeId) (i : TypeInfo) (z : Value) (ht : P.underlying t = some (.slice e)) (hi : P.info? e = some i) (hz : i.zero = some z)
 (hzs : z.cells.size = i.size) (hsz : i.size = 1) (b n cap : Nat) (cur : Array Value) (hg : w.heap[b]? = some (.cells cur U (0, 0))) (hn : n ≤ cap) (hcm : cap ≤ maxLen) (hcs : cap ≤ cur.size)
 (a : Addr) (m c : Nat) (news : List Value) (hl : news.length = m) (hnews : ∀ j u, news[j]? = some u → w.cell? (a.add j) = some u) (h1 : ∀ u ∈ news, u.oneCell' = true)
 (h63 : n + m ≤ maxLen) (hbytes : (n + m) * i.bytes ≤ 140737488355328) :
 ∃ g cap' cur' U' w', (Builtin.append_ #[t, t] ty #[.slice (some ⟨b, 0, none⟩) n cap, .slice (some a) m c]).run P w = .ok (.slice (some ⟨g, 0, none⟩) (n + m) cap') w' ∧ w'.heap[g]? = some (.cells cur' U' (0, 0)) ∧
  n + m ≤ cap' ∧ cap' ≤ maxLen ∧ cap' ≤ cur'.size ∧ cur'.toList.take (n + m) = cur.toList.take n ++ news ∧ w.grownBy w' (some b) ∧ (g = b ∨ w.heap.size ≤ g) := by
 have hcl : cur.toList.length = cur.size := Array.length_toList
 have hl' : news.length = m * i.size := by rw [hsz, Nat.mul_one]; exact hl
 have hlt : (cur.toList.take n ++ news).length = n + m := by rw [List.length_append, List.length_take, hl]; omega
 by_cases hroom : n + m ≤ cap
 ·have hr := run_append_roomU (P := P) w t ty e U i ht hi b 0 n cap cur hg a m c news hl' hnews h1 hroom (by rw [hsz, hl]; omega)
  rw [hsz, Nat.mul_one, Nat.zero_add] at hr
  refine ⟨b, cap, _, U, _, hr, setRow_heap w b cur _ U _ hg, hroom, hcm, ?_, ?_, ⟨rfl, rfl, rfl, by simp, fun k _ hk => setRow_other w b k _ (fun e => hk (by rw [e]))⟩, .inl rfl⟩
  ·simp only [List.size_toArray, List.length_append, List.length_take, List.length_drop, Array.length_toList]
   omega
  ·rw [List.toList_toArray, ← hlt]
   exact List.take_left
 ·have hsmall : n + m ≤ 9223372036854775807 := by simp only [maxLen] at h63; omega
  have holds : ∀ j u, (cur.toList.take n)[j]? = some u → w.cell? ((⟨b, 0, none⟩ : Addr).add j) = some u := fun j u hu => by
   rw [Addr.add_lit, Nat.zero_add, cell_of hg]
   rw [List.getElem?_take] at hu
   split at hu
   ·exact hu
   ·cases hu
  have hr := run_append_grow (P := P) w t ty e i z ht hi hz ⟨b, 0, none⟩ n cap (cur.toList.take n) (by rw [List.length_take, hsz]; omega) holds a m c news hl' hnews (by omega) (by omega) (growslice_fits (by omega) hbytes)
  have hge := grownCap_ge w (n + m) cap e
  refine ⟨w.heap.size, _, _, _, _, hr, heap_alloc_new w.drew _, hge, grownCap_le_maxLen w (n + m) cap e h63, ?_, ?_, ⟨rfl, rfl, rfl, by simp, fun k hk _ => heap_alloc_old w.drew _ k hk⟩, .inr (Nat.le_refl _)⟩
  ·simp only [Array.size_append, List.size_toArray, size_zeroCells, hzs, hl, hsz, List.length_take, Array.length_toList]
   omega
  ·simp only [Array.toList_append, List.append_assoc]
   rw [← List.append_assoc, ← hlt]
   exact List.take_left
theorem run_append_at (w : World) (base : Nat) (t ty e : TypeId) (i : TypeInfo) (z : Value) (ht : P.underlying t = some (.slice e)) (hi : P.info? e = some i) (hz : i.zero = some z)
 (hzs : z.cells.size = i.size) (hsz : 0 < i.size)
 (v : Value) (n : Nat) (xs : List Value) (hown : ownsAt w base e i.size v n xs)
 (a : Addr) (m c : Nat) (news : List Value) (hl : news.length = m * i.size) (hnews : ∀ j u, news[j]? = some u → w.cell? (a.add j) = some u) (h1 : ∀ u ∈ news, u.oneCell' = true)
 (h63 : n + m ≤ maxLen) (hbytes : (n + m) * i.bytes ≤ 140737488355328) (hbase : base ≤ w.heap.size) :
 ∃ v' w', (Builtin.append_ #[t, t] ty #[v, .slice (some a) m c]).run P w = .ok v' w' ∧ ownsAt w' base e i.size v' (n + m) (xs ++ news) ∧ w.grownBy w' v.ownBlock ∧
  (∀ b, v'.ownBlock = some b → some b = v.ownBlock ∨ w.heap.size ≤ b) := by
 have hlen : (xs ++ news).length = (n + m) * i.size := by rw [List.length_append, hown.1, hl, Nat.add_mul]
 by_cases hq : ∃ g q cap, v = .slice (some ⟨g, q, none⟩) n cap ∧ n + m ≤ cap
 ·obtain ⟨g, q, cap, rfl, hroom⟩ := hq
  rcases hown.2 with ⟨e1, _⟩ | ⟨g', q', cap', cur, e1, hbg, hg, hnc, hcm, hcs, htake⟩
  ·cases e1
  obtain ⟨e2, _, rfl⟩ := Value.slice.inj e1
  obtain ⟨rfl, rfl, _⟩ := Addr.mk.inj (Option.some.inj e2)
  have hle : (n + m) * i.size ≤ cap * i.size := Nat.mul_le_mul_right _ hroom
  rw [Nat.add_mul] at hle
  have hfit : q + n * i.size + news.length ≤ cur.size := by rw [hl]; omega
  have hr := run_append_room_at (P := P) w t ty e i ht hi g q n cap cur hg a m c news hl hnews h1 hroom hfit
  refine ⟨_, _, hr, ⟨hlen, .inr ⟨g, q, cap, _, rfl, hbg, setRow_heap w g cur _ e _ hg, hroom, hcm, ?_, ?_⟩⟩, ⟨rfl, rfl, rfl, by simp, fun k _ hk => setRow_other w g k _ (fun e => hk (by simp [Value.ownBlock, e]))⟩, fun b hb => .inl (by simp [Value.ownBlock] at hb ⊢; exact hb.symm)⟩
  ·simp only [List.size_toArray, List.length_append, List.length_take, List.length_drop, Array.length_toList]
   omega
  ·simp only [List.toList_toArray]
   rw [List.append_assoc, List.drop_append_of_le_length (by simp; omega), List.drop_take, Nat.add_sub_cancel_left, htake, ← List.append_assoc, ← hlen]
   exact List.take_left
 ·have hown0 : w.ownsRow base e i.size (.slice none 0 0) 0 [] := World.ownsRow_nil _ _ _ _
  rcases hown.2 with ⟨rfl, rfl⟩ | ⟨g, q, cap, cur, rfl, hbg, hg, hnc, hcm, hcs, htake⟩
  ·have hx : xs = [] := List.eq_nil_of_length_eq_zero (by simpa using hown.1)
   subst hx
   obtain ⟨v', w', r1, r2, r3, _⟩ := run_append_own (P := P) w base t ty e i z i.size i.bytes ht hi hz rfl rfl hzs hsz _ 0 [] hown0 a m c news hl hnews h1 h63 hbytes hbase
   refine ⟨v', w', r1, ownsAt_of r2, r3, ?_⟩
   intro b hb
   by_cases hm : m = 0
   ·subst hm
    have e0 : (Builtin.append_ #[t, t] ty #[.slice none 0 0, .slice (some a) 0 c]).run P w = .ok (.slice none 0 0) w := by
     simp [Builtin.append_, run_underlying ht, sizeOf, typeInfo, hi, Builtin.lenOf, Builtin.firstCells, loadCells, loadCellsFrom]
    rw [e0] at r1
    injection r1 with r1 _
    subst r1
    simp [Value.ownBlock] at hb
   ·have hsmall : m ≤ 9223372036854775807 := by simp only [maxLen] at h63; omega
    have e0 := run_append_nil (P := P) w t ty e i z ht hi hz a m c news hl hnews (by omega) (by omega) (by simp only [Nat.zero_add] at hbytes; omega)
    rw [e0] at r1
    injection r1 with r1 _
    subst r1
    simp [Value.ownBlock] at hb
    right; omega
  ·have hroom : ¬ n + m ≤ cap := fun h => hq ⟨g, q, cap, rfl, h⟩
   have hsmall : n + m ≤ 9223372036854775807 := by simp only [maxLen] at h63; omega
   have holds : ∀ j u, xs[j]? = some u → w.cell? ((⟨g, q, none⟩ : Addr).add j) = some u := ownsAt_cells hown rfl
   have hr := run_append_grow (P := P) w t ty e i z ht hi hz ⟨g, q, none⟩ n cap xs hown.1 holds a m c news hl hnews (by omega) (by omega) (growslice_fits (by omega) hbytes)
   have hge := grownCap_ge w (n + m) cap e
   have hcm' : grownCap w (n + m) cap e ≤ maxLen := grownCap_le_maxLen w (n + m) cap e h63
   refine ⟨_, _, hr, ⟨hlen, .inr ⟨w.heap.size, 0, _, _, rfl, hbase, heap_alloc_new w.drew _, hge, hcm', ?_, ?_⟩⟩, ⟨rfl, rfl, rfl, by simp, fun k hk _ => heap_alloc_old w.drew _ k hk⟩, fun b hb => .inr (by simp [Value.ownBlock] at hb; omega)⟩
   ·simp only [Array.size_append, List.size_toArray, size_zeroCells, hzs, hown.1, hl, ← Nat.add_mul, Nat.zero_add]
    refine Nat.mul_le_mul_right _ ?_
    omega
   ·simp only [Array.toList_append, List.append_assoc, List.drop_zero]
    rw [← List.append_assoc, ← hlen]
    exact List.take_left
theorem run_append_at_none (w : World) (base : Nat) (t ty e : TypeId) (i : TypeInfo) (size : Nat) (ht : P.underlying t = some (.slice e)) (hi : P.info? e = some i)
 (v : Value) (n : Nat) (xs : List Value) (hown : ownsAt w base e size v n xs) :
 (Builtin.append_ #[t, t] ty #[v, .slice none 0 0]).run P w = .ok v w := by
 rcases hown.2 with ⟨rfl, rfl⟩ | ⟨g, q, cap, cur, rfl, _, _, hnc, _⟩
 ·simp [Builtin.append_, run_underlying ht, sizeOf, typeInfo, hi, Builtin.lenOf, Builtin.firstCells]
 ·simp [Builtin.append_, run_underlying ht, sizeOf, typeInfo, hi, Builtin.lenOf, Builtin.firstCells, hnc, storeCells]
theorem root_own {v : Value} {b : Nat} (h : rootBlock v = some b) (hs : ∃ a n c, v = .slice a n c) : v.ownBlock = some b := by
 obtain ⟨a, n, c, rfl⟩ := hs
 cases a <;> simp [rootBlock, Value.ownBlock] at h ⊢
 exact h
theorem own_slice {w : World} {B0 : Nat} {E : TypeId} {size : Nat} {v : Value} {n : Nat} {xs : List Value} (h : ownsAt w B0 E size v n xs) : ∃ a n c, v = .slice a n c := by
 rcases h.2 with ⟨rfl, _⟩ | ⟨_, _, _, _, rfl, _⟩ <;> exact ⟨_, _, _, rfl⟩
theorem own_root {v : Value} {b : Nat} (h : v.ownBlock = some b) : rootBlock v = some b := by
 cases v with
 | slice a n c => cases a <;> simp [rootBlock, Value.ownBlock] at h ⊢; exact h
 | _ => simp [Value.ownBlock] at h
theorem step_append {T : TypeId} {x y : Operand} (ho : o.op = .call { callee := .builtin .append, args := #[x, y], argTypes := #[T, T] }) (h : appendOp P s o T (evL s x) (evL s y) = some (true, s')) : StepOk P s o s' := by
 unfold appendOp at h
 split at h
 case h_2 => cases h
 rename_i E d hu hd
 split at h
 case h_2 => cases h
 rename_i e z he hz
 simp only [] at h
 split at h
 case h_2 => cases h
 rename_i t xs ys hbase hmore
 split at h
 case isFalse => cases h
 rename_i hc
 obtain ⟨hsz, hpos, hzl⟩ := hc
 split at h
 case h_2 => cases h
 rename_i s1 hs1
 obtain ⟨hroom, rfl⟩ := Prod.mk.inj (Option.some.inj h)
 simp only [roomFor, Bool.and_eq_true, decide_eq_true_eq] at hroom
 refine StepOk.made hd fun B0 w0 β p a w inv => ?_
 obtain ⟨i, zv, hi, hzv, hzr⟩ := zero_ok (P := P) (w := w) (p := p) (β := β) (H := s.blk) hz
 have hzs : zv.cells.size = e.size := by have := hzr.1; rw [hzl] at this; simpa using this.symm
 have hbytes : P.bytesOf E = i.bytes := by simp [Program.bytesOf, hi]
 have hisz : i.size = e.size := by rw [hsz]; simp [Program.cellsOf, hi]
 have base : ∃ us, ownsAt w B0 E e.size (a.eval x) xs.length us ∧ Rows' e.size (RepT w p e) xs us ∧ (∀ b, (a.eval x).ownBlock = some b → ∃ t', t = some t' ∧ ∃ r, β t' = some r ∧ rootBlock r = some b) ∧ (∀ t', t = some t' → ∃ r, β t' = some r ∧ t' < 16000 ∧ ∀ b, (a.eval x).ownBlock = some b → rootBlock r = some b) := by
  split at hbase
  ·rename_i hx
   obtain ⟨rfl, rfl⟩ := Prod.mk.inj (Option.some.inj hbase)
   have cx : a.eval x = .slice none 0 0 := by
    have := evL_ok inv x (by rw [hx]; intro e; cases e)
    rw [hx] at this; exact this
   rw [cx]
   exact ⟨[], ownsAt_nil w B0 E e.size, ⟨by simp, fun i x h => by simp at h⟩, fun b hb => by simp [Value.ownBlock] at hb, fun t' ht => by cases ht⟩
  ·rename_i t0 hx
   split at hbase
   ·rename_i U e' xs' hs
    split at hbase
    ·rename_i hcond
     obtain ⟨rfl, rfl⟩ := hcond
     obtain ⟨rfl, rfl⟩ := Prod.mk.inj (Option.some.inj hbase)
     have cx := evL_ok inv x (by rw [hx]; intro e; cases e)
     rw [hx] at cx
     obtain ⟨hr, _, _⟩ := cx
     have hrep := inv.blk hr
     rw [hs] at hrep
     obtain ⟨us, h1, h2, h3⟩ := hrep
     exact ⟨us, h1, h3, fun b hb => ⟨t0, rfl, _, hr, own_root hb⟩, fun t' ht => by
      obtain rfl := Option.some.inj ht; exact ⟨_, hr, inv.lt hr (fun h => by rw [hs] at h; exact h), fun b hb => own_root hb⟩⟩
    ·cases hbase
   ·cases hbase
  ·rename_i t0 sz off len hx
   split at hbase
   ·rename_i U e' xs' hs
    split at hbase
    ·rename_i hcond
     obtain ⟨rfl, rfl⟩ := hcond
     split at hbase
     ·rename_i hszz
      subst hszz
      obtain ⟨rfl, rfl⟩ := Prod.mk.inj (Option.some.inj hbase)
      have cx := evL_ok inv x (by rw [hx]; intro e; cases e)
      rw [hx] at cx
      obtain ⟨ad, cap, r, ex, hcap, hr, hok, ⟨b, q, hb, rfl, hq⟩, hco⟩ := cx
      rw [hs] at hok
      obtain ⟨_, hle⟩ := hok
      have hrep := inv.blk hr
      rw [hs] at hrep
      obtain ⟨us, h1, h2, h3⟩ := hrep
      have hlen : ((xs'.drop off).take len).length = len := by rw [List.length_take, List.length_drop]; omega
      rw [hlen, ex]
      have hob : ∀ b', Value.ownBlock (.slice (some ⟨b, q, none⟩) len cap) = some b' → rootBlock r = some b' := fun b' hb' => by
       obtain rfl := Option.some.inj hb'; exact hb
      exact ⟨_, ownsAt_part h1 hb hle hcap hq hco, rows_part h3 off len hle, fun b' hb' => ⟨t0, rfl, r, hr, hob b' hb'⟩, fun t' ht => by
       obtain rfl := Option.some.inj ht; exact ⟨_, hr, inv.lt hr (fun h => by rw [hs] at h; exact h), hob⟩⟩
     ·cases hbase
    ·cases hbase
   ·cases hbase
  ·cases hbase
 obtain ⟨us, hown, hrow, hblock, hroot⟩ := base
 have more : ∃ ad cap ns, a.eval y = .slice ad ys.length cap ∧ (ad = none → ys = [] ∧ cap = 0) ∧ Rows' e.size (RepT w p e) ys ns ∧ (∀ v ∈ ns, v.oneCell' = true) ∧ ∀ ad', ad = some ad' → ∀ j u, ns[j]? = some u → w.cell? (ad'.add j) = some u := by
  split at hmore
  ·rename_i hy
   obtain rfl := Option.some.inj hmore
   have cy : a.eval y = .slice none 0 0 := by
    have := evL_ok inv y (by rw [hy]; intro e; cases e)
    rw [hy] at this; exact this
   exact ⟨none, 0, [], cy, fun _ => ⟨rfl, rfl⟩, ⟨by simp, fun i x h => by simp at h⟩, fun v hv => by simp at hv, fun ad h => by cases h⟩
  ·split at hmore
   ·rename_i e' ys' hsrc
    split at hmore
    ·rename_i hcond
     subst hcond
     obtain rfl := Option.some.inj hmore
     exact src_ok inv hsrc
    ·cases hmore
   ·cases hmore
 obtain ⟨ad, cap, ns, ey, hnil, hnrow, hone, hcells⟩ := more
 have hmax : xs.length + ys.length ≤ maxLen := by unfold maxLen; omega
 have hroom' : (xs.length + ys.length) * i.bytes ≤ 140737488355328 := by rw [← hbytes]; exact hroom.1
 have run : ∃ v' w', (Builtin.append_ #[T, T] o.type #[a.eval x, a.eval y]).run P w = .ok v' w' ∧ ownsAt w' B0 E e.size v' (xs.length + ys.length) (us ++ ns) ∧ w.grownBy w' (a.eval x).ownBlock ∧ (∀ b, v'.ownBlock = some b → some b = (a.eval x).ownBlock ∨ w.heap.size ≤ b) := by
  cases ad with
  | none =>
    obtain ⟨rfl, rfl⟩ := hnil rfl
    have hn : ns = [] := List.eq_nil_of_length_eq_zero (by rw [hnrow.1]; simp)
    subst hn
    refine ⟨a.eval x, w, ?_, by simpa using hown, ⟨rfl, rfl, rfl, Nat.le_refl _, fun _ _ _ => rfl⟩, fun b hb => .inl hb.symm⟩
    rw [ey]
    exact run_append_at_none (P := P) w B0 T o.type E i e.size hu hi (a.eval x) xs.length us hown
  | some ad =>
    obtain ⟨v', w', r1, r2, r3, r4⟩ := run_append_at (P := P) w B0 T o.type E i zv hu hi hzv (by rw [hisz]; exact hzs) (by rw [hisz]; exact hpos) (a.eval x) xs.length us (by rw [hisz]; exact hown) ad ys.length cap ns (by rw [hisz]; exact hnrow.1) (hcells ad rfl) hone hmax hroom' inv.base
    exact ⟨v', w', by rw [ey]; exact r1, by rw [← hisz]; exact r2, r3, r4⟩
 obtain ⟨v', w', hrun, hown', hgrow, hv'⟩ := run
 have hsl := own_slice hown'
 have fin : ∀ {s0 : PS} {β0 : Nat → Option Value}, Inv B0 w0 β0 p s0 a w → s0.new d (.buf E e (xs ++ ys)) (.c (.l (.full d))) = some s1 →
  (∀ b, (a.eval x).ownBlock = some b → ¬ p b ∧ B0 ≤ b ∧ ∀ t r, β0 t = some r → rootBlock r ≠ some b) → ∃ β', Inv B0 w0 β' p s1 (a.put (some d) v') w' := by
  intro s0 β0 inv0 hnew hfree
  have hdata : ∀ b, p b → w'.heap[b]? = w.heap[b]? := fun b hb => hgrow.block b (inv0.shared b hb).1 (fun e => (hfree b e.symm).1 hb)
  have hpin : ∀ D, Pinned B0 w p D → w'.heap[D]? = w.heap[D]? := fun D hD => hgrow.block D hD.lt fun e => by
   rcases hown.2 with ⟨e1, _⟩ | ⟨g, q, cap, cur, e1, _, hg, _⟩
   ·rw [e1] at e; cases e
   ·rw [e1] at e
    obtain rfl : D = g := Option.some.inj e
    rw [hD.obj] at hg; cases hg
  refine inv0.newAt hnew (r0 := v') (v := v') ((Below.refl B0 w).grown hgrow inv0.base (fun k hk => (hfree k hk).2.1)) hdata hpin (fun t r b _ hr hb => hgrow.block b ((inv0.blk hr).root b hb).2 (fun e => (hfree b e.symm).2.2 t r hr hb)) (fun b hb => ?_) (fun β' H' _ hβ hH => ?_)
  ·rcases hv' b (root_own hb hsl) with h | h
   ·exact ⟨(hfree b h.symm).1, fun t r _ hr => (hfree b h.symm).2.2 t r hr⟩
   ·exact ⟨fun hp => by have := (inv0.shared b hp).1; omega, fun t r _ hr e => by have := ((inv0.blk hr).root b e).2; omega⟩
  ·refine ⟨⟨us ++ ns, by rw [List.length_append]; exact hown', hpos, (rows_imp (fun b hb => ⟨hb, hdata b hb⟩) hrow).append (rows_imp (fun b hb => ⟨hb, hdata b hb⟩) hnrow)⟩, repC_l (w := w') (p := p) (c := .full d) ⟨hβ, by rw [hH]; trivial, ?_⟩⟩
   obtain ⟨_, _, _, rfl⟩ := hsl
   rfl
 cases t with
 | none =>
   obtain ⟨β', hi'⟩ := fin inv hs1 (fun b hb => by obtain ⟨t', ht, _⟩ := hblock b hb; cases ht)
   exact ⟨v', w', run_append_call ho a hrun, β', p, hi'⟩
 | some t0 =>
   obtain ⟨r0, hr0, hlt0, hrb0⟩ := hroot t0 rfl
   obtain ⟨inv1, _⟩ := inv.drop t0 hlt0
   obtain ⟨β', hi'⟩ := fin inv1 hs1 (fun b hb => by
    have hrb := hrb0 b hb
    refine ⟨fun hp => (inv.shared b hp).2 t0 _ hr0 hrb, ((inv.blk hr0).root b hrb).1, fun t r hr e => ?_⟩
    by_cases htt : t = t0
    ·simp [htt] at hr
    ·simp [htt] at hr
     exact htt (inv.inj t t0 r _ b hr hr0 e hrb))
   exact ⟨v', w', run_append_call ho a hrun, β', p, hi'⟩
theorem step_appendIds {T : TypeId} {x y : Operand} (ho : o.op = .call { callee := .builtin .append, args := #[x, y], argTypes := #[T, T] }) (h : appendIds P s o T (evL s x) (evL s y) = some (true, s')) : StepOk P s o s' := by
 unfold appendIds at h
 split at h
 case h_2 => cases h
 rename_i E d hu hd
 split at h
 case h_2 => cases h
 rename_i z hz
 simp only [] at h
 split at h
 case h_2 => cases h
 rename_i t xs ys hbase hmore
 split at h
 case isFalse => cases h
 rename_i hc
 obtain ⟨hsz, hzl⟩ := hc
 split at h
 case h_2 => cases h
 rename_i s1 hs1
 obtain ⟨hroom, rfl⟩ := Prod.mk.inj (Option.some.inj h)
 simp only [roomFor, Bool.and_eq_true, decide_eq_true_eq] at hroom
 refine StepOk.made hd fun B0 w0 β p a w inv => ?_
 obtain ⟨i, zv, hi, hzv, hzr⟩ := zero_ok (P := P) (w := w) (p := p) (β := β) (H := s.blk) hz
 have hzs : zv.cells.size = 1 := by have := hzr.1; rw [hzl] at this; simpa using this.symm
 have hbytes : P.bytesOf E = i.bytes := by simp [Program.bytesOf, hi]
 have hisz : i.size = 1 := by rw [hsz]; simp [Program.cellsOf, hi]
 have base : ∃ us, ownsAt w B0 E 1 (a.eval x) xs.length us ∧ RepLs w p β s.blk (xs.map LV.row) us ∧ (∀ b, (a.eval x).ownBlock = some b → ∃ t', t = some t' ∧ ∃ r, β t' = some r ∧ rootBlock r = some b) ∧ (∀ t', t = some t' → ∃ r, β t' = some r ∧ t' < 16000 ∧ ∀ b, (a.eval x).ownBlock = some b → rootBlock r = some b) := by
  split at hbase
  ·rename_i hx
   obtain ⟨rfl, rfl⟩ := Prod.mk.inj (Option.some.inj hbase)
   have cx : a.eval x = .slice none 0 0 := by
    have := evL_ok inv x (by rw [hx]; intro e; cases e)
    rw [hx] at this; exact this
   rw [cx]
   exact ⟨[], ownsAt_nil w B0 E 1, repLs_nil, fun b hb => by simp [Value.ownBlock] at hb, fun t' ht => by cases ht⟩
  ·rename_i t0 hx
   split at hbase
   ·rename_i U xs' hs
    split at hbase
    ·rename_i hcond
     subst hcond
     obtain ⟨rfl, rfl⟩ := Prod.mk.inj (Option.some.inj hbase)
     have cx := evL_ok inv x (by rw [hx]; intro e; cases e)
     rw [hx] at cx
     obtain ⟨hr, _, _⟩ := cx
     have hrep := inv.blk hr
     rw [hs] at hrep
     obtain ⟨us, h1, h2⟩ := hrep
     exact ⟨us, h1, h2, fun b hb => ⟨t0, rfl, _, hr, own_root hb⟩, fun t' ht => by
      obtain rfl := Option.some.inj ht; exact ⟨_, hr, inv.lt hr (fun h => by rw [hs] at h; exact h), fun b hb => own_root hb⟩⟩
    ·cases hbase
   ·cases hbase
  ·cases hbase
 obtain ⟨us, hown, hrow, hblock, hroot⟩ := base
 have more : ∃ ad cap ns, a.eval y = .slice ad ys.length cap ∧ (ad = none → ys = [] ∧ cap = 0) ∧ RepLs w p β s.blk (ys.map LV.row) ns ∧ ∀ ad', ad = some ad' → ∀ j u, ns[j]? = some u → w.cell? (ad'.add j) = some u := by
  split at hmore
  ·rename_i u hy
   split at hmore
   ·rename_i U ys' hs
    obtain rfl := Option.some.inj hmore
    have cy := evL_ok inv y (by rw [hy]; intro e; cases e)
    rw [hy] at cy
    obtain ⟨hr, _, _⟩ := cy
    have hrep := inv.blk hr
    rw [hs] at hrep
    obtain ⟨ns, h1, h2⟩ := hrep
    rcases h1.2 with ⟨e1, e2⟩ | ⟨g, q, cap, cur, e1, hB, hh, hn, hm, hcs, hus⟩
    ·exact ⟨none, 0, ns, by rw [e1, e2], fun _ => ⟨List.eq_nil_of_length_eq_zero e2, rfl⟩, h2, fun ad h => by cases h⟩
    ·refine ⟨_, cap, ns, e1, fun h => (by cases h), h2, fun ad' h k v hk => ?_⟩
     obtain rfl := Option.some.inj h
     exact ownsAt_cells h1 e1 k v hk
   ·cases hmore
  ·cases hmore
 obtain ⟨ad, cap, ns, ey, hnil, hnrow, hcells⟩ := more
 have hnl : ns.length = ys.length := by have := hnrow.1; rw [List.length_map] at this; exact this.symm
 have hmax : xs.length + ys.length ≤ maxLen := by unfold maxLen; omega
 have hroom' : (xs.length + ys.length) * i.bytes ≤ 140737488355328 := by rw [← hbytes]; exact hroom.1
 have run : ∃ v' w', (Builtin.append_ #[T, T] o.type #[a.eval x, a.eval y]).run P w = .ok v' w' ∧ ownsAt w' B0 E 1 v' (xs.length + ys.length) (us ++ ns) ∧ w.grownBy w' (a.eval x).ownBlock ∧ (∀ b, v'.ownBlock = some b → some b = (a.eval x).ownBlock ∨ w.heap.size ≤ b) := by
  cases ad with
  | none =>
    obtain ⟨rfl, rfl⟩ := hnil rfl
    have hn : ns = [] := List.eq_nil_of_length_eq_zero (by rw [hnl]; rfl)
    subst hn
    refine ⟨a.eval x, w, ?_, by simpa using hown, ⟨rfl, rfl, rfl, Nat.le_refl _, fun _ _ _ => rfl⟩, fun b hb => .inl hb.symm⟩
    rw [ey]
    exact run_append_at_none (P := P) w B0 T o.type E i 1 hu hi (a.eval x) xs.length us hown
  | some ad =>
    obtain ⟨v', w', r1, r2, r3, r4⟩ := run_append_at (P := P) w B0 T o.type E i zv hu hi hzv (by rw [hisz]; exact hzs) (by omega) (a.eval x) xs.length us (by rw [hisz]; exact hown) ad ys.length cap ns (by rw [hisz, Nat.mul_one]; exact hnl) (hcells ad rfl) hnrow.oneCells hmax hroom' inv.base
    exact ⟨v', w', by rw [ey]; exact r1, by rw [hisz] at r2; exact r2, r3, r4⟩
 obtain ⟨v', w', hrun, hown', hgrow, hv'⟩ := run
 have hsl := own_slice hown'
 have fin : ∀ {s0 : PS} {β0 : Nat → Option Value}, Inv B0 w0 β0 p s0 a w → s0.new d (.ids E (xs ++ ys)) (.c (.l (.full d))) = some s1 → RepLs w p β0 s0.blk ((xs ++ ys).map LV.row) (us ++ ns) →
  (∀ b, (a.eval x).ownBlock = some b → ¬ p b ∧ B0 ≤ b ∧ ∀ t r, β0 t = some r → rootBlock r ≠ some b) → ∃ β', Inv B0 w0 β' p s1 (a.put (some d) v') w' := by
  intro s0 β0 inv0 hnew hall hfree
  have hdata : ∀ b, p b → w'.heap[b]? = w.heap[b]? := fun b hb => hgrow.block b (inv0.shared b hb).1 (fun e => (hfree b e.symm).1 hb)
  have hpin : ∀ D, Pinned B0 w p D → w'.heap[D]? = w.heap[D]? := fun D hD => hgrow.block D hD.lt fun e => by
   rcases hown.2 with ⟨e1, _⟩ | ⟨g, q, cap, cur, e1, _, hg, _⟩
   ·rw [e1] at e; cases e
   ·rw [e1] at e
    obtain rfl : D = g := Option.some.inj e
    rw [hD.obj] at hg; cases hg
  refine inv0.newAt hnew (r0 := v') (v := v') ((Below.refl B0 w).grown hgrow inv0.base (fun k hk => (hfree k hk).2.1)) hdata hpin (fun t r b _ hr hb => hgrow.block b ((inv0.blk hr).root b hb).2 (fun e => (hfree b e.symm).2.2 t r hr hb)) (fun b hb => ?_) (fun β' H' hk hβ hH => ?_)
  ·rcases hv' b (root_own hb hsl) with h | h
   ·exact ⟨(hfree b h.symm).1, fun t r _ hr => (hfree b h.symm).2.2 t r hr⟩
   ·exact ⟨fun hp => by have := (inv0.shared b hp).1; omega, fun t r _ hr e => by have := ((inv0.blk hr).root b e).2; omega⟩
  ·have h3 := RepLs.of (f := LV.kill d) (fun c u hc => hk c u hc) hall
   rw [List.map_map] at h3
   refine ⟨⟨us ++ ns, by rw [List.length_append]; exact hown', h3⟩, repC_l (w := w') (p := p) (c := .full d) ⟨hβ, by rw [hH]; trivial, ?_⟩⟩
   obtain ⟨_, _, _, rfl⟩ := hsl
   rfl
 have hall : RepLs w p β s.blk ((xs ++ ys).map LV.row) (us ++ ns) := by rw [List.map_append]; exact hrow.append hnrow
 cases t with
 | none =>
   obtain ⟨β', hi'⟩ := fin inv hs1 hall (fun b hb => by obtain ⟨t', ht, _⟩ := hblock b hb; cases ht)
   exact ⟨v', w', run_append_call ho a hrun, β', p, hi'⟩
 | some t0 =>
   obtain ⟨r0, hr0, hlt0, hrb0⟩ := hroot t0 rfl
   obtain ⟨inv1, kl⟩ := inv.drop t0 hlt0
   obtain ⟨β', hi'⟩ := fin inv1 hs1 (by
    have h3 := RepLs.of (f := LV.kill t0) (fun c u hc => kl c u hc) hall
    rwa [List.map_map] at h3) (fun b hb => by
    have hrb := hrb0 b hb
    refine ⟨fun hp => (inv.shared b hp).2 t0 _ hr0 hrb, ((inv.blk hr0).root b hrb).1, fun t r hr e => ?_⟩
    by_cases htt : t = t0
    ·simp [htt] at hr
    ·simp [htt] at hr
     exact htt (inv.inj t t0 r _ b hr hr0 e hrb))
   exact ⟨v', w', run_append_call ho a hrun, β', p, hi'⟩
theorem step_empty {T E : TypeId} {d : Tmp} {parts : Array (Nat × Operand)} {i : TypeInfo} (ho : o.op = .buildSlice T 0 parts) (hu : P.underlying T = some (.slice E)) (hp : parts.toList = []) (hd : o.dst = some d) (hi : P.info? E = some i) : StepOk P s o (s.put (some d) (.c (.l .zslice))) := by
 refine StepOk.made hd fun B0 w0 β p a w inv => ?_
 have hpa : parts = #[] := by rw [← Array.toList_eq_nil_iff]; exact hp
 subst hpa
 have hinfo : (P.info? E).isSome = true := by rw [hi]; rfl
 refine ⟨.slice (some ⟨w.heap.size, 0, none⟩) 0 0, w.alloc (.cells #[] E), ?_, β, p, ?_⟩
 ·have hr0 : ∀ z : Array Value, (Array.range (0 * P.cellsOf E)).map (fun x => z[x % z.size]!) = #[] := by intro z; simp
  simp only [execOp, ho, Instr.buildSlice, Sem.run_bind, run_underlying hu, Result.andThen_ok, run_sizeOf' hinfo]
  have hz : Array.map (fun _ => (default : Value)) (Array.range 0) = #[] := by simp
  simp [newRow, Instr.fill]
  rw [hz]
 ·exact (inv.world (below_alloc w (.cells #[] E))).put d (repC_l (w := w.alloc (.cells #[] E)) (p := p) (β := β) (H := s.blk) (c := .zslice) ⟨_, _, rfl⟩)
theorem step_appendRefs {T : TypeId} {x y : Operand} (ho : o.op = .call { callee := .builtin .append, args := #[x, y], argTypes := #[T, T] }) (h : appendRefs P s o T (evL s x) (evL s y) = some (true, s')) : StepOk P s o s' := by
 unfold appendRefs at h
 split at h
 case h_2 => cases h
 rename_i E d t n e u m e' hu hd hx hy
 split at h
 case h_2 => cases h
 rename_i z cs ds hz hs hsu
 split at h
 case isFalse => cases h
 rename_i hc
 obtain ⟨htu, he, he', hce, hzl, hcn, hdm⟩ := hc
 split at h
 case h_2 => cases h
 rename_i s1 hs1
 obtain ⟨hroom, rfl⟩ := Prod.mk.inj (Option.some.inj h)
 simp only [roomFor, Bool.and_eq_true, decide_eq_true_eq] at hroom
 refine StepOk.made hd fun B0 w0 β p a w inv => ?_
 obtain ⟨i, zv, hi, hzv, hzr⟩ := zero_ok (P := P) (w := w) (p := p) (β := β) (H := s.blk) hz
 have hzs : zv.cells.size = 1 := by have := hzr.1; rw [hzl] at this; simpa using this.symm
 have hbytes : P.bytesOf E = i.bytes := by simp [Program.bytesOf, hi]
 have hisz : i.size = 1 := by rw [← hce]; simp [Program.cellsOf, hi]
 have cx := evL_ok inv x (by rw [hx]; intro e; cases e)
 rw [hx] at cx
 obtain ⟨ad, cap, r, ex, hcap, hr, hok, b, hb, had⟩ := cx
 have cy := evL_ok inv y (by rw [hy]; intro e; cases e)
 rw [hy] at cy
 obtain ⟨ad2, cap2, r2, ey, hcap2, hr2, hok2, b2, hb2, had2⟩ := cy
 obtain ⟨vs, U, h0, hB, hh, hl⟩ := inv.cellsIn hr hb hs
 obtain ⟨us2, hcell2, hl2⟩ := inv.cellsAt hr2 hb2 hsu
 rw [hs] at hok
 obtain ⟨_, hcm, hcr⟩ := hok
 rw [h0.off, Nat.zero_add] at had
 rw [inv.off0 hr2 (.inl ⟨ds, hsu⟩), Nat.zero_add] at had2
 subst had
 subst had2
 have hcs : cap ≤ vs.size := by
  rcases h0 with ⟨rfl, hsz⟩ | ⟨c, rfl, _, _, hc2⟩
  ·simp only [he] at hcr; omega
  ·simp only [he] at hcr; omega
 have hlen2 : us2.length = m := by rw [← hl2.1, hdm]
 have hmax : n + m ≤ maxLen := by unfold maxLen; omega
 obtain ⟨g, cap', cur', U', w', hrun, hg', hn', hcm', hcs', htake, hgrow, hgb⟩ := run_append_refs (P := P) w T o.type E U i zv hu hi hzv (by rw [hzs, hisz]) hisz b n cap vs hh hcap hcm hcs ⟨b2, 0, none⟩ m cap2 us2 hlen2
  (fun j u hu => by
    rw [Addr.add_lit, Nat.zero_add]
    have hj := (List.getElem?_eq_some_iff.1 hu).1
    rw [hcell2 j hj]; exact hu) hl2.oneCells hmax (by rw [← hbytes]; exact hroom.1)
 rw [← ex, ← ey] at hrun
 obtain ⟨inv1, kl⟩ := inv.drop t (inv.lt hr (fun h => by rw [hs] at h; exact h))
 have hfree : ¬ p b ∧ B0 ≤ b ∧ ∀ t' r', (fun t' => if t' = t then none else β t') t' = some r' → rootBlock r' ≠ some b := by
  refine ⟨fun hp => (inv.shared b hp).2 t r hr hb, hB, fun t' r' hr' e => ?_⟩
  by_cases htt : t' = t
  ·simp [htt] at hr'
  ·simp [htt] at hr'; exact htt (inv.inj t' t r' r b hr' hr e hb)
 have hdata : ∀ k, p k → w'.heap[k]? = w.heap[k]? := fun k hk => hgrow.block k (inv.shared k hk).1 (fun e => hfree.1 (by cases e; exact hk))
 have hpin : ∀ D, Pinned B0 w p D → w'.heap[D]? = w.heap[D]? := fun D hD => hgrow.block D hD.lt fun e => by
  cases e
  rw [hD.obj] at hh; cases hh
 obtain ⟨β', hi'⟩ := inv1.newAt hs1 (r0 := .slice (some ⟨g, 0, none⟩) (n + m) cap') (v := .slice (some ⟨g, 0, none⟩) (n + m) cap') ((Below.refl B0 w).grown hgrow inv1.base (fun k hk => by cases hk; exact hB)) hdata hpin
  (fun t' r' b' _ hr' hb' => hgrow.block b' ((inv1.blk hr').root b' hb').2 (fun e => by cases e; exact hfree.2.2 t' r' hr' hb'))
  (fun b' hb' => by
    obtain rfl : g = b' := by simpa [rootBlock] using hb'
    rcases hgb with rfl | hge
    ·exact ⟨hfree.1, fun t' r' _ hr' => hfree.2.2 t' r' hr'⟩
    ·exact ⟨fun hp => by have := (inv1.shared _ hp).1; omega, fun t' r' _ hr' e => by have := ((inv1.blk hr').root _ e).2; omega⟩)
  (fun β' H' hk hβ hH => by
    have hlen : ((cs ++ ds).map fun c => (c.kill t).kill d).length = n + m := by rw [List.length_map, List.length_append, hcn, hdm]
    have hrow : RepLs w' p β' H' ((cs ++ ds).map fun c => (c.kill t).kill d) (cur'.toList.take (n + m)) := by
     rw [htake]
     rw [hcn] at hl
     exact RepLs.of (f := fun c => (c.kill t).kill d) (fun c u hc => hk _ _ (kl c u hc)) (hl.append hl2)
    have hBg : B0 ≤ g := by
     rcases hgb with rfl | hge
     ·exact hB
     ·exact Nat.le_trans inv.base hge
    refine ⟨⟨g, cur', U', .inr ⟨cap', by rw [hlen], by rw [hlen]; exact hn', hcm', hcs'⟩, hBg, hg', by rw [hlen]; exact hrow⟩, repC_l (w := w') (p := p) (c := .cref d 0 (n + m) e) ⟨_, cap', _, rfl, hn', hβ, ?_, g, rfl, rfl⟩⟩
    rw [hH]
    refine ⟨by rw [hlen, he]; omega, hcm', ?_⟩
    show 0 + cap' * e.size ≤ cap'
    rw [he]; omega)
 exact ⟨_, w', run_append_call ho a hrun, β', p, hi'⟩
theorem step_appendZ {T E : TypeId} {x y : Operand} {d : Tmp} {e : Sh} {z : CV} {ys : List e.T} (ho : o.op = .call { callee := .builtin .append, args := #[x, y], argTypes := #[T, T] }) (hd : o.dst = some d) (hu : P.underlying T = some (.slice E))
 (hx : evL s x = .zslice) (hz : zeroOf P E = some z) (hsrc : srcOf s (evL s y) = some ⟨e, ys⟩) (_hdn : d < s.n) (hsz : e.size = P.cellsOf E) (hpos : 0 < e.size) (hzl : z.cells.length = e.size) :
 (ys = [] → StepOk P s o (s.put (some d) (.c (.l .zslice)))) ∧
 (ys ≠ [] → roomFor P E ys.length = true → s.blk d = .free → ∀ s', s.new d (.buf E e ys) (.c (.l (.full d))) = some s' → StepOk P s o s') := by
 have key : ∀ B0 w0 β p a w, Inv B0 w0 β p s a w → ∃ b q, a.eval x = .slice (some ⟨b, q, none⟩) 0 0 := fun B0 w0 β p a w inv => by
  have := evL_ok inv x (by rw [hx]; intro e; cases e)
  rw [hx] at this; exact this
 refine ⟨fun hys => StepOk.made hd fun B0 w0 β p a w inv => ?_, fun hys hroom hfree s' hs' => StepOk.made hd fun B0 w0 β p a w inv => ?_⟩
 all_goals
  obtain ⟨b, q, ex⟩ := key B0 w0 β p a w inv
  obtain ⟨i, zv, hi, hzv, hzr⟩ := zero_ok (P := P) (w := w) (p := p) (β := β) (H := s.blk) hz
  have hzs : zv.cells.size = e.size := by have := hzr.1; rw [hzl] at this; simpa using this.symm
  have hbytes : P.bytesOf E = i.bytes := by simp [Program.bytesOf, hi]
  have hisz : i.size = e.size := by rw [hsz]; simp [Program.cellsOf, hi]
  obtain ⟨ad, cap, ns, ey, hnil, hnrow, hone, hcells⟩ := src_ok inv hsrc
 ·subst hys
  refine ⟨.slice (some ⟨b, q, none⟩) 0 0, w, run_append_call ho a ?_, β, p, inv.put d (repC_l (w := w) (p := p) (β := β) (H := s.blk) (c := .zslice) ⟨b, q, rfl⟩)⟩
  rw [ex, ey]
  cases ad with
  | none =>
    obtain ⟨_, rfl⟩ := hnil rfl
    simp [Builtin.append_, run_underlying hu, sizeOf, typeInfo, hi, Builtin.lenOf, Builtin.firstCells, storeCells]
  | some ad => simp [Builtin.append_, run_underlying hu, sizeOf, typeInfo, hi, Builtin.lenOf, Builtin.firstCells, loadCells, loadCellsFrom, storeCells]
 ·simp only [roomFor, Bool.and_eq_true, decide_eq_true_eq] at hroom
  have hlen : 0 < ys.length := List.length_pos_iff.2 hys
  cases ad with
  | none => exact absurd (hnil rfl).1 hys
  | some ad =>
    have hmax : ys.length ≤ maxLen := by unfold maxLen; omega
    have hfit := growslice_fits (need := 0 + ys.length) (old := 0) (bytes := i.bytes) (by omega) (by rw [Nat.zero_add, ← hbytes]; exact hroom.1)
    have hr := run_append_grow (P := P) w T o.type E i zv hu hi hzv ⟨b, q, none⟩ 0 0 [] (by simp) (fun j v h => by simp at h) ad ys.length cap ns (by rw [hisz]; exact hnrow.1) (hcells ad rfl) (by omega) (by omega) hfit
    rw [← ex, ← ey] at hr
    have hge := grownCap_ge w (0 + ys.length) 0 E
    have hcm' : grownCap w (0 + ys.length) 0 E ≤ maxLen := grownCap_le_maxLen w (0 + ys.length) 0 E (by omega)
    have hdrew : Below w.heap.size w w.drew := ⟨rfl, rfl, rfl, Nat.le_refl _, fun _ _ => rfl⟩
    have hbel : Below w.heap.size w (w.drew.alloc (.cells (([] : List Value).toArray ++ ns.toArray ++ Builtin.zeroCells zv.cells (grownCap w (0 + ys.length) 0 E - (0 + ys.length))) E)) := hdrew.alloc (Nat.le_refl _) _
    obtain ⟨β', hinv⟩ := inv.allocAt hs' (r0 := .slice (some ⟨w.heap.size, 0, none⟩) (0 + ys.length) (grownCap w (0 + ys.length) 0 E)) (v := .slice (some ⟨w.heap.size, 0, none⟩) (0 + ys.length) (grownCap w (0 + ys.length) 0 E)) hbel (fun b hb => by obtain rfl := Option.some.inj hb; exact Nat.le_refl _) (fun β' H' hk hβ hH => by
     refine ⟨⟨ns, ⟨hnrow.1, .inr ⟨w.heap.size, 0, _, _, by rw [Nat.zero_add], inv.base, heap_alloc_new w.drew _, by rw [Nat.zero_add] at hge ⊢; exact hge, hcm', ?_, ?_⟩⟩, hpos, rows_imp (fun b hb => ⟨hb, hbel.block b (inv.shared b hb).1⟩) hnrow⟩, repC_l (w := w.drew.alloc (.cells (([] : List Value).toArray ++ ns.toArray ++ Builtin.zeroCells zv.cells (grownCap w (0 + ys.length) 0 E - (0 + ys.length))) E)) (p := p) (c := .full d) ⟨hβ, by rw [hH]; trivial, rfl⟩⟩
     ·have := hnrow.1
      simp only [Array.size_append, List.size_toArray, size_zeroCells, hzs, List.length_nil, this, Nat.zero_add]
      rw [← Nat.add_mul]
      refine Nat.mul_le_mul_right _ ?_
      omega
     ·have := hnrow.1
      simp only [Array.toList_append, List.drop_zero, List.nil_append]
      rw [← this]
      exact List.take_left)
    exact ⟨_, _, run_append_call ho a hr, β', p, hinv⟩
theorem run_copy_at (w : World) (T U ty E : TypeId) (i : TypeInfo) (hu : P.underlying T = some (.slice E)) (hi : P.info? E = some i) {v : Value} {b q len cap : Nat} (hv : v = .slice (some ⟨b, q, none⟩) len cap)
 {ad : Option Addr} {m c : Nat} {cs : List Value} (hl : cs.length = (min m len) * i.size) (hnil : ad = none → m = 0) (hcs : ∀ a, ad = some a → ∀ j u, cs[j]? = some u → w.cell? (a.add j) = some u) :
 (Builtin.copy_ #[T, U] ty #[v, .slice ad m c]).run P w = ((storeCells ⟨b, q, none⟩ cs 0).run P w).andThen fun _ w' => .ok (.int .i64 (min m len : Nat)) w' := by
 subst hv
 cases ad with
 | none =>
   have hm : m = 0 := hnil rfl
   subst hm
   have : cs = [] := List.eq_nil_of_length_eq_zero (by rw [hl]; simp)
   subst this
   simp [Builtin.copy_, run_underlying hu, Builtin.lenOf, Builtin.firstCells, sizeOf, typeInfo, hi, storeCells, goInt]
 | some a =>
   have hf := run_firstCells_some (P := P) w i.size (Nat.min m len) a m c cs hl (hcs a rfl)
   simp [Builtin.copy_, run_underlying hu, Builtin.lenOf, sizeOf, typeInfo, hi, hf, goInt]
theorem run_copy_none (w : World) (T U ty E : TypeId) (i : TypeInfo) (hu : P.underlying T = some (.slice E)) (hi : P.info? E = some i) {ad0 ad : Option Addr} {cap m c : Nat} :
 (Builtin.copy_ #[T, U] ty #[.slice ad0 0 cap, .slice ad m c]).run P w = .ok (.int .i64 (0 : Nat)) w := by
 cases ad with
 | none => cases ad0 <;> simp [Builtin.copy_, run_underlying hu, Builtin.lenOf, Builtin.firstCells, sizeOf, typeInfo, hi, storeCells, goInt]
 | some a =>
   have hf := run_firstCells_some (P := P) w i.size 0 a m c [] (by simp) (fun j u hu => by simp at hu)
   cases ad0 <;> simp [Builtin.copy_, run_underlying hu, Builtin.lenOf, sizeOf, typeInfo, hi, hf, storeCells, goInt]
theorem step_copy_arr {T U E : TypeId} {x y : Operand} {t off len : Nat} {e : Sh} {xs ys : List e.T} (ho : o.op = .call { callee := .builtin .copy, args := #[x, y], argTypes := #[T, U] })
 (hu : P.underlying T = some (.slice E)) (hint : intoOf s (evL s x) = some (t, off, len)) (hs : s.blk t = .arr e xs) (hsrc : srcOf s (evL s y) = some ⟨e, ys⟩) (hsz : e.size = P.cellsOf E) (hinf : (P.info? E).isSome = true) :
 StepOk P s o ((s.setB t (.arr e (xs.take off ++ ys.take len ++ xs.drop (off + min ys.length len)))).put o.dst (.c (.l (.int .i64 (min ys.length len : Nat))))) := by
 obtain ⟨i, hi⟩ := Option.isSome_iff_exists.1 hinf
 have hisz : i.size = e.size := by rw [hsz]; simp [Program.cellsOf, hi]
 intro B0 w0 a w ⟨β, p, inv⟩ next Q hn
 have hne : evL s x ≠ .undef := by intro e; rw [e] at hint; cases hint
 have cx := evL_ok inv x hne
 have into : ∃ r b q cap, β t = some r ∧ rootBlock r = some b ∧ a.eval x = .slice (some ⟨b, q, none⟩) len cap ∧ off + len ≤ xs.length ∧ (len = 0 ∨ q = rootOff r + off * e.size) := by
  unfold intoOf at hint
  split at hint
  ·rename_i t' hx
   split at hint
   ·rename_i V' e1 xs1 hs1
    obtain ⟨rfl, h2⟩ := Prod.mk.inj (Option.some.inj hint)
    rw [hs1] at hs
    cases hs
   ·cases hint
  ·rename_i t' sz off' len' hx
   rw [hx] at cx
   obtain ⟨rfl, h2⟩ := Prod.mk.inj (Option.some.inj hint)
   obtain ⟨rfl, rfl⟩ := Prod.mk.inj h2
   obtain ⟨ad, cap, r, ex, hcap, hr, hok, ⟨b, q, hb, rfl, hq⟩, hco⟩ := cx
   rw [hs] at hok
   obtain ⟨rfl, hle⟩ := hok
   refine ⟨r, b, q, cap, hr, hb, ex, hle, ?_⟩
   rcases hq with e | ⟨e, _⟩
   ·exact .inr e
   ·left; omega
  ·cases hint
 obtain ⟨r, b, q, cap, hr, hb, ex, hle, hq⟩ := into
 obtain ⟨ad, c, ns, ey, hnil, hnrow, hone, hcells⟩ := src_ok inv hsrc
 have hrun : ∀ w', (storeCells ⟨b, q, none⟩ (ns.take (min ys.length len * e.size)) 0).run P w = .ok () w' → (execOp a.eval o).run P w = .ok (.value (.int .i64 (min ys.length len : Nat))) w' := by
  intro w' hst
  have := run_copy_at (P := P) w T U o.type E i hu hi (v := a.eval x) ex (ad := ad) (m := ys.length) (c := c) (cs := ns.take (min ys.length len * e.size)) (by
   rw [List.length_take, hnrow.1, hisz]
   have : min ys.length len * e.size ≤ ys.length * e.size := Nat.mul_le_mul_right _ (Nat.min_le_left _ _)
   omega) (fun hn => by rw [(hnil hn).1]; rfl) (fun a' ha j u hu => hcells a' ha j u (by
    rw [List.getElem?_take] at hu
    split at hu
    ·exact hu
    ·cases hu))
  rw [hst] at this
  simp [execOp, ho, resolve, invoke, builtin, ey, this, Result.andThen]
 obtain ⟨vs, V, hroot, hB, hh, he, hrow⟩ := inv.arrAt hr hb hs
 have fin : ∀ w', Inv B0 w0 β p (s.setB t (.arr e (xs.take off ++ ys.take len ++ xs.drop (off + min ys.length len)))) a w' → (execOp a.eval o).run P w = .ok (.value (.int .i64 (min ys.length len : Nat))) w' → o.wpIn (FR w0.ro) 0 P a w next Q := by
  intro w' hinv hr'
  refine wpIn_of_run hr' (fun _ e => by cases e) ?_
  exact hn _ _ ⟨β, p, hinv.put o.dst (x := .c (.l (.int .i64 (min ys.length len : Nat)))) rfl⟩
 have hlen' : (xs.take off ++ ys.take len ++ xs.drop (off + min ys.length len)).length = xs.length := by
  simp only [List.length_append, List.length_take, List.length_drop]; omega
 by_cases hmin : min ys.length len = 0
 ·have e0 : xs.take off ++ ys.take len ++ xs.drop (off + min ys.length len) = xs := by
   have : ys.take len = [] := List.eq_nil_of_length_eq_zero (by rw [List.length_take]; omega)
   rw [this, hmin, List.append_nil, Nat.add_zero, List.take_append_drop]
  refine fin w ?_ (hrun w (by rw [hmin, Nat.zero_mul, List.take_zero]; rfl))
  rw [e0, ← hs]
  exact inv.write hr (Below.refl _ _) (fun _ _ => rfl) (BlkSim.refl _) (fun hk => RepB.keep hk (fun _ _ => rfl) (inv.blk hr)) (by rw [hs]; exact id)
 ·have hq : q = rootOff r + off * e.size := hq.resolve_left (by omega)
  rw [hroot] at hq
  have hq : q = off * e.size := by rw [hq]; show 0 + _ = _; rw [Nat.zero_add]
  have hcl : (ns.take (min ys.length len * e.size)).length = min ys.length len * e.size := by
   rw [List.length_take, hnrow.1]
   have : min ys.length len * e.size ≤ ys.length * e.size := Nat.mul_le_mul_right _ (Nat.min_le_left _ _)
   omega
  have h1 : (off + min ys.length len) * e.size ≤ xs.length * e.size := Nat.mul_le_mul_right _ (by omega)
  have hvl : vs.size = xs.length * e.size := by have := hrow.1; simpa using this
  rw [Nat.add_mul] at h1
  have hst := run_storeCells_at P b q V (ns.take (min ys.length len * e.size)) 0 vs w hh (by rw [hcl]; omega) (fun v hv => hone v (List.mem_of_mem_take hv))
  refine fin _ ?_ (hrun _ hst)
  refine inv.write hr (below_setRow hB) (fun g hg => setRow_other w b g _ (fun e => hg (by rw [e]; exact hb))) (by rw [hs]; exact ⟨_, rfl, hlen'.symm⟩) (fun hk => ?_)
  have hrw : Rows' e.size (RepT w p e) (xs.take off ++ ys.take len ++ xs.drop (off + min ys.length len)) (vs.toList.take (off * e.size) ++ ns.take (min ys.length len * e.size) ++ vs.toList.drop (off * e.size + (ns.take (min ys.length len * e.size)).length)) := by
   have g1 := rows_part hrow 0 off (by omega)
   have g2 := rows_part hnrow 0 (min ys.length len) (by omega)
   have g3 := rows_part hrow (off + min ys.length len) (xs.length - (off + min ys.length len)) (by omega)
   simp only [Nat.zero_mul, List.drop_zero] at g1 g2
   have e1 : ys.take len = ys.take (min ys.length len) := by
    by_cases h : len ≤ ys.length
    ·rw [Nat.min_eq_right h]
    ·rw [Nat.min_eq_left (by omega), List.take_of_length_le (by omega), List.take_of_length_le (by omega)]
   have e2 : (xs.drop (off + min ys.length len)).take (xs.length - (off + min ys.length len)) = xs.drop (off + min ys.length len) := List.take_of_length_le (by rw [List.length_drop]; omega)
   have e3 : (vs.toList.drop ((off + min ys.length len) * e.size)).take ((xs.length - (off + min ys.length len)) * e.size) = vs.toList.drop (off * e.size + (ns.take (min ys.length len * e.size)).length) := by
    rw [hcl, ← Nat.add_mul]
    refine List.take_of_length_le ?_
    rw [List.length_drop, hrow.1, Nat.sub_mul]
    omega
   rw [e2, e3] at g3
   rw [e1]
   exact (g1.append g2).append g3
  refine ⟨b, _, V, hroot, hB, setRow_heap w b vs _ V _ hh, he, ?_⟩
  have h3 := hrw.imp fun _ _ h => RepT.mono hk.data h
  subst hq
  simp only [List.toList_toArray, Nat.add_zero] at h3 ⊢
  exact h3
theorem step_copy {T U : TypeId} {x y : Operand} (ho : o.op = .call { callee := .builtin .copy, args := #[x, y], argTypes := #[T, U] }) (h : copyOp P s o T (evL s x) (evL s y) = some (true, s')) : StepOk P s o s' := by
 unfold copyOp at h
 split at h
 case h_2 => cases h
 rename_i E t off len hu hint
 split at h
 case h_3 => cases h
 case h_2 =>
  rename_i e xs e' ys hs hsrc
  split at h
  case isFalse => cases h
  rename_i he'
  subst he'
  split at h
  case isFalse => cases h
  rename_i hc
  obtain ⟨hsz, hinf, hpos⟩ := hc
  obtain ⟨_, rfl⟩ := Prod.mk.inj (Option.some.inj h)
  exact step_copy_arr ho hu hint hs hsrc hsz hinf
 rename_i V e xs e' ys hs hsrc
 split at h
 case isFalse => cases h
 rename_i he'
 subst he'
 split at h
 case isFalse => cases h
 rename_i hc
 obtain ⟨hsz, hinf, hpos⟩ := hc
 obtain ⟨i, hi⟩ := Option.isSome_iff_exists.1 hinf
 have hisz : i.size = e'.size := by rw [hsz]; simp [Program.cellsOf, hi]
 obtain ⟨_, rfl⟩ := Prod.mk.inj (Option.some.inj h)
 intro B0 w0 a w ⟨β, p, inv⟩ next Q hn
 have hne : evL s x ≠ .undef := by intro e; rw [e] at hint; cases hint
 have cx := evL_ok inv x hne
 by_cases hx0 : xs.length = 0
 ·have into : ∃ r ad0 cap, β t = some r ∧ a.eval x = .slice ad0 len cap ∧ len = 0 := by
   unfold intoOf at hint
   split at hint
   ·rename_i t' hx
    rw [hx] at cx
    split at hint
    ·rename_i V' e1 xs1 hs1
     obtain ⟨rfl, h2⟩ := Prod.mk.inj (Option.some.inj hint)
     obtain ⟨rfl, rfl⟩ := Prod.mk.inj h2
     rw [hs1] at hs
     obtain ⟨rfl, rfl, h3⟩ := Blk.buf.inj hs
     obtain rfl := eq_of_heq h3
     obtain ⟨hr, _, _⟩ := cx
     have hrep := inv.blk hr
     rw [hs1] at hrep
     obtain ⟨us, ⟨_, hown⟩, _, _⟩ := hrep
     rcases hown with ⟨e, hn⟩ | ⟨g, q, cap, cur, ex, _⟩
     ·exact ⟨_, none, 0, hr, by rw [e, hn], hn⟩
     ·exact ⟨_, _, cap, hr, ex, hx0⟩
    ·cases hint
   ·rename_i t' sz off' len' hx
    rw [hx] at cx
    obtain ⟨rfl, h2⟩ := Prod.mk.inj (Option.some.inj hint)
    obtain ⟨rfl, rfl⟩ := Prod.mk.inj h2
    obtain ⟨ad, cap, r, ex, hcap, hr, hok, ⟨b, q, hb, rfl, hq⟩, hco⟩ := cx
    rw [hs] at hok
    obtain ⟨rfl, hle⟩ := hok
    exact ⟨r, _, cap, hr, ex, by omega⟩
   ·cases hint
  obtain ⟨r, ad0, cap, hr, ex, hl0⟩ := into
  obtain ⟨ad, c, ns, ey, hnil, hnrow, hone, hcells⟩ := src_ok inv hsrc
  have hmin : min ys.length len = 0 := by omega
  have e0 : xs.take off ++ ys.take len ++ xs.drop (off + min ys.length len) = xs := by
   rw [List.eq_nil_of_length_eq_zero hx0, hl0]; simp
  have hrun : (execOp a.eval o).run P w = .ok (.value (.int .i64 (min ys.length len : Nat))) w := by
   have := run_copy_none (P := P) w T U o.type E i hu hi (ad0 := ad0) (ad := ad) (cap := cap) (m := ys.length) (c := c)
   rw [hmin]
   simp [execOp, ho, resolve, invoke, builtin, ex, hl0, ey, this, Result.andThen]
  refine wpIn_of_run hrun (fun _ e => by cases e) ?_
  have hinv : Inv B0 w0 β p (s.setB t (.buf V e' (xs.take off ++ ys.take len ++ xs.drop (off + min ys.length len)))) a w := by
   rw [e0, ← hs]
   exact inv.write hr (Below.refl _ _) (fun _ _ => rfl) (BlkSim.refl _) (fun hk => RepB.keep hk (fun _ _ => rfl) (inv.blk hr)) (by rw [hs]; exact id)
  exact hn _ _ ⟨β, p, hinv.put o.dst (x := .c (.l (.int .i64 (min ys.length len : Nat)))) rfl⟩
 have h0 : 0 < xs.length := by omega
 have into : ∃ r b q cap, β t = some r ∧ rootBlock r = some b ∧ a.eval x = .slice (some ⟨b, q, none⟩) len cap ∧ off + len ≤ xs.length ∧ (len = 0 ∨ q = rootOff r + off * e'.size) := by
  unfold intoOf at hint
  split at hint
  ·rename_i t' hx
   rw [hx] at cx
   split at hint
   ·rename_i V' e1 xs1 hs1
    obtain ⟨rfl, h2⟩ := Prod.mk.inj (Option.some.inj hint)
    obtain ⟨rfl, rfl⟩ := Prod.mk.inj h2
    rw [hs1] at hs
    obtain ⟨rfl, rfl, h3⟩ := Blk.buf.inj hs
    obtain rfl := eq_of_heq h3
    obtain ⟨hr, _, _⟩ := cx
    have hrep := inv.blk hr
    rw [hs1] at hrep
    obtain ⟨us, ⟨_, hown⟩, _, _⟩ := hrep
    rcases hown with ⟨_, hn⟩ | ⟨g, q, cap, cur, ex, _⟩
    ·omega
    ·exact ⟨_, g, q, cap, hr, by rw [ex]; rfl, ex, by omega, .inr (by rw [ex, Nat.zero_mul]; rfl)⟩
   ·cases hint
  ·rename_i t' sz off' len' hx
   rw [hx] at cx
   obtain ⟨rfl, h2⟩ := Prod.mk.inj (Option.some.inj hint)
   obtain ⟨rfl, rfl⟩ := Prod.mk.inj h2
   obtain ⟨ad, cap, r, ex, hcap, hr, hok, ⟨b, q, hb, rfl, hq⟩, hco⟩ := cx
   rw [hs] at hok
   obtain ⟨rfl, hle⟩ := hok
   refine ⟨r, b, q, cap, hr, hb, ex, hle, ?_⟩
   rcases hq with e | ⟨e, _⟩
   ·exact .inr e
   ·left; omega
  ·cases hint
 obtain ⟨r, b, q, cap, hr, hb, ex, hle, hq⟩ := into
 obtain ⟨ad, c, ns, ey, hnil, hnrow, hone, hcells⟩ := src_ok inv hsrc
 have hrun : ∀ w', (storeCells ⟨b, q, none⟩ (ns.take (min ys.length len * e'.size)) 0).run P w = .ok () w' → (execOp a.eval o).run P w = .ok (.value (.int .i64 (min ys.length len : Nat))) w' := by
  intro w' hst
  have := run_copy_at (P := P) w T U o.type E i hu hi (v := a.eval x) ex (ad := ad) (m := ys.length) (c := c) (cs := ns.take (min ys.length len * e'.size)) (by
   rw [List.length_take, hnrow.1, hisz]
   have : min ys.length len * e'.size ≤ ys.length * e'.size := Nat.mul_le_mul_right _ (Nat.min_le_left _ _)
   omega) (fun hn => by rw [(hnil hn).1]; rfl) (fun a' ha j u hu => hcells a' ha j u (by
    rw [List.getElem?_take] at hu
    split at hu
    ·exact hu
    ·cases hu))
  rw [hst] at this
  simp [execOp, ho, resolve, invoke, builtin, ey, this, Result.andThen]
 obtain ⟨q0, capR, cur, us, hroot, hB, hh, hn1, hm, hfit, hus, he, hrow⟩ := inv.bufAt hr hb hs
 have hpx : (RepLs w p β s.blk [] []) := repLs_nil
 have fin : ∀ w', Inv B0 w0 β p (s.setB t (.buf V e' (xs.take off ++ ys.take len ++ xs.drop (off + min ys.length len)))) a w' → (execOp a.eval o).run P w = .ok (.value (.int .i64 (min ys.length len : Nat))) w' → o.wpIn (FR w0.ro) 0 P a w next Q := by
  intro w' hinv hr'
  refine wpIn_of_run hr' (fun _ e => by cases e) ?_
  exact hn _ _ ⟨β, p, hinv.put o.dst (x := .c (.l (.int .i64 (min ys.length len : Nat)))) rfl⟩
 have hlen' : (xs.take off ++ ys.take len ++ xs.drop (off + min ys.length len)).length = xs.length := by
  simp only [List.length_append, List.length_take, List.length_drop]; omega
 by_cases hmin : min ys.length len = 0
 ·have e0 : xs.take off ++ ys.take len ++ xs.drop (off + min ys.length len) = xs := by
   have : ys.take len = [] := List.eq_nil_of_length_eq_zero (by rw [List.length_take]; omega)
   rw [this, hmin, List.append_nil, Nat.add_zero, List.take_append_drop]
  refine fin w ?_ (hrun w (by rw [hmin, Nat.zero_mul, List.take_zero]; rfl))
  rw [e0, ← hs]
  exact inv.write hr (Below.refl _ _) (fun _ _ => rfl) (BlkSim.refl _) (fun hk => RepB.keep hk (fun _ _ => rfl) (inv.blk hr)) (by rw [hs]; exact id)
 ·have hq : q = rootOff r + off * e'.size := hq.resolve_left (by omega)
  rw [hroot] at hq
  have hq : q = q0 + off * e'.size := hq
  let cs := ns.take (min ys.length len * e'.size)
  have hcl : cs.length = min ys.length len * e'.size := by
   show (ns.take _).length = _
   rw [List.length_take, hnrow.1]
   have : min ys.length len * e'.size ≤ ys.length * e'.size := Nat.mul_le_mul_right _ (Nat.min_le_left _ _)
   omega
  have h1 : (off + min ys.length len) * e'.size ≤ xs.length * e'.size := Nat.mul_le_mul_right _ (by omega)
  have h2 : xs.length * e'.size ≤ capR * e'.size := Nat.mul_le_mul_right _ hn1
  rw [Nat.add_mul] at h1
  have hst := run_storeCells_at P b q V cs 0 cur w hh (by rw [hcl]; omega) (fun v hv => hone v (List.mem_of_mem_take hv))
  refine fin _ ?_ (hrun _ hst)
  refine inv.write hr (below_setRow hB) (fun g hg => setRow_other w b g _ (fun e => hg (by rw [e]; exact hb))) (by rw [hs]; exact ⟨_, rfl, hlen'.symm⟩) (fun hk => ?_)
  have hrw : Rows' e'.size (RepT w p e') (xs.take off ++ ys.take len ++ xs.drop (off + min ys.length len)) (us.take (off * e'.size) ++ cs ++ us.drop (off * e'.size + cs.length)) := by
   have g1 := rows_part hrow 0 off (by omega)
   have g2 := rows_part hnrow 0 (min ys.length len) (by omega)
   have g3 := rows_part hrow (off + min ys.length len) (xs.length - (off + min ys.length len)) (by omega)
   simp only [Nat.zero_mul, List.drop_zero] at g1 g2
   have e1 : ys.take len = ys.take (min ys.length len) := by
    by_cases h : len ≤ ys.length
    ·rw [Nat.min_eq_right h]
    ·rw [Nat.min_eq_left (by omega), List.take_of_length_le (by omega), List.take_of_length_le (by omega)]
   have e2 : (xs.drop (off + min ys.length len)).take (xs.length - (off + min ys.length len)) = xs.drop (off + min ys.length len) := List.take_of_length_le (by rw [List.length_drop]; omega)
   have e3 : (us.drop ((off + min ys.length len) * e'.size)).take ((xs.length - (off + min ys.length len)) * e'.size) = us.drop (off * e'.size + cs.length) := by
    rw [hcl, ← Nat.add_mul]
    refine List.take_of_length_le ?_
    rw [List.length_drop, hrow.1, Nat.sub_mul]
    omega
   rw [e2, e3] at g3
   rw [e1]
   exact (g1.append g2).append g3
  refine ⟨_, ⟨?_, .inr ⟨b, q0, capR, _, by rw [hlen']; exact hroot, hB, setRow_heap w b cur _ V _ hh, by rw [hlen']; exact hn1, hm, ?_, rfl⟩⟩, he, ?_⟩
  ·rw [hlen']
   simp only [List.length_take, List.length_append, List.length_drop, Array.length_toList, List.toList_toArray, Nat.add_zero]
   omega
  ·simp only [List.size_toArray, List.length_append, List.length_take, List.length_drop, Array.length_toList]
   omega
  ·have h3 := hrw.imp fun _ _ h => RepT.mono hk.data h
   rw [hlen']
   have e2 := take_write (cur.toList.drop q0) (off * e'.size) (xs.length * e'.size) cs (by rw [hcl]; omega) (by simp; omega)
   rw [← hus] at e2
   have e3 : (cur.toList.take (q + 0) ++ cs ++ cur.toList.drop (q + 0 + cs.length)).drop q0 = (cur.toList.drop q0).take (off * e'.size) ++ cs ++ (cur.toList.drop q0).drop (off * e'.size + cs.length) := by
    have e4 : q0 + (off * e'.size + cs.length) = q0 + off * e'.size + cs.length := by omega
    rw [Nat.add_zero, hq, List.append_assoc, List.drop_append_of_le_length (by simp; omega), List.drop_drop, List.drop_take, ← List.append_assoc, Nat.add_sub_cancel_left, e4]
   simp only [List.toList_toArray]
   rw [e3, e2]
   exact h3
end
end Go.Ev
namespace Go.Ev
open Go.RowKit
section
variable {P : Program} {s s' : PS} {o : Oper}
theorem rows_list {w : World} {p : Nat → Prop} {e : Sh} {b q : Nat} {n : Nat} {xs : List e.T} (hn : n ≤ xs.length)
 (h : ∀ (i : Nat) (x : e.T), xs[i]? = some x → ∃ us, RepT w p e x us ∧ us.length = e.size ∧ ∀ j, j < e.size → w.cell? ⟨b, q + i * e.size + j, none⟩ = us[j]?) :
 ∃ us, Rows' e.size (RepT w p e) (xs.take n) us ∧ ∀ j, j < us.length → w.cell? ⟨b, q + j, none⟩ = us[j]? := by
 induction n with
 | zero => exact ⟨[], ⟨by simp, fun i x hi => by simp at hi⟩, fun j hj => by simp at hj⟩
 | succ n ih =>
   obtain ⟨us, h1, h2⟩ := ih (by omega)
   have hx : xs[n]? = some xs[n] := List.getElem?_eq_getElem (by omega)
   obtain ⟨vs, r1, r2, r3⟩ := h n _ hx
   have hl : us.length = n * e.size := by rw [h1.1, List.length_take, Nat.min_eq_left (by omega)]
   refine ⟨us ++ vs, ?_, fun j hj => ?_⟩
   ·have e1 : xs.take (n + 1) = xs.take n ++ [xs[n]] := by rw [List.take_add_one, hx]; rfl
    rw [e1]
    refine h1.append ⟨by simp [r2], fun i x hi => ?_⟩
    cases i with
    | zero =>
      obtain rfl := Option.some.inj hi
      rw [Nat.zero_mul, List.drop_zero, List.take_of_length_le (by omega)]
      exact r1
    | succ i => simp at hi
   ·by_cases hj' : j < us.length
    ·rw [List.getElem?_append_left hj']; exact h2 j hj'
    ·rw [List.getElem?_append_right (by omega)]
     rw [List.length_append] at hj
     have := r3 (j - us.length) (by omega)
     rw [hl] at this ⊢
     rw [← this]
     congr 2
     omega
theorem step_arrayAt {T : TypeId} {x : Operand} (ho : o.op = .sliceToArrayPointer T x) (h : arrayAtOp P s o T (evL s x) = some (true, s')) : StepOk P s o s' := by
 unfold arrayAtOp at h
 split at h
 case h_2 => cases h
 rename_i e xs hx
 split at h
 case h_2 => cases h
 rename_i n E sh hu hsh
 split at h
 case h_2 => cases h
 rename_i y hy
 obtain ⟨h1, rfl⟩ := Prod.mk.inj (Option.some.inj h)
 have hn : n + 1 ≤ xs.length := of_decide_eq_true h1
 refine StepOk.value fun B0 w0 β p a w inv => ?_
 have cx := evL_ok inv x (by rw [hx]; intro e; cases e)
 rw [hx] at cx
 simp only [RepL, RepT] at cx
 obtain ⟨ad, cap, ex, hcap, hcx⟩ := cx
 have ex : a.eval x = .slice ad xs.length cap := by simpa using ex
 have hpad : padV (n + 1) e xs = xs.take (n + 1) := padV_take hn
 rw [hpad] at hy
 have hrun : (execOp a.eval o).run P w = .ok (.value (.pointer ad)) w := by
  simp [execOp, ho, Instr.arrayAt, run_underlying hu, ex, Nat.not_lt.2 hn]
 rcases hcx with rfl | ⟨b, q, rfl, hb, hel⟩
 ·simp at hn
 ·obtain ⟨us, h2, h3⟩ := rows_list hn hel
  have h4 := take_ok hy (rows_cells (β := β) (H := s.blk) h2)
  refine ⟨_, hrun, repC_l (w := w) (p := p) (β := β) (H := s.blk) (c := .iptr sh y 0) ⟨b, q, us.take sh.size, by rw [Nat.add_zero], hb, h4.1, fun j hj => ?_⟩⟩
  rw [List.length_take] at hj
  rw [h3 j (by omega), List.getElem?_take, if_pos (by omega)]
theorem step_makeSlice {T : TypeId} {x y : Operand} (ho : o.op = .makeSlice T x y) (h : makeSliceOp P s o T (evL s x) (evL s y) = some (true, s')) : StepOk P s o s' := by
 unfold makeSliceOp at h
 split at h
 case h_2 => cases h
 rename_i E d k1 n k2 c hu hd hx hy
 split at h
 case h_2 => cases h
 rename_i e z he hz
 split at h
 case h_2 => cases h
 rename_i x0 hb
 split at h
 case isFalse => cases h
 rename_i hc
 obtain ⟨hsz, hpos, hzl⟩ := hc
 split at h
 case h_2 => cases h
 rename_i s1 hs1
 obtain ⟨hcond, rfl⟩ := Prod.mk.inj (Option.some.inj h)
 simp only [roomFor, Bool.and_eq_true, decide_eq_true_eq] at hcond
 obtain ⟨h0, rfl, hr1, hr2⟩ := hcond
 refine StepOk.made hd fun B0 w0 β p a w inv => ?_
 obtain ⟨i, zv, hi, hzv, hzr⟩ := zero_ok (P := P) (w := w) (p := p) (β := β) (H := s.blk) hz
 have hbytes : P.bytesOf E = i.bytes := by simp [Program.bytesOf, hi]
 have hisz : i.size = e.size := by rw [hsz]; simp [Program.cellsOf, hi]
 have ex := evL_int inv hx
 have ey := evL_int inv hy
 obtain ⟨m, rfl⟩ := Int.eq_ofNat_of_zero_le h0
 simp only [Int.toNat_natCast] at hr1 hr2 hs1
 have hb2 : i.bytes * m ≤ 281474976710656 := by rw [← hbytes, Nat.mul_comm]; omega
 have hm2 : m ≤ maxLen := by unfold maxLen; omega
 obtain ⟨w', hrun, hown, hgrow⟩ := run_make_full (P := P) w B0 T E i zv e.size hu hi hzv hisz k1 k2 m hb2 hm2 inv.base
 have hzlen : zv.cells.toList.length = e.size := by rw [← hzr.1]; exact hzl
 have hmade := made_flat zv.cells.toList (by omega) m
 rw [hzlen] at hmade
 have hel := build_ok hb hzr
 have hrow : Rows' e.size (RepT w p e) (List.replicate m x0) ((List.replicate m zv.cells.toList).flatten) := by
  refine ⟨by simp [hzlen], fun j y hj => ?_⟩
  rw [List.getElem?_replicate] at hj
  split at hj
  ·rename_i hjm
   obtain rfl := Option.some.inj hj
   have e1 : (((List.replicate m zv.cells.toList).flatten).drop (j * e.size)).take e.size = zv.cells.toList := by
    have h2 : (List.replicate m zv.cells.toList).flatten = (List.replicate j zv.cells.toList).flatten ++ (zv.cells.toList ++ (List.replicate (m - j - 1) zv.cells.toList).flatten) := by
     rw [← List.flatten_cons, ← List.flatten_append, ← List.replicate_succ, List.replicate_append_replicate]
     congr 2
     omega
    have h3 : ((List.replicate j zv.cells.toList).flatten).length = j * e.size := by simp [hzlen]
    rw [h2, ← h3, List.drop_left, ← hzlen, List.take_left]
   rw [e1]
   exact hel
  ·cases hj
 have hbel : Below w.heap.size w w' := (Below.refl _ w).grown hgrow (Nat.le_refl _) (fun k hk => by cases hk)
 obtain ⟨β', hinv⟩ := inv.allocAt hs1 (r0 := .slice (some ⟨w.heap.size, 0, none⟩) m m) (v := .slice (some ⟨w.heap.size, 0, none⟩) m m) hbel (fun b hb => by obtain rfl := Option.some.inj hb; exact Nat.le_refl _) (fun β' H' hk hβ hH => by
  refine ⟨⟨_, by rw [List.length_replicate]; exact ownsAt_of hown, hpos, ?_⟩, repC_l (w := w') (p := p) (c := .full d) ⟨hβ, by rw [hH]; trivial, rfl⟩⟩
  have hmd : (madeCells zv.cells (m * e.size)).toList = (List.replicate m zv.cells.toList).flatten := by
   simpa using hmade
  rw [hmd]
  exact rows_imp (fun b hb => ⟨hb, hbel.block b (inv.shared b hb).1⟩) hrow)
 refine ⟨_, _, ?_, β', p, hinv⟩
 simp only [execOp, ho, ex, ey, Sem.run_bind, hrun, Result.andThen_ok, Sem.run_pure]
theorem step_makeCells {T : TypeId} {x y : Operand} (ho : o.op = .makeSlice T x y) (h : makeCellsOp P s o T (evL s x) (evL s y) = some (true, s')) : StepOk P s o s' := by
 unfold makeCellsOp at h
 split at h
 case h_2 => cases h
 rename_i E d k1 n k2 c hu hd hx hy
 split at h
 case h_2 => cases h
 rename_i z hz
 split at h
 case isFalse => cases h
 rename_i hc
 obtain ⟨hc1, hzl⟩ := hc
 split at h
 case h_2 => cases h
 rename_i s1 hs1
 obtain ⟨hcond, rfl⟩ := Prod.mk.inj (Option.some.inj h)
 simp only [roomFor, Bool.and_eq_true, decide_eq_true_eq] at hcond
 obtain ⟨h0, rfl, hr1, hr2⟩ := hcond
 refine StepOk.made hd fun B0 w0 β p a w inv => ?_
 obtain ⟨i, zv, hi, hzv, hl⟩ := zero_ok (P := P) (w := w) (p := p) (β := β) (H := s.blk) hz
 have hbytes : P.bytesOf E = i.bytes := by simp [Program.bytesOf, hi]
 have hisz : i.size = 1 := by rw [← hc1]; simp [Program.cellsOf, hi]
 have ex := evL_int inv hx
 have ey := evL_int inv hy
 obtain ⟨m, rfl⟩ := Int.eq_ofNat_of_zero_le h0
 simp only [Int.toNat_natCast] at hr1 hr2 hs1
 have hb2 : i.bytes * m ≤ 281474976710656 := by rw [← hbytes, Nat.mul_comm]; omega
 have hm2 : m ≤ maxLen := by unfold maxLen; omega
 obtain ⟨w', hrun, hown, hgrow⟩ := run_make_full (P := P) w B0 T E i zv 1 hu hi hzv hisz k1 k2 m hb2 hm2 inv.base
 have hzlen : zv.cells.toList.length = 1 := by rw [← hl.1]; exact hzl
 have hmade := made_flat zv.cells.toList (by omega) m
 rw [hzlen] at hmade
 have hmd : (madeCells zv.cells (m * 1)).toList = (List.replicate m zv.cells.toList).flatten := by simpa using hmade
 have hbase : RepLs w p β s.blk ((List.replicate m z.cells).flatten) (madeCells zv.cells (m * 1)).toList := by
  rw [hmd]; exact repLs_replicate hl m
 have hlen : ((List.replicate m z.cells).flatten).length = m := by simp [hzl]
 have hbel : Below w.heap.size w w' := (Below.refl _ w).grown hgrow (Nat.le_refl _) (fun k hk => by cases hk)
 obtain ⟨_, hown⟩ := ownsAt_of hown
 rcases hown with ⟨hnil, _⟩ | ⟨g, q, cap, cur, ev, hg, hh, hn, hcap, hfit, hus⟩
 ·cases hnil
 have ev := ev
 injection ev with ev1 ev2 ev3
 injection ev1 with ev1
 injection ev1 with ev1 ev4
 subst ev1 ev4
 subst ev3
 obtain ⟨β', hinv⟩ := inv.allocAt hs1 (r0 := .slice (some ⟨w.heap.size, 0, none⟩) m m) (v := .slice (some ⟨w.heap.size, 0, none⟩) m m) hbel (fun b hb => by obtain rfl := Option.some.inj hb; exact Nat.le_refl _) (fun β' H' hk hβ hH => by
  have hl' := RepLs.of (f := LV.kill d) (fun c u hc => hk c u hc) hbase
  have hcl : (((List.replicate m z.cells).flatten).map (LV.kill d)).length = m := by rw [List.length_map, hlen]
  refine ⟨⟨w.heap.size, cur, E, .inr ⟨m, by rw [hcl], by rw [hcl]; exact Nat.le_refl _, hm2, by omega⟩, hg, hh, ?_⟩, repC_l (w := w') (p := p) (c := .cref d 0 m (fakeSh 1)) ⟨_, m, _, rfl, Nat.le_refl _, hβ, ?_, w.heap.size, rfl, rfl⟩⟩
  ·rw [hcl]
   have e1 : cur.toList.take m = (madeCells zv.cells (m * 1)).toList := by rw [← hus, List.drop_zero, Nat.mul_one]
   rw [e1]
   exact hl'
  ·rw [hH]
   exact ⟨by rw [hcl, fakeSh_size]; omega, hm2, by show 0 + m * (fakeSh 1).size ≤ m; rw [fakeSh_size]; omega⟩)
 refine ⟨_, _, ?_, β', p, hinv⟩
 simp only [execOp, ho, ex, ey, Sem.run_bind, hrun, Result.andThen_ok, Sem.run_pure]
theorem vof_int {us : List Value} {k : IntKind} {n : Int} {v : Value} {w : World} {p : Nat → Prop} (h : RepT w p (.int k) n us) (hv : VOf false us v) : v = .int k n := by
 simp only [RepT] at h
 simp only [VOf, Bool.false_eq_true, if_false] at hv
 rw [h] at hv
 simpa using hv.symm
def Ents (w : World) (p : Nat → Prop) (k : IntKind) (v : Sh) (es : List (Int × v.T)) (ms : List MapEntry) : Prop :=
 ms.length = es.length ∧ ∀ (i : Nat) (x : Int × v.T) (m : MapEntry), es[i]? = some x → ms[i]? = some m → m.key = .int k x.1 ∧ ∃ us, RepT w p v x.2 us ∧ us.length = v.size ∧ VOf v.isAgg us m.val
theorem ents_of {w : World} {p : Nat → Prop} {k : IntKind} {v : Sh} {es : List (Int × v.T)} {ms : Array MapEntry} (hs : ms.size = es.length)
 (h : ∀ (i : Nat) (x : (Sh.int k).T × v.T) (m : MapEntry), es[i]? = some x → ms[i]? = some m → (∃ us, RepT w p (.int k) x.1 us ∧ us.length = (Sh.int k).size ∧ VOf (Sh.int k).isAgg us m.key) ∧ (∃ us, RepT w p v x.2 us ∧ us.length = v.size ∧ VOf v.isAgg us m.val)) : Ents w p k v es ms.toList := by
 refine ⟨by simpa using hs, fun i x m hx hm => ?_⟩
 obtain ⟨⟨us, a1, a2, a3⟩, hv⟩ := h i x m hx (by simpa using hm)
 exact ⟨vof_int a1 a3, hv⟩
theorem Ents.uncons {w : World} {p : Nat → Prop} {k : IntKind} {v : Sh} {x : Int × v.T} {es : List (Int × v.T)} {ms : List MapEntry} (h : Ents w p k v (x :: es) ms) :
 ∃ m ms', ms = m :: ms' ∧ m.key = .int k x.1 ∧ (∃ us, RepT w p v x.2 us ∧ us.length = v.size ∧ VOf v.isAgg us m.val) ∧ Ents w p k v es ms' := by
 cases ms with
 | nil => have := h.1; simp at this
 | cons m ms' =>
   obtain ⟨h1, h2⟩ := h.2 0 x m rfl rfl
   exact ⟨m, ms', rfl, h1, h2, by have := h.1; simpa using this, fun i y n hy hn => h.2 (i + 1) y n (by simpa using hy) (by simpa using hn)⟩
theorem find_ok {w : World} {p : Nat → Prop} {k k0 : IntKind} {v : Sh} (n : Int) (d : v.T) : ∀ {es : List (Int × v.T)} {ms : List MapEntry} (j : Nat), Ents w p k v es ms →
 ∃ r, Instr.findNow (.int k0) (.int k n) ms j = some r ∧ (r = none → mapHas n es = false ∧ mapGet n d es = d) ∧
  (∀ i u, r = some (i, u) → mapHas n es = true ∧ ∃ i' m, i = j + i' ∧ ms[i']? = some m ∧ u = m.val ∧ m.key = .int k n ∧ ∃ us, RepT w p v (mapGet n d es) us ∧ us.length = v.size ∧ VOf v.isAgg us u)
 | [], ms, j, h => by
   have : ms = [] := List.eq_nil_of_length_eq_zero h.1
   subst this
   exact ⟨none, rfl, fun _ => ⟨rfl, rfl⟩, fun i u h => by cases h⟩
 | (q, y) :: es, ms, j, h => by
   obtain ⟨m, ms', rfl, hkey, hval, hrest⟩ := h.uncons
   simp only [Instr.findNow, hkey, Instr.sameNow, if_true]
   cases hq : n == q with
   | true =>
     refine ⟨some (j, m.val), rfl, (fun h => by cases h), fun i u hu => ?_⟩
     obtain ⟨rfl, rfl⟩ := Prod.mk.inj (Option.some.inj hu)
     refine ⟨by simp [mapHas, hq], 0, m, rfl, rfl, rfl, by rw [hkey, beq_iff_eq.1 hq], ?_⟩
     simpa [mapGet, hq] using hval
   | false =>
     obtain ⟨r, h1, h2, h3⟩ := find_ok (k0 := k0) n d (j + 1) hrest
     refine ⟨r, h1, fun hr => by simpa [mapHas, mapGet, hq] using h2 hr, fun i u hu => ?_⟩
     obtain ⟨a1, i', m', a2, a3, a4, a5, a6⟩ := h3 i u hu
     refine ⟨by simpa [mapHas, hq] using a1, i' + 1, m', by omega, by simpa using a3, a4, a5, by simpa [mapGet, hq] using a6⟩
theorem run_checkKey_int {K : TypeId} {k0 k : IntKind} (hu : P.underlying K = some (.int k0)) (w : World) (b : Bool) (m : Nat) (n : Int) : (Instr.checkKey b (m + 1) K (.int k n)).run P w = .ok () w := by
 simp [Instr.checkKey, run_underlying hu]
theorem step_lookup {T : TypeId} {x y : Operand} {c : Bool} (ho : o.op = .lookup T x y c) (h : lookupOp P s o T (evL s x) (evL s y) c = some (true, s')) : StepOk P s o s' := by
 unfold lookupOp at h
 split at h
 case h_2 => cases h
 rename_i K E hu
 split at h
 case h_2 => cases h
 rename_i v z k n he hz hy
 split at h
 case h_2 => cases h
 rename_i d hb
 split at h
 case isFalse => cases h
 rename_i hkt
 obtain ⟨k0, hku⟩ : ∃ k0, P.underlying K = some (.int k0) := by
  unfold isIntT at hkt
  cases hK : P.underlying K with
  | none => simp [hK] at hkt
  | some dd => cases dd <;> simp [hK] at hkt; exact ⟨_, rfl⟩
 simp only [] at h
 split at h
 case h_2 => cases h
 rename_i es hes
 split at h
 case isFalse => cases h
 rename_i hagg
 have mem : ∀ {B0 w0 β p a w}, Inv B0 w0 β p s a w → ∃ r : Option Nat, a.eval x = .map r ∧ ((r = none ∧ es = []) ∨ ∃ b ms clock, r = some b ∧ w.heap[b]? = some (.map ms clock) ∧ Ents w p k v es ms.toList) := by
  intro B0 w0 β p a w inv
  split at hes
  ·rename_i k' v' es' hx
   split at hes
   ·rename_i hv'
    subst hv'
    split at hes
    ·rename_i hk'
     subst hk'
     obtain rfl : es' = es := Option.some.inj hes
     have cx := evL_ok inv x (by rw [hx]; intro e; cases e)
     rw [hx] at cx
     simp only [RepL, RepT] at cx
     obtain ⟨r, ex, hr⟩ := cx
     refine ⟨r, by simpa using ex, hr.imp id ?_⟩
     rintro ⟨b, ms, clock, rfl, _, hh, hs, hm⟩
     exact ⟨b, ms, clock, rfl, hh, ents_of hs hm⟩
    ·cases hes
   ·cases hes
  ·rename_i t hx
   have cx := evL_ok inv x (by rw [hx]; intro e; cases e)
   rw [hx] at cx
   obtain ⟨hr, _, _⟩ := cx
   split at hes
   ·rename_i k' v' es' hs
    split at hes
    ·rename_i hv'
     subst hv'
     split at hes
     ·rename_i hk'
      subst hk'
      obtain rfl : es' = es := Option.some.inj hes
      have hrep := inv.blk hr
      rw [hs] at hrep
      obtain ⟨b, ms, clock, e1, _, hh, _, hsz, hm⟩ := hrep
      exact ⟨some b, e1, .inr ⟨b, ms, clock, rfl, hh, ents_of hsz hm⟩⟩
     ·cases hes
    ·cases hes
   ·cases hes
  ·cases hes
 have key : ∀ {B0 w0 β p a w}, Inv B0 w0 β p s a w → ∃ u, (execOp a.eval o).run P w = .ok (.value (if c then .tuple #[u, .bool (mapHas n es)] else u)) w ∧ RepC w p β s.blk (v.cv (mapGet n d es)) u := by
  intro B0 w0 β p a w inv
  obtain ⟨i, zv, hi, hzv, hzr⟩ := zero_ok (P := P) (w := w) (p := p) (β := β) (H := s.blk) hz
  have hzd := build_ok hb hzr
  have ey := evL_int inv hy
  have hzval : RepC w p β s.blk (v.cv d) zv := by
   refine cv_ok hzd ?_
   rw [hagg]
   exact zero_vof hz hi hzv
  obtain ⟨r, ex, hr⟩ := mem inv
  have hrun : ∀ (ms : Array MapEntry) (g : Nat) (clock : Nat), w.heap[g]? = some (.map ms clock) → Ents w p k v es ms.toList → a.eval x = .map (some g) → ∃ u, (execOp a.eval o).run P w = .ok (.value (if c then .tuple #[u, .bool (mapHas n es)] else u)) w ∧ RepC w p β s.blk (v.cv (mapGet n d es)) u := by
   intro ms g clock hh hents ex
   obtain ⟨r, h1, h2, h3⟩ := find_ok (k0 := k0) n d 0 hents
   cases r with
   | none =>
     obtain ⟨a1, a2⟩ := h2 rfl
     refine ⟨zv, ?_, by rw [a2]; exact hzval⟩
     cases c <;> simp [execOp, ho, ex, ey, Instr.lookup, run_underlying hu, getObj, Sem.run, hh, run_checkKey_int hku w _ 9999 n, Instr.findKey, run_underlying hku, h1, zeroValue, typeInfo, hi, hzv, a1]
   | some iu =>
     obtain ⟨i1, u⟩ := iu
     obtain ⟨a1, i', m, _, _, _, _, us, b1, b2, b3⟩ := h3 i1 u rfl
     refine ⟨u, ?_, cv_ok b1 b3⟩
     cases c <;> simp [execOp, ho, ex, ey, Instr.lookup, run_underlying hu, getObj, Sem.run, hh, run_checkKey_int hku w _ 9999 n, Instr.findKey, run_underlying hku, h1, a1]
  rcases hr with ⟨rfl, rfl⟩ | ⟨b, ms, clock, rfl, hh, hents⟩
  ·refine ⟨zv, ?_, hzval⟩
   cases c <;> simp [execOp, ho, ex, ey, Instr.lookup, run_underlying hu, run_checkKey_int hku w _ 9999 n, Instr.findKey, run_underlying hku, Instr.findNow, zeroValue, typeInfo, hi, hzv, mapHas]
  ·exact hrun ms b clock hh hents ex
 split at h
 ·rename_i hc
  subst hc
  obtain rfl := congrArg Prod.snd (okStep h)
  refine StepOk.value fun B0 w0 β p a w inv => ?_
  obtain ⟨u, hr, hu⟩ := key inv
  refine ⟨_, by simpa using hr, _, rfl, rfl, fun i c v hc hv => ?_⟩
  match i with
  | 0 => simp at hc hv; subst hc; subst hv; exact hu
  | 1 => simp at hc hv; subst hc; subst hv; exact rfl
  | i + 2 => simp at hc
 ·rename_i hc
  obtain rfl := congrArg Prod.snd (okStep h)
  refine StepOk.value fun B0 w0 β p a w inv => ?_
  obtain ⟨u, hr, hu⟩ := key inv
  exact ⟨u, by simpa [hc] using hr, hu⟩
theorem below_setObj {w : World} {B0 b : Nat} {x : Obj} (hb : B0 ≤ b) : Below B0 w { w with heap := w.heap.setIfInBounds b x } :=
 ⟨rfl, rfl, rfl, by simp, fun k hk => by simp [Array.getElem?_setIfInBounds, show b ≠ k from by omega]⟩
theorem step_makeMap {T : TypeId} (ho : o.op = .makeMap T none) (h : makeMapOp P s o T = some (true, s')) : StepOk P s o s' := by
 unfold makeMapOp at h
 split at h
 case h_2 => cases h
 rename_i d k v hd hsh
 split at h
 case h_2 => cases h
 rename_i s1 hs1
 obtain rfl := (Prod.mk.inj (Option.some.inj h)).2
 refine StepOk.made hd fun B0 w0 β p a w inv => ?_
 obtain ⟨β', hinv⟩ := inv.allocAt hs1 (r0 := .map (some w.heap.size)) (v := .map (some w.heap.size)) (below_alloc w (.map #[] 0)) (fun b hb => by obtain rfl := Option.some.inj hb; exact Nat.le_refl _) (fun β' H' hk hβ hH => by
  refine ⟨⟨w.heap.size, #[], 0, rfl, inv.base, heap_alloc_new w _, Go.MapKept.stamped_empty 0, rfl, fun i x m hx => by simp at hx⟩, repC_l (w := w.alloc (.map #[] 0)) (p := p) (c := .mref d) ⟨hβ, by rw [hH]; trivial, rfl⟩⟩)
 refine ⟨_, _, ?_, β', p, hinv⟩
 simp [execOp, ho, Instr.makeMap]
theorem put_found {w : World} {p : Nat → Prop} {k : IntKind} {v : Sh} (n : Int) (y : v.T) {u : Value} {us : List Value} (h1 : RepT w p v y us) (h2 : us.length = v.size) (h3 : VOf v.isAgg us u) (k0 : IntKind) :
 ∀ {es : List (Int × v.T)} {ms : List MapEntry} (j i : Nat) (x : Value), Ents w p k v es ms → Instr.findNow (.int k0) (.int k n) ms j = some (some (i, x)) →
  j ≤ i ∧ (∃ m, ms[i - j]? = some m ∧ m.key = .int k n) ∧ Ents w p k v (mapPut n y es) (ms.modify (i - j) fun e => { e with key := .int k n, val := u })
 | [], ms, j, i, x, h, hf => by
   have : ms = [] := List.eq_nil_of_length_eq_zero h.1
   subst this
   simp [Instr.findNow] at hf
 | (q, z) :: es, ms, j, i, x, h, hf => by
   obtain ⟨m, ms', rfl, hkey, hval, hrest⟩ := h.uncons
   simp only [Instr.findNow, hkey, Instr.sameNow, if_true] at hf
   cases hq : n == q with
   | true =>
     rw [hq] at hf
     simp only [Option.some.injEq, Prod.mk.injEq] at hf
     obtain ⟨rfl, rfl⟩ := hf
     have hnq := beq_iff_eq.1 hq
     refine ⟨Nat.le_refl _, ⟨m, by simp, by rw [hkey, hnq]⟩, ?_⟩
     simp only [Nat.sub_self, mapPut, hq, cond_true]
     refine ⟨by simp [hrest.1], fun i' x' m' hx hm => ?_⟩
     cases i' with
     | zero => simp at hx hm; subst hx; subst hm; exact ⟨rfl, us, h1, h2, h3⟩
     | succ i' => simp at hx hm; exact hrest.2 i' x' m' hx hm
   | false =>
     rw [hq] at hf
     simp only [] at hf
     obtain ⟨a1, a2, a3⟩ := put_found n y h1 h2 h3 k0 (j + 1) i x hrest hf
     have e : i - j = (i - (j + 1)) + 1 := by omega
     refine ⟨by omega, by rw [e]; simpa using a2, ?_⟩
     rw [e]
     simp only [mapPut, hq, cond_false]
     refine ⟨by have := a3.1; simp at this ⊢; exact this, fun i' x' m' hx hm => ?_⟩
     cases i' with
     | zero => simp at hx hm; subst hx; subst hm; exact ⟨hkey, hval⟩
     | succ i' => simp at hx hm; exact a3.2 i' x' m' hx (by simpa using hm)
theorem put_new {w : World} {p : Nat → Prop} {k : IntKind} {v : Sh} (n : Int) (y : v.T) {u : Value} {us : List Value} (h1 : RepT w p v y us) (h2 : us.length = v.size) (h3 : VOf v.isAgg us u) (k0 : IntKind) (born : Nat) :
 ∀ {es : List (Int × v.T)} {ms : List MapEntry} (j : Nat), Ents w p k v es ms → Instr.findNow (.int k0) (.int k n) ms j = some none →
  Ents w p k v (mapPut n y es) (ms ++ [{ key := .int k n, val := u, born := born }])
 | [], ms, j, h, hf => by
   have : ms = [] := List.eq_nil_of_length_eq_zero h.1
   subst this
   refine ⟨rfl, fun i' x' m' hx hm => ?_⟩
   cases i' with
   | zero => simp [mapPut] at hx hm; subst hx; subst hm; exact ⟨rfl, us, h1, h2, h3⟩
   | succ i' => simp [mapPut] at hx
 | (q, z) :: es, ms, j, h, hf => by
   obtain ⟨m, ms', rfl, hkey, hval, hrest⟩ := h.uncons
   simp only [Instr.findNow, hkey, Instr.sameNow, if_true] at hf
   cases hq : n == q with
   | true => rw [hq] at hf; simp at hf
   | false =>
     rw [hq] at hf
     simp only [] at hf
     have a3 := put_new n y h1 h2 h3 k0 born (j + 1) hrest hf
     simp only [mapPut, hq, cond_false]
     refine ⟨by have := a3.1; simp at this ⊢; exact this, fun i' x' m' hx hm => ?_⟩
     cases i' with
     | zero => simp at hx hm; subst hx; subst hm; exact ⟨hkey, hval⟩
     | succ i' => simp at hx hm; exact a3.2 i' x' m' hx (by simpa using hm)
theorem put_apart {w : World} {p : Nat → Prop} {k : IntKind} {v : Sh} {n : Int} (k0 : IntKind) :
 ∀ {es : List (Int × v.T)} {ms : List MapEntry} (j : Nat), Ents w p k v es ms → Instr.findNow (.int k0) (.int k n) ms j = some none → ∀ x ∈ ms, x.key ≠ .int k n
 | [], ms, j, h, hf, x, hx => by
   have : ms = [] := List.eq_nil_of_length_eq_zero h.1
   subst this
   cases hx
 | (q, z) :: es, ms, j, h, hf, x, hx => by
   obtain ⟨m, ms', rfl, hkey, hval, hrest⟩ := h.uncons
   simp only [Instr.findNow, hkey, Instr.sameNow, if_true] at hf
   cases hq : n == q with
   | true => rw [hq] at hf; simp at hf
   | false =>
     rw [hq] at hf
     simp only [] at hf
     rcases List.mem_cons.1 hx with rfl | hx
     ·rw [hkey]; intro e; cases e; simp at hq
     ·exact put_apart k0 (j + 1) hrest hf x hx
theorem step_mapUpdate {T : TypeId} {x y z : Operand} (ho : o.op = .mapUpdate T x y z) (hd : o.dst = none) (h : mapUpdateOp P s T (evL s x) (evL s y) (evC s z) = some (true, s')) : StepOk P s o s' := by
 unfold mapUpdateOp at h
 split at h
 case h_2 => cases h
 rename_i K E t k n hu hx hy
 split at h
 case h_2 => cases h
 rename_i k' v es hs
 split at h
 case isFalse => cases h
 rename_i hc
 obtain ⟨hk, hagg, hkt, hkn⟩ := hc
 subst hk
 obtain ⟨k0, hku⟩ : ∃ k0, P.underlying K = some (.int k0) := by
  unfold isIntT at hkt
  cases hK : P.underlying K with
  | none => simp [hK] at hkt
  | some dd => cases dd <;> simp [hK] at hkt; exact ⟨_, rfl⟩
 split at h
 case h_2 => cases h
 rename_i y' hb
 obtain rfl := (Prod.mk.inj (Option.some.inj h)).2
 refine StepOk.skip (fun B0 w0 β p a w inv => ?_) hd
 have cx := evL_ok inv x (by rw [hx]; intro e; cases e)
 rw [hx] at cx
 obtain ⟨hr, _, _⟩ := cx
 have ey := evL_int inv hy
 have cz := evC_ok inv z
 have hcz := cells_known cz hkn
 have hrt := build_ok hb hcz
 have hvof : VOf v.isAgg (a.eval z).cells.toList (a.eval z) := by
  rw [hagg]
  cases hz : evC s z with
  | l c =>
    rw [hz] at cz
    have hne : c ≠ .undef := by intro e; subst e; rw [hz] at hkn; simp [CV.known] at hkn
    simp only [CV.isAggC, VOf, Bool.false_eq_true, if_false]
    rw [cells_one (repL_of hne cz).oneCell]
  | agg cs =>
    rw [hz] at cz
    obtain ⟨vs, e, _⟩ := cz
    rw [e]
    simp [CV.isAggC, VOf, Value.cells]
 have hrep := inv.blk hr
 rw [hs] at hrep
 obtain ⟨b, ms, clock, e1, hB, hh, hst, hsz, hm⟩ := hrep
 have hents := ents_of hsz hm
 have hlt : b < w.heap.size := (Array.getElem?_eq_some_iff.1 hh).1
 have finish : ∀ (ms' : Array MapEntry) (clock' : Nat), Go.MapKept.Stamped ms' clock' → Ents w p k v (mapPut n y' es) ms'.toList → ∃ β' p', Inv B0 w0 β' p' (s.setB t (.map (.int k) v (mapPut n y' es))) a { w with heap := w.heap.setIfInBounds b (.map ms' clock') } := by
  intro ms' clock' hst' hents'
  refine ⟨β, p, inv.write hr (below_setObj hB) (fun g hg => ?_) (by rw [hs]; exact ⟨_, rfl⟩) (fun hk => ?_)⟩
  ·have : b ≠ g := fun e => hg (by rw [e1, e]; rfl)
   simp [Array.getElem?_setIfInBounds, this]
  ·refine ⟨b, ms', clock', e1, hB, by simp [Array.getElem?_setIfInBounds, hlt], hst', by simpa using hents'.1, fun i x m hx hm => ?_⟩
   obtain ⟨a1, us, a2, a3, a4⟩ := hents'.2 i x m hx (by simpa using hm)
   exact ⟨⟨[.int k x.1], rfl, rfl, by simp [VOf, Sh.isAgg, a1]⟩, us, RepT.mono hk.data a2, a3, a4⟩
 obtain ⟨r, h1, h2, h3⟩ := find_ok (k0 := k0) n v.dflt 0 hents
 cases r with
 | none =>
   have hput := put_new n y' hrt hrt.length hvof k0 clock 0 hents h1
   refine ⟨_, ?_, finish (ms.push { key := .int k n, val := a.eval z, born := clock }) (clock + 1) (Go.MapKept.stamped_push hst (put_apart k0 0 hents h1)) (by simpa using hput)⟩
   simp [execOp, ho, e1, ey, Instr.mapUpdate, run_underlying hu, getObj, setObj, Sem.run, hh, run_checkKey_int hku w _ 9999 n, Instr.findKey, run_underlying hku, h1]
 | some iu =>
   obtain ⟨i1, u⟩ := iu
   obtain ⟨a1, i', m, e2, a3, a4, a5, _⟩ := h3 i1 u rfl
   obtain ⟨_, _, hput⟩ := put_found n y' hrt hrt.length hvof k0 0 i1 u hents h1
   rw [Nat.sub_zero] at hput
   have hkey : ((ms[i1]?).map (·.key)).getD (Value.int k n) = .int k n := by
    rw [Nat.zero_add] at e2
    subst e2
    have : ms[i1]? = some m := by simpa using a3
    rw [this]; exact a5
   refine ⟨_, ?_, finish (ms.modify i1 fun e => { e with key := .int k n, val := a.eval z }) clock (Go.MapKept.stamped_modify hst i1 _ (fun _ _ => rfl) (fun e _ he => by rw [he] at hkey; exact hkey.symm)) (by simpa [Array.toList_modify] using hput)⟩
   simp [execOp, ho, e1, ey, Instr.mapUpdate, run_underlying hu, getObj, setObj, Sem.run, hh, run_checkKey_int hku w _ 9999 n, Instr.findKey, run_underlying hku, h1, Instr.keyThatStays]
   intro hsame
   rw [hkey] at hsame
   simp [Instr.sameBits] at hsame
theorem complex_eq (ts : Array TypeId) (ty : TypeId) (a b : Nat) : Builtin.complex_ ts ty #[.float .f32 a, .float .f32 b] = pure (.complex .f32 a b) := rfl
theorem real_eq (ts : Array TypeId) (ty : TypeId) (k : FloatKind) (a b : Nat) : Builtin.real_ ts ty #[.complex k a b] = pure (.float k a) := rfl
theorem imag_eq (ts : Array TypeId) (ty : TypeId) (k : FloatKind) (a b : Nat) : Builtin.imag_ ts ty #[.complex k a b] = pure (.float k b) := rfl
theorem run_len {T : TypeId} {x : Operand} {ts : Array TypeId} (ht : ts.toList = [T]) {args : Array Operand} (ha : args.toList = [x]) (ho : o.op = .call { callee := .builtin .len, args := args, argTypes := ts }) (a : Act) {w : World} {v : Value}
 (h : (Builtin.len_ #[T] o.type #[a.eval x]).run P w = .ok v w) : (execOp a.eval o).run P w = .ok (.value v) w := by
 obtain ⟨l⟩ := args
 obtain rfl : l = [x] := ha
 obtain ⟨l⟩ := ts
 obtain rfl : l = [T] := ht
 simp [execOp, ho, resolve, invoke, builtin, h]
theorem step_builtin {b : Builtin} {args : Array Operand} {ts : Array TypeId} (ho : o.op = .call { callee := .builtin b, args := args, argTypes := ts }) (h : builtinOp P s o b args.toList ts.toList = some (true, s')) : StepOk P s o s' := by
 unfold builtinOp at h
 split at h
 ·rename_i x T ha ht
  split at h
  ·rename_i n E hu
   obtain rfl := congrArg Prod.snd (okL_eq h)
   refine StepOk.value fun B0 w0 β p a w inv => ⟨.int .i64 n, run_len ht ha ho a (by simp [Builtin.len_, run_underlying hu, goInt]), rfl⟩
  ·rename_i E hu
   split at h
   ·rename_i n hn
    obtain rfl := congrArg Prod.snd (okL_eq h)
    refine StepOk.value fun B0 w0 β p a w inv => ⟨.int .i64 n, ?_, rfl⟩
    obtain ⟨ad, cap, e⟩ := lenOf_ok inv hn
    exact run_len ht ha ho a (by simp [Builtin.len_, run_underlying hu, goInt, e])
   ·cases h
  ·rename_i hu
   split at h
   ·rename_i b hx
    obtain rfl := congrArg Prod.snd (okL_eq h)
    refine StepOk.value fun B0 w0 β p a w inv => ⟨.int .i64 b.size, ?_, rfl⟩
    have cx := evL_ok inv x (by rw [hx]; intro e; cases e)
    rw [hx] at cx
    have ex : a.eval x = .string b := cx
    exact run_len ht ha ho a (by simp [Builtin.len_, run_underlying hu, goInt, ex])
   ·cases h
  ·rename_i k v hu
   split at h
   ·rename_i n hn
    obtain rfl := congrArg Prod.snd (okL_eq h)
    refine StepOk.value fun B0 w0 β p a w inv => ⟨.int .i64 n, ?_, rfl⟩
    rcases lenMap_ok inv hn with ⟨e, rfl⟩ | ⟨r, ms, c, e, hh, hl⟩
    ·exact run_len ht ha ho a (by simp [Builtin.len_, run_underlying hu, goInt, e])
    ·exact run_len ht ha ho a (by simp [Builtin.len_, run_underlying hu, goInt, e, getObj, Sem.run, hh, hl])
   ·cases h
  ·cases h
 ·rename_i x y T U ha ht
  split at h
  ·rename_i hTU
   subst hTU
   obtain ⟨l⟩ := args
   obtain rfl : l = [x, y] := ha
   obtain ⟨l⟩ := ts
   obtain rfl : l = [T, T] := ht
   cases hrt : rowT T with
   | true => rw [hrt, cond_true] at h; exact step_appendIds ho h
   | false =>
     rw [hrt, cond_false] at h
     cases hcr : (evL s x).isCref with
     | true => rw [hcr, cond_true] at h; exact step_appendRefs ho h
     | false => rw [hcr, cond_false] at h; exact step_append ho h
  ·cases h
 ·rename_i x y T U ha ht
  obtain ⟨l⟩ := args
  obtain rfl : l = [x, y] := ha
  obtain ⟨l⟩ := ts
  obtain rfl : l = [T, U] := ht
  exact step_copy ho h
 ·exact step_minmax (isMax := true) rfl ho h
 ·exact step_minmax (isMax := false) rfl ho h
 ·rename_i x y ha
  obtain ⟨l⟩ := args
  obtain rfl : l = [x, y] := ha
  split at h
  ·rename_i m n hx hy
   obtain rfl := congrArg Prod.snd (okL_eq h)
   refine StepOk.value fun B0 w0 β p a w inv => ?_
   have cx := evL_ok inv x (by rw [hx]; intro e; cases e)
   have cy := evL_ok inv y (by rw [hy]; intro e; cases e)
   rw [hx] at cx
   rw [hy] at cy
   obtain ⟨b1, e1, f1⟩ := cx
   obtain ⟨b2, e2, f2⟩ := cy
   have e1' : a.eval x = .float .f32 b1 := by simpa using e1
   have e2' : a.eval y = .float .f32 b2 := by simpa using e2
   exact ⟨.complex .f32 b1 b2, by simp [execOp, ho, resolve, invoke, builtin, e1', e2', complex_eq], b1, b2, rfl, f1, f2⟩
  ·cases h
 ·rename_i x ha
  obtain ⟨l⟩ := args
  obtain rfl : l = [x] := ha
  split at h
  ·rename_i m n hx
   obtain rfl := congrArg Prod.snd (okL_eq h)
   refine StepOk.value fun B0 w0 β p a w inv => ?_
   have cx := evL_ok inv x (by rw [hx]; intro e; cases e)
   rw [hx] at cx
   obtain ⟨b1, b2, e1, f1, f2⟩ := cx
   have e1' : a.eval x = .complex .f32 b1 b2 := by simpa using e1
   exact ⟨.float .f32 b1, by simp [execOp, ho, resolve, invoke, builtin, e1', real_eq], b1, rfl, f1⟩
  ·cases h
 ·rename_i x ha
  obtain ⟨l⟩ := args
  obtain rfl : l = [x] := ha
  split at h
  ·rename_i m n hx
   obtain rfl := congrArg Prod.snd (okL_eq h)
   refine StepOk.value fun B0 w0 β p a w inv => ?_
   have cx := evL_ok inv x (by rw [hx]; intro e; cases e)
   rw [hx] at cx
   obtain ⟨b1, b2, e1, f1, f2⟩ := cx
   have e1' : a.eval x = .complex .f32 b1 b2 := by simpa using e1
   exact ⟨.float .f32 b2, by simp [execOp, ho, resolve, invoke, builtin, e1', imag_eq], b2, rfl, f2⟩
  ·cases h
 ·cases h
theorem caps_ok {w : World} {p : Nat → Prop} {β : Nat → Option Value} {H : Nat → Blk} : ∀ {cs : List LV} {vs : List Value} {x : Σ sh : Sh, sh.T}, RepLs w p β H cs vs → capsOf cs = some x → RepT w p x.1 x.2 vs
 | [], vs, x, hc, h => by
   simp only [capsOf] at h
   obtain rfl := Option.some.inj h
   have : vs = [] := List.eq_nil_of_length_eq_zero hc.1.symm
   subst this; rfl
 | c :: cs, vs, x, hc, h => by
   obtain ⟨v, vs', rfl, h1, h2⟩ := hc.uncons
   unfold capsOf at h
   split at h
   ·rename_i heq; cases heq
   ·rename_i sh y r heq
    obtain ⟨rfl, rfl⟩ := List.cons.inj heq
    split at h
    ·rename_i t z e
     obtain rfl := Option.some.inj h
     exact ⟨[v], vs', rfl, (by obtain ⟨b, q, us, rfl, g1, g2, g3⟩ := h1; exact ⟨b, q, us, rfl, g1, g2, g3⟩), caps_ok h2 e⟩
    ·cases h
   ·rename_i r heq
    obtain ⟨rfl, rfl⟩ := List.cons.inj heq
    split at h
    ·rename_i t z e
     obtain rfl := Option.some.inj h
     simp only [RepL] at h1
     subst h1
     exact ⟨[_], vs', rfl, .inl ⟨rfl, rfl⟩, caps_ok h2 e⟩
    ·cases h
   ·rename_i f sh y r heq
    obtain ⟨rfl, rfl⟩ := List.cons.inj heq
    split at h
    ·rename_i t z e
     obtain rfl := Option.some.inj h
     exact ⟨[v], vs', rfl, h1, caps_ok h2 e⟩
    ·cases h
   ·cases h
theorem capsOf_known : ∀ {cs : List LV} {x : Σ sh : Sh, sh.T}, capsOf cs = some x → ∀ c ∈ cs, c ≠ .undef
 | [], _, _, c, hc => by cases hc
 | d :: cs, x, h, c, hc => by
   unfold capsOf at h
   split at h
   ·rename_i heq; cases heq
   all_goals first
    | (
      rename_i heq
      obtain ⟨rfl, rfl⟩ := List.cons.inj heq
      split at h
      ·rename_i t z e
       rcases List.mem_cons.1 hc with rfl | hc
       ·intro he; cases he
       ·exact capsOf_known e c hc
      ·cases h)
    | cases h
theorem evLs_ok {B0 : Nat} {w0 : Base} {β : Nat → Option Value} {p : Nat → Prop} {a : Act} {w : World} (inv : Inv B0 w0 β p s a w) : ∀ {xs : List Operand}, (∀ x ∈ xs, evL s x ≠ .undef) → RepLs w p β s.blk (xs.map (evL s)) (xs.map a.eval)
 | [], _ => repLs_nil
 | x :: xs, h => by
   have h1 := evL_ok inv x (h x (List.mem_cons_self ..))
   have h2 := evLs_ok inv (xs := xs) fun y hy => h y (List.mem_cons_of_mem _ hy)
   exact (repLs_one h1).append h2
theorem capRs_cons {w : World} {p : Nat → Prop} {β : Nat → Option Value} {H : Nat → Blk} {c : Cap} {l : List Cap} {v : Value} {vs : List Value} (h1 : CapRep w p β H c v) (h2 : l.length = vs.length ∧ ∀ (i : Nat) (c : Cap) (u : Value), l[i]? = some c → vs[i]? = some u → CapRep w p β H c u) :
 (c :: l).length = (v :: vs).length ∧ ∀ (i : Nat) (c' : Cap) (u : Value), (c :: l)[i]? = some c' → (v :: vs)[i]? = some u → CapRep w p β H c' u := by
 refine ⟨by simp [h2.1], fun i c' u hc hu => ?_⟩
 cases i with
 | zero => obtain rfl := Option.some.inj hc; obtain rfl := Option.some.inj hu; exact h1
 | succ i => exact h2.2 i c' u (by simpa using hc) (by simpa using hu)
theorem capsR_ok {w : World} {p : Nat → Prop} {β : Nat → Option Value} {H : Nat → Blk} : ∀ {cs : List LV} {vs : List Value} {l : List Cap}, RepLs w p β H cs vs → capsR cs = some l → l.length = vs.length ∧ ∀ (i : Nat) (c : Cap) (u : Value), l[i]? = some c → vs[i]? = some u → CapRep w p β H c u
 | [], vs, l, h, hl => by
   simp only [capsR] at hl
   obtain rfl := Option.some.inj hl
   exact ⟨h.1, fun i c u hc => by simp at hc⟩
 | c :: cs, vs, l, h, hl => by
   obtain ⟨v, vs', rfl, h1, h2⟩ := h.uncons
   unfold capsR at hl
   split at hl
   ·rename_i heq; cases heq
   ·rename_i t r heq
    obtain ⟨rfl, rfl⟩ := List.cons.inj heq
    split at hl
    ·rename_i l' e
     obtain rfl := Option.some.inj hl
     exact capRs_cons h1 (capsR_ok h2 e)
    ·cases hl
   ·rename_i sh y r heq
    obtain ⟨rfl, rfl⟩ := List.cons.inj heq
    split at hl
    ·rename_i l' e
     obtain rfl := Option.some.inj hl
     refine capRs_cons ⟨rfl, ?_⟩ (capsR_ok h2 e)
     obtain ⟨b, q, us, rfl, g1, g2, g3⟩ := h1
     exact ⟨b, q, us, rfl, g1, g2, g3⟩
    ·cases hl
   ·rename_i r heq
    obtain ⟨rfl, rfl⟩ := List.cons.inj heq
    split at hl
    ·rename_i l' e
     obtain rfl := Option.some.inj hl
     simp only [RepL] at h1
     subst h1
     exact capRs_cons ⟨rfl, .inl ⟨rfl, rfl⟩⟩ (capsR_ok h2 e)
    ·cases hl
   ·rename_i f sh y r heq
    obtain ⟨rfl, rfl⟩ := List.cons.inj heq
    split at hl
    ·rename_i l' e
     obtain rfl := Option.some.inj hl
     exact capRs_cons ⟨rfl, h1⟩ (capsR_ok h2 e)
    ·cases hl
   ·cases hl
theorem capsR_known : ∀ {cs : List LV} {l : List Cap}, capsR cs = some l → ∀ c ∈ cs, c ≠ .undef
 | [], _, _, c, hc => by cases hc
 | d :: cs, x, h, c, hc => by
   unfold capsR at h
   split at h
   ·rename_i heq; cases heq
   all_goals first
    | (
      rename_i heq
      obtain ⟨rfl, rfl⟩ := List.cons.inj heq
      split at h
      ·rename_i e
       rcases List.mem_cons.1 hc with rfl | hc
       ·intro he; cases he
       ·exact capsR_known e c hc
      ·cases h)
    | cases h
theorem step_makeFunc {f : FuncId} {first caps : Array Operand} (ho : o.op = .makeFunc (.func f) first caps) (hf : first.size = 0) (h : makeFuncOp s o f (caps.toList.map (evL s)) = some (true, s')) : StepOk P s o s' := by
 unfold makeFuncOp at h
 split at h
 ·rename_i sh x hx
  obtain rfl := congrArg Prod.snd (okL_eq h)
  refine StepOk.value fun B0 w0 β p a w inv => ?_
  have hk := capsOf_known hx
  have hl := evLs_ok inv (xs := caps.toList) fun x hx' => hk _ (List.mem_map.2 ⟨x, hx', rfl⟩)
  have ht := caps_ok hl hx
  obtain rfl : first = #[] := Array.eq_empty_of_size_eq_zero hf
  refine ⟨.func (.func f) #[] (caps.map a.eval), by simp [execOp, ho, Instr.makeFunc], ?_⟩
  exact ⟨_, rfl, by rw [Array.toList_map]; exact ht⟩
 ·split at h
  ·rename_i l hx
   obtain rfl := congrArg Prod.snd (okL_eq h)
   refine StepOk.value fun B0 w0 β p a w inv => ?_
   have hk := capsR_known hx
   have hl := evLs_ok inv (xs := caps.toList) fun x hx' => hk _ (List.mem_map.2 ⟨x, hx', rfl⟩)
   obtain ⟨ht1, ht2⟩ := capsR_ok hl hx
   obtain rfl : first = #[] := Array.eq_empty_of_size_eq_zero hf
   refine ⟨.func (.func f) #[] (caps.map a.eval), by simp [execOp, ho, Instr.makeFunc], ?_⟩
   refine ⟨_, rfl, by rw [ht1]; simp, fun i c u hc hu => ht2 i c u hc (by rw [← Array.toList_map, Array.getElem?_toList]; exact hu)⟩
  ·cases h
theorem step_makeEmpty {T : TypeId} {x y : Operand} (ho : o.op = .makeSlice T x y) (h0 : isZeroLit x = true) (h : makeEmptyOp P s o T (evL s y) = some (true, s')) : StepOk P s o s' := by
 unfold makeEmptyOp at h
 split at h
 case h_2 => cases h
 rename_i E d k2 c hu hd hy
 split at h
 case h_2 => cases h
 rename_i e z he hz
 split at h
 case h_2 => cases h
 rename_i x0 hb
 split at h
 case isFalse => cases h
 rename_i hc
 obtain ⟨hsz, hpos, hzl⟩ := hc
 split at h
 case h_2 => cases h
 rename_i s1 hs1
 obtain ⟨hcond, rfl⟩ := Prod.mk.inj (Option.some.inj h)
 simp only [roomFor, Bool.and_eq_true, decide_eq_true_eq] at hcond
 obtain ⟨h0c, hr1, hr2⟩ := hcond
 obtain ⟨k1, rfl⟩ : ∃ k1, x = .const (.int k1 0) := by
  unfold isZeroLit at h0
  split at h0
  ·rename_i k n
   exact ⟨k, by rw [of_decide_eq_true h0]⟩
  ·cases h0
 refine StepOk.made hd fun B0 w0 β p a w inv => ?_
 obtain ⟨i, zv, hi, hzv, hzr⟩ := zero_ok (P := P) (w := w) (p := p) (β := β) (H := s.blk) hz
 have hbytes : P.bytesOf E = i.bytes := by simp [Program.bytesOf, hi]
 have hisz : i.size = e.size := by rw [hsz]; simp [Program.cellsOf, hi]
 have ey := evL_int inv hy
 obtain ⟨m, rfl⟩ := Int.eq_ofNat_of_zero_le h0c
 simp only [Int.toNat_natCast] at hr1 hr2 hs1
 have hb2 : i.bytes * m ≤ 281474976710656 := by rw [← hbytes, Nat.mul_comm]; omega
 have hm2 : m ≤ maxLen := by unfold maxLen; omega
 obtain ⟨w', hrun, hown, hgrow⟩ := run_make_own (P := P) w B0 T E i zv e.size hu hi hzv hisz k1 k2 m hb2 hm2 inv.base
 have hbel : Below w.heap.size w w' := (Below.refl _ w).grown hgrow (Nat.le_refl _) (fun k hk => by cases hk)
 obtain ⟨β', hinv⟩ := inv.allocAt hs1 (r0 := .slice (some ⟨w.heap.size, 0, none⟩) 0 m) (v := .slice (some ⟨w.heap.size, 0, none⟩) 0 m) hbel (fun b hb => by obtain rfl := Option.some.inj hb; exact Nat.le_refl _) (fun β' H' hk hβ hH =>
  ⟨⟨[], ownsAt_of hown, hpos, ⟨by simp, fun i x h => by simp at h⟩⟩, repC_l (w := w') (p := p) (c := .full d) ⟨hβ, by rw [hH]; trivial, rfl⟩⟩)
 have ex : a.eval (.const (.int k1 0)) = .int k1 0 := rfl
 refine ⟨_, _, ?_, β', p, hinv⟩
 simp only [execOp, ho, ex, ey, Sem.run_bind, hrun, Result.andThen_ok, Sem.run_pure]
theorem strBytes_len (b : ByteArray) : (strBytes b).length = b.size := by
 unfold strBytes
 rw [List.length_map, Array.length_toList]
 rfl
theorem step_bytes {T U : TypeId} {x : Operand} (ho : o.op = .convert T U x) (h : bytesOp P s o T U (evL s x) = some (true, s')) : StepOk P s o s' := by
 unfold bytesOp at h
 split at h
 ·rename_i E hT hU
  split at h
  case h_2 => cases h
  rename_i hE
  have nilCase : ∀ {B0 w0 β p a w}, Inv B0 w0 β p s a w → ∀ n c, a.eval x = .slice none n c → (execOp a.eval o).run P w = .ok (.value (.string ByteArray.empty)) w := by
   intro B0 w0 β p a w inv n c ex
   have hr := run_convert_bytes_nil (P := P) w T E hT hE n c U hU
   simp [execOp, ho, ex, hr]
  split at h
  ·rename_i hx
   obtain rfl := congrArg Prod.snd (okL_eq h)
   refine StepOk.value fun B0 w0 β p a w inv => ?_
   have cx := evL_ok inv x (by rw [hx]; intro e; cases e)
   rw [hx] at cx
   exact ⟨_, nilCase inv 0 0 cx, rfl⟩
  ·split at h
   case h_2 => cases h
   rename_i xs hs
   obtain rfl := congrArg Prod.snd (okL_eq h)
   refine StepOk.value fun B0 w0 β p a w inv => ?_
   obtain ⟨ad, cap, us, ex, hn, hrow, hone, hc⟩ := src_ok inv hs
   have hus : us = xs.map (Value.int .u8) := by
    apply List.ext_getElem?
    intro i
    by_cases hi : i < xs.length
    ·have := hrow.2 i _ (List.getElem?_eq_getElem hi)
     have h1 : RepT w p (.int .u8) xs[i] ((us.drop (i * 1)).take 1) := this
     simp only [RepT, Nat.mul_one] at h1
     have hl : i < us.length := by rw [hrow.1]; simpa [Sh.size] using hi
     rw [List.drop_eq_getElem_cons hl, List.take_succ_cons, List.take_zero] at h1
     have h2 : us[i] = Value.int .u8 xs[i] := (List.cons.inj h1).1
     rw [List.getElem?_eq_getElem hl, h2, List.getElem?_map, List.getElem?_eq_getElem hi]
     rfl
    ·rw [List.getElem?_eq_none (by rw [hrow.1]; simp [Sh.size]; omega), List.getElem?_eq_none (by simp; omega)]
   cases ad with
   | none =>
     obtain ⟨rfl, rfl⟩ := hn rfl
     exact ⟨_, nilCase inv 0 0 ex, rfl⟩
   | some ad =>
     have hl := run_loadCells_list (P := P) w ad (xs.map (Value.int .u8)) (fun j v hj => hc ad rfl j v (by rw [hus]; exact hj))
     simp only [List.length_map] at hl
     have hb := run_bytesToString (P := P) w ad xs.length cap xs hl
     rw [foldl_push_bytes] at hb
     have e0 : (⟨ByteArray.empty.data ++ (xs.map fun n => UInt8.ofNat n.toNat).toArray⟩ : ByteArray) = bytesStr xs := by
      have : ByteArray.empty.data = #[] := rfl
      rw [this]
      simp [bytesStr]
     rw [e0] at hb
     refine ⟨.string (bytesStr xs), ?_, rfl⟩
     simp [execOp, ho, ex, run_convert_bytes_string (P := P) w T U E (some ad) xs.length cap hT hE hU, hb]
 ·rename_i E hT hU
  split at h
  case h_2 => cases h
  rename_i hE
  split at h
  case h_2 => cases h
  rename_i b hx
  obtain ⟨hsz, rfl⟩ := Prod.mk.inj (Option.some.inj h)
  intro B0 w0 a w ⟨β, p, inv⟩ next Q hn
  have cx := evL_ok inv x (by rw [hx]; intro e; cases e)
  rw [hx] at cx
  have ex : a.eval x = .string b := cx
  have hrun := run_bytes_of_string (P := P) w T U E b hT hU hE
  have hr : (execOp a.eval o).run P w = .ok (.value (.slice (some ⟨w.heap.size, 0, none⟩) b.size (grownCap w b.size 0 E))) (w.drew.alloc (.cells (bytesRow b (grownCap w b.size 0 E)) E ((bytesRow b (grownCap w b.size 0 E)).size, (bytesRow b (grownCap w b.size 0 E)).size + 1))) := by
   simp [execOp, ho, ex, hrun]
  refine wpIn_of_run hr (fun _ e => by cases e) ?_
  have hbel : Below w.heap.size w (w.drew.alloc (.cells (bytesRow b (grownCap w b.size 0 E)) E ((bytesRow b (grownCap w b.size 0 E)).size, (bytesRow b (grownCap w b.size 0 E)).size + 1))) := (Below.refl w.heap.size w).drew.alloc (Nat.le_refl _) _
  have hcell := World.cell?_alloc_mark w.drew (bytesRow b (grownCap w b.size 0 E)) E ((bytesRow b (grownCap w b.size 0 E)).size, (bytesRow b (grownCap w b.size 0 E)).size + 1)
  have hsize : (w.drew.alloc (.cells (bytesRow b (grownCap w b.size 0 E)) E ((bytesRow b (grownCap w b.size 0 E)).size, (bytesRow b (grownCap w b.size 0 E)).size + 1))).heap.size = w.heap.size + 1 := by
   show (w.heap.push _).size = _
   simp
  have hlt : ∀ t r, β t = some r → ∀ g, rootBlock r = some g → g < w.heap.size := fun t r hr g hg => (inv.blk hr).root g hg |>.2
  generalize hw' : w.drew.alloc (.cells (bytesRow b (grownCap w b.size 0 E)) E ((bytesRow b (grownCap w b.size 0 E)).size, (bytesRow b (grownCap w b.size 0 E)).size + 1)) = w' at hbel hcell hsize
  have inv1 := inv.world hbel
  have inv2 : Inv B0 w0 β (fun g => p g ∨ g = w.heap.size) s a w' := inv1.more (fun _ h => .inl h) (fun g hg => by
   rcases hg with hg | rfl
   ·exact ⟨by rw [hsize]; have := (inv.shared g hg).1; omega, fun t r hr => (inv.shared g hg).2 t r hr⟩
   ·exact ⟨by omega, fun t r hr e => Nat.lt_irrefl _ (hlt t r hr _ e)⟩) (fun g hg => by
   rcases hg with hg | rfl
   ·exact inv.conf g hg
   ·exact .inr inv.base) (inv.defers.imp (fun g hg => ⟨.inl hg, hbel.block g (inv.shared g hg).1⟩) fun D hD => ⟨by rw [hbel.block D hD.lt]; exact hD.obj, hD.base, fun h => h.elim hD.data fun h => by have := hD.lt; omega⟩)
  refine hn _ _ ⟨β, _, inv2.put o.dst (x := .c (.l (.slice (.int .u8) (strBytes b)))) (v := .slice (some ⟨w.heap.size, 0, none⟩) b.size (grownCap w b.size 0 E)) ?_⟩
  show RepT w' _ (.slice (.int .u8)) (strBytes b) [_]
  simp only [RepT]
  refine ⟨_, _, by rw [strBytes_len], ⟨by rw [strBytes_len]; exact grownCap_ge _ _ _ _, fun h => by cases h⟩, .inr ⟨w.heap.size, 0, rfl, .inr rfl, fun i n hi => ?_⟩⟩
  have hib : i < b.data.size := by
   have := (List.getElem?_eq_some_iff.1 hi).1
   rw [strBytes_len] at this
   exact this
  refine ⟨[.int .u8 n], rfl, rfl, fun j hj => ?_⟩
  have hj0 : j = 0 := by simp only [Sh.size] at hj; omega
  subst hj0
  have hc := hcell i
  rw [bytesRow_at b _ i hib] at hc
  simp only [Sh.size, Nat.mul_one, Nat.add_zero, Nat.zero_add]
  have hn' : n = (b.data[i].toNat : Int) := by
   simp only [strBytes, List.getElem?_map] at hi
   rw [List.getElem?_eq_getElem (by simpa using hib)] at hi
   have := Option.some.inj hi
   simpa using this.symm
  rw [hn']
  exact hc
 ·cases h
theorem step_ok (h : stepOp P s o = some (true, s')) : StepOk P s o s' := by
 unfold stepOp at h
 split at h
 ·rename_i x ho
  obtain rfl := congrArg Prod.snd (okStep h)
  exact step_move (.inl ho)
 ·rename_i x ho
  obtain rfl := congrArg Prod.snd (okStep h)
  exact step_move (.inr ho)
 ·rename_i T ho
  split at h
  ·rename_i z hz; exact step_alloc ho hz h
  ·cases h
 ·rename_i T x ho
  split at h
  ·rename_i hk; exact step_box ho hk h
  ·cases h
 ·rename_i T x ho; exact step_load ho h
 ·rename_i T x y ho
  split at h
  ·rename_i hd; exact step_store ho hd h
  ·cases h
 ·rename_i x ho; exact step_nilCheck ho h
 ·rename_i op T x y U ho
  cases hy : isNilIf y with
  | true => rw [hy] at h; exact step_ifc ho hy h
  | false => rw [hy] at h; exact step_binOp ho h
 ·rename_i op T x ho; exact step_unOp ho h
 ·rename_i T U x ho
  cases hc : (cvB T || cvB U) with
  | true => rw [hc] at h; exact step_bytes ho h
  | false => rw [hc] at h; exact step_convert ho h
 ·rename_i T parts ho; exact step_build ho h
 ·rename_i T n parts ho
  cases hrt : rowT T with
  | true => rw [hrt] at h; exact step_buildRow ho h
  | false =>
    rw [hrt, cond_false] at h
    cases hz : ptrElem P T && !dataElems P T n (evParts s parts.toList) with
    | true => rw [hz] at h; exact step_buildCells ho h
    | false => rw [hz] at h; exact step_buildSlice ho h
 ·rename_i T x y ho
  cases hz : isZeroLit x with
  | true => rw [hz] at h; exact step_makeEmpty ho hz h
  | false =>
    rw [hz] at h
    cases hm : mkB T with
    | true => rw [hm] at h; exact step_makeCells ho h
    | false => rw [hm] at h; exact step_makeSlice ho h
 ·rename_i T x lo hi ho; exact step_slice ho h
 ·rename_i T x f ho; exact step_fieldAddr ho h
 ·rename_i T x f ho; exact step_field ho h
 ·rename_i T x y ho
  split at h
  ·rename_i k n hy; exact step_indexAddr ho hy h
  ·cases h
 ·rename_i T x y ho
  split at h
  ·rename_i k n hy; exact step_index ho hy h
  ·cases h
 ·rename_i x i ho
  split at h
  ·rename_i vs hx
   split at h
   ·rename_i v hv
    obtain rfl := congrArg Prod.snd (okStep h)
    exact step_extract ho hx hv
   ·cases h
  ·cases h
 ·rename_i T m k c ho; exact step_lookup ho h
 ·rename_i T ho; exact step_makeMap ho h
 ·rename_i T m k x ho
  split at h
  ·rename_i hd; exact step_mapUpdate ho hd h
  ·cases h
 ·rename_i b args ts ho; exact step_builtin ho h
 ·rename_i f first caps ho
  split at h
  ·rename_i hf; exact step_makeFunc ho hf h
  ·cases h
 ·rename_i T x ho; exact step_arrayAt ho h
 ·cases h
end
end Go.Ev
end
