/- The store is written: stores into blocks, and new variables. -/
import Derived.Test.YtinkhmfciealkaaOps4
set_option linter.unusedSimpArgs false
namespace Go.Ev
open Go.RowKit

section
variable {w : World} {p : Nat → Prop} {β : Nat → Option Value} {H : Nat → Blk}

theorem cells_one {v : Value} (h : v.oneCell' = true) : v.cells = #[v] := by
  cases v <;> first | rfl | simp [Value.oneCell'] at h

theorem cells_known {x : CV} {v : Value} (h : RepC w p β H x v) (hk : x.known = true) : RepLs w p β H x.cells v.cells.toList := by
  cases x with
  | l c =>
    have hc : c ≠ .undef := by intro e; subst e; simp [CV.known] at hk
    have := repL_of hc h
    rw [cells_one this.oneCell]
    exact repLs_one this
  | agg cs => obtain ⟨vs, rfl, h⟩ := h; exact h

theorem RepLs.oneCells {cs : List LV} {vs : List Value} (h : RepLs w p β H cs vs) : ∀ v ∈ vs, v.oneCell' = true := by
  intro v hv
  obtain ⟨i, hi, rfl⟩ := List.getElem_of_mem hv
  have hic : i < cs.length := by rw [h.1]; exact hi
  exact (h.2 i cs[i] vs[i] (List.getElem?_eq_getElem hic) (List.getElem?_eq_getElem hi)).oneCell

theorem RepLs.write {cs ds : List LV} {us vs : List Value} (h1 : RepLs w p β H cs us) (h2 : RepLs w p β H ds vs) {off : Nat} {cs' : List LV} (h : writeAt cs off ds = some cs') :
    off + vs.length ≤ us.length ∧ cs'.length = cs.length ∧ RepLs w p β H cs' (us.take off ++ vs ++ us.drop (off + vs.length)) := by
  simp only [writeAt] at h
  split at h
  · rename_i hle
    obtain rfl := Option.some.inj h
    refine ⟨by rw [← h1.1, ← h2.1]; exact hle, by simp; omega, ?_⟩
    have a := h1.part 0 off
    have b := h1.part (off + ds.length) us.length
    simp only [List.drop_zero] at a
    rw [List.take_of_length_le (by rw [List.length_drop, h1.1]; omega), List.take_of_length_le (by rw [List.length_drop]; omega)] at b
    rw [← h2.1]
    exact (a.append h2).append b
  · cases h
end

theorem take_write {α : Type} (l : List α) (a n : Nat) (vs : List α) (h : a + vs.length ≤ n) (hn : n ≤ l.length) :
    (l.take a ++ vs ++ l.drop (a + vs.length)).take n = (l.take n).take a ++ vs ++ (l.take n).drop (a + vs.length) := by
  have hl : (l.take a).length = a := by rw [List.length_take]; omega
  have hl2 : ((l.take n).take a).length = a := by simp only [List.length_take]; omega
  apply List.ext_getElem?
  intro m
  rw [List.getElem?_take]
  simp only [List.getElem?_append, List.length_append, hl, hl2, List.getElem?_take, List.getElem?_drop]
  by_cases h1 : m < n
  · rw [if_pos h1]
    by_cases h2 : m < a + vs.length
    · rw [if_pos h2, if_pos h2]
      by_cases h3 : m < a
      · rw [if_pos h3, if_pos h3, if_pos h3, if_pos h3, if_pos h1]
      · rw [if_neg h3, if_neg h3]
    · rw [if_neg h2, if_neg h2, if_pos (by omega)]
  · rw [if_neg h1, if_neg (by omega), if_neg (by omega)]

/-- One element of rows is written, in part. -/
theorem rows_set {α : Type} {size : Nat} {R : α → List Value → Prop} {xs : List α} {us vs : List Value} (h : Rows' size R xs us) {i off : Nat} (hi : i < xs.length) (hoff : off + vs.length ≤ size) {y : α}
    (hy : R y (((us.drop (i * size)).take size).take off ++ vs ++ ((us.drop (i * size)).take size).drop (off + vs.length))) :
    Rows' size R (xs.set i y) (us.take (i * size + off) ++ vs ++ us.drop (i * size + off + vs.length)) := by
  have hbig : (i + 1) * size ≤ us.length := by rw [h.1]; exact Nat.mul_le_mul_right _ hi
  rw [Nat.add_mul, Nat.one_mul] at hbig
  have get : ∀ m, (us.take (i * size + off) ++ vs ++ us.drop (i * size + off + vs.length))[m]? = if m < i * size + off then us[m]? else if m < i * size + off + vs.length then vs[m - (i * size + off)]? else us[m]? := by
    intro m
    have hl : (us.take (i * size + off)).length = i * size + off := by rw [List.length_take]; omega
    rw [List.getElem?_append, List.length_append, hl]
    by_cases h1 : m < i * size + off
    · rw [if_pos (by omega), List.getElem?_append, hl, if_pos h1, List.getElem?_take, if_pos h1, if_pos h1]
    · rw [if_neg h1]
      by_cases h2 : m < i * size + off + vs.length
      · rw [if_pos h2, if_pos h2, List.getElem?_append, hl, if_neg h1]
      · rw [if_neg h2, if_neg h2, List.getElem?_drop]
        congr 1
        omega
  refine ⟨?_, fun j x hj => ?_⟩
  · rw [List.length_set, ← h.1]
    simp only [List.length_append, List.length_take, List.length_drop]
    omega
  · rw [List.getElem?_set] at hj
    by_cases hij : i = j
    · subst hij
      rw [if_pos rfl, if_pos hi] at hj
      obtain rfl := Option.some.inj hj
      have e : ((us.take (i * size + off) ++ vs ++ us.drop (i * size + off + vs.length)).drop (i * size)).take size = ((us.drop (i * size)).take size).take off ++ vs ++ ((us.drop (i * size)).take size).drop (off + vs.length) := by
        apply List.ext_getElem?
        intro m
        have hl : (((us.drop (i * size)).take size).take off).length = off := by simp only [List.length_take, List.length_drop]; omega
        rw [List.getElem?_take, List.getElem?_drop, get, List.getElem?_append, List.length_append, hl]
        by_cases h1 : m < off
        · rw [if_pos (by omega), if_pos (by omega), if_pos (by omega), List.getElem?_append, hl, if_pos h1, List.getElem?_take, if_pos h1, List.getElem?_take, if_pos (by omega), List.getElem?_drop]
        · by_cases h2 : m < off + vs.length
          · rw [if_pos (by omega), if_neg (by omega), if_pos (by omega), if_pos h2, List.getElem?_append, hl, if_neg h1]
            congr 1
            omega
          · rw [if_neg h2, List.getElem?_drop, List.getElem?_take]
            by_cases h3 : m < size
            · rw [if_pos h3, if_neg (by omega), if_neg (by omega), if_pos (by omega), List.getElem?_drop]
              congr 1
              omega
            · rw [if_neg h3, if_neg (by omega)]
      rw [e]
      exact hy
    · rw [if_neg hij] at hj
      have hjl : j < xs.length := (List.getElem?_eq_some_iff.1 hj).1
      have hr := h.2 j x hj
      have e : ((us.take (i * size + off) ++ vs ++ us.drop (i * size + off + vs.length)).drop (j * size)).take size = (us.drop (j * size)).take size := by
        apply List.ext_getElem?
        intro m
        rw [List.getElem?_take, List.getElem?_take, List.getElem?_drop, List.getElem?_drop, get]
        by_cases h1 : m < size
        · rw [if_pos h1, if_pos h1]
          rcases Nat.lt_or_gt_of_ne hij with h2 | h2
          · have : (i + 1) * size ≤ j * size := Nat.mul_le_mul_right _ h2
            rw [Nat.add_mul, Nat.one_mul] at this
            rw [if_neg (by omega), if_neg (by omega)]
          · have : (j + 1) * size ≤ i * size := Nat.mul_le_mul_right _ h2
            rw [Nat.add_mul, Nat.one_mul] at this
            rw [if_pos (by omega)]
        · rw [if_neg h1, if_neg h1]
      rw [e]
      exact hr

section
variable {P : Program} {s s' : PS} {o : Oper}

theorem below_setRow {B0 : Nat} {w : World} {b : Nat} {cs : Array Value} (hb : B0 ≤ b) : Below B0 w (w.setRow b cs) :=
  ⟨rfl, rfl, rfl, by simp [World.setRow], fun k hk => setRow_other w b k cs (by omega)⟩

theorem StepOk.skip (h : ∀ B0 w0 β p a w, Inv B0 w0 β p s a w → ∃ w', (execOp a.eval o).run P w = .ok .skip w' ∧ ∃ β' p', Inv B0 w0 β' p' s' a w') (hd : o.dst = none) : StepOk P s o s' := by
  intro B0 w0 a w ⟨β, p, hi⟩ next Q hn
  obtain ⟨w', hr, β', p', h'⟩ := h B0 w0 β p a w hi
  unfold Oper.wp
  rw [hr]
  show next (a.put o.dst undef) w'
  rw [hd]
  exact hn _ _ ⟨β', p', h'⟩

theorem run_store_at {T : TypeId} {x y : Operand} (ho : o.op = .store T x y) {a : Act} {w : World} {b q : Nat} {cur : Array Value} {U : TypeId} (hi : (P.info? T).isSome = true)
    (ex : a.eval x = .pointer (some ⟨b, q, none⟩)) (hh : w.heap[b]? = some (.cells cur U (0, 0))) (hl : (a.eval y).cells.size = P.cellsOf T) (hq : q + (a.eval y).cells.size ≤ cur.size) (h1 : ∀ v ∈ (a.eval y).cells.toList, v.oneCell' = true) :
    (execOp a.eval o).run P w = .ok .skip (w.setRow b (cur.toList.take q ++ (a.eval y).cells.toList ++ cur.toList.drop (q + (a.eval y).cells.size)).toArray) := by
  have hst := run_storeCells_at P b q U (a.eval y).cells.toList 0 cur w hh (by simpa using hq) h1
  simp only [Nat.add_zero, Array.length_toList] at hst
  simp [execOp, ho, ex, Instr.storeAt, Instr.sureAddr, storeVar, hl, run_sizeOf' hi, hst]

theorem step_store {T : TypeId} {x y : Operand} (ho : o.op = .store T x y) (hd : o.dst = none) (h : storeOp P s T (evC s y) (evL s x) = some (true, s')) : StepOk P s o s' := by
  unfold storeOp at h
  split at h
  · rename_i t sz i off hx
    have hne : evL s x ≠ .undef := by rw [hx]; intro e; cases e
    split at h
    · rename_i hc
      obtain ⟨hlen, hkn, hinf⟩ := hc
      have val : ∀ {B0 w0 β p a w}, Inv B0 w0 β p s a w → RepLs w p β s.blk (evC s y).cells (a.eval y).cells.toList ∧ (a.eval y).cells.size = P.cellsOf T := by
        intro B0 w0 β p a w inv
        have := cells_known (evC_ok inv y) hkn
        refine ⟨this, ?_⟩
        have h2 := this.1
        rw [hlen] at h2
        simpa using h2.symm
      split at h
      · rename_i cs hs
        split at h
        · rename_i cs' hw
          obtain rfl := Prod.mk.inj (Option.some.inj h) |>.2
          refine StepOk.skip (fun B0 w0 β p a w inv => ?_) hd
          have cx := evL_ok inv x hne
          rw [hx] at cx
          obtain ⟨r, b, hr, hb, ex, hok⟩ := cx
          rw [hs] at hok
          rw [show sz = 0 from hok, Nat.mul_zero, Nat.zero_add] at ex
          obtain ⟨vs, U, hroot, hB, hh, hl⟩ := inv.cellsAt hr hb hs
          obtain ⟨hv, hvl⟩ := val inv
          obtain ⟨w1, w2, w3⟩ := hl.write hv hw
          have hrun := run_store_at (P := P) ho hinf ex hh hvl (by simpa using w1) hv.oneCells
          refine ⟨_, hrun, β, p, inv.write hr (below_setRow hB) (fun g hg => setRow_other w b g _ (fun e => hg (by rw [e]; exact hb))) (by rw [hs]; exact w2.symm) (fun hk => ?_)⟩
          refine ⟨b, _, U, hroot, hB, setRow_heap w b vs _ U _ hh, ?_⟩
          have := RepLs.keep hk w3
          simpa using this
        · cases h
      · rename_i e xs hs
        split at h
        · rename_i hsz
          subst hsz
          split at h
          · rename_i cs' hw
            split at h
            · rename_i y' hbuild
              obtain rfl := Prod.mk.inj (Option.some.inj h) |>.2
              refine StepOk.skip (fun B0 w0 β p a w inv => ?_) hd
              have cx := evL_ok inv x hne
              rw [hx] at cx
              obtain ⟨r, b, hr, hb, ex, hok⟩ := cx
              rw [hs] at hok
              obtain ⟨vs, U, hroot, hB, hh, he, hrow⟩ := inv.arrAt hr hb hs
              have hi : i < xs.length := by
                rcases hok with ⟨h0, _⟩ | h
                · omega
                · exact h.2
              obtain ⟨hv, hvl⟩ := val inv
              have hel := hrow.2 i _ (getD_get e.dflt hi)
              obtain ⟨w1, w2, w3⟩ := (cells_ok (β := β) (H := s.blk) hel).write hv hw
              have hnew := build_ok hbuild w3
              have hbig : (i + 1) * e.size ≤ vs.toList.length := by rw [hrow.1]; exact Nat.mul_le_mul_right _ hi
              rw [Nat.add_mul, Nat.one_mul] at hbig
              rw [hel.length] at w1
              have hset := rows_set hrow hi (off := off) w1 hnew
              have hrun := run_store_at (P := P) ho hinf ex hh hvl (by simp at w1 hbig ⊢; omega) hv.oneCells
              refine ⟨_, hrun, β, p, inv.write hr (below_setRow hB) (fun g hg => setRow_other w b g _ (fun e => hg (by rw [e]; exact hb))) (by rw [hs]; exact ⟨_, rfl, by simp⟩) (fun hk => ?_)⟩
              refine ⟨b, _, U, hroot, hB, setRow_heap w b vs _ U _ hh, he, ?_⟩
              have := hset.imp fun _ _ h => RepT.mono hk.data h
              simpa using this
            · cases h
          · cases h
        · split at h
          · rename_i hz
            obtain ⟨rfl, rfl, rfl⟩ := hz
            split at h
            · rename_i ys hrows
              obtain rfl := Prod.mk.inj (Option.some.inj h) |>.2
              refine StepOk.skip (fun B0 w0 β p a w inv => ?_) hd
              have cx := evL_ok inv x hne
              rw [hx] at cx
              obtain ⟨r, b, hr, hb, ex, hok⟩ := cx
              obtain ⟨vs, U, hroot, hB, hh, he, hrow⟩ := inv.arrAt hr hb hs
              obtain ⟨hv, hvl⟩ := val inv
              obtain ⟨hyl, hyrow⟩ := rows_ok hrows hv
              have hsame : (a.eval y).cells.size = vs.size := by
                have h1 := hyrow.1
                have h2 := hrow.1
                rw [hyl] at h1
                simp at h1 h2
                omega
              have hrun := run_store_at (P := P) ho hinf (by simpa using ex) hh hvl (by omega) hv.oneCells
              refine ⟨_, hrun, β, p, inv.write hr (below_setRow hB) (fun g hg => setRow_other w b g _ (fun e => hg (by rw [e]; exact hb))) (by rw [hs]; exact ⟨_, rfl, hyl.symm⟩) (fun hk => ?_)⟩
              refine ⟨b, _, U, hroot, hB, setRow_heap w b vs _ U _ hh, he, ?_⟩
              have := hyrow.imp fun _ _ h => RepT.mono hk.data h
              have e : vs.toList.drop (a.eval y).cells.size = [] := List.drop_eq_nil_of_le (by simp; omega)
              simpa [e] using this
            · cases h
          · cases h
      · rename_i U e xs hs
        split at h
        · rename_i hsz
          subst hsz
          split at h
          · rename_i cs' hw
            split at h
            · rename_i y' hbuild
              obtain rfl := Prod.mk.inj (Option.some.inj h) |>.2
              refine StepOk.skip (fun B0 w0 β p a w inv => ?_) hd
              have cx := evL_ok inv x hne
              rw [hx] at cx
              obtain ⟨r, b, hr, hb, ex, hok⟩ := cx
              rw [hs] at hok
              obtain ⟨_, hi⟩ := hok
              obtain ⟨cap, cur, us, hroot, hB, hh, hn, hm, hcs, hus, he, hrow⟩ := inv.bufAt hr hb hs
              obtain ⟨hv, hvl⟩ := val inv
              have hel := hrow.2 i _ (getD_get e.dflt hi)
              obtain ⟨w1, w2, w3⟩ := (cells_ok (β := β) (H := s.blk) hel).write hv hw
              have hnew := build_ok hbuild w3
              have hbig : (i + 1) * e.size ≤ xs.length * e.size := Nat.mul_le_mul_right _ hi
              have hcap : xs.length * e.size ≤ cap * e.size := Nat.mul_le_mul_right _ hn
              rw [Nat.add_mul, Nat.one_mul] at hbig
              rw [hel.length] at w1
              have hset := rows_set hrow hi (off := off) w1 hnew
              have hfit : i * e.size + off + (a.eval y).cells.size ≤ cur.size := by simp at w1; omega
              have hrun := run_store_at (P := P) ho hinf ex hh hvl hfit hv.oneCells
              refine ⟨_, hrun, β, p, inv.write hr (below_setRow hB) (fun g hg => setRow_other w b g _ (fun e => hg (by rw [e]; exact hb))) (by rw [hs]; exact ⟨_, rfl, by simp⟩) (fun hk => ?_)⟩
              refine ⟨_, ⟨?_, .inr ⟨b, cap, _, by rw [List.length_set]; exact hroot, hB, setRow_heap w b cur _ U _ hh, by rw [List.length_set]; exact hn, hm, ?_, rfl⟩⟩, he, ?_⟩
              · simp at w1
                simp only [List.length_set, List.length_take, List.length_append, List.length_drop, Array.length_toList]
                omega
              · simp at w1
                simp only [List.size_toArray, List.length_append, List.length_take, List.length_drop, Array.length_toList]
                omega
              · have h2 := hset.imp fun _ _ h => RepT.mono hk.data h
                rw [List.length_set]
                simp at w1
                have e2 := take_write cur.toList (i * e.size + off) (xs.length * e.size) (a.eval y).cells.toList (by simp; omega) (by simp; omega)
                rw [← hus] at e2
                simp only [Array.length_toList] at e2 h2
                simp only [List.toList_toArray]
                rw [e2]
                exact h2
            · cases h
          · cases h
        · cases h
      · cases h
    · cases h
  · cases h
end
end Go.Ev
