/- Symbols as samples along an axis: their sums, energies and soft values. -/
import Derived.Test.YthckjfbhdjjnkaaMixLaw
set_option linter.unusedSimpArgs false
namespace Go.Proofs.Ythckjfbhdjjnkaa
open Go.Ev
def stretch (L : Nat) (vs : List Int) : List Int := (List.range (vs.length * L)).map fun m => vs.getD (m / L) 0
theorem stretch_len (L : Nat) (vs : List Int) : (stretch L vs).length = vs.length * L := by unfold stretch; rw [List.length_map, List.length_range]
theorem stretch_at {L : Nat} {vs : List Int} {m : Nat} (h : m < vs.length * L) : (stretch L vs)[m]? = some (vs.getD (m / L) 0) := by
 unfold stretch
 rw [List.getElem?_map, List.getElem?_range h]
 rfl
theorem stretch_all {L : Nat} {vs : List Int} {p : Int → Prop} (h : ∀ v ∈ vs, p v) : ∀ v ∈ stretch L vs, p v := by
 intro v hv
 obtain ⟨m, hm, rfl⟩ := List.mem_map.1 hv
 have hm := List.mem_range.1 hm
 have hlt : m / L < vs.length := Nat.div_lt_of_lt_mul (by rw [Nat.mul_comm]; exact hm)
 exact h _ (by rw [List.getD_eq_getElem?_getD, List.getElem?_eq_getElem hlt]; exact List.getElem_mem hlt)
theorem stretch_part {L : Nat} {vs : List Int} {k : Nat} (h : k < vs.length) : ((stretch L vs).drop (k * L)).take L = List.replicate L (vs.getD k 0) := by
 have hb : k * L + L ≤ vs.length * L := by
  have := Nat.mul_le_mul_right L (show k + 1 ≤ vs.length by omega)
  rw [Nat.add_mul, Nat.one_mul] at this
  exact this
 apply List.ext_getElem?
 intro j
 rw [List.getElem?_take, List.getElem?_replicate]
 by_cases hj : j < L
 ·rw [if_pos hj, if_pos hj, List.getElem?_drop, stretch_at (by omega)]
  have : (k * L + j) / L = k := by rw [Nat.mul_comm, Nat.mul_add_div (by omega), Nat.div_eq_of_lt hj, Nat.add_zero]
  rw [this]
 ·rw [if_neg hj, if_neg hj]
def sumI (ws : List Int) : Int := ws.foldl (· + ·) 0
theorem foldI (c : Int) : ∀ ws : List Int, ws.foldl (· + ·) c = c + sumI ws := by
 intro ws
 unfold sumI
 induction ws generalizing c with
 | nil => simp
 | cons w ws ih =>
   rw [List.foldl_cons, List.foldl_cons, ih (c + w), ih (0 + w)]
   omega
theorem sumI_cons (w : Int) (ws : List Int) : sumI (w :: ws) = w + sumI ws := by
 show (w :: ws).foldl (· + ·) 0 = _
 rw [List.foldl_cons, foldI]
 omega
theorem tv_add {t : Nat} (ht : t < 4) (a b : Int) : addG (tv t a) (tv t b) = tv t (a + b) := by
 unfold addG
 match t, ht with
 | 0, _ => rfl
 | 1, _ => rfl
 | 2, _ => exact Prod.ext (by show -a + -b = -(a + b); omega) rfl
 | 3, _ => exact Prod.ext rfl (by show -a + -b = -(a + b); omega)
theorem gsum_tv {t : Nat} (ht : t < 4) (ws : List Int) : gsum (ws.map (tv t)) = tv t (sumI ws) := by
 have key : ∀ (ws : List Int) (c : Int), (ws.map (tv t)).foldl addG (tv t c) = tv t (c + sumI ws) := by
  intro ws
  induction ws with
  | nil => intro c; show tv t c = tv t (c + 0); rw [Int.add_zero]
  | cons w ws ih =>
    intro c
    rw [List.map_cons, List.foldl_cons, tv_add ht, ih, sumI_cons, Int.add_assoc]
 have h := key ws 0
 have e : tv t 0 = (0, 0) := by
  match t, ht with
  | 0, _ => rfl
  | 1, _ => rfl
  | 2, _ => rfl
  | 3, _ => rfl
 rw [e, Int.zero_add] at h
 exact h
theorem sumI_le {A : Int} : ∀ {ws : List Int}, (∀ w ∈ ws, -A ≤ w ∧ w ≤ A) → -((ws.length : Int) * A) ≤ sumI ws ∧ sumI ws ≤ (ws.length : Int) * A
 | [], _ => by simp [sumI]
 | w :: ws, h => by
   have h1 := h w (by simp)
   have h2 := sumI_le (ws := ws) fun y hy => h y (by simp [hy])
   rw [sumI_cons, List.length_cons, show ((ws.length + 1 : Nat) : Int) * A = (ws.length : Int) * A + A by rw [show ((ws.length + 1 : Nat) : Int) = (ws.length : Int) + 1 by omega, Int.add_mul, Int.one_mul]]
   omega
theorem sumI_rep (v : Int) : ∀ L : Nat, sumI (List.replicate L v) = (L : Int) * v
 | 0 => by simp [sumI]
 | L + 1 => by
   rw [List.replicate_succ, sumI_cons, sumI_rep v L, show ((L + 1 : Nat) : Int) = (L : Int) + 1 by omega, Int.add_mul, Int.one_mul]
   omega
theorem sq_mono {s F : Int} (h1 : -F ≤ s) (h2 : s ≤ F) : s * s ≤ F * F := by
 have h := Int.mul_nonneg (show 0 ≤ F - s by omega) (show 0 ≤ F + s by omega)
 rw [Int.sub_mul, Int.mul_add, Int.mul_add, Int.mul_comm s F] at h
 omega
theorem enW_tv {t : Nat} (ht : t < 4) {s : Int} (h1 : -100000 ≤ s) (h2 : s ≤ 100000) : enW (tv t s) = s * s := by
 have hs := sq_mono (F := 100000) h1 h2
 have h0 : 0 ≤ s * s := by
  rcases Int.le_total 0 s with h | h
  ·exact Int.mul_nonneg h h
  ·exact Int.mul_nonneg_of_nonpos_of_nonpos h h
 have e1 : wr (s * s) = s * s := wr_id (by omega) (by omega)
 have e2 : wr ((-s) * (-s)) = s * s := by rw [Int.neg_mul_neg]; exact e1
 have e0 : wr (0 * 0) = 0 := by decide
 unfold enW
 match t, ht with
 | 0, _ => show wr (wr (s * s) + wr (0 * 0)) = _; rw [e1, e0, Int.add_zero, e1]
 | 1, _ => show wr (wr (0 * 0) + wr (s * s)) = _; rw [e1, e0, Int.zero_add, e1]
 | 2, _ => show wr (wr (-s * -s) + wr (0 * 0)) = _; rw [e2, e0, Int.add_zero, e1]
 | 3, _ => show wr (wr (0 * 0) + wr (-s * -s)) = _; rw [e2, e0, Int.zero_add, e1]
theorem fold_le {E : Int} (hE : 0 ≤ E ∧ E ≤ 10000000000) : ∀ (zs : Gs) (c : Int), (∀ z ∈ zs, 0 ≤ enW z ∧ enW z ≤ E) → 0 ≤ c → c + (zs.length : Int) * E ≤ 1000000000000000 → 0 ≤ zs.foldl addE c ∧ zs.foldl addE c ≤ c + (zs.length : Int) * E
 | [], c, _, h0, _ => by simp; exact h0
 | z :: zs, c, h, h0, hb => by
   have h1 := h z (by simp)
   rw [List.length_cons, show ((zs.length + 1 : Nat) : Int) * E = (zs.length : Int) * E + E by rw [show ((zs.length + 1 : Nat) : Int) = (zs.length : Int) + 1 by omega, Int.add_mul, Int.one_mul]] at hb ⊢
   have hz : 0 ≤ (zs.length : Int) * E := Int.mul_nonneg (by omega) hE.1
   have e : addE c z = c + enW z := wr_id (by omega) (by omega)
   rw [List.foldl_cons, e]
   have := fold_le hE zs (c + enW z) (fun y hy => h y (by simp [hy])) (by omega) (by omega)
   omega
theorem fold_eq {E : Int} (hE : 0 ≤ E ∧ E ≤ 10000000000) : ∀ (zs : Gs) (c : Int), (∀ z ∈ zs, enW z = E) → 0 ≤ c → c + (zs.length : Int) * E ≤ 1000000000000000 → zs.foldl addE c = c + (zs.length : Int) * E
 | [], c, _, _, _ => by simp
 | z :: zs, c, h, h0, hb => by
   have h1 := h z (by simp)
   rw [List.length_cons, show ((zs.length + 1 : Nat) : Int) * E = (zs.length : Int) * E + E by rw [show ((zs.length + 1 : Nat) : Int) = (zs.length : Int) + 1 by omega, Int.add_mul, Int.one_mul]] at hb ⊢
   have hz : 0 ≤ (zs.length : Int) * E := Int.mul_nonneg (by omega) hE.1
   have e : addE c z = c + E := by unfold addE; rw [h1]; exact wr_id (by omega) (by omega)
   rw [List.foldl_cons, e, fold_eq hE zs (c + E) (fun y hy => h y (by simp [hy])) (by omega) (by omega)]
   omega
section
variable {A : Int} {L : Nat} {vs : List Int} {t : Nat}
theorem sum_at (ht : t < 4) (p k : Nat) : sumAt ((stretch L vs).map (tv t)) L p k = tv t (sumI (((stretch L vs).drop (p + k * L)).take L)) := by
 unfold sumAt
 rw [← List.map_drop, ← List.map_take, gsum_tv ht]
theorem part_len {q : Nat} (h : q + L ≤ vs.length * L) : (((stretch L vs).drop q).take L).length = L := by
 rw [List.length_take, List.length_drop, stretch_len]; omega
theorem part_all (hv : ∀ v ∈ vs, -A ≤ v ∧ v ≤ A) (q : Nat) : ∀ w ∈ ((stretch L vs).drop q).take L, -A ≤ w ∧ w ≤ A := fun w hw =>
 stretch_all (p := fun v => -A ≤ v ∧ v ≤ A) hv w (List.mem_of_mem_drop (List.mem_of_mem_take hw))
theorem LA_le (hA : 1 ≤ A ∧ A ≤ 2000) (hL : 1 ≤ L ∧ L ≤ 4) : 0 ≤ (L : Int) * A ∧ (L : Int) * A ≤ 8000 ∧ A ≤ (L : Int) * A := by
 have h1 : (L : Int) * A ≤ 4 * 2000 := Int.mul_le_mul (by omega) hA.2 (by omega) (by omega)
 have h2 : 1 * A ≤ (L : Int) * A := Int.mul_le_mul_of_nonneg_right (by omega) (by omega)
 omega
theorem best_zero (ht : t < 4) (hA : 1 ≤ A ∧ A ≤ 2000) (hL : 1 ≤ L ∧ L ≤ 4) (hv : ∀ v ∈ vs, v = A ∨ v = -A) (hn : vs.length ≤ 100) : bestN (enV ((stretch L vs).map (tv t)) L) (enV ((stretch L vs).map (tv t)) L).length = 0 := by
 let l := (stretch L vs).map (tv t)
 have hlen : l.length = vs.length * L := by show ((stretch L vs).map (tv t)).length = _; rw [List.length_map, stretch_len]
 have hN : vs.length * L ≤ 400 := Nat.mul_le_mul hn hL.2
 obtain ⟨la0, la1, _⟩ := LA_le hA hL
 have hv2 : ∀ v ∈ vs, -A ≤ v ∧ v ≤ A := fun v h => by rcases hv v h with rfl | rfl <;> omega
 let E : Int := ((L : Int) * A) * ((L : Int) * A)
 have hE : 0 ≤ E ∧ E ≤ 10000000000 := by
  have := sq_mono (s := (L : Int) * A) (F := 8000) (by omega) (by omega)
  exact ⟨Int.mul_nonneg la0 la0, by show ((L : Int) * A) * ((L : Int) * A) ≤ _; omega⟩
 have hc : cntS l L (L - 1) ≤ 400 := by have := cnt_le l L (L - 1); omega
 have hcE : (cntS l L (L - 1) : Int) * E ≤ 400 * 10000000000 := Int.mul_le_mul (by omega) hE.2 hE.1 (by omega)
 have henv : ∀ o, o < L → (enV l L).getD o 0 = enO l L o := by
  intro o ho
  unfold enV
  rw [List.getD_eq_getElem?_getD, List.getElem?_map, List.getElem?_range ho]
  rfl
 have hall : ∀ o, o < L → ∀ z ∈ (sumsV l L o).take (cntS l L (L - 1)), 0 ≤ enW z ∧ enW z ≤ E := by
  intro o _ z hz
  have hz := List.mem_of_mem_take hz
  obtain ⟨k, hk, rfl⟩ := List.mem_map.1 hz
  have hk := cnt_lt hL.1 (List.mem_range.1 hk)
  rw [hlen] at hk
  have hs := sum_at (L := L) (vs := vs) ht o k
  have hb := sumI_le (part_all (L := L) hv2 (o + k * L))
  rw [part_len hk] at hb
  show 0 ≤ enW (sumAt ((stretch L vs).map (tv t)) L o k) ∧ _
  rw [hs, enW_tv ht (by omega) (by omega)]
  refine ⟨?_, sq_mono hb.1 hb.2⟩
  rcases Int.le_total 0 (sumI (((stretch L vs).drop (o + k * L)).take L)) with h | h
  ·exact Int.mul_nonneg h h
  ·exact Int.mul_nonneg_of_nonpos_of_nonpos h h
 have htl : ∀ o, o < L → ((sumsV l L o).take (cntS l L (L - 1))).length = cntS l L (L - 1) := fun o ho => by
  have := cnt_mono (l := l) ho
  rw [List.length_take]; omega
 have hle : ∀ o, o < L → enO l L o ≤ (cntS l L (L - 1) : Int) * E := by
  intro o ho
  have := (fold_le hE ((sumsV l L o).take (cntS l L (L - 1))) 0 (hall o ho) (Int.le_refl _) (by rw [htl o ho]; omega)).2
  rw [htl o ho, Int.zero_add] at this
  exact this
 have heq : enO l L 0 = (cntS l L (L - 1) : Int) * E := by
  have := fold_eq hE ((sumsV l L 0).take (cntS l L (L - 1))) 0 (fun z hz => ?_) (Int.le_refl _) (by rw [htl 0 (by omega)]; omega)
  ·rw [htl 0 (by omega), Int.zero_add] at this
   exact this
  ·have hz := List.mem_of_mem_take hz
   obtain ⟨k, hk, rfl⟩ := List.mem_map.1 hz
   have hk := cnt_lt hL.1 (List.mem_range.1 hk)
   rw [hlen, Nat.zero_add] at hk
   have hkn : k < vs.length := by
    have : k * L < vs.length * L := by omega
    exact Nat.lt_of_mul_lt_mul_right this
   show enW (sumAt ((stretch L vs).map (tv t)) L 0 k) = E
   rw [sum_at ht, Nat.zero_add, stretch_part hkn, sumI_rep]
   have hvk := hv (vs.getD k 0) (by rw [List.getD_eq_getElem?_getD, List.getElem?_eq_getElem hkn]; exact List.getElem_mem hkn)
   rcases hvk with h | h
   ·rw [h, enW_tv ht (by omega) (by omega)]
   ·rw [h, Int.mul_neg, enW_tv ht (by omega) (by omega), Int.neg_mul_neg]
 have hlenV : (enV l L).length = L := by simp [enV]
 have hb := bestN_max (enV l L) L
 have hbl := bestN_lt (enV l L) (L - 1)
 rw [show L - 1 + 1 = L by omega] at hbl
 show bestN (enV l L) (enV l L).length = 0
 rw [hlenV]
 by_cases h0 : bestN (enV l L) L = 0
 ·exact h0
 ·have h1 := hb.2 0 (by omega)
  rw [henv 0 (by omega), henv _ hbl, heq] at h1
  have := hle _ hbl
  omega
theorem sums_own (hL : 1 ≤ L) : sumsV ((stretch L vs).map (tv 0)) L 0 = (List.range vs.length).map fun k => (((L : Int) * vs.getD k 0), (0 : Int)) := by
 unfold sumsV cntS
 rw [List.length_map, stretch_len, Nat.sub_zero, Nat.mul_div_cancel _ hL]
 apply List.map_congr_left
 intro k hk
 have hk := List.mem_range.1 hk
 rw [sum_at (by omega), Nat.zero_add, stretch_part hk, sumI_rep]
 rfl
theorem sq_fold {a b : Int} : ∀ (zs : Gs) (c : Int × Int), (∀ z ∈ zs, z.1 * z.1 = a ∧ z.2 * z.2 = b) → zs.foldl sqG c = (c.1 + (zs.length : Int) * a, c.2 + (zs.length : Int) * b)
 | [], c, _ => by simp
 | z :: zs, c, h => by
   obtain ⟨h1, h2⟩ := h z (by simp)
   rw [List.foldl_cons, sq_fold zs (sqG c z) fun y hy => h y (by simp [hy]), List.length_cons, show ((zs.length + 1 : Nat) : Int) = (zs.length : Int) + 1 by omega, Int.add_mul, Int.add_mul, Int.one_mul, Int.one_mul]
   unfold sqG
   rw [h1, h2]
   exact Prod.ext (by simp only; omega) (by simp only; omega)
theorem quarter_eq (ht : t < 4) (hA : 1 ≤ A ∧ A ≤ 2000) (hL : 1 ≤ L) (hv : ∀ v ∈ vs, v = A ∨ v = -A) (hn : 0 < vs.length) : bq ((stretch L vs).map (tv t)) = ((t % 2 : Nat) : Int) := by
 have hpos : 0 < A * A := Int.mul_pos (by omega) (by omega)
 have hN : 0 < vs.length * L := Nat.mul_pos hn hL
 have hNA : 0 < ((vs.length * L : Nat) : Int) * (A * A) := Int.mul_pos (by omega) hpos
 have hsq : ∀ v, v = A ∨ v = -A → v * v = A * A := fun v h => by rcases h with rfl | rfl; · rfl
                                                                 ·rw [Int.neg_mul_neg]
 have hst := stretch_all (L := L) (p := fun v => v = A ∨ v = -A) hv
 unfold bq sqs
 match t, ht with
 | 0, _ =>
   rw [sq_fold (a := A * A) (b := 0) _ (0, 0) fun z hz => by obtain ⟨v, h1, rfl⟩ := List.mem_map.1 hz; exact ⟨hsq v (hst v h1), rfl⟩, List.length_map, stretch_len, decide_eq_true (by simp only [Int.mul_zero]; omega)]
   rfl
 | 1, _ =>
   rw [sq_fold (a := 0) (b := A * A) _ (0, 0) fun z hz => by obtain ⟨v, h1, rfl⟩ := List.mem_map.1 hz; exact ⟨rfl, hsq v (hst v h1)⟩, List.length_map, stretch_len, decide_eq_false (by simp only [Int.mul_zero]; omega)]
   rfl
 | 2, _ =>
   rw [sq_fold (a := A * A) (b := 0) _ (0, 0) fun z hz => by obtain ⟨v, h1, rfl⟩ := List.mem_map.1 hz; exact ⟨by show -v * -v = _; rw [Int.neg_mul_neg]; exact hsq v (hst v h1), rfl⟩, List.length_map, stretch_len, decide_eq_true (by simp only [Int.mul_zero]; omega)]
   rfl
 | 3, _ =>
   rw [sq_fold (a := 0) (b := A * A) _ (0, 0) fun z hz => by obtain ⟨v, h1, rfl⟩ := List.mem_map.1 hz; exact ⟨rfl, by show -v * -v = _; rw [Int.neg_mul_neg]; exact hsq v (hst v h1)⟩, List.length_map, stretch_len, decide_eq_false (by simp only [Int.mul_zero]; omega)]
   rfl
theorem sv_zero {F : Int} : sv 0 F = 0 := by
 unfold sv
 have e : wr (7 * 0) = 0 := by decide
 have e2 : wr 0 = 0 := by decide
 rw [e, Int.zero_tdiv, e2]
 decide
theorem sv_bit {F b : Int} (hF : 1 ≤ F ∧ F ≤ 8000) (hb : b = 0 ∨ b = 1) : sv (F * (1 - 2 * b)) F = 7 * (1 - 2 * b) := by
 unfold sv
 rcases hb with rfl | rfl
 ·have e1 : wr (7 * (F * (1 - 2 * 0))) = 7 * F := by rw [show F * (1 - 2 * 0) = F by omega]; exact wr_id (by omega) (by omega)
  rw [e1, Int.mul_tdiv_cancel _ (by omega)]
  decide
 ·have e1 : wr (7 * (F * (1 - 2 * 1))) = (-7) * F := by rw [show F * (1 - 2 * 1) = -F by omega, show 7 * -F = -7 * F by omega]; exact wr_id (by omega) (by omega)
  rw [e1, Int.mul_tdiv_cancel _ (by omega)]
  decide
end
end Go.Proofs.Ythckjfbhdjjnkaa
