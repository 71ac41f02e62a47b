/- The energies of all offsets, the best offset, and the sums from an offset. -/
import Derived.Test.YthckjfbhdjjnkaaValuesLaw
set_option linter.unusedSimpArgs false
namespace Go.Proofs.Ythckjfbhdjjnkaa
open Go.Ev
def cntS (l : Gs) (L p : Nat) : Nat := (l.length - p) / L
def sumAt (l : Gs) (L p k : Nat) : Int × Int := gsum ((l.drop (p + k * L)).take L)
def sumsV (l : Gs) (L p : Nat) : Gs := (List.range (cntS l L p)).map (sumAt l L p)
theorem cnt_lt {l : Gs} {L p k : Nat} (hL : 1 ≤ L) (h : k < cntS l L p) : p + k * L + L ≤ l.length := by
 have h1 : (k + 1) * L ≤ l.length - p := (Nat.le_div_iff_mul_le hL).1 h
 rw [Nat.add_mul, Nat.one_mul] at h1
 omega
theorem cnt_end {l : Gs} {L p : Nat} (hL : 1 ≤ L) : ¬ p + cntS l L p * L + L ≤ l.length := by
 intro h
 have h1 : (cntS l L p + 1) * L ≤ l.length - p := by rw [Nat.add_mul, Nat.one_mul]; omega
 have := (Nat.le_div_iff_mul_le hL).2 h1
 unfold cntS at this
 omega
theorem cnt_mul (l : Gs) (L p : Nat) : cntS l L p * L ≤ l.length - p := Nat.div_mul_le_self _ _
theorem cnt_le (l : Gs) (L p : Nat) : cntS l L p ≤ l.length := Nat.le_trans (Nat.div_le_self _ _) (Nat.sub_le _ _)
theorem next_at {L p k : Nat} : p + k * L + L = p + (k + 1) * L := by rw [Nat.add_mul, Nat.one_mul, Nat.add_assoc]
theorem s41_eq {l : Gs} {L p : Nat} (hL : 1 ≤ L ∧ L ≤ 16) (hp : p ≤ 100) (hok : ∀ x ∈ l, okS x = true) (hl : l.length ≤ 400) : s41 (l, (L : Int), (p : Int)) = some (sumsV l L p) := by
 unfold s41
 have hc := cnt_le l L p
 have c1 : ∀ a b : Nat, decide (((a : Nat) : Int) ≤ (b : Int)) = decide (a ≤ b) := fun a b => by simp
 have h1 := loop_for (step := step41_0) (st := fun k => (l, (L : Int), (List.range k).map (sumAt l L p), ((p + k * L : Nat) : Int))) (n := cntS l L p) (e := sumsV l L p)
  (fun k hk => by
    have hb := cnt_lt hL.1 hk
    have e1 : wr (((p + k * L : Nat) : Int) + (L : Int)) = ((p + (k + 1) * L : Nat) : Int) := by rw [wr_id (by omega) (by omega), ← next_at]; omega
    have d1 : ((l.take (p + (k + 1) * L)).drop (p + k * L)) = (l.drop (p + k * L)).take L := by rw [List.drop_take, ← next_at, Nat.add_sub_cancel_left]
    have s1 := s59_eq (l := (l.drop (p + k * L)).take L) (fun x hx => hok x (List.mem_of_mem_drop (List.mem_of_mem_take hx))) (by rw [List.length_take]; omega)
    simp only [step41_0, e1, c1, Int.toNat_natCast, d1, s1, optE_some]
    rw [← next_at] at *
    rw [decide_eq_true hb, decide_eq_true (show p + k * L ≤ p + k * L + L by omega), decide_eq_true (show (0 : Int) ≤ ((p + k * L : Nat) : Int) by omega), room_true (by simp; omega) (by simp; omega)]
    simp only [cond_true, Bool.and_true]
    rw [← range_map_succ (sumAt l L p) k]
    rfl)
  (by
    have hb := cnt_end (l := l) (p := p) hL.1
    have hm := cnt_mul l L p
    have e1 : wr (((p + cntS l L p * L : Nat) : Int) + (L : Int)) = ((p + cntS l L p * L + L : Nat) : Int) := by rw [wr_id (by omega) (by omega)]; omega
    simp only [step41_0, e1, c1]
    rw [decide_eq_false hb, cond_false]
    rfl) 0 (by omega)
 simp only [List.range_zero, List.map_nil, Nat.zero_mul, Nat.add_zero] at h1
 simp only [h1, optE_some]
def addE (a : Int) (z : Int × Int) : Int := wr (a + enW z)
def enO (l : Gs) (L o : Nat) : Int := ((sumsV l L o).take (cntS l L (L - 1))).foldl addE 0
def enV (l : Gs) (L : Nat) : List Int := (List.range L).map (enO l L)
theorem cnt_mono {l : Gs} {L o : Nat} (h : o < L) : cntS l L (L - 1) ≤ (sumsV l L o).length := by
 simp only [sumsV, List.length_map, List.length_range]
 exact Nat.div_le_div_right (by omega)
def eE (l : Gs) (n : Int) : Int := firstE [sE l, unl (win n 1 16) 2]
theorem s38_eq (l : Gs) (n : Int) (hl : l.length ≤ 1000000) : s38 (l, n) = some (eE l n) := by
 unfold s38 eE
 simp only [s33_eq l hl, s40_eq, s39_eq, optE_some]
 rw [s37_eq _ (by simp)]
 rfl
theorem eE_ok {l : Gs} {n : Int} (h : eE l n = 0) : sE l = 0 ∧ ∃ L : Nat, n = (L : Int) ∧ 1 ≤ L ∧ L ≤ 16 := by
 have hz := firstE_zero.1 h
 have hn := win_iff.1 (unl_zero (b := win n 1 16) (e := 2) (by decide) (hz (unl (win n 1 16) 2) (by simp)))
 exact ⟨hz (sE l) (by simp), n.toNat, by omega, by omega, by omega⟩
section
variable {l : Gs} {L : Nat}
theorem inner_a (c : Int) (out : List Int) (a b : Int) (T : Gs) (hT : T.length ≤ 400) : loopVal step34_2 (l, (L : Int), c, out, 0, a, b, T, (T.length : Int), 0) = some (l, (L : Int), c, out, T.foldl addE 0, a, b) := by
 have h1 := loop_for (step := step34_2) (st := fun k => (l, (L : Int), c, out, (T.take k).foldl addE 0, a, b, T, (T.length : Int), (k : Int))) (n := T.length) (e := (l, (L : Int), c, out, T.foldl addE 0, a, b))
  (fun k hk => by
    simp only [step34_2, lt_cast, inB_cast, hk, decide_true, cond_true, Int.toNat_natCast, s58_eq, optE_some, wr_succ (show k < 4611686018427387904 by omega)]
    rw [← foldl_take_succ addE 0 T (0, 0) hk]
    rfl) (by simp only [step34_2, lt_cast, Nat.lt_irrefl, decide_false, cond_false, List.take_length]) 0 (by omega)
 exact h1
theorem last_off (hL : 1 ≤ L ∧ L ≤ 16) : wr ((L : Int) - 1) = ((L - 1 : Nat) : Int) := by rw [wr_id (by omega) (by omega)]; omega
theorem energies_a (hL : 1 ≤ L ∧ L ≤ 16) (hok : ∀ x ∈ l, okS x = true) (hl : l.length ≤ 400) : loopVal step34_0 (l, (L : Int), ((sumsV l L (L - 1)).length : Int), [], (L : Int), 0) = some (enV l L) := by
 have hsl : (sumsV l L (L - 1)).length = cntS l L (L - 1) := by simp [sumsV]
 have hcl := cnt_le l L (L - 1)
 rw [hsl]
 have h1 := loop_for (step := step34_0) (st := fun k => (l, (L : Int), (cntS l L (L - 1) : Int), (List.range k).map (enO l L), (L : Int), (k : Int))) (n := L) (e := enV l L)
  (fun k hk => by
    have hm := cnt_mono (l := l) hk
    have s1 := s41_eq (l := l) (p := k) hL (by omega) hok hl
    have i1 := inner_a (l := l) (L := L) (cntS l L (L - 1) : Int) ((List.range k).map (enO l L)) (L : Int) (k : Int) ((sumsV l L k).take (cntS l L (L - 1))) (by rw [List.length_take]; omega)
    simp only [step34_0, lt_cast, hk, decide_true, cond_true, s1, optE_some, Int.toNat_natCast]
    rw [decide_eq_true (show (0 : Int) ≤ (cntS l L (L - 1) : Int) by omega), decide_eq_true (show (cntS l L (L - 1) : Int) ≤ ((sumsV l L k).length : Int) by omega)]
    simp only [Bool.and_true, cond_true, i1, optE_some]
    rw [room_true (by simp; omega) (by simp; omega), wr_succ (by omega)]
    simp only [cond_true]
    rw [← range_map_succ (enO l L) k]
    rfl) (by simp only [step34_0, lt_cast, Nat.lt_irrefl, decide_false, cond_false]; rfl) 0 (by omega)
 rw [show ((0 : Nat) : Int) = 0 from rfl] at h1
 simp only [List.range_zero, List.map_nil] at h1
 exact h1
end
theorem s34_eq {l : Gs} {L : Nat} (hL : 1 ≤ L ∧ L ≤ 16) (h : eE l (L : Int) = 0) : s34 (l, (L : Int)) = some (enV l L, 0) := by
 obtain ⟨hl, hok⟩ := sE_ok (eE_ok h).1
 unfold s34
 simp only [s38_eq l (L : Int) (by omega), h, optE_some, bne_self_eq_false, cond_false, last_off hL, s41_eq (p := L - 1) hL (by omega) hok hl, energies_a hL hok hl]
def bestN (a : List Int) : Nat → Nat
 | 0 => 0
 | k + 1 => if a.getD k 0 > a.getD (bestN a k) 0 then k else bestN a k
theorem bestN_lt (a : List Int) : ∀ k, bestN a (k + 1) < k + 1
 | 0 => by simp [bestN]
 | k + 1 => by
   have := bestN_lt a k
   rw [bestN]
   split <;> omega
theorem bestN_max (a : List Int) : ∀ k, (∀ j, j < k → a.getD j 0 ≤ a.getD (bestN a k) 0) ∧ ∀ j, j < bestN a k → a.getD j 0 < a.getD (bestN a k) 0
 | 0 => ⟨fun j h => by omega, fun j h => by simp [bestN] at h⟩
 | k + 1 => by
   obtain ⟨h1, h2⟩ := bestN_max a k
   rw [bestN]
   split
   ·rename_i g
    refine ⟨fun j hj => ?_, fun j hj => ?_⟩
    ·by_cases e : j = k
     ·rw [e]; omega
     ·have := h1 j (by omega); omega
    ·have := h1 j hj; omega
   ·rename_i g
    refine ⟨fun j hj => ?_, h2⟩
    by_cases e : j = k
    ·rw [e]; omega
    ·exact h1 j (by omega)
theorem max_best (a : List Int) (h0 : 1 ≤ a.length) (hl : a.length ≤ 400) : s36 a = some (a.getD (bestN a a.length) 0) := by
 unfold s36
 have h1 := loop_for (step := step36_0) (st := fun k => (a, a.getD (bestN a (k + 1)) 0, ((k + 1 : Nat) : Int))) (n := a.length - 1) (e := a.getD (bestN a a.length) 0)
  (fun k hk => by
    simp only [step36_0, lt_cast, inB_cast, Int.toNat_natCast, wr_succ (show k + 1 < 4611686018427387904 by omega)]
    rw [decide_eq_true (show k + 1 < a.length by omega)]
    have : mx (a.getD (bestN a (k + 1)) 0) (a.getD (k + 1) 0) = a.getD (bestN a (k + 1 + 1)) 0 := by
     unfold mx
     rw [show bestN a (k + 1 + 1) = if a.getD (k + 1) 0 > a.getD (bestN a (k + 1)) 0 then k + 1 else bestN a (k + 1) from rfl]
     split <;> rfl
    rw [this]
    rfl)
  (by
    simp only [step36_0, lt_cast]
    rw [show a.length - 1 + 1 = a.length by omega, decide_eq_false (Nat.lt_irrefl _), cond_false]) 0 (by omega)
 have e0 : bestN a (0 + 1) = 0 := by simp [bestN]
 rw [e0] at h1
 have h1 : loopVal step36_0 (a, a.getD 0 0, 1) = some (a.getD (bestN a a.length) 0) := h1
 have e1 : inBounds 0 a.length = true := by
  have := inB_cast (k := 0) (n := a.length)
  rw [decide_eq_true (by omega)] at this
  exact this
 rw [decide_eq_false (show ¬ ((a.length : Int) < 1) by omega), cond_false, e1, cond_true, h1, optE_some]
theorem index_best (a : List Int) (h0 : 1 ≤ a.length) (hl : a.length ≤ 400) : s35 (a, a.getD (bestN a a.length) 0) = some (bestN a a.length : Int) := by
 unfold s35
 generalize hb : bestN a a.length = b
 have hm := bestN_max a a.length
 have hlt : b < a.length := by
  have := bestN_lt a (a.length - 1)
  rw [show a.length - 1 + 1 = a.length by omega, hb] at this
  exact this
 rw [hb] at hm
 have h1 := loop_for (step := step35_0) (st := fun k => (a, a.getD b 0, (a.length : Int), (k : Int))) (n := b) (e := Sum.inl (b : Int))
  (fun k hk => by
    have := hm.2 k hk
    simp only [step35_0, lt_cast, inB_cast, decide_eq_true (show k < a.length by omega), cond_true, Int.toNat_natCast, beq_eq_false_iff_ne.2 (show a.getD b 0 ≠ a.getD k 0 by omega), cond_false, wr_succ (show k < 4611686018427387904 by omega)])
  (by simp only [step35_0, lt_cast, inB_cast, decide_eq_true hlt, cond_true, Int.toNat_natCast, beq_self_eq_true]) 0 (by omega)
 rw [show ((0 : Nat) : Int) = 0 from rfl] at h1
 simp only [h1, optE_some, sumE]
theorem gausses_self (s : Gs) (h : s.length ≤ 1000000) : s12 (s, s) = some true := by
 unfold s12
 have h1 := loop_for (step := step12_0) (st := fun k => (s, s, (k : Int))) (n := s.length) (e := .inr ()) (fun k hk => by
  simp only [step12_0, lt_cast, inB_cast, hk, decide_true, cond_true, Int.toNat_natCast, beq_self_eq_true, Bool.and_true, Bool.not_true, cond_false, wr_succ (show k < 4611686018427387904 by omega)]) (by simp only [step12_0, lt_cast, Nat.lt_irrefl, decide_false, cond_false]) 0 (by omega)
 rw [show ((0 : Nat) : Int) = 0 from rfl] at h1
 simp only [bne_self_eq_false, cond_false, h1, optE_some, sumE_r]
end Go.Proofs.Ythckjfbhdjjnkaa
