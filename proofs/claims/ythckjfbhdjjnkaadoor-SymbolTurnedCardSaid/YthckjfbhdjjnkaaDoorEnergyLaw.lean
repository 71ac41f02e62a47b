import Derived.Test.YthckjfbhdjjnkaaDoorGd5
import Derived.Test.YthckjfbhdjjnkaaDoorSamples
set_option linter.unusedSimpArgs false
namespace Go.Proofs.YthckjfbhdjjnkaaDoor
open Go.Ev
def cntS (l : Gs) (L p : Nat) : Nat := (l.length - p) / L
def sumAt (l : Gs) (L p k : Nat) : Int × Int := gsum ((l.drop (p + k * L)).take L)
def sumsV (l : Gs) (L p : Nat) : Gs := (List.range (cntS l L p)).map (sumAt l L p)
theorem cnt_lt {l : Gs} {L p k : Nat} (hL : 1 ≤ L) (h : k < cntS l L p) : p + k * L + L ≤ l.length := by
 have h1 : (k + 1) * L ≤ l.length - p := (Nat.le_div_iff_mul_le hL).1 h
 rw [Nat.add_mul, Nat.one_mul] at h1
 omega
theorem cnt_end {l : Gs} {L p : Nat} (hL : 1 ≤ L) : ¬ p + cntS l L p * L + L ≤ l.length := by
 intro h
 have h1 : (cntS l L p + 1) * L ≤ l.length - p := by rw [Nat.add_mul, Nat.one_mul]; omega
 have := (Nat.le_div_iff_mul_le hL).2 h1
 unfold cntS at this
 omega
theorem cnt_mul (l : Gs) (L p : Nat) : cntS l L p * L ≤ l.length - p := Nat.div_mul_le_self _ _
theorem cnt_le (l : Gs) (L p : Nat) : cntS l L p ≤ l.length := Nat.le_trans (Nat.div_le_self _ _) (Nat.sub_le _ _)
theorem next_at {L p k : Nat} : p + k * L + L = p + (k + 1) * L := by rw [Nat.add_mul, Nat.one_mul, Nat.add_assoc]
theorem s110_eq {l : Gs} {L p : Nat} (hL : 1 ≤ L ∧ L ≤ 16) (hp : p ≤ 100) (hok : ∀ x ∈ l, okS x = true) (hl : l.length ≤ 400) : s110 (l, (L : Int), (p : Int)) = some (sumsV l L p) := by
 unfold s110
 have hc := cnt_le l L p
 have c1 : ∀ a b : Nat, decide (((a : Nat) : Int) ≤ (b : Int)) = decide (a ≤ b) := fun a b => by simp
 have h1 := loop_for (step := step110_0) (st := fun k => (l, (L : Int), (List.range k).map (sumAt l L p), ((p + k * L : Nat) : Int))) (n := cntS l L p) (e := sumsV l L p)
  (fun k hk => by
    have hb := cnt_lt hL.1 hk
    have e1 : wr (((p + k * L : Nat) : Int) + (L : Int)) = ((p + (k + 1) * L : Nat) : Int) := by rw [wr_id (by omega) (by omega), ← next_at]; omega
    have d1 : ((l.take (p + (k + 1) * L)).drop (p + k * L)) = (l.drop (p + k * L)).take L := by rw [List.drop_take, ← next_at, Nat.add_sub_cancel_left]
    have s1 := s96_eq (l := (l.drop (p + k * L)).take L) (fun x hx => hok x (List.mem_of_mem_drop (List.mem_of_mem_take hx))) (by rw [List.length_take]; omega)
    simp only [step110_0, e1, c1, Int.toNat_natCast, d1, s1, optE_some]
    rw [← next_at] at *
    rw [decide_eq_true hb, decide_eq_true (show p + k * L ≤ p + k * L + L by omega), decide_eq_true (show (0 : Int) ≤ ((p + k * L : Nat) : Int) by omega), room_true (by simp; omega) (by simp; omega)]
    simp only [cond_true, Bool.and_true]
    rw [← range_map_succ (sumAt l L p) k]
    rfl)
  (by
    have hb := cnt_end (l := l) (p := p) hL.1
    have hm := cnt_mul l L p
    have e1 : wr (((p + cntS l L p * L : Nat) : Int) + (L : Int)) = ((p + cntS l L p * L + L : Nat) : Int) := by rw [wr_id (by omega) (by omega)]; omega
    simp only [step110_0, e1, c1]
    rw [decide_eq_false hb, cond_false]
    rfl) 0 (by omega)
 simp only [List.range_zero, List.map_nil, Nat.zero_mul, Nat.add_zero] at h1
 simp only [h1, optE_some]
theorem s73_eq {l : Gs} {L p : Nat} (hL : 1 ≤ L ∧ L ≤ 16) (hp : p ≤ 100) (hok : ∀ x ∈ l, okS x = true) (hl : l.length ≤ 400) : s73 (l, (L : Int), (p : Int)) = some (sumsV l L p) := by
 unfold s73
 have hc := cnt_le l L p
 have c1 : ∀ a b : Nat, decide (((a : Nat) : Int) ≤ (b : Int)) = decide (a ≤ b) := fun a b => by simp
 have h1 := loop_for (step := step73_0) (st := fun k => (l, (L : Int), (List.range k).map (sumAt l L p), ((p + k * L : Nat) : Int))) (n := cntS l L p) (e := sumsV l L p)
  (fun k hk => by
    have hb := cnt_lt hL.1 hk
    have e1 : wr (((p + k * L : Nat) : Int) + (L : Int)) = ((p + k * L + L : Nat) : Int) := by rw [wr_id (by omega) (by omega)]; omega
    have s1 := s99_eq hok hl (a := p + k * L) (n := L) hb
    simp only [step73_0, e1, c1, s1, optE_some]
    rw [decide_eq_true hb, room_true (by simp; omega) (by simp; omega)]
    simp only [cond_true]
    rw [← range_map_succ (sumAt l L p) k, next_at]
    rfl)
  (by
    have hb := cnt_end (l := l) (p := p) hL.1
    have hm := cnt_mul l L p
    have e1 : wr (((p + cntS l L p * L : Nat) : Int) + (L : Int)) = ((p + cntS l L p * L + L : Nat) : Int) := by rw [wr_id (by omega) (by omega)]; omega
    simp only [step73_0, e1, c1]
    rw [decide_eq_false hb, cond_false]
    rfl) 0 (by omega)
 simp only [List.range_zero, List.map_nil, Nat.zero_mul, Nat.add_zero] at h1
 simp only [h1, optE_some]
def addE (a : Int) (z : Int × Int) : Int := wr (a + enW z)
def enO (l : Gs) (L o : Nat) : Int := ((sumsV l L o).take (cntS l L (L - 1))).foldl addE 0
def enV (l : Gs) (L : Nat) : List Int := (List.range L).map (enO l L)
theorem cnt_mono {l : Gs} {L o : Nat} (h : o < L) : cntS l L (L - 1) ≤ (sumsV l L o).length := by
 simp only [sumsV, List.length_map, List.length_range]
 exact Nat.div_le_div_right (by omega)
def eE (l : Gs) (n : Int) : Int := firstE [sE l, unl (win n 1 16) 2]
theorem s109_eq (l : Gs) (n : Int) (hl : l.length ≤ 1000000) : s109 (l, n) = some (eE l n) := by
 unfold s109 eE
 simp only [s94_eq l hl, s79_eq, s82_eq, optE_some]
 rw [s80_eq _ (by simp)]
 rfl
theorem s69_eq (n : Int) : s69 n = some (unl (win n 1 16) 2) := by
 unfold s69
 simp only [s28_eq, optE_some]
 cases win n 1 16 <;> rfl
theorem eE_ok {l : Gs} {n : Int} (h : eE l n = 0) : sE l = 0 ∧ ∃ L : Nat, n = (L : Int) ∧ 1 ≤ L ∧ L ≤ 16 := by
 have hz := firstE_zero.1 h
 have hn := win_iff.1 (unl_zero (b := win n 1 16) (e := 2) (by decide) (hz (unl (win n 1 16) 2) (by simp)))
 exact ⟨hz (sE l) (by simp), n.toNat, by omega, by omega, by omega⟩
section
variable {l : Gs} {L : Nat}
theorem inner_a (c : Int) (out : List Int) (a b : Int) (T : Gs) (hT : T.length ≤ 400) : loopVal step66_2 (l, (L : Int), c, out, 0, a, b, T, (T.length : Int), 0) = some (l, (L : Int), c, out, T.foldl addE 0, a, b) := by
 have h1 := loop_for (step := step66_2) (st := fun k => (l, (L : Int), c, out, (T.take k).foldl addE 0, a, b, T, (T.length : Int), (k : Int))) (n := T.length) (e := (l, (L : Int), c, out, T.foldl addE 0, a, b))
  (fun k hk => by
    simp only [step66_2, lt_cast, inB_cast, hk, decide_true, cond_true, Int.toNat_natCast, s95_eq, optE_some, wr_succ (show k < 4611686018427387904 by omega)]
    rw [← foldl_take_succ addE 0 T (0, 0) hk]
    rfl) (by simp only [step66_2, lt_cast, Nat.lt_irrefl, decide_false, cond_false, List.take_length]) 0 (by omega)
 exact h1
theorem inner_b (c : Nat) (out : List Int) (o : Int) (S : Gs) (hc : c ≤ S.length) (hS : c ≤ 400) : loopVal step70_2 (l, (L : Int), (c : Int), out, o, S, 0, 0) = some (l, (L : Int), (c : Int), out, o, (S.take c).foldl addE 0) := by
 have h1 := loop_for (step := step70_2) (st := fun k => (l, (L : Int), (c : Int), out, o, S, (S.take k).foldl addE 0, (k : Int))) (n := c) (e := (l, (L : Int), (c : Int), out, o, (S.take c).foldl addE 0))
  (fun k hk => by
    simp only [step70_2, lt_cast, inB_cast, hk, decide_eq_true (show k < S.length by omega), decide_true, cond_true, Int.toNat_natCast, s98_eq, optE_some, wr_succ (show k < 4611686018427387904 by omega)]
    rw [← foldl_take_succ addE 0 S (0, 0) (by omega)]
    rfl) (by simp only [step70_2, lt_cast, Nat.lt_irrefl, decide_false, cond_false]) 0 (by omega)
 exact h1
theorem last_off (hL : 1 ≤ L ∧ L ≤ 16) : wr ((L : Int) - 1) = ((L - 1 : Nat) : Int) := by rw [wr_id (by omega) (by omega)]; omega
theorem energies_a (hL : 1 ≤ L ∧ L ≤ 16) (hok : ∀ x ∈ l, okS x = true) (hl : l.length ≤ 400) : loopVal step66_0 (l, (L : Int), ((sumsV l L (L - 1)).length : Int), [], (L : Int), 0) = some (enV l L) := by
 have hsl : (sumsV l L (L - 1)).length = cntS l L (L - 1) := by simp [sumsV]
 have hcl := cnt_le l L (L - 1)
 rw [hsl]
 have h1 := loop_for (step := step66_0) (st := fun k => (l, (L : Int), (cntS l L (L - 1) : Int), (List.range k).map (enO l L), (L : Int), (k : Int))) (n := L) (e := enV l L)
  (fun k hk => by
    have hm := cnt_mono (l := l) hk
    have s1 := s110_eq (l := l) (p := k) hL (by omega) hok hl
    have i1 := inner_a (l := l) (L := L) (cntS l L (L - 1) : Int) ((List.range k).map (enO l L)) (L : Int) (k : Int) ((sumsV l L k).take (cntS l L (L - 1))) (by rw [List.length_take]; omega)
    simp only [step66_0, lt_cast, hk, decide_true, cond_true, s1, optE_some, Int.toNat_natCast]
    rw [decide_eq_true (show (0 : Int) ≤ (cntS l L (L - 1) : Int) by omega), decide_eq_true (show (cntS l L (L - 1) : Int) ≤ ((sumsV l L k).length : Int) by omega)]
    simp only [Bool.and_true, cond_true, i1, optE_some]
    rw [room_true (by simp; omega) (by simp; omega), wr_succ (by omega)]
    simp only [cond_true]
    rw [← range_map_succ (enO l L) k]
    rfl) (by simp only [step66_0, lt_cast, Nat.lt_irrefl, decide_false, cond_false]; rfl) 0 (by omega)
 rw [show ((0 : Nat) : Int) = 0 from rfl] at h1
 simp only [List.range_zero, List.map_nil] at h1
 exact h1
theorem energies_b (hL : 1 ≤ L ∧ L ≤ 16) (hok : ∀ x ∈ l, okS x = true) (hl : l.length ≤ 400) : loopVal step70_0 (l, (L : Int), ((sumsV l L (L - 1)).length : Int), [], 0) = some (enV l L) := by
 have hsl : (sumsV l L (L - 1)).length = cntS l L (L - 1) := by simp [sumsV]
 have hcl := cnt_le l L (L - 1)
 rw [hsl]
 have h1 := loop_for (step := step70_0) (st := fun k => (l, (L : Int), (cntS l L (L - 1) : Int), (List.range k).map (enO l L), (k : Int))) (n := L) (e := enV l L)
  (fun k hk => by
    have hm := cnt_mono (l := l) hk
    have s1 := s73_eq (l := l) (p := k) hL (by omega) hok hl
    have i1 := inner_b (l := l) (L := L) (cntS l L (L - 1)) ((List.range k).map (enO l L)) (k : Int) (sumsV l L k) hm (by omega)
    simp only [step70_0, lt_cast, hk, decide_true, cond_true, s1, optE_some, i1]
    rw [room_true (by simp; omega) (by simp; omega), wr_succ (by omega)]
    simp only [cond_true]
    rw [← range_map_succ (enO l L) k]
    rfl) (by simp only [step70_0, lt_cast, Nat.lt_irrefl, decide_false, cond_false]; rfl) 0 (by omega)
 rw [show ((0 : Nat) : Int) = 0 from rfl] at h1
 simp only [List.range_zero, List.map_nil] at h1
 exact h1
end
theorem s66_bad {l : Gs} {n : Int} (hl : l.length ≤ 1000000) (h : eE l n ≠ 0) : s66 (l, n) = some ([], eE l n) := by
 unfold s66
 simp only [s109_eq l n hl, optE_some, bne_iff_ne.2 h, cond_true]
theorem s66_eq {l : Gs} {L : Nat} (hL : 1 ≤ L ∧ L ≤ 16) (h : eE l (L : Int) = 0) : s66 (l, (L : Int)) = some (enV l L, 0) := by
 obtain ⟨hl, hok⟩ := sE_ok (eE_ok h).1
 unfold s66
 simp only [s109_eq l (L : Int) (by omega), h, optE_some, bne_self_eq_false, cond_false, last_off hL, s110_eq (p := L - 1) hL (by omega) hok hl, energies_a hL hok hl]
theorem s70_eq {l : Gs} {L : Nat} (hL : 1 ≤ L ∧ L ≤ 16) (h : sE l = 0) : s70 (l, (L : Int)) = some (enV l L) := by
 obtain ⟨hl, hok⟩ := sE_ok h
 unfold s70
 simp only [optE_some, last_off hL, s73_eq (p := L - 1) hL (by omega) hok hl, energies_b hL hok hl]
def bestN (a : List Int) : Nat → Nat
 | 0 => 0
 | k + 1 => if a.getD k 0 > a.getD (bestN a k) 0 then k else bestN a k
theorem bestN_lt (a : List Int) : ∀ k, bestN a (k + 1) < k + 1
 | 0 => by simp [bestN]
 | k + 1 => by
   have := bestN_lt a k
   rw [bestN]
   split <;> omega
theorem bestN_le (a : List Int) (k : Nat) : bestN a k ≤ k := by
 cases k with
 | zero => exact Nat.le_refl _
 | succ k => have := bestN_lt a k; omega
theorem bestN_max (a : List Int) : ∀ k, (∀ j, j < k → a.getD j 0 ≤ a.getD (bestN a k) 0) ∧ ∀ j, j < bestN a k → a.getD j 0 < a.getD (bestN a k) 0
 | 0 => ⟨fun j h => by omega, fun j h => by simp [bestN] at h⟩
 | k + 1 => by
   obtain ⟨h1, h2⟩ := bestN_max a k
   rw [bestN]
   split
   ·rename_i g
    refine ⟨fun j hj => ?_, fun j hj => ?_⟩
    ·by_cases e : j = k
     ·rw [e]; omega
     ·have := h1 j (by omega); omega
    ·have := h1 j hj; omega
   ·rename_i g
    refine ⟨fun j hj => ?_, h2⟩
    by_cases e : j = k
    ·rw [e]; omega
    ·exact h1 j (by omega)
theorem max_best (a : List Int) (h0 : 1 ≤ a.length) (hl : a.length ≤ 400) : s112 a = some (a.getD (bestN a a.length) 0) := by
 unfold s112
 have h1 := loop_for (step := step112_0) (st := fun k => (a, a.getD (bestN a (k + 1)) 0, ((k + 1 : Nat) : Int))) (n := a.length - 1) (e := a.getD (bestN a a.length) 0)
  (fun k hk => by
    simp only [step112_0, lt_cast, inB_cast, Int.toNat_natCast, wr_succ (show k + 1 < 4611686018427387904 by omega)]
    rw [decide_eq_true (show k + 1 < a.length by omega)]
    have : mx (a.getD (bestN a (k + 1)) 0) (a.getD (k + 1) 0) = a.getD (bestN a (k + 1 + 1)) 0 := by
     unfold mx
     rw [show bestN a (k + 1 + 1) = if a.getD (k + 1) 0 > a.getD (bestN a (k + 1)) 0 then k + 1 else bestN a (k + 1) from rfl]
     split <;> rfl
    rw [this]
    rfl)
  (by
    simp only [step112_0, lt_cast]
    rw [show a.length - 1 + 1 = a.length by omega, decide_eq_false (Nat.lt_irrefl _), cond_false]) 0 (by omega)
 have e0 : bestN a (0 + 1) = 0 := by simp [bestN]
 rw [e0] at h1
 have h1 : loopVal step112_0 (a, a.getD 0 0, 1) = some (a.getD (bestN a a.length) 0) := h1
 have e1 : inBounds 0 a.length = true := by
  have := inB_cast (k := 0) (n := a.length)
  rw [decide_eq_true (by omega)] at this
  exact this
 rw [decide_eq_false (show ¬ ((a.length : Int) < 1) by omega), cond_false, e1, cond_true, h1, optE_some]
theorem index_best (a : List Int) (h0 : 1 ≤ a.length) (hl : a.length ≤ 400) : s111 (a, a.getD (bestN a a.length) 0) = some (bestN a a.length : Int) := by
 unfold s111
 generalize hb : bestN a a.length = b
 have hm := bestN_max a a.length
 have hlt : b < a.length := by
  have := bestN_lt a (a.length - 1)
  rw [show a.length - 1 + 1 = a.length by omega, hb] at this
  exact this
 rw [hb] at hm
 have h1 := loop_for (step := step111_0) (st := fun k => (a, a.getD b 0, (a.length : Int), (k : Int))) (n := b) (e := Sum.inl (b : Int))
  (fun k hk => by
    have := hm.2 k hk
    simp only [step111_0, lt_cast, inB_cast, decide_eq_true (show k < a.length by omega), cond_true, Int.toNat_natCast, beq_eq_false_iff_ne.2 (show a.getD b 0 ≠ a.getD k 0 by omega), cond_false, wr_succ (show k < 4611686018427387904 by omega)])
  (by simp only [step111_0, lt_cast, inB_cast, decide_eq_true hlt, cond_true, Int.toNat_natCast, beq_self_eq_true]) 0 (by omega)
 rw [show ((0 : Nat) : Int) = 0 from rfl] at h1
 simp only [h1, optE_some, sumE]
theorem ref_best (a : List Int) (hl : a.length ≤ 400) : loopVal step71_0 (a, 0, 0) = some (bestN a a.length : Int) := by
 have h1 := loop_for (step := step71_0) (st := fun k => (a, (bestN a k : Int), (k : Int))) (n := a.length) (e := (bestN a a.length : Int))
  (fun k hk => by
    have := bestN_le a k
    simp only [step71_0, lt_cast, inB_cast, hk, decide_true, decide_eq_true (show bestN a k < a.length by omega), cond_true, Int.toNat_natCast, wr_succ (show k < 4611686018427387904 by omega)]
    rw [show bestN a (k + 1) = if a.getD k 0 > a.getD (bestN a k) 0 then k else bestN a k from rfl]
    by_cases g : a.getD k 0 > a.getD (bestN a k) 0
    ·rw [decide_eq_true g, if_pos g]; rfl
    ·rw [decide_eq_false g, if_neg g]; rfl)
  (by simp only [step71_0, lt_cast, Nat.lt_irrefl, decide_false, cond_false]) 0 (by omega)
 exact h1
theorem gausses_self (s : Gs) (h : s.length ≤ 1000000) : s72 (s, s) = some true := by
 unfold s72
 have h1 := loop_for (step := step72_0) (st := fun k => (s, s, (k : Int))) (n := s.length) (e := .inr ()) (fun k hk => by
  simp only [step72_0, lt_cast, inB_cast, hk, decide_true, cond_true, Int.toNat_natCast, beq_self_eq_true, Bool.and_true, Bool.not_true, cond_false, wr_succ (show k < 4611686018427387904 by omega)]) (by simp only [step72_0, lt_cast, Nat.lt_irrefl, decide_false, cond_false]) 0 (by omega)
 rw [show ((0 : Nat) : Int) = 0 from rfl] at h1
 simp only [bne_self_eq_false, cond_false, h1, optE_some, sumE_r]
theorem energies_true (l : Gs) (n off : Int) : s13 (l, n, off) = some true := by
 unfold s13
 have hg : s41 l = some false ∨ (s41 l = some true ∧ l.length ≤ 1000) := by
  rcases fewS_le l with ⟨h, h2⟩ | ⟨h, h2, h3⟩ | h
  ·exact .inr ⟨h, by omega⟩
  ·exact .inr ⟨h, by omega⟩
  ·exact .inl h
 rcases hg with hg | ⟨hg, hl⟩
 ·simp only [hg, optE_some, Bool.not_true, Bool.not_false, cond_false, cond_true]
 have hsum : s68 (l, n, off) = bif firstE [eE l n, unl (win off 0 (wr (n - 1))) 2] != 0 then some (([], firstE [eE l n, unl (win off 0 (wr (n - 1))) 2])) else optE (s110 (l, n, off)) (fun r5 => some ((r5, 0))) (none) := by
  unfold s68
  simp only [s109_eq l n (by omega), s79_eq, s82_eq, optE_some]
  rw [s80_eq _ (by simp)]
  simp only [optE_some]
 simp only [hg, optE_some, Bool.not_true, cond_false, copyG_eq l (by omega), s45_eq l (by omega), s69_eq, s28_eq, hsum]
 by_cases he : eE l n = 0
 case neg =>
  have f1 := s66_bad (n := n) (show l.length ≤ 1000000 by omega) he
  have f2 : s67 (l, n) = some (0, eE l n) := by
   unfold s67
   simp only [f1, optE_some, bne_iff_ne.2 he, cond_true]
  have f3 : firstE [eE l n, unl (win off 0 (wr (n - 1))) 2] = eE l n := by
   unfold firstE
   rw [bne_iff_ne.2 he]; rfl
  have w0 : wr (0 + 0) = 0 := rfl
  simp only [f1, f2, f3, bne_iff_ne.2 he, cond_true, optE_some, List.length_nil]
  by_cases hq : sE l = 0
  ·have hn : eE l n = unl (win n 1 16) 2 := by unfold eE firstE; rw [hq]; simp only [bne_self_eq_false, cond_false, firstE]; cases win n 1 16 <;> rfl
   have hne : unl (win n 1 16) 2 ≠ 0 := by rw [← hn]; exact he
   simp only [hq, hn, beq_self_eq_true, bne_iff_ne.2 hne, cond_true]
   rfl
  ·have hn : eE l n = sE l := by unfold eE firstE; rw [bne_iff_ne.2 hq]; rfl
   simp only [hn, beq_self_eq_true, bne_iff_ne.2 hq, beq_eq_false_iff_ne.2 hq, cond_true, cond_false]
   rfl
 case pos =>
  obtain ⟨hq, L, rfl, hL1, hL2⟩ := eE_ok he
  obtain ⟨hl4, hok⟩ := sE_ok hq
  have hL : 1 ≤ L ∧ L ≤ 16 := ⟨hL1, hL2⟩
  have f1 := s66_eq hL he
  have hlen : (enV l L).length = L := by simp [enV]
  have f2 : s67 (l, (L : Int)) = some ((bestN (enV l L) (enV l L).length : Int), 0) := by
   unfold s67
   simp only [f1, optE_some, bne_self_eq_false, cond_false, max_best (enV l L) (by omega) (by omega), index_best (enV l L) (by omega) (by omega)]
  have f3 := s70_eq (l := l) hL hq
  have f4 : s71 (l, (L : Int)) = some (bestN (enV l L) (enV l L).length : Int) := by
   unfold s71
   simp only [f3, optE_some, ref_best (enV l L) (by omega)]
  have f5 := ints_self (enV l L) (by omega)
  have hn : unl (win (L : Int) 1 16) 2 = 0 := by rw [win_iff.2 (by omega)]; rfl
  simp only [f1, f2, f3, f4, f5, hq, hn, he, beq_self_eq_true, bne_self_eq_false, Bool.not_true, cond_true, cond_false, optE_some]
  cases hw : win off 0 (wr ((L : Int) - 1)) with
  | false => rfl
  | true =>
    have hw' := win_iff.1 hw
    rw [last_off hL] at hw'
    obtain ⟨p, rfl⟩ : ∃ p : Nat, off = (p : Int) := ⟨off.toNat, by omega⟩
    have g1 := s110_eq (l := l) (p := p) hL (by omega) hok hl4
    have g2 := s73_eq (l := l) (p := p) hL (by omega) hok hl4
    have g3 := gausses_self (sumsV l L p) (by
     have := cnt_le l L p
     simp [sumsV]; omega)
    have f6 : firstE [(0 : Int), unl true 2] = 0 := rfl
    simp only [f6, g1, g2, g3, bne_self_eq_false, beq_self_eq_true, Bool.not_true, cond_true, cond_false, optE_some]
end Go.Proofs.YthckjfbhdjjnkaaDoor
