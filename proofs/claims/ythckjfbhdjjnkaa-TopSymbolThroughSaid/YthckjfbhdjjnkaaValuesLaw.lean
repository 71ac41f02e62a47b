/- Soft and hard values, the best quarter, and quadrants. -/
import Derived.Test.YthckjfbhdjjnkaaSamples
set_option linter.unusedSimpArgs false
namespace Go.Proofs.Ythckjfbhdjjnkaa
open Go.Ev
def zE (z : Int × Int) (full : Int) : Int := bif win z.1 (-1000000000000000) 1000000000000000 && (win z.2 (-1000000000000000) 1000000000000000 && win full 1 100000) then 0 else 2
def sv (x full : Int) : Int := mn (mx (wr (Int.tdiv (wr (7 * x)) full)) (-7)) 7
theorem wrM : wr (-1000000000000000) = -1000000000000000 := wr_id (by omega) (by omega)
theorem zE_ok {z : Int × Int} {full : Int} (h : zE z full = 0) : (-1000000000000000 ≤ z.1 ∧ z.1 ≤ 1000000000000000) ∧ (-1000000000000000 ≤ z.2 ∧ z.2 ≤ 1000000000000000) ∧ 1 ≤ full ∧ full ≤ 100000 := by
 unfold zE at h
 cases h1 : win z.1 (-1000000000000000) 1000000000000000 && (win z.2 (-1000000000000000) 1000000000000000 && win full 1 100000) with
 | false => rw [h1] at h; cases h
 | true =>
   simp only [Bool.and_eq_true, win_iff] at h1
   exact h1
theorem s16_eq (z : Int × Int) (full : Int) : s16 (z, full) = some (if zE z full = 0 then ((sv z.1 full, sv z.2 full), 0) else ((0, 0), 2)) := by
 unfold s16 s42
 simp only [s40_eq, optE_some, wrM]
 by_cases h : zE z full = 0
 ·obtain ⟨h1, h2, h3⟩ := zE_ok h
  rw [if_pos h, win_iff.2 h1, win_iff.2 h2, win_iff.2 h3]
  have : (full == 0) = false := beq_eq_false_iff_ne.2 (by omega)
  simp only [this, Bool.not_true, Bool.not_false, cond_false, cond_true, optE_some]
  rfl
 ·rw [if_neg h]
  unfold zE at h
  cases h1 : win z.1 (-1000000000000000) 1000000000000000 <;> cases h2 : win z.2 (-1000000000000000) 1000000000000000 <;> cases h3 : win full 1 100000 <;> simp [h1, h2, h3] at h ⊢
def okH (n : Int) : Bool := win n (-7) 7
def hE (l : List Int) : Int := if 600 < l.length then 8 else bif l.all okH then 0 else 2
def hardV (n : Int) : Int := bif decide (n > 0) then 0 else bif decide (n < 0) then 1 else -1
theorem s97_eq (n : Int) : s97 n = some (hardV n) := by
 unfold s97 hardV
 cases decide (n > 0) <;> cases decide (n < 0) <;> rfl
theorem s93_eq (n : Int) : s93 n = some (hardV n) := by
 unfold s93 hardV
 cases decide (n > 0) <;> cases decide (n < 0) <;> rfl
theorem s88_eq (n : Int) : s88 n = some (okH n) := by
 unfold s88 s42 okH
 have h : wr (-7) = -7 := wr_id (by omega) (by omega)
 simp only [s40_eq, optE_some, h]
theorem s77_eq (l : List Int) (hl : l.length ≤ 1000000) : s77 l = some (hE l) := by
 unfold s77
 have h1 := loop_scan (step := step101_0a) (st := fun k => (l, ((), ()), (l.length : Int), (k : Int))) (n := l.length) (hit := fun k => bif !(okH (l.getD k 0)) then some (Sum.inl (k : Int)) else none) (e := Sum.inr ())
  (fun k hk => by
    simp only [step101_0a, lt_cast, inB_cast, hk, decide_true, cond_true, Int.toNat_natCast, s88_eq, optE_some, wr_succ (show k < 4611686018427387904 by omega)]
    cases okH (l.getD k 0) <;> rfl) (by simp only [step101_0a, lt_cast, Nat.lt_irrefl, decide_false, cond_false]) l.length 0 (by omega)
 rw [show ((0 : Nat) : Int) = 0 from rfl] at h1
 simp only [h1, s39_eq, optE_some]
 have hq : hE l = firstE [unl (decide ((l.length : Int) ≤ 600)) 8, unl (l.all okH) 2] := by
  unfold hE
  by_cases h6 : 600 < l.length
  ·rw [if_pos h6, decide_eq_false (by omega)]; rfl
  ·rw [if_neg h6, decide_eq_true (by omega)]
   cases l.all okH <;> rfl
 rcases scanG 0 (e := fun k => Sum.inl (k : Int)) okH l l.length 0 (by omega) with ⟨h2, h3⟩ | ⟨⟨j, h2⟩, x, h3, h4⟩
 ·have ha : l.all okH = true := List.all_eq_true.2 (by simpa using h3)
  rw [h2]
  simp only [sumE_r, optE_some]
  rw [s37_eq _ (by simp), hq, ha]
  rfl
 ·have ha : l.all okH = false := by
   rw [Bool.eq_false_iff]; intro e
   have := List.all_eq_true.1 e x (by simpa using h3)
   rw [this] at h4; cases h4
  rw [h2]
  simp only [sumE, optE_some, decide_eq_true (show ((j : Nat) : Int) ≥ 0 by omega), Bool.not_true]
  rw [s37_eq _ (by simp), hq, ha]
  rfl
theorem hE_ok {l : List Int} (h : hE l = 0) : l.length ≤ 600 ∧ ∀ x ∈ l, okH x = true := by
 unfold hE at h
 by_cases h6 : 600 < l.length
 ·rw [if_pos h6] at h; cases h
 ·rw [if_neg h6] at h
  refine ⟨by omega, ?_⟩
  cases ha : l.all okH with
  | false => rw [ha] at h; cases h
  | true => exact List.all_eq_true.1 ha
def sqG (a g : Int × Int) : Int × Int := (a.1 + g.1 * g.1, a.2 + g.2 * g.2)
def sqs (l : Gs) : Int × Int := l.foldl sqG (0, 0)
def bq (l : Gs) : Int := bif decide ((sqs l).1 ≥ (sqs l).2) then 0 else 1
theorem sq_le {x : Int} (h : -2000 ≤ x ∧ x ≤ 2000) : 0 ≤ x * x ∧ x * x ≤ 4000000 := by
 rcases Int.le_total 0 x with g | g
 ·exact ⟨Int.mul_nonneg g g, by have := Int.mul_le_mul h.2 h.2 g (by omega); omega⟩
 ·have e : x * x = (-x) * (-x) := by rw [Int.neg_mul_neg]
  rw [e]
  exact ⟨Int.mul_nonneg (by omega) (by omega), Int.le_trans (Int.mul_le_mul (a := -x) (c := 2000) (b := -x) (d := 2000) (by omega) (by omega) (by omega) (by omega)) (by omega)⟩
theorem foldQ_le : ∀ (l : Gs) (b : Int × Int), (∀ x ∈ l, okS x = true) → (b.1 ≤ (l.foldl sqG b).1 ∧ (l.foldl sqG b).1 ≤ b.1 + 4000000 * l.length) ∧ b.2 ≤ (l.foldl sqG b).2 ∧ (l.foldl sqG b).2 ≤ b.2 + 4000000 * l.length
 | [], b, _ => by simp
 | x :: l, b, h => by
   obtain ⟨g1, g2⟩ := okS_iff (h x (by simp))
   have h1 := sq_le g1
   have h2 := sq_le g2
   have h3 := foldQ_le l (sqG b x) fun y hy => h y (by simp [hy])
   simp only [List.foldl_cons, List.length_cons, sqG] at h3 ⊢
   omega
theorem sqs_le {l : Gs} {k : Nat} (h : ∀ x ∈ l, okS x = true) (hk : k ≤ 400) : (0 ≤ ((l.take k).foldl sqG (0, 0)).1 ∧ ((l.take k).foldl sqG (0, 0)).1 ≤ 1600000000) ∧ 0 ≤ ((l.take k).foldl sqG (0, 0)).2 ∧ ((l.take k).foldl sqG (0, 0)).2 ≤ 1600000000 := by
 have h1 := foldQ_le (l.take k) (0, 0) fun x hx => h x (List.mem_of_mem_take hx)
 have h2 : (l.take k).length ≤ k := List.length_take_le _ _
 simp only [] at h1
 omega
theorem s13_eq (l : Gs) (hl : l.length ≤ 1000000) : s13 l = some (if sE l = 0 then (bq l, 0) else (0, sE l)) := by
 unfold s13
 simp only [s33_eq l hl, optE_some]
 by_cases h : sE l = 0
 case neg => rw [if_neg h, bne_iff_ne.2 h]; rfl
 obtain ⟨h4, hok⟩ := sE_ok h
 have h1 := loop_for (step := step13_0) (st := fun k => (((l.take k).foldl sqG (0, 0)).1 - ((l.take k).foldl sqG (0, 0)).2, l, (l.length : Int), (k : Int))) (n := l.length) (e := (sqs l).1 - (sqs l).2)
  (fun k hk => by
    obtain ⟨g1, g2⟩ := okS_iff (getG_ok hok hk)
    have a1 := sq_le g1
    have a2 := sq_le g2
    have a3 := sqs_le (l := l) (k := k) hok (by omega)
    have a4 := foldl_take_succ sqG (0, 0) l (0, 0) hk
    simp only [step13_0, lt_cast, inB_cast, hk, decide_true, cond_true, Int.toNat_natCast, wr_succ (show k < 4611686018427387904 by omega)]
    rw [wr_id (n := (l.getD k (0, 0)).1 * (l.getD k (0, 0)).1) (by omega) (by omega), wr_id (n := (l.getD k (0, 0)).2 * (l.getD k (0, 0)).2) (by omega) (by omega), wr_id (n := (l.getD k (0, 0)).1 * (l.getD k (0, 0)).1 - (l.getD k (0, 0)).2 * (l.getD k (0, 0)).2) (by omega) (by omega), wr_id (by omega) (by omega), ← a4]
    have : ∀ a b c d : Int, a - b + (c - d) = (a + c) - (b + d) := fun a b c d => by omega
    rw [this]
    rfl) (by simp only [step13_0, lt_cast, Nat.lt_irrefl, decide_false, cond_false, List.take_length]; rfl) 0 (by omega)
 rw [show ((0 : Nat) : Int) = 0 from rfl] at h1
 have h1 : loopVal step13_0 (0, l, (l.length : Int), 0) = some ((sqs l).1 - (sqs l).2) := h1
 rw [if_pos h, h]
 simp only [bne_self_eq_false, cond_false, h1, optE_some, bq]
 by_cases g : (sqs l).1 ≥ (sqs l).2
 ·rw [decide_eq_true g, decide_eq_true (by omega)]; rfl
 ·rw [decide_eq_false g, decide_eq_false (by omega)]; rfl
end Go.Proofs.Ythckjfbhdjjnkaa
