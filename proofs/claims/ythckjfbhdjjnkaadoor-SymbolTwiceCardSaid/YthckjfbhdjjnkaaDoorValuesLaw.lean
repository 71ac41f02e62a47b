import Derived.Test.YthckjfbhdjjnkaaDoorGd4
import Derived.Test.YthckjfbhdjjnkaaDoorSamples
set_option linter.unusedSimpArgs false
namespace Go.Proofs.YthckjfbhdjjnkaaDoor
open Go.Ev
def zE (z : Int × Int) (full : Int) : Int := bif win z.1 (-1000000000000000) 1000000000000000 && (win z.2 (-1000000000000000) 1000000000000000 && win full 1 100000) then 0 else 2
def sv (x full : Int) : Int := mn (mx (wr (Int.tdiv (wr (7 * x)) full)) (-7)) 7
theorem wrM : wr (-1000000000000000) = -1000000000000000 := wr_id (by omega) (by omega)
theorem zE_ok {z : Int × Int} {full : Int} (h : zE z full = 0) : (-1000000000000000 ≤ z.1 ∧ z.1 ≤ 1000000000000000) ∧ (-1000000000000000 ≤ z.2 ∧ z.2 ≤ 1000000000000000) ∧ 1 ≤ full ∧ full ≤ 100000 := by
 unfold zE at h
 cases h1 : win z.1 (-1000000000000000) 1000000000000000 && (win z.2 (-1000000000000000) 1000000000000000 && win full 1 100000) with
 | false => rw [h1] at h; cases h
 | true =>
   simp only [Bool.and_eq_true, win_iff] at h1
   exact h1
theorem zE_or (z : Int × Int) (full : Int) : zE z full = 0 ∨ zE z full = 2 := by
 unfold zE
 cases win z.1 (-1000000000000000) 1000000000000000 && (win z.2 (-1000000000000000) 1000000000000000 && win full 1 100000)
 ·exact .inr rfl
 ·exact .inl rfl
theorem s60_eq (z : Int × Int) (full : Int) : s60 (z, full) = some (zE z full) := by
 unfold s60 zE
 simp only [s28_eq, optE_some]
 cases win z.1 (-1000000000000000) 1000000000000000 <;> cases win z.2 (-1000000000000000) 1000000000000000 <;> cases win full 1 100000 <;> rfl
theorem s56_eq (z : Int × Int) (full : Int) : s56 (z, full) = some (if zE z full = 0 then ((sv z.1 full, sv z.2 full), 0) else ((0, 0), 2)) := by
 unfold s56 s105
 simp only [s79_eq, optE_some, wrM]
 by_cases h : zE z full = 0
 ·obtain ⟨h1, h2, h3⟩ := zE_ok h
  rw [if_pos h, win_iff.2 h1, win_iff.2 h2, win_iff.2 h3]
  have : (full == 0) = false := beq_eq_false_iff_ne.2 (by omega)
  simp only [this, Bool.not_true, Bool.not_false, cond_false, cond_true, optE_some]
  rfl
 ·rw [if_neg h]
  unfold zE at h
  cases h1 : win z.1 (-1000000000000000) 1000000000000000 <;> cases h2 : win z.2 (-1000000000000000) 1000000000000000 <;> cases h3 : win full 1 100000 <;> simp [h1, h2, h3] at h ⊢
theorem s108_eq {x full : Int} (hx : -1000000000000000 ≤ x ∧ x ≤ 1000000000000000) (hf : 1 ≤ full ∧ full ≤ 100000) : s108 (x, full) = some (sv x full) := by
 have hf0 : (full == 0) = false := beq_eq_false_iff_ne.2 (by omega)
 have hz : ∃ n : Int, mx x (wr (-x)) = n ∧ 0 ≤ n ∧ n ≤ 1000000000000000 ∧ (0 ≤ x → x = n) ∧ (x < 0 → x = -n) := by
  refine ⟨mx x (-x), by rw [wr_id (by omega) (by omega)], ?_⟩
  unfold mx
  by_cases h : x < -x
  ·simp [h]; omega
  ·simp [h]; omega
 obtain ⟨n, hn, hn0, hn1, hp, hm⟩ := hz
 unfold s108 s130 s129 sv
 simp only [optE_some, hn, hf0, Bool.not_false, cond_true]
 rw [wr_id (n := 7 * n) (by omega) (by omega), wr_id (n := 7 * x) (by omega) (by omega)]
 have e1 : Int.tmod (7 * n) full = (7 * n) % full := Int.tmod_eq_emod_of_nonneg (by omega)
 have e2 : 0 ≤ (7 * n) % full := Int.emod_nonneg _ (by omega)
 have e3 : Int.tdiv (7 * n) full = 7 * n / full := Int.tdiv_eq_ediv_of_nonneg (by omega)
 have e4 : 0 ≤ 7 * n / full := Int.ediv_nonneg (by omega) (by omega)
 have e5 : 7 * n / full ≤ 7 * n := Int.ediv_le_self _ (by omega)
 rw [e1, decide_eq_false (by omega), cond_false, e3, wr_id (n := 7 * n / full) (by omega) (by omega)]
 simp only [optE_some]
 generalize hq : 7 * n / full = q at *
 by_cases hx0 : x < 0
 ·have : Int.tdiv (7 * x) full = -q := by
   rw [hm hx0, show 7 * -n = -(7 * n) by omega, Int.neg_tdiv, e3]
  rw [this, wr_id (n := -q) (by omega) (by omega), decide_eq_true hx0]
  by_cases h7 : q > 7
  ·rw [decide_eq_true h7]
   unfold mn mx
   simp only [cond_true]
   repeat' split
   all_goals first | rfl | (congr 1; omega) | (simp at *; omega)
  ·rw [decide_eq_false h7]
   unfold mn mx
   simp only [cond_true, cond_false]
   repeat' split
   all_goals first | rfl | (congr 1; omega) | (simp at *; omega)
 ·have : Int.tdiv (7 * x) full = q := by rw [hp (by omega), e3]
  rw [this, wr_id (n := q) (by omega) (by omega), decide_eq_false hx0]
  by_cases h7 : q > 7
  ·rw [decide_eq_true h7]
   unfold mn mx
   simp only [cond_true, cond_false]
   repeat' split
   all_goals first | rfl | (congr 1; omega) | (simp at *; omega)
  ·rw [decide_eq_false h7]
   unfold mn mx
   simp only [cond_true, cond_false]
   repeat' split
   all_goals first | rfl | (congr 1; omega) | (simp at *; omega)
theorem s61_eq {z : Int × Int} {full : Int} (h : zE z full = 0) : s61 (z, full) = some (sv z.1 full, sv z.2 full) := by
 obtain ⟨h1, h2, h3⟩ := zE_ok h
 unfold s61
 simp only [s108_eq h1 h3, s108_eq h2 h3, optE_some]
def okH (n : Int) : Bool := win n (-7) 7
def hE (l : List Int) : Int := if 600 < l.length then 8 else bif l.all okH then 0 else 2
def hardV (n : Int) : Int := bif decide (n > 0) then 0 else bif decide (n < 0) then 1 else -1
theorem s107_eq (n : Int) : s107 n = some (hardV n) := by
 unfold s107 hardV
 cases decide (n > 0) <;> cases decide (n < 0) <;> rfl
theorem s87_eq (n : Int) : s87 n = some (hardV n) := by
 unfold s87 hardV
 cases decide (n > 0) <;> cases decide (n < 0) <;> rfl
theorem s119_eq (n : Int) : s119 n = some (okH n) := by
 unfold s119 s105 okH
 have h : wr (-7) = -7 := wr_id (by omega) (by omega)
 simp only [s79_eq, optE_some, h]
theorem s85_eq (l : List Int) (hl : l.length ≤ 1000000) : s85 l = some (hE l) := by
 unfold s85
 have h1 := loop_scan (step := step145_0a) (st := fun k => (l, ((), ()), (l.length : Int), (k : Int))) (n := l.length) (hit := fun k => bif !(okH (l.getD k 0)) then some (Sum.inl (k : Int)) else none) (e := Sum.inr ())
  (fun k hk => by
    simp only [step145_0a, lt_cast, inB_cast, hk, decide_true, cond_true, Int.toNat_natCast, s119_eq, optE_some, wr_succ (show k < 4611686018427387904 by omega)]
    cases okH (l.getD k 0) <;> rfl) (by simp only [step145_0a, lt_cast, Nat.lt_irrefl, decide_false, cond_false]) l.length 0 (by omega)
 rw [show ((0 : Nat) : Int) = 0 from rfl] at h1
 simp only [h1, s82_eq, optE_some]
 have hq : hE l = firstE [unl (decide ((l.length : Int) ≤ 600)) 8, unl (l.all okH) 2] := by
  unfold hE
  by_cases h6 : 600 < l.length
  ·rw [if_pos h6, decide_eq_false (by omega)]; rfl
  ·rw [if_neg h6, decide_eq_true (by omega)]
   cases l.all okH <;> rfl
 rcases scanG 0 (e := fun k => Sum.inl (k : Int)) okH l l.length 0 (by omega) with ⟨h2, h3⟩ | ⟨⟨j, h2⟩, x, h3, h4⟩
 ·have ha : l.all okH = true := List.all_eq_true.2 (by simpa using h3)
  rw [h2]
  simp only [sumE_r, optE_some]
  rw [s80_eq _ (by simp), hq, ha]
  rfl
 ·have ha : l.all okH = false := by
   rw [Bool.eq_false_iff]; intro e
   have := List.all_eq_true.1 e x (by simpa using h3)
   rw [this] at h4; cases h4
  rw [h2]
  simp only [sumE, optE_some, decide_eq_true (show ((j : Nat) : Int) ≥ 0 by omega), Bool.not_true]
  rw [s80_eq _ (by simp), hq, ha]
  rfl
theorem s30_eq (l : List Int) (hl : l.length ≤ 1000000) : s30 l = some (hE l) := by
 unfold s30 hE
 by_cases h6 : 600 < l.length
 ·rw [if_pos h6, decide_eq_true (by omega)]; rfl
 rw [if_neg h6, decide_eq_false (by omega), cond_false]
 have h1 := loop_scan (step := step30_0) (st := fun k => (l, (k : Int))) (n := l.length) (hit := fun k => bif !(okH (l.getD k 0)) then some (Sum.inl 2) else none) (e := Sum.inr ())
  (fun k hk => by
    simp only [step30_0, lt_cast, inB_cast, hk, decide_true, cond_true, Int.toNat_natCast, s28_eq, optE_some, wr_succ (show k < 4611686018427387904 by omega)]
    unfold okH
    cases win (l.getD k 0) (-7) 7 <;> rfl) (by simp only [step30_0, lt_cast, Nat.lt_irrefl, decide_false, cond_false]) l.length 0 (by omega)
 rw [show ((0 : Nat) : Int) = 0 from rfl] at h1
 rw [h1]
 simp only [optE_some]
 rcases scanG 0 (e := fun _ => Sum.inl 2) okH l l.length 0 (by omega) with ⟨h2, h3⟩ | ⟨⟨j, h2⟩, x, h3, h4⟩
 ·have ha : l.all okH = true := List.all_eq_true.2 (by simpa using h3)
  rw [h2, ha]; rfl
 ·have ha : l.all okH = false := by
   rw [Bool.eq_false_iff]; intro e
   have := List.all_eq_true.1 e x (by simpa using h3)
   rw [this] at h4; cases h4
  rw [h2, ha]; rfl
theorem hE_ok {l : List Int} (h : hE l = 0) : l.length ≤ 600 ∧ ∀ x ∈ l, okH x = true := by
 unfold hE at h
 by_cases h6 : 600 < l.length
 ·rw [if_pos h6] at h; cases h
 ·rw [if_neg h6] at h
  refine ⟨by omega, ?_⟩
  cases ha : l.all okH with
  | false => rw [ha] at h; cases h
  | true => exact List.all_eq_true.1 ha
theorem s57_eq (l : List Int) (hl : l.length ≤ 1000000) : s57 l = some (if hE l = 0 then (l.map hardV, 0) else ([], hE l)) := by
 unfold s57
 simp only [s85_eq l hl, optE_some]
 by_cases h : hE l = 0
 case neg => rw [if_neg h, bne_iff_ne.2 h]; rfl
 have h1 := loop_for (step := step57_0) (st := fun k => ((l.take k).map hardV, l, (l.length : Int), (k : Int))) (n := l.length) (e := l.map hardV)
  (fun k hk => by
    simp only [step57_0, lt_cast, inB_cast, hk, decide_true, cond_true, Int.toNat_natCast, s107_eq, optE_some, wr_succ (show k < 4611686018427387904 by omega)]
    rw [room_true (by simp; omega) (by simp; omega)]
    simp only [cond_true, take_map_succ hardV l 0 hk]) (by simp only [step57_0, lt_cast, Nat.lt_irrefl, decide_false, cond_false, List.take_length]) 0 (by omega)
 rw [show ((0 : Nat) : Int) = 0 from rfl] at h1
 simp only [List.take_zero, List.map_nil] at h1
 rw [if_pos h, h]
 simp only [bne_self_eq_false, cond_false, h1, optE_some]
theorem s62_eq (l : List Int) (hl : l.length ≤ 1000000) : s62 l = some (l.map hardV) := by
 unfold s62
 have h1 := loop_for (step := step62_0) (st := fun k => (l, (l.take k).map hardV, (k : Int))) (n := l.length) (e := l.map hardV)
  (fun k hk => by
    simp only [step62_0, lt_cast, inB_cast, hk, decide_true, cond_true, Int.toNat_natCast, s87_eq, optE_some, wr_succ (show k < 4611686018427387904 by omega)]
    rw [room_true (by simp; omega) (by simp; omega)]
    simp only [cond_true, take_map_succ hardV l 0 hk]) (by simp only [step62_0, lt_cast, Nat.lt_irrefl, decide_false, cond_false, List.take_length]) 0 (by omega)
 rw [show ((0 : Nat) : Int) = 0 from rfl] at h1
 simp only [List.take_zero, List.map_nil] at h1
 simp only [h1, optE_some]
def sqG (a g : Int × Int) : Int × Int := (a.1 + g.1 * g.1, a.2 + g.2 * g.2)
def sqs (l : Gs) : Int × Int := l.foldl sqG (0, 0)
def bq (l : Gs) : Int := bif decide ((sqs l).1 ≥ (sqs l).2) then 0 else 1
theorem sq_le {x : Int} (h : -2000 ≤ x ∧ x ≤ 2000) : 0 ≤ x * x ∧ x * x ≤ 4000000 := by
 rcases Int.le_total 0 x with g | g
 ·exact ⟨Int.mul_nonneg g g, by have := Int.mul_le_mul h.2 h.2 g (by omega); omega⟩
 ·have e : x * x = (-x) * (-x) := by rw [Int.neg_mul_neg]
  rw [e]
  exact ⟨Int.mul_nonneg (by omega) (by omega), Int.le_trans (Int.mul_le_mul (a := -x) (c := 2000) (b := -x) (d := 2000) (by omega) (by omega) (by omega) (by omega)) (by omega)⟩
theorem foldQ_le : ∀ (l : Gs) (b : Int × Int), (∀ x ∈ l, okS x = true) → (b.1 ≤ (l.foldl sqG b).1 ∧ (l.foldl sqG b).1 ≤ b.1 + 4000000 * l.length) ∧ b.2 ≤ (l.foldl sqG b).2 ∧ (l.foldl sqG b).2 ≤ b.2 + 4000000 * l.length
 | [], b, _ => by simp
 | x :: l, b, h => by
   obtain ⟨g1, g2⟩ := okS_iff (h x (by simp))
   have h1 := sq_le g1
   have h2 := sq_le g2
   have h3 := foldQ_le l (sqG b x) fun y hy => h y (by simp [hy])
   simp only [List.foldl_cons, List.length_cons, sqG] at h3 ⊢
   omega
theorem sqs_le {l : Gs} {k : Nat} (h : ∀ x ∈ l, okS x = true) (hk : k ≤ 400) : (0 ≤ ((l.take k).foldl sqG (0, 0)).1 ∧ ((l.take k).foldl sqG (0, 0)).1 ≤ 1600000000) ∧ 0 ≤ ((l.take k).foldl sqG (0, 0)).2 ∧ ((l.take k).foldl sqG (0, 0)).2 ≤ 1600000000 := by
 have h1 := foldQ_le (l.take k) (0, 0) fun x hx => h x (List.mem_of_mem_take hx)
 have h2 : (l.take k).length ≤ k := List.length_take_le _ _
 simp only [] at h1
 omega
theorem s58_eq (l : Gs) (hl : l.length ≤ 1000000) : s58 l = some (if sE l = 0 then (bq l, 0) else (0, sE l)) := by
 unfold s58
 simp only [s94_eq l hl, optE_some]
 by_cases h : sE l = 0
 case neg => rw [if_neg h, bne_iff_ne.2 h]; rfl
 obtain ⟨h4, hok⟩ := sE_ok h
 have h1 := loop_for (step := step58_0) (st := fun k => (((l.take k).foldl sqG (0, 0)).1 - ((l.take k).foldl sqG (0, 0)).2, l, (l.length : Int), (k : Int))) (n := l.length) (e := (sqs l).1 - (sqs l).2)
  (fun k hk => by
    obtain ⟨g1, g2⟩ := okS_iff (getG_ok hok hk)
    have a1 := sq_le g1
    have a2 := sq_le g2
    have a3 := sqs_le (l := l) (k := k) hok (by omega)
    have a4 := foldl_take_succ sqG (0, 0) l (0, 0) hk
    simp only [step58_0, lt_cast, inB_cast, hk, decide_true, cond_true, Int.toNat_natCast, wr_succ (show k < 4611686018427387904 by omega)]
    rw [wr_id (n := (l.getD k (0, 0)).1 * (l.getD k (0, 0)).1) (by omega) (by omega), wr_id (n := (l.getD k (0, 0)).2 * (l.getD k (0, 0)).2) (by omega) (by omega), wr_id (n := (l.getD k (0, 0)).1 * (l.getD k (0, 0)).1 - (l.getD k (0, 0)).2 * (l.getD k (0, 0)).2) (by omega) (by omega), wr_id (by omega) (by omega), ← a4]
    have : ∀ a b c d : Int, a - b + (c - d) = (a + c) - (b + d) := fun a b c d => by omega
    rw [this]
    rfl) (by simp only [step58_0, lt_cast, Nat.lt_irrefl, decide_false, cond_false, List.take_length]; rfl) 0 (by omega)
 rw [show ((0 : Nat) : Int) = 0 from rfl] at h1
 have h1 : loopVal step58_0 (0, l, (l.length : Int), 0) = some ((sqs l).1 - (sqs l).2) := h1
 rw [if_pos h, h]
 simp only [bne_self_eq_false, cond_false, h1, optE_some, bq]
 by_cases g : (sqs l).1 ≥ (sqs l).2
 ·rw [decide_eq_true g, decide_eq_true (by omega)]; rfl
 ·rw [decide_eq_false g, decide_eq_false (by omega)]; rfl
theorem s63_eq {l : Gs} (h : sE l = 0) : s63 l = some (bq l) := by
 unfold s63
 obtain ⟨h4, hok⟩ := sE_ok h
 have h1 := loop_for (step := step63_0) (st := fun k => (l, ((l.take k).foldl sqG (0, 0)).1, ((l.take k).foldl sqG (0, 0)).2, (k : Int))) (n := l.length) (e := ((sqs l).1, (sqs l).2))
  (fun k hk => by
    obtain ⟨g1, g2⟩ := okS_iff (getG_ok hok hk)
    have a1 := sq_le g1
    have a2 := sq_le g2
    have a3 := sqs_le (l := l) (k := k) hok (by omega)
    have a4 := foldl_take_succ sqG (0, 0) l (0, 0) hk
    simp only [step63_0, lt_cast, inB_cast, hk, decide_true, cond_true, Int.toNat_natCast, wr_succ (show k < 4611686018427387904 by omega)]
    rw [wr_id (n := (l.getD k (0, 0)).1 * (l.getD k (0, 0)).1) (by omega) (by omega), wr_id (n := (l.getD k (0, 0)).2 * (l.getD k (0, 0)).2) (by omega) (by omega), wr_id (by omega) (by omega), wr_id (by omega) (by omega), ← a4]
    rfl) (by simp only [step63_0, lt_cast, Nat.lt_irrefl, decide_false, cond_false, List.take_length]; rfl) 0 (by omega)
 rw [show ((0 : Nat) : Int) = 0 from rfl] at h1
 have h1 : loopVal step63_0 (l, 0, 0, 0) = some ((sqs l).1, (sqs l).2) := h1
 simp only [h1, optE_some, bq]
 cases decide ((sqs l).1 ≥ (sqs l).2) <;> rfl
theorem quad_zero {z : Int × Int} (h1 : z.1 = 0) (h2 : z.2 = 0) : s59 z = some (0, 11) := by
 unfold s59
 rw [h1, h2]; rfl
theorem quad_same {z : Int × Int} (h : ¬ (z.1 = 0 ∧ z.2 = 0)) : ∃ q, s59 z = some (q, 0) ∧ s64 z = some q := by
 unfold s59 s64
 by_cases a : z.1 > 0
 ·by_cases b : z.2 ≥ 0
  ·exact ⟨0, by simp [a, b], by simp [a, b]⟩
  ·have b1 : ¬ z.2 > 0 := by omega
   have a1 : ¬ z.1 < 0 := by omega
   have b2 : z.2 < 0 := by omega
   exact ⟨3, by simp [a, b, b1, a1, b2], by simp [a, b, b1, a1]⟩
 ·by_cases b : z.2 > 0
  ·have a1 : z.1 ≤ 0 := by omega
   exact ⟨1, by simp [a, b], by simp [a, b, a1]⟩
  ·by_cases c : z.1 < 0
   ·have b2 : z.2 ≤ 0 := by omega
    exact ⟨2, by simp [a, b, c], by simp [a, b, c, b2]⟩
   ·have b2 : z.2 < 0 := by omega
    exact ⟨3, by simp [a, b, c, b2], by simp [a, b, c]⟩
theorem values_true (z : Int × Int) (full : Int) (x : Gs × List Int) : s11 (z, full, x) = some true := by
 obtain ⟨x1, x2⟩ := x
 unfold s11
 simp only [Bool.not_true, cond_false]
 have hg : s41 x1 = some false ∨ (s41 x1 = some true ∧ x1.length ≤ 1000) := by
  rcases fewS_le x1 with ⟨h, h2⟩ | ⟨h, h2, h3⟩ | h
  ·exact .inr ⟨h, by omega⟩
  ·exact .inr ⟨h, by omega⟩
  ·exact .inl h
 have hs : s17 x2 = some false ∨ (s17 x2 = some true ∧ x2.length ≤ 1000) := by
  rcases few_le x2 with ⟨h, h2⟩ | ⟨h, h2, h3⟩ | h
  ·exact .inr ⟨h, by omega⟩
  ·exact .inr ⟨h, by omega⟩
  ·exact .inl h
 rcases hg with hg | ⟨hg, l1⟩
 ·simp only [hg, optE_some, Bool.not_false, cond_true]
 rcases hs with hs | ⟨hs, l2⟩
 ·simp only [hg, hs, optE_some, Bool.not_false, Bool.not_true, cond_false, cond_true]
 have q := ints_self (x2.map hardV) (by simp; omega)
 obtain ⟨qz, hqz, hq2⟩ : ∃ v : Int × Int, s59 z = some v ∧ ((z.1 = 0 ∧ z.2 = 0 ∧ v = (0, 11)) ∨ (¬ (z.1 = 0 ∧ z.2 = 0) ∧ v.2 = 0 ∧ s64 z = some v.1)) := by
  by_cases h : z.1 = 0 ∧ z.2 = 0
  ·exact ⟨_, quad_zero h.1 h.2, .inl ⟨h.1, h.2, rfl⟩⟩
  ·obtain ⟨k, h1, h2⟩ := quad_same h
   exact ⟨(k, 0), h1, .inr ⟨h, rfl, h2⟩⟩
 have last : (bif (z.1 == 0) && ((z.2 == 0) && true) then bif qz.2 == 11 then some (qz.1 == 0) else some false else bif qz.2 == 0 then optE (s64 z) (fun r16 => some (qz.1 == r16)) none else some false) = some true := by
  rcases hq2 with ⟨h1, h2, rfl⟩ | ⟨h, h2, h3⟩
  ·rw [h1, h2]; rfl
  ·have : ((z.1 == 0) && ((z.2 == 0) && true)) = false := by
    rw [Bool.eq_false_iff]; intro e
    simp only [Bool.and_true, Bool.and_eq_true, beq_iff_eq] at e
    exact h e
   rw [this, h2, h3]
   simp [optE_some]
 simp only [hg, hs, optE_some, Bool.not_true, cond_false, copyG_eq x1 (by omega), copy_eq x2 (by omega), s56_eq, s57_eq x2 (by omega), s58_eq x1 (by omega), hqz, s60_eq, s30_eq x2 (by omega), s45_eq x1 (by omega), s62_eq x2 (by omega)]
 by_cases c1 : zE z full = 0
 ·have f1 := s61_eq c1
  simp only [c1, if_pos, f1, optE_some, bne_self_eq_false, beq_self_eq_true, cond_false, cond_true, Bool.and_true, Bool.not_true]
  by_cases c2 : hE x2 = 0
  ·simp only [c2, if_pos, q, optE_some, bne_self_eq_false, beq_self_eq_true, cond_false, cond_true, Bool.and_true, Bool.not_true]
   by_cases c3 : sE x1 = 0
   ·have f3 := s63_eq c3
    simp only [c3, if_pos, f3, optE_some, bne_self_eq_false, beq_self_eq_true, cond_false, cond_true]
    simpa using last
   ·have e1 : (sE x1 != 0) = true := bne_iff_ne.2 c3
    have e2 : (sE x1 == 0) = false := beq_eq_false_iff_ne.2 c3
    simp only [c3, if_neg, e1, e2, not_false_eq_true, bne_self_eq_false, cond_false, cond_true, if_false]
    simpa using last
  ·have e1 : (hE x2 != 0) = true := bne_iff_ne.2 c2
   have e2 : (hE x2 == 0) = false := beq_eq_false_iff_ne.2 c2
   simp only [c2, e1, e2, bne_self_eq_false, cond_false, cond_true, if_false, List.length_nil]
   by_cases c3 : sE x1 = 0
   ·have f3 := s63_eq c3
    simp only [c3, if_pos, f3, optE_some, bne_self_eq_false, beq_self_eq_true, cond_false, cond_true]
    simpa using last
   ·have e1 : (sE x1 != 0) = true := bne_iff_ne.2 c3
    have e2 : (sE x1 == 0) = false := beq_eq_false_iff_ne.2 c3
    simp only [c3, e1, e2, bne_self_eq_false, cond_false, cond_true, if_false]
    simpa using last
 ·have c1' : zE z full = 2 := (zE_or z full).resolve_left c1
  simp only [c1', show ¬ ((2 : Int) = 0) by omega, if_false, show ((2 : Int) != 0) = true by rfl, show ((2 : Int) == 0) = false by rfl, bne_self_eq_false, beq_self_eq_true, cond_false, cond_true, Bool.and_true, Bool.not_true]
  by_cases c2 : hE x2 = 0
  ·simp only [c2, if_pos, q, optE_some, bne_self_eq_false, beq_self_eq_true, cond_false, cond_true, Bool.and_true, Bool.not_true]
   by_cases c3 : sE x1 = 0
   ·have f3 := s63_eq c3
    simp only [c3, if_pos, f3, optE_some, bne_self_eq_false, beq_self_eq_true, cond_false, cond_true]
    simpa using last
   ·have e1 : (sE x1 != 0) = true := bne_iff_ne.2 c3
    have e2 : (sE x1 == 0) = false := beq_eq_false_iff_ne.2 c3
    simp only [c3, e1, e2, bne_self_eq_false, cond_false, cond_true, if_false]
    simpa using last
  ·have e1 : (hE x2 != 0) = true := bne_iff_ne.2 c2
   have e2 : (hE x2 == 0) = false := beq_eq_false_iff_ne.2 c2
   simp only [c2, e1, e2, bne_self_eq_false, cond_false, cond_true, if_false, List.length_nil]
   by_cases c3 : sE x1 = 0
   ·have f3 := s63_eq c3
    simp only [c3, if_pos, f3, optE_some, bne_self_eq_false, beq_self_eq_true, cond_false, cond_true]
    simpa using last
   ·have e1 : (sE x1 != 0) = true := bne_iff_ne.2 c3
    have e2 : (sE x1 == 0) = false := beq_eq_false_iff_ne.2 c3
    simp only [c3, e1, e2, bne_self_eq_false, cond_false, cond_true, if_false]
    simpa using last
end Go.Proofs.YthckjfbhdjjnkaaDoor
