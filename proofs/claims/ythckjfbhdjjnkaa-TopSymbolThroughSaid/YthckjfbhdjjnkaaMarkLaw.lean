/- Markers: rules, mismatches, spacing, wrong symbols. -/
import Derived.Test.YthckjfbhdjjnkaaEnergyLaw
set_option linter.unusedSimpArgs false
namespace Go.Proofs.Ythckjfbhdjjnkaa
open Go.Ev
def okB (n : Int) : Bool := win n 0 1
def mE (m : List Int) : Int := if m.length = 0 then 10 else if 32 < m.length then 8 else bif m.all okB then 0 else 2
theorem s94_eq (n : Int) : s94 n = some (okB n) := by
 unfold s94 okB
 simp only [s40_eq, optE_some]
theorem s86_eq (l : List Int) (hl : l.length ≤ 1000000) : s86 l = some (mE l) := by
 unfold s86
 have h1 := loop_scan (step := step101_0) (st := fun k => (l, ((), ()), (l.length : Int), (k : Int))) (n := l.length) (hit := fun k => bif !(okB (l.getD k 0)) then some (Sum.inl (k : Int)) else none) (e := Sum.inr ())
  (fun k hk => by
    simp only [step101_0, lt_cast, inB_cast, hk, decide_true, cond_true, Int.toNat_natCast, s94_eq, optE_some, wr_succ (show k < 4611686018427387904 by omega)]
    cases okB (l.getD k 0) <;> rfl) (by simp only [step101_0, lt_cast, Nat.lt_irrefl, decide_false, cond_false]) l.length 0 (by omega)
 rw [show ((0 : Nat) : Int) = 0 from rfl] at h1
 simp only [h1, s39_eq, optE_some]
 have hq : mE l = firstE [unl (decide ((l.length : Int) > 0)) 10, firstE [unl (decide ((l.length : Int) ≤ 32)) 8, unl (l.all okB) 2]] := by
  unfold mE
  by_cases h0 : l.length = 0
  ·rw [if_pos h0, decide_eq_false (by omega)]; rfl
  ·rw [if_neg h0, decide_eq_true (by omega)]
   by_cases h6 : 32 < l.length
   ·rw [if_pos h6, decide_eq_false (by omega)]; rfl
   ·rw [if_neg h6, decide_eq_true (by omega)]
    cases l.all okB <;> rfl
 rcases scanG 0 (e := fun k => Sum.inl (k : Int)) okB l l.length 0 (by omega) with ⟨h2, h3⟩ | ⟨⟨j, h2⟩, x, h3, h4⟩
 ·have ha : l.all okB = true := List.all_eq_true.2 (by simpa using h3)
  rw [h2]
  simp only [sumE_r, optE_some]
  rw [s37_eq _ (by simp), optE_some, s37_eq _ (by simp), hq, ha]
  rfl
 ·have ha : l.all okB = false := by
   rw [Bool.eq_false_iff]; intro e
   have := List.all_eq_true.1 e x (by simpa using h3)
   rw [this] at h4; cases h4
  rw [h2]
  simp only [sumE, optE_some, decide_eq_true (show ((j : Nat) : Int) ≥ 0 by omega), Bool.not_true]
  rw [s37_eq _ (by simp), optE_some, s37_eq _ (by simp), hq, ha]
  rfl
theorem s30_eq (l : List Int) (hl : l.length ≤ 1000000) : s30 l = some (mE l) := by
 unfold s30 mE
 by_cases h0 : l.length = 0
 ·rw [if_pos h0, h0]; rfl
 rw [if_neg h0, beq_eq_false_iff_ne.2 (show (l.length : Int) ≠ 0 by omega), cond_false]
 by_cases h6 : 32 < l.length
 ·rw [if_pos h6, decide_eq_true (by omega)]; rfl
 rw [if_neg h6, decide_eq_false (by omega), cond_false]
 have h1 := loop_scan (step := step30_0) (st := fun k => (l, (k : Int))) (n := l.length) (hit := fun k => bif !(okB (l.getD k 0)) then some (Sum.inl 2) else none) (e := Sum.inr ())
  (fun k hk => by
    simp only [step30_0, lt_cast, inB_cast, hk, decide_true, cond_true, Int.toNat_natCast, s7_eq, optE_some, wr_succ (show k < 4611686018427387904 by omega)]
    unfold okB
    cases win (l.getD k 0) 0 1 <;> rfl) (by simp only [step30_0, lt_cast, Nat.lt_irrefl, decide_false, cond_false]) l.length 0 (by omega)
 rw [show ((0 : Nat) : Int) = 0 from rfl] at h1
 rw [h1]
 simp only [optE_some]
 rcases scanG 0 (e := fun _ => Sum.inl 2) okB l l.length 0 (by omega) with ⟨h2, h3⟩ | ⟨⟨j, h2⟩, x, h3, h4⟩
 ·have ha : l.all okB = true := List.all_eq_true.2 (by simpa using h3)
  rw [h2, ha]; rfl
 ·have ha : l.all okB = false := by
   rw [Bool.eq_false_iff]; intro e
   have := List.all_eq_true.1 e x (by simpa using h3)
   rw [this] at h4; cases h4
  rw [h2, ha]; rfl
theorem mE_ok {l : List Int} (h : mE l = 0) : 0 < l.length ∧ l.length ≤ 32 ∧ ∀ k, k < l.length → l.getD k 0 = 0 ∨ l.getD k 0 = 1 := by
 unfold mE at h
 by_cases h0 : l.length = 0
 ·rw [if_pos h0] at h; cases h
 rw [if_neg h0] at h
 by_cases h6 : 32 < l.length
 ·rw [if_pos h6] at h; cases h
 rw [if_neg h6] at h
 refine ⟨by omega, by omega, fun k hk => ?_⟩
 cases ha : l.all okB with
 | false => rw [ha] at h; cases h
 | true =>
   have := win_iff.1 (show win (l.getD k 0) 0 1 = true from List.all_eq_true.1 ha (l.getD k 0) (by rw [List.getD_eq_getElem?_getD, List.getElem?_eq_getElem hk]; exact List.getElem_mem hk))
   omega
abbrev Rule := List Int × Int × Int × Int × Int × Int
def rightR (r : Rule) : Bool := win r.2.1 1 200 && (win r.2.2.1 0 32 && (win r.2.2.2.1 1 5 && (win r.2.2.2.2.1 0 5 && win r.2.2.2.2.2 0 3)))
def rE (r : Rule) : Int := firstE [mE r.1, unl (rightR r) 2, unl (decide ((wr (2 * r.2.2.1)) < (r.1.length : Int))) 23, unl (decide (r.2.1 > (wr ((r.1.length : Int) + r.2.2.2.2.2)))) 10]
theorem s76_eq (r : Rule) (hl : r.1.length ≤ 1000000) : s76 r = some (rE r) := by
 unfold s76 rE rightR
 simp only [s40_eq, optE_some, s86_eq r.1 hl, s39_eq]
 cases win r.2.1 1 200
 ·simp only [cond_false, Bool.false_and]; rw [s37_eq _ (by simp)]; rfl
 cases win r.2.2.1 0 32
 ·simp only [cond_false, cond_true, Bool.false_and, Bool.and_false]; rw [s37_eq _ (by simp)]; rfl
 cases win r.2.2.2.1 1 5
 ·simp only [cond_false, cond_true, Bool.false_and, Bool.and_false]; rw [s37_eq _ (by simp)]; rfl
 cases win r.2.2.2.2.1 0 5
 ·simp only [cond_false, cond_true, Bool.false_and, Bool.and_false]; rw [s37_eq _ (by simp)]; rfl
 simp only [cond_true, Bool.true_and]; rw [s37_eq _ (by simp)]; rfl
theorem s5_eq (r : Rule) (hl : r.1.length ≤ 1000) : s5 r = some (rE r) := by
 unfold s5 rE rightR
 simp only [s7_eq, optE_some, s30_eq r.1 (by omega)]
 by_cases hm : mE r.1 = 0
 case neg => rw [bne_iff_ne.2 hm]; unfold firstE; rw [bne_iff_ne.2 hm]; rfl
 rw [hm]
 simp only [bne_self_eq_false, cond_false, firstE]
 cases h1 : win r.2.1 1 200
 ·rfl
 cases h2 : win r.2.2.1 0 32
 ·rfl
 cases h3 : win r.2.2.2.1 1 5
 ·rfl
 cases h4 : win r.2.2.2.2.1 0 5
 ·rfl
 cases h5 : win r.2.2.2.2.2 0 3
 ·rfl
 have g1 := win_iff.1 h1
 have g5 := win_iff.1 h5
 simp only [Bool.not_true, cond_false, Bool.and_self]
 rw [wr_id (n := (r.1.length : Int) + r.2.2.2.2.2) (by omega) (by omega), wr_id (n := (r.1.length : Int) + r.2.2.2.2.2 + 1) (by omega) (by omega)]
 by_cases a : wr (2 * r.2.2.1) ≥ (r.1.length : Int)
 ·rw [decide_eq_true a, decide_eq_false (show ¬ wr (2 * r.2.2.1) < (r.1.length : Int) by omega)]; rfl
 ·rw [decide_eq_false a, decide_eq_true (show wr (2 * r.2.2.1) < (r.1.length : Int) by omega)]
  by_cases b : r.2.1 < (r.1.length : Int) + r.2.2.2.2.2 + 1
  ·rw [decide_eq_true b, decide_eq_false (show ¬ r.2.1 > (r.1.length : Int) + r.2.2.2.2.2 by omega)]; rfl
  ·rw [decide_eq_false b, decide_eq_true (show r.2.1 > (r.1.length : Int) + r.2.2.2.2.2 by omega)]; rfl
def nxW (h b : Int) (out : Int × Int) : Int × Int := (if h = b then out.1 else wr (out.1 + 1), if h = wr (1 - b) then out.2 else wr (out.2 + 1))
def wrongN (m l : List Int) (a : Nat) : Nat → Int × Int
 | 0 => (0, 0)
 | k + 1 => nxW (hardV (l.getD (a + k) 0)) (m.getD k 0) (wrongN m l a k)
theorem wrong_a {m l : List Int} {a : Nat} (hl : l.length ≤ 1000) (ha : a + m.length ≤ l.length) : s90 (m, l, (a : Int)) = some (wrongN m l a m.length) := by
 unfold s90
 have h1 := loop_for (step := step90_0) (st := fun k => (l, (a : Int), m, (m.length : Int), (k : Int), (0, 0), wrongN m l a k)) (n := m.length) (e := ((0, 0), wrongN m l a m.length))
  (fun k hk => by
    have e1 : wr ((a : Int) + (k : Int)) = ((a + k : Nat) : Int) := by rw [wr_id (by omega) (by omega)]; omega
    simp only [step90_0, lt_cast, inB_cast, e1, Int.toNat_natCast, decide_eq_true hk, decide_eq_true (show a + k < l.length by omega), cond_true, s97_eq, optE_some, wr_succ (show k < 4611686018427387904 by omega)]
    rw [show wrongN m l a (k + 1) = nxW (hardV (l.getD (a + k) 0)) (m.getD k 0) (wrongN m l a k) from rfl]
    unfold nxW
    by_cases g1 : hardV (l.getD (a + k) 0) = m.getD k 0 <;> by_cases g2 : hardV (l.getD (a + k) 0) = wr (1 - m.getD k 0)
    ·rw [bne_eq_false_iff_eq.2 g1, bne_eq_false_iff_eq.2 g2, if_pos g1, if_pos g2]; rfl
    ·rw [bne_eq_false_iff_eq.2 g1, bne_iff_ne.2 g2, if_pos g1, if_neg g2]; rfl
    ·rw [bne_iff_ne.2 g1, bne_eq_false_iff_eq.2 g2, if_neg g1, if_pos g2]; rfl
    ·rw [bne_iff_ne.2 g1, bne_iff_ne.2 g2, if_neg g1, if_neg g2]; rfl)
  (by simp only [step90_0, lt_cast, Nat.lt_irrefl, decide_false, cond_false]) 0 (by omega)
 have h1 : loopVal step90_0 (l, (a : Int), m, (m.length : Int), 0, (0, 0), (0, 0)) = some ((0, 0), wrongN m l a m.length) := h1
 simp only [h1, optE_some]
theorem wrong_b {m l : List Int} {a : Nat} (hl : l.length ≤ 1000) (ha : a + m.length ≤ l.length) : s80 (m, l, (a : Int)) = some (wrongN m l a m.length) := by
 unfold s80
 have h1 := loop_for (step := step80_0) (st := fun k => (m, l, (a : Int), (k : Int), (0, 0), wrongN m l a k)) (n := m.length) (e := ((0, 0), wrongN m l a m.length))
  (fun k hk => by
    have e1 : wr ((a : Int) + (k : Int)) = ((a + k : Nat) : Int) := by rw [wr_id (by omega) (by omega)]; omega
    simp only [step80_0, lt_cast, inB_cast, e1, Int.toNat_natCast, decide_eq_true hk, decide_eq_true (show a + k < l.length by omega), cond_true, s93_eq, optE_some, wr_succ (show k < 4611686018427387904 by omega)]
    rw [show wrongN m l a (k + 1) = nxW (hardV (l.getD (a + k) 0)) (m.getD k 0) (wrongN m l a k) from rfl]
    unfold nxW
    by_cases g1 : hardV (l.getD (a + k) 0) = m.getD k 0 <;> by_cases g2 : hardV (l.getD (a + k) 0) = wr (1 - m.getD k 0)
    ·rw [bne_eq_false_iff_eq.2 g1, bne_eq_false_iff_eq.2 g2, if_pos g1, if_pos g2]; rfl
    ·rw [bne_eq_false_iff_eq.2 g1, bne_iff_ne.2 g2, if_pos g1, if_neg g2]; rfl
    ·rw [bne_iff_ne.2 g1, bne_eq_false_iff_eq.2 g2, if_neg g1, if_pos g2]; rfl
    ·rw [bne_iff_ne.2 g1, bne_iff_ne.2 g2, if_neg g1, if_neg g2]; rfl)
  (by simp only [step80_0, lt_cast, Nat.lt_irrefl, decide_false, cond_false]) 0 (by omega)
 have h1 : loopVal step80_0 (m, l, (a : Int), 0, (0, 0), (0, 0)) = some ((0, 0), wrongN m l a m.length) := h1
 simp only [h1, optE_some]
end Go.Proofs.Ythckjfbhdjjnkaa
