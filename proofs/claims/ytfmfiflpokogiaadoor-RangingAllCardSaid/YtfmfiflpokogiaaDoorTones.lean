import Derived.Test.YtfmfiflpokogiaaDoorWideBase
import Derived.Test.YtfmfiflpokogiaaDoorGcd
import Derived.Test.YtfmfiflpokogiaaDoorMeas
set_option linter.unusedSimpArgs false
namespace Go.Proofs.YtfmfiflpokogiaaDoor
open Go.Ev
noncomputable def chkT (l : List (Int × Int × Int)) : Int × Int := chkE tErr (0, 0, 0) 8 l
theorem chkT1 (l : List (Int × Int × Int)) : s42 l = some (chkT l) := by
 unfold s42 chkT chkE
 cases hl : decide ((l.length : Int) > 8)
 ·have hl : ¬ (l.length : Int) > 8 := by simpa using hl
  have h1 := loop_scan (step := step42_0) (st := fun k => (l, (l.length : Int), (k : Int))) (n := l.length)
   (hit := hitE tErr (0, 0, 0) l) (e := Sum.inr ())
   (fun k hk => by
     simp only [step42_0, hitE, lt_cast, inB_cast, hk, decide_true, cond_true, Int.toNat_natCast, wr_succ (show k < 4611686018427387904 by omega)]
     cases (tErr (l.getD k (0, 0, 0)) != 0) <;> rfl) (by simp [step42_0]) l.length 0 (by omega)
  rw [show ((0 : Nat) : Int) = 0 from rfl] at h1
  rw [h1]
  simp only [cond_false, optE, scanE]
  cases scan (hitE tErr (0, 0, 0) l) (Sum.inr ()) l.length 0 <;> rfl
 ·rfl
theorem chkT2 (l : List (Int × Int × Int)) : s44 l = some (chkT l) := by
 unfold s44 chkT chkE
 cases hl : decide ((l.length : Int) > 8)
 ·have hl : ¬ (l.length : Int) > 8 := by simpa using hl
  have h1 := loop_scan (step := step44_0) (st := fun k => (l, (k : Int))) (n := l.length)
   (hit := hitE tErr (0, 0, 0) l) (e := Sum.inr ())
   (fun k hk => by
     simp only [step44_0, hitE, lt_cast, inB_cast, hk, decide_true, cond_true, Int.toNat_natCast, wr_succ (show k < 4611686018427387904 by omega)]
     cases (tErr (l.getD k (0, 0, 0)) != 0) <;> rfl) (by simp [step44_0]) l.length 0 (by omega)
  rw [show ((0 : Nat) : Int) = 0 from rfl] at h1
  rw [h1]
  simp only [cond_false, optE, scanE]
  cases scan (hitE tErr (0, 0, 0) l) (Sum.inr ()) l.length 0 <;> rfl
 ·rfl
theorem copyT (l : List (Int × Int × Int)) (h : l.length ≤ 1000000) : s37 l = some l := by
 unfold s37
 rw [room_true (by omega) (by omega)]
 rfl
theorem tErr_ok {t : Int × Int × Int} (h : tErr t = 0) : (1 ≤ t.1 ∧ t.1 ≤ 100000) ∧ (0 ≤ t.2.1 ∧ t.2.1 ≤ t.1 - 1) ∧ t.2.1 ≤ t.2.2 ∧ t.2.2 ≤ t.2.1 + t.1 - 1 := by
 unfold tErr at h
 have h := firstE_zero.1 h
 have h1 := unl_zero (by decide) (h (unl (win t.1 1 100000 && win t.2.1 0 (t.1 - 1)) 2) (by simp))
 have h2 := unl_zero (by decide) (h (unl (decide (t.2.1 ≤ t.2.2)) 9) (by simp))
 have h3 := unl_zero (by decide) (h (unl (decide (t.2.2 ≤ t.2.1 + t.1 - 1)) 23) (by simp))
 simp only [Bool.and_eq_true, win_iff, decide_eq_true_eq] at h1 h2 h3
 exact ⟨h1.1, h1.2, h2, h3⟩
theorem div_eq : step90_0 = euStep := rfl
theorem gcd_eq : step85_0 = euStep := rfl
theorem s90_eq (a b : Int) : s90 (a, b) = some (euV a b) := by
 unfold s90
 simp only [div_eq, eu_val, optE_some]
theorem s85_eu (a b : Int) : s85 (a, b) = some (mx (euV a b) (wr (-(euV a b)))) := by
 unfold s85
 simp only [gcd_eq, eu_val, optE_some]
 rfl
theorem s85_eq {a b : Int} (h3 : 0 < b) (h4 : b < 4611686018427387904) : s85 (a, b) = some ((Nat.gcd a.natAbs b.natAbs : Nat) : Int) := by
 rw [s85_eu, eu_size h3 h4]
def ambF : List (Int × Int × Int) → Int → Option Int
 | [], out => some out
 | t :: l, out => if out * (t.1 / (Nat.gcd out.natAbs t.1.natAbs : Nat)) > 1000000000000000 then none else ambF l (out * (t.1 / (Nat.gcd out.natAbs t.1.natAbs : Nat)))
theorem by_facts {out p : Int} (hp : 1 ≤ p ∧ p ≤ 100000) : 0 < Nat.gcd out.natAbs p.natAbs ∧ Nat.gcd out.natAbs p.natAbs ≤ 100000 ∧
 1 ≤ p / (Nat.gcd out.natAbs p.natAbs : Nat) ∧ p / (Nat.gcd out.natAbs p.natAbs : Nat) ≤ 100000 := by
 have h1 : 0 < Nat.gcd out.natAbs p.natAbs := gcd_pos (by omega)
 have h2 : Nat.gcd out.natAbs p.natAbs ≤ p.natAbs := Nat.gcd_le_right _ (by omega)
 have h3 := Int.ediv_le_self (a := p) (Nat.gcd out.natAbs p.natAbs : Nat) (by omega)
 have h4 : (1 : Int) ≤ p / (Nat.gcd out.natAbs p.natAbs : Nat) := by
  rw [Int.le_ediv_iff_mul_le (by omega)]
  omega
 exact ⟨h1, by omega, h4, by omega⟩
theorem quo_gt {a b : Int} (hb : 1 ≤ b) : (a > 1000000000000000 / b) ↔ a * b > 1000000000000000 := by
 constructor
 ·intro h
  have := Int.lt_mul_of_ediv_lt (by omega) h
  omega
 ·intro h
  exact Int.ediv_lt_of_lt_mul (by omega) (by omega)
theorem amb1 (l : List (Int × Int × Int)) (hl : l.length ≤ 1000) (hv : ∀ t ∈ l, tErr t = 0) : ∀ (m k : Nat) (out : Int), k + m = l.length → 1 ≤ out → out ≤ 1000000000000000 →
 loopVal step43_0 (out, l, (l.length : Int), (k : Int)) = some (match ambF (l.drop k) out with | none => .inl (0, 8) | some a => .inr a) := by
 intro m
 induction m with
 | zero =>
   intro k out hk h1 h2
   obtain rfl : k = l.length := by omega
   rw [List.drop_length]
   exact loopVal_last (by simp [step43_0, ambF])
 | succ m ih =>
   intro k out hk h1 h2
   have hk' : k < l.length := by omega
   obtain ⟨t1, _, _, _⟩ := tErr_ok (hv _ (getD_mem (0, 0, 0) hk'))
   rw [getD_drop l (0, 0, 0) hk', ambF]
   generalize hp : (l.getD k (0, 0, 0)).1 = p at t1
   obtain ⟨g1, g2, g3, g4⟩ := by_facts (out := out) t1
   have hg : ((Nat.gcd out.natAbs p.natAbs : Nat) : Int) ≠ 0 := by omega
   have hg' : (((Nat.gcd out.natAbs p.natAbs : Nat) : Int) == 0) = false := by simpa using hg
   have hb' : (p / ((Nat.gcd out.natAbs p.natAbs : Nat) : Int) == 0) = false := by
    have : p / ((Nat.gcd out.natAbs p.natAbs : Nat) : Int) ≠ 0 := by omega
    simpa using this
   have hstep : step43_0 (out, l, (l.length : Int), (k : Int)) = bif decide (out > 1000000000000000 / (p / (Nat.gcd out.natAbs p.natAbs : Nat))) then some (.inr (.inl (0, 8))) else some (.inl (wr (out * (p / (Nat.gcd out.natAbs p.natAbs : Nat))), l, (l.length : Int), ((k + 1 : Nat) : Int))) := by
    have hq : 0 ≤ 1000000000000000 / (p / ((Nat.gcd out.natAbs p.natAbs : Nat) : Int)) := Int.ediv_nonneg (by omega) (by omega)
    have hq2 := Int.ediv_le_self (a := 1000000000000000) (p / ((Nat.gcd out.natAbs p.natAbs : Nat) : Int)) (by omega)
    simp only [step43_0, lt_cast, inB_cast, hk', decide_true, cond_true, Int.toNat_natCast, hp, s90_eq, optE_some, eu_pos (show 0 ≤ out by omega) (show 0 ≤ p by omega), hg', Bool.not_false, tdiv_gcd_r,
     wr_id (n := p / ((Nat.gcd out.natAbs p.natAbs : Nat) : Int)) (by omega) (by omega), hb', Int.tdiv_eq_ediv_of_nonneg (show (0 : Int) ≤ 1000000000000000 by decide),
     wr_id (n := 1000000000000000 / (p / ((Nat.gcd out.natAbs p.natAbs : Nat) : Int))) (by omega) (by omega), wr_succ (show k < 4611686018427387904 by omega)]
   by_cases hgt : out * (p / (Nat.gcd out.natAbs p.natAbs : Nat)) > 1000000000000000
   ·rw [if_pos hgt]
    rw [decide_eq_true ((quo_gt g3).2 hgt), cond_true] at hstep
    exact loopVal_last hstep
   ·rw [if_neg hgt]
    have h0 := Int.mul_le_mul h1 g3 (by omega) (by omega)
    rw [decide_eq_false (fun h => hgt ((quo_gt g3).1 h)), cond_false, wr_id (by omega) (by omega)] at hstep
    rw [loopVal_next hstep]
    exact ih (k + 1) _ (by omega) (by omega) (by omega)
theorem int_small {w : Int × List Int} {n : Int} {k : Nat} (h : IsW w n k) (h0 : 0 ≤ n) (h1 : n ≤ 1000000000000000) : s95 w = some (n, true) := by
 obtain ⟨sg, l⟩ := w
 obtain ⟨hs, hd, ht, hv, hl⟩ := h
 simp only at hs hd ht hv hl
 have ha : abI n = n := by unfold abI; split <;> omega
 rw [ha] at hv
 have last : ∀ (m : Int) (a : Int × List Int), loopVal step95_0 (m, -1, a) = some (m, a) := fun m a => loopVal_last (by simp [step95_0])
 have next : ∀ (m : Int) (a : Int × List Int) (k : Nat), k < a.2.length → k < 100 → loopVal step95_0 (m, (k : Int), a) = loopVal step95_0 (wr (wr (m * 1000000000) + a.2.getD k 0), (k : Int) - 1, a) := fun m a k h1 h2 => by
  refine loopVal_next ?_
  simp only [step95_0, decide_eq_true (show (k : Int) ≥ 0 by omega), inB_cast, h1, decide_true, cond_true, Int.toNat_natCast, wr_id (n := (k : Int) - 1) (by omega) (by omega)]
 have sg1 : 0 < n → sg = 1 := fun h => by rw [hs]; unfold sgI; split <;> (try split) <;> omega
 match l, hd, ht, hv with
 | [], hd, ht, hv =>
   have : n = 0 := by simpa [dval] using hv.symm
   subst this
   simp only [s95, List.length_nil, wr_id (n := ((0 : Nat) : Int) - 1) (by decide) (by decide)]
   rw [show ((0 : Nat) : Int) - 1 = -1 from rfl, last]
   simp [optE, wr_id]
 | [a], hd, ht, hv =>
   have ha := hd a (by simp)
   have hv : a = n := by simpa [dval] using hv
   have hpos : a ≠ 0 := fun e => by rw [e] at ht; simp [trim] at ht
   simp only [s95, List.length_cons, List.length_nil]
   rw [wr_id (n := ((0 + 1 : Nat) : Int) - 1) (by decide) (by decide), show ((0 + 1 : Nat) : Int) - 1 = ((0 : Nat) : Int) from rfl, next 0 _ 0 (by simp) (by omega), show ((0 : Nat) : Int) - 1 = -1 from rfl, last]
   simp only [optE, List.getD_cons_zero, Int.zero_mul]
   rw [wr_id (n := 0) (by omega) (by omega), Int.zero_add, wr_id (n := a) (by omega) (by omega), sg1 (by omega), Int.one_mul, hv, wr_id (by omega) (by omega)]
   rfl
 | [a, b], hd, ht, hv =>
   have ha := hd a (by simp)
   have hb := hd b (by simp)
   have hv : a + 1000000000 * b = n := by simpa [dval] using hv
   have hpos : b ≠ 0 := fun e => by
    have := trim_drop 1 ht
    rw [e] at this
    simp [trim] at this
   simp only [s95, List.length_cons, List.length_nil]
   rw [wr_id (n := ((0 + 1 + 1 : Nat) : Int) - 1) (by decide) (by decide), show ((0 + 1 + 1 : Nat) : Int) - 1 = ((1 : Nat) : Int) from rfl, next 0 _ 1 (by simp) (by omega), show ((1 : Nat) : Int) - 1 = ((0 : Nat) : Int) from rfl,
    next _ _ 0 (by simp) (by omega), show ((0 : Nat) : Int) - 1 = -1 from rfl, last]
   simp only [optE, List.getD_cons_zero, List.getD_cons_succ, Int.zero_mul]
   rw [wr_id (n := 0) (by omega) (by omega), Int.zero_add, wr_id (n := b) (by omega) (by omega), wr_id (n := b * 1000000000) (by omega) (by omega), show b * 1000000000 + a = n by omega, wr_id (n := n) (by omega) (by omega), sg1 (by omega), Int.one_mul, wr_id (by omega) (by omega)]
   rfl
 | a :: b :: c :: r, hd, ht, hv =>
   exfalso
   have hd2 := dig_drop 2 hd
   have h3 := dval_nonneg hd2
   have ha := hd a (by simp)
   have hb := hd b (by simp)
   have h4 : dval ((a :: b :: c :: r).drop 2) ≠ 0 := fun e => by
    have := dval_zero hd2 (trim_drop 2 ht) e
    simp at this
   have h5 : dval (a :: b :: c :: r) = a + 1000000000 * (b + 1000000000 * dval ((a :: b :: c :: r).drop 2)) := rfl
   omega
theorem amb2 (l : List (Int × Int × Int)) (hl : l.length ≤ 1000) (hv : ∀ t ∈ l, tErr t = 0) : ∀ (m k : Nat) (out : Int) (w : Int × List Int), k + m = l.length → 1 ≤ out → out ≤ 1000000000000000 →
 loopVal step45_0 (l, out, (k : Int), w) = some (match ambF (l.drop k) out with | none => .inl (0, false) | some a => .inr a) := by
 intro m
 induction m with
 | zero =>
   intro k out w hk h1 h2
   obtain rfl : k = l.length := by omega
   rw [List.drop_length]
   exact loopVal_last (by simp [step45_0, ambF])
 | succ m ih =>
   intro k out w hk h1 h2
   have hk' : k < l.length := by omega
   obtain ⟨t1, _, _, _⟩ := tErr_ok (hv _ (getD_mem (0, 0, 0) hk'))
   rw [getD_drop l (0, 0, 0) hk', ambF]
   generalize hp : (l.getD k (0, 0, 0)).1 = p at t1
   obtain ⟨g1, g2, g3, g4⟩ := by_facts (out := out) t1
   have hg' : (((Nat.gcd out.natAbs p.natAbs : Nat) : Int) == 0) = false := by
    have hg : ((Nat.gcd out.natAbs p.natAbs : Nat) : Int) ≠ 0 := by omega
    simpa using hg
   have hm0 := Int.mul_le_mul h1 g3 (by omega) (by omega)
   generalize hb : p / ((Nat.gcd out.natAbs p.natAbs : Nat) : Int) = b at g3 g4 hm0 ⊢
   obtain ⟨w1, e1, i1⟩ := s92_eq (n := out) (by omega) (by omega)
   obtain ⟨w2, e2, i2⟩ := s92_eq (n := b) (by omega) (by omega)
   obtain ⟨w3, e3, i3⟩ := s93_eq i1 i2 (by omega)
   obtain ⟨w4, e4, i4⟩ := s92_eq (n := 1000000000000000) (by omega) (by omega)
   have e5 := s94_eq i3 (i4.more (show 3 ≤ 3 + 3 + 1 by omega)) (by omega)
   have hstep : step45_0 (l, out, (k : Int), w) = bif decide (cmpI (out * b) 1000000000000000 > 0) then some (.inr (.inl (0, false))) else optE (s95 w3) (fun r8 => some (.inl (l, r8.1, ((k + 1 : Nat) : Int), w3))) none := by
    simp only [step45_0, lt_cast, inB_cast, hk', decide_true, cond_true, Int.toNat_natCast, hp, s85_eq (a := out) (b := p) (by omega) (by omega), optE_some, hg', Bool.not_false, tdiv_gcd_r, hb,
     wr_id (n := b) (by omega) (by omega), e1, e2, e3, e4, e5, wr_succ (show k < 4611686018427387904 by omega)]
   by_cases hgt : out * b > 1000000000000000
   ·rw [if_pos hgt]
    rw [decide_eq_true (show cmpI (out * b) 1000000000000000 > 0 by unfold cmpI; split <;> (try split) <;> omega), cond_true] at hstep
    exact loopVal_last hstep
   ·rw [if_neg hgt]
    rw [decide_eq_false (show ¬ cmpI (out * b) 1000000000000000 > 0 by unfold cmpI; split <;> (try split) <;> omega), cond_false, int_small i3 (by omega) (by omega), optE_some] at hstep
    rw [loopVal_next hstep]
    exact ih (k + 1) _ _ (by omega) (by omega) (by omega)
theorem tones_true (l : List (Int × Int × Int)) : s8 l = some true := by
 unfold s8
 simp only [Bool.not_true, cond_false]
 cases hl : decide ((l.length : Int) > 10)
 ·have hl : ¬ (l.length : Int) > 10 := by simpa using hl
  simp only [copyT l (by omega), optE_some, chkT1, chkT2, cond_false]
  cases he : (chkT l).2 != 0
  ·have he : (chkT l).2 = 0 := by simpa using he
   have hv := (chkE_zero tErr (0, 0, 0) 8 l).1 he
   have h1 := amb1 l (by omega) hv.2 l.length 0 1 (by omega) (by omega) (by omega)
   obtain ⟨w, e1, _⟩ := s92_eq (n := 1) (by omega) (by omega)
   have h2 := amb2 l (by omega) hv.2 l.length 0 1 w (by omega) (by omega) (by omega)
   rw [show ((0 : Nat) : Int) = 0 from rfl] at h1 h2
   have h3 : s43 l = some (match ambF l 1 with | none => (0, 8) | some a => (a, 0)) := by
    unfold s43
    simp only [chkT1, optE_some, he, bne_self_eq_false, cond_false, h1, List.drop_zero]
    cases ambF l 1 <;> rfl
   have h4 : s45 l = some (match ambF l 1 with | none => (0, false) | some a => (a, true)) := by
    unfold s45
    simp only [e1, optE_some, h2, List.drop_zero]
    cases ambF l 1 <;> rfl
   simp only [h3, h4, optE_some, he, bne_self_eq_false, cond_false]
   cases ambF l 1 with
   | none => rfl
   | some a => simp
  ·have h3 : s43 l = some (0, (chkT l).2) := by
    unfold s43
    simp only [chkT1, optE_some, he, cond_true]
   simp only [h3, optE_some, he, bne_self_eq_false, cond_false, cond_true, beq_self_eq_true]
 ·rfl
end Go.Proofs.YtfmfiflpokogiaaDoor
