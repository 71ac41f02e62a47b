/- Tones: which are valid; the ambiguity as the program computes it. -/
import Derived.Test.YtdoehknomnhlkaaDoorGc3
import Derived.Test.YtdoehknomnhlkaaDoorGcd
import Derived.Test.YtdoehknomnhlkaaDoorMasks
set_option linter.unusedSimpArgs false
namespace Go.Proofs.YtdoehknomnhlkaaDoor
open Go.Ev
section
variable {α : Type} (f : α → Int) (d : α)
def hitE (l : List α) (k : Nat) : Option ((Int × Int) ⊕ Unit) := bif f (l.getD k d) != 0 then some (Sum.inl ((k : Int), f (l.getD k d))) else none
def scanE (l : List α) : (Int × Int) ⊕ Unit := scan (hitE f d l) (Sum.inr ()) l.length 0
def chkE (n : Int) (l : List α) : Int × Int := bif decide ((l.length : Int) > n) then (0, 8) else sumE (scanE f d l) (fun e => e) (fun _ => (0, 0))
theorem getD_mem {l : List α} {k : Nat} (h : k < l.length) : l.getD k d ∈ l := by
 rw [List.getD_eq_getElem?_getD, List.getElem?_eq_getElem h]
 exact List.getElem_mem h
theorem chkE_zero (n : Int) (l : List α) : (chkE f d n l).2 = 0 ↔ (l.length : Int) ≤ n ∧ ∀ x ∈ l, f x = 0 := by
 unfold chkE
 by_cases hn : (l.length : Int) > n
 ·rw [decide_eq_true hn]
  constructor
  ·intro h; cases h
  ·intro h; omega
 ·rw [decide_eq_false hn, cond_false]
  unfold scanE
  rcases scan_cases (hitE f d l) (Sum.inr ()) l.length 0 with ⟨h1, h2⟩ | ⟨j, x, _, h2, h3, h4⟩
  ·rw [h1]
   refine ⟨fun _ => ⟨by omega, fun x hx => ?_⟩, fun _ => rfl⟩
   obtain ⟨k, hk, rfl⟩ := List.mem_iff_getElem.1 hx
   have := h2 k (by omega) (by omega)
   unfold hitE at this
   rw [List.getD_eq_getElem?_getD, List.getElem?_eq_getElem hk, Option.getD_some] at this
   cases hb : f l[k] != 0 with
   | true => rw [hb] at this; cases this
   | false => simpa using hb
  ·rw [h4]
   unfold hitE at h3
   cases hb : f (l.getD j d) != 0 with
   | false => rw [hb] at h3; cases h3
   | true =>
     rw [hb] at h3
     obtain rfl := Option.some.inj h3
     have hne : f (l.getD j d) ≠ 0 := by simpa using hb
     refine ⟨fun h => absurd h hne, fun h => absurd (h.2 _ (getD_mem d (by omega))) hne⟩
theorem chkE_ok {n : Int} {l : List α} (h : (chkE f d n l).2 = 0) : chkE f d n l = (0, 0) := by
 have h0 := (chkE_zero f d n l).1 h
 unfold chkE
 rw [decide_eq_false (show ¬ (l.length : Int) > n by omega), cond_false]
 unfold scanE
 rcases scan_cases (hitE f d l) (Sum.inr ()) l.length 0 with ⟨h1, _⟩ | ⟨j, x, _, h2, h3, _⟩
 ·rw [h1]; rfl
 ·unfold hitE at h3
  rw [h0.2 _ (getD_mem d (by omega))] at h3
  cases h3
end
noncomputable def chkT (l : List (Int × Int × Int)) : Int × Int := chkE tErr (0, 0, 0) 8 l
theorem chkT1 (l : List (Int × Int × Int)) : s17 l = some (chkT l) := by
 unfold s17 chkT chkE
 cases hl : decide ((l.length : Int) > 8)
 ·have hl : ¬ (l.length : Int) > 8 := by simpa using hl
  have h1 := loop_scan (step := step17_0) (st := fun k => (l, (l.length : Int), (k : Int))) (n := l.length)
   (hit := hitE tErr (0, 0, 0) l) (e := Sum.inr ())
   (fun k hk => by
     simp only [step17_0, hitE, lt_cast, inB_cast, hk, decide_true, cond_true, Int.toNat_natCast, wr_succ (show k < 4611686018427387904 by omega)]
     cases (tErr (l.getD k (0, 0, 0)) != 0) <;> rfl) (by simp [step17_0]) l.length 0 (by omega)
  rw [show ((0 : Nat) : Int) = 0 from rfl] at h1
  rw [h1]
  simp only [cond_false, optE, scanE]
  cases scan (hitE tErr (0, 0, 0) l) (Sum.inr ()) l.length 0 <;> rfl
 ·rfl
theorem chkT2 (l : List (Int × Int × Int)) : s29 l = some (chkT l) := by
 unfold s29 chkT chkE
 cases hl : decide ((l.length : Int) > 8)
 ·have hl : ¬ (l.length : Int) > 8 := by simpa using hl
  have h1 := loop_scan (step := step29_0) (st := fun k => (l, (k : Int))) (n := l.length)
   (hit := hitE tErr (0, 0, 0) l) (e := Sum.inr ())
   (fun k hk => by
     simp only [step29_0, hitE, lt_cast, inB_cast, hk, decide_true, cond_true, Int.toNat_natCast, wr_succ (show k < 4611686018427387904 by omega)]
     cases (tErr (l.getD k (0, 0, 0)) != 0) <;> rfl) (by simp [step29_0]) l.length 0 (by omega)
  rw [show ((0 : Nat) : Int) = 0 from rfl] at h1
  rw [h1]
  simp only [cond_false, optE, scanE]
  cases scan (hitE tErr (0, 0, 0) l) (Sum.inr ()) l.length 0 <;> rfl
 ·rfl
theorem copyT (l : List (Int × Int × Int)) (h : l.length ≤ 1000000) : s8 l = some l := by
 unfold s8
 rw [room_true (by omega) (by omega)]
 rfl
theorem tErr_ok {t : Int × Int × Int} (h : tErr t = 0) : (1 ≤ t.1 ∧ t.1 ≤ 100000) ∧ (0 ≤ t.2.1 ∧ t.2.1 ≤ t.1 - 1) ∧ t.2.1 ≤ t.2.2 ∧ t.2.2 ≤ t.2.1 + t.1 - 1 := by
 unfold tErr at h
 have h := firstE_zero.1 h
 have h1 := unl_zero (by decide) (h (unl (win t.1 1 100000 && win t.2.1 0 (t.1 - 1)) 2) (by simp))
 have h2 := unl_zero (by decide) (h (unl (decide (t.2.1 ≤ t.2.2)) 9) (by simp))
 have h3 := unl_zero (by decide) (h (unl (decide (t.2.2 ≤ t.2.1 + t.1 - 1)) 23) (by simp))
 simp only [Bool.and_eq_true, win_iff, decide_eq_true_eq] at h1 h2 h3
 exact ⟨h1.1, h1.2, h2, h3⟩
theorem div_eq : step36_0 = euStep := rfl
theorem s36_eq (a b : Int) : s36 (a, b) = some (euV a b) := by
 unfold s36
 simp only [div_eq, eu_val, optE_some]
def ambF : List (Int × Int × Int) → Int → Option Int
 | [], out => some out
 | t :: l, out => if out * (t.1 / (Nat.gcd out.natAbs t.1.natAbs : Nat)) > 1000000000000000 then none else ambF l (out * (t.1 / (Nat.gcd out.natAbs t.1.natAbs : Nat)))
theorem by_facts {out p : Int} (hp : 1 ≤ p ∧ p ≤ 100000) : 0 < Nat.gcd out.natAbs p.natAbs ∧ Nat.gcd out.natAbs p.natAbs ≤ 100000 ∧
 1 ≤ p / (Nat.gcd out.natAbs p.natAbs : Nat) ∧ p / (Nat.gcd out.natAbs p.natAbs : Nat) ≤ 100000 := by
 have h1 : 0 < Nat.gcd out.natAbs p.natAbs := gcd_pos (by omega)
 have h2 : Nat.gcd out.natAbs p.natAbs ≤ p.natAbs := Nat.gcd_le_right _ (by omega)
 have h3 := Int.ediv_le_self (a := p) (Nat.gcd out.natAbs p.natAbs : Nat) (by omega)
 have h4 : (1 : Int) ≤ p / (Nat.gcd out.natAbs p.natAbs : Nat) := by
  rw [Int.le_ediv_iff_mul_le (by omega)]
  omega
 exact ⟨h1, by omega, h4, by omega⟩
theorem quo_gt {a b : Int} (hb : 1 ≤ b) : (a > 1000000000000000 / b) ↔ a * b > 1000000000000000 := by
 constructor
 ·intro h
  have := Int.lt_mul_of_ediv_lt (by omega) h
  omega
 ·intro h
  exact Int.ediv_lt_of_lt_mul (by omega) (by omega)
theorem amb1 (l : List (Int × Int × Int)) (hl : l.length ≤ 1000) (hv : ∀ t ∈ l, tErr t = 0) : ∀ (m k : Nat) (out : Int), k + m = l.length → 1 ≤ out → out ≤ 1000000000000000 →
 loopVal step18_0 (out, l, (l.length : Int), (k : Int)) = some (match ambF (l.drop k) out with | none => .inl (0, 8) | some a => .inr a) := by
 intro m
 induction m with
 | zero =>
   intro k out hk h1 h2
   obtain rfl : k = l.length := by omega
   rw [List.drop_length]
   exact loopVal_last (by simp [step18_0, ambF])
 | succ m ih =>
   intro k out hk h1 h2
   have hk' : k < l.length := by omega
   obtain ⟨t1, _, _, _⟩ := tErr_ok (hv _ (getD_mem (0, 0, 0) hk'))
   rw [getD_drop l (0, 0, 0) hk', ambF]
   generalize hp : (l.getD k (0, 0, 0)).1 = p at t1
   obtain ⟨g1, g2, g3, g4⟩ := by_facts (out := out) t1
   have hg : ((Nat.gcd out.natAbs p.natAbs : Nat) : Int) ≠ 0 := by omega
   have hg' : (((Nat.gcd out.natAbs p.natAbs : Nat) : Int) == 0) = false := by simpa using hg
   have hb' : (p / ((Nat.gcd out.natAbs p.natAbs : Nat) : Int) == 0) = false := by
    have : p / ((Nat.gcd out.natAbs p.natAbs : Nat) : Int) ≠ 0 := by omega
    simpa using this
   have hstep : step18_0 (out, l, (l.length : Int), (k : Int)) = bif decide (out > 1000000000000000 / (p / (Nat.gcd out.natAbs p.natAbs : Nat))) then some (.inr (.inl (0, 8))) else some (.inl (wr (out * (p / (Nat.gcd out.natAbs p.natAbs : Nat))), l, (l.length : Int), ((k + 1 : Nat) : Int))) := by
    have hq : 0 ≤ 1000000000000000 / (p / ((Nat.gcd out.natAbs p.natAbs : Nat) : Int)) := Int.ediv_nonneg (by omega) (by omega)
    have hq2 := Int.ediv_le_self (a := 1000000000000000) (p / ((Nat.gcd out.natAbs p.natAbs : Nat) : Int)) (by omega)
    simp only [step18_0, lt_cast, inB_cast, hk', decide_true, cond_true, Int.toNat_natCast, hp, s36_eq, optE_some, eu_pos (show 0 ≤ out by omega) (show 0 ≤ p by omega), hg', Bool.not_false, tdiv_gcd_r,
     wr_id (n := p / ((Nat.gcd out.natAbs p.natAbs : Nat) : Int)) (by omega) (by omega), hb', Int.tdiv_eq_ediv_of_nonneg (show (0 : Int) ≤ 1000000000000000 by decide),
     wr_id (n := 1000000000000000 / (p / ((Nat.gcd out.natAbs p.natAbs : Nat) : Int))) (by omega) (by omega), wr_succ (show k < 4611686018427387904 by omega)]
   by_cases hgt : out * (p / (Nat.gcd out.natAbs p.natAbs : Nat)) > 1000000000000000
   ·rw [if_pos hgt]
    rw [decide_eq_true ((quo_gt g3).2 hgt), cond_true] at hstep
    exact loopVal_last hstep
   ·rw [if_neg hgt]
    have h0 := Int.mul_le_mul h1 g3 (by omega) (by omega)
    rw [decide_eq_false (fun h => hgt ((quo_gt g3).1 h)), cond_false, wr_id (by omega) (by omega)] at hstep
    rw [loopVal_next hstep]
    exact ih (k + 1) _ (by omega) (by omega) (by omega)
end Go.Proofs.YtdoehknomnhlkaaDoor
