/- Fractions and lines: their errors, and lowest terms. -/
import Derived.Test.YtfpppijfkeidgaaGreatDoorGz5
import Derived.Test.YtfpppijfkeidgaaGreatDoorTones
set_option linter.unusedSimpArgs false
namespace Go.Proofs.YtfpppijfkeidgaaGreatDoor
open Go.Ev
abbrev Fr := Int × Int
noncomputable def isLow (f : Fr) : Bool := decide (f.2 > 0) && (mx (euV f.1 f.2) (wr (-(euV f.1 f.2))) == 1)
theorem isLowest_eq (f : Fr) : s45 f = some (isLow f) := by
 obtain ⟨n, d⟩ := f
 unfold s45 isLow
 simp only [s68_eu, optE_some]
 cases decide (d > 0) <;> rfl
theorem size_eq (n : Int) : s72 n = some (mx n (wr (-n))) := rfl
noncomputable def frE (f : Fr) (most mostDen : Int) : Int := firstE [unl (isLow f) 3, unl (win f.1 (wr (-most)) most && decide (f.2 ≤ mostDen)) 2]
theorem fracErr_eq (f : Fr) (most mostDen : Int) : s50 (f, most, mostDen) = some (frE f most mostDen) := by
 obtain ⟨n, d⟩ := f
 unfold s50 frE isLow
 simp only [s73_eq, size_eq, optE_some]
 cases decide (d > 0) <;> cases win n (wr (-most)) most <;> cases (mx (euV n d) (wr (-(euV n d))) == 1) <;> rfl
theorem isLow_pos {f : Fr} (h : isLow f = true) : 0 < f.2 := by
 unfold isLow at h
 simp only [Bool.and_eq_true, decide_eq_true_eq] at h
 exact h.1
theorem isLow_gcd {f : Fr} (h : isLow f = true) (h2 : f.2 < 4611686018427387904) : Nat.gcd f.1.natAbs f.2.natAbs = 1 := by
 have hp := isLow_pos h
 unfold isLow at h
 simp only [Bool.and_eq_true, beq_iff_eq] at h
 have := h.2
 rw [eu_size hp h2] at this
 omega
noncomputable def ptE (f : Fr) : Int := frE f 100000 1000
theorem ptE_ok {f : Fr} (h : ptE f = 0) : isLow f = true ∧ (-100000 ≤ f.1 ∧ f.1 ≤ 100000) ∧ 1 ≤ f.2 ∧ f.2 ≤ 1000 := by
 unfold ptE frE at h
 have h := firstE_zero.1 h
 have h1 := unl_zero (by decide) (h (unl (isLow f) 3) (by simp))
 have h2 := unl_zero (by decide) (h (unl (win f.1 (wr (-100000)) 100000 && decide (f.2 ≤ 1000)) 2) (by simp))
 simp only [Bool.and_eq_true, win_iff, decide_eq_true_eq, show wr (-100000) = -100000 from rfl] at h2
 have := isLow_pos h1
 exact ⟨h1, h2.1, by omega, h2.2⟩
noncomputable def lnE (x : Fr × Fr) : Int := firstE [ptE x.1, ptE x.2]
theorem lnE_ok {x : Fr × Fr} (h : lnE x = 0) : ptE x.1 = 0 ∧ ptE x.2 = 0 := by
 unfold lnE at h
 have h := firstE_zero.1 h
 exact ⟨h _ (by simp), h (ptE x.2) (by simp)⟩
theorem low_div {n d : Int} (hd : 0 < d) (hd2 : d < 4611686018427387904) (h1 : -4611686018427387904 < n) (h2 : n < 4611686018427387904) :
 wr (Int.tdiv n (Nat.gcd n.natAbs d.natAbs : Nat)) = n / (Nat.gcd n.natAbs d.natAbs : Nat) ∧ wr (Int.tdiv d (Nat.gcd n.natAbs d.natAbs : Nat)) = d / (Nat.gcd n.natAbs d.natAbs : Nat) ∧ (((Nat.gcd n.natAbs d.natAbs : Nat) : Int) == 0) = false := by
 have hg := gcd_pos (a := n) hd
 rw [tdiv_gcd_l, tdiv_gcd_r]
 have s1 := div_size (a := n) hg
 have s2 := div_size (a := d) hg
 refine ⟨wr_id (by omega) (by omega), wr_id (by omega) (by omega), ?_⟩
 have : ((Nat.gcd n.natAbs d.natAbs : Nat) : Int) ≠ 0 := by omega
 simpa using this
theorem lowest1 {n d : Int} (hd : 0 < d) (hd2 : d < 4611686018427387904) (h1 : -4611686018427387904 < n) (h2 : n < 4611686018427387904) : s88 (n, d) = some (lowF n d) := by
 obtain ⟨a, b, c⟩ := low_div hd hd2 h1 h2
 unfold s88
 simp only [s73_eq, optE_some, size_eq, eu_size hd hd2, c, Bool.not_false, cond_true, a, b]
 rfl
theorem lowF_den {n d : Int} (hd : 0 < d) : 1 ≤ (lowF n d).2 ∧ (lowF n d).2 ≤ d := by
 have hg := gcd_pos (a := n) hd
 have hle : Nat.gcd n.natAbs d.natAbs ≤ d.natAbs := Nat.gcd_le_right _ (by omega)
 refine ⟨?_, Int.ediv_le_self _ (by omega)⟩
 show (1 : Int) ≤ d / (Nat.gcd n.natAbs d.natAbs : Nat)
 rw [Int.le_ediv_iff_mul_le (by omega)]
 omega
theorem lowF_cross (n d : Int) : (lowF n d).1 * d = n * (lowF n d).2 := by
 obtain ⟨a, ha⟩ := gcd_dvd_l n d
 obtain ⟨b, hb⟩ := gcd_dvd_r n d
 show n / ((Nat.gcd n.natAbs d.natAbs : Nat) : Int) * d = n * (d / ((Nat.gcd n.natAbs d.natAbs : Nat) : Int))
 generalize ((Nat.gcd n.natAbs d.natAbs : Nat) : Int) = g at ha hb ⊢
 by_cases hg : g = 0
 ·subst hg; simp
 ·rw [ha, hb, Int.mul_ediv_cancel_left _ hg, Int.mul_ediv_cancel_left _ hg]
  grind
end Go.Proofs.YtfpppijfkeidgaaGreatDoor
