/- Enclosures are as specified. -/
import Derived.Test.YtfpppijfkeidgaaGreatDoorRefMost
set_option linter.unusedSimpArgs false
namespace Go.Proofs.YtfpppijfkeidgaaGreatDoor
open Go.Ev
section
variable {H : List Hf} (hH : ∀ h ∈ H, HOk h) (hlen : H.length ≤ 1000) {a b : Int} (ht : DOk (a, b, 0)) {t6 : Int × Int}
include hH hlen ht
end
end Go.Proofs.YtfpppijfkeidgaaGreatDoor
set_option linter.unusedSimpArgs false
namespace Go.Proofs.YtfpppijfkeidgaaGreatDoor
open Go.Ev
def Dir (f : Vc) : Prop := VOk f ∧ (f.1 = 1 ∨ f.1 = -1 ∨ (f.1 = 0 ∧ (f.2 = 1 ∨ f.2 = -1)))
def tOf (f : Vc) : Hf := (f.1, f.2, 0)
theorem Dir.d {f : Vc} (h : Dir f) : DOk (tOf f) := h.1
theorem alg_exact {v f : Vc} (hf : Dir f) (h1 : crs v f = 0) (h2 : 0 < v.1 * f.1 + v.2 * f.2) : 0 < alg v f ∧ v.1 = alg v f * f.1 ∧ v.2 = alg v f * f.2 := by
 have ha : alg v f = if f.1 ≠ 0 then Int.tdiv v.1 f.1 else Int.tdiv v.2 f.2 := by
  unfold alg
  rw [if_neg (by intro h; rcases h with h | h; exact h h1; omega)]
 have sq : 0 ≤ f.2 * f.2 := by rcases Int.le_total 0 f.2 with h | h; exact Int.mul_nonneg h h; exact Int.mul_nonneg_of_nonpos_of_nonpos h h
 unfold crs at h1
 rw [ha]
 rcases hf.2 with h | h | ⟨h, h'⟩
 ·rw [if_pos (by omega), h, Int.tdiv_one]
  rw [h] at h1 h2
  have e : v.2 = v.1 * f.2 := by omega
  have e2 : v.1 * 1 + v.2 * f.2 = v.1 * (1 + f.2 * f.2) := by rw [e]; grind
  rw [e2] at h2
  refine ⟨?_, by omega, e⟩
  rcases Int.lt_or_le 0 v.1 with h3 | h3
  ·exact h3
  ·have := Int.mul_nonneg_of_nonpos_of_nonpos h3 (show -(1 + f.2 * f.2) ≤ 0 by omega)
   rw [Int.mul_neg] at this; omega
 ·rw [if_pos (by omega), h, Int.tdiv_neg, Int.tdiv_one]
  rw [h] at h1 h2
  have e : v.2 = -v.1 * f.2 := by rw [Int.neg_mul]; omega
  have e2 : v.1 * -1 + v.2 * f.2 = -v.1 * (1 + f.2 * f.2) := by rw [e]; grind
  rw [e2] at h2
  refine ⟨?_, by omega, e⟩
  rcases Int.lt_or_le 0 (-v.1) with h3 | h3
  ·exact h3
  ·have := Int.mul_nonneg_of_nonpos_of_nonpos h3 (show -(1 + f.2 * f.2) ≤ 0 by omega)
   rw [Int.mul_neg] at this; omega
 ·rw [if_neg (by simpa using h)]
  rw [h] at h1 h2
  rcases h' with h' | h' <;> rw [h'] at h1 h2 ⊢
  ·rw [Int.tdiv_one, h]; omega
  ·rw [Int.tdiv_neg, Int.tdiv_one, h]; omega
theorem alg_pos {v f : Vc} (h : alg v f > 0) : crs v f = 0 ∧ 0 < v.1 * f.1 + v.2 * f.2 := by
 unfold alg at h
 split at h
 ·omega
 ·rename_i hc
  simp only [not_or, ne_eq, Classical.not_not] at hc
  exact ⟨hc.1, by omega⟩
section
variable {f : Vc} (hf : Dir f) {R : List Rw} (hR : RHOk R)
include hf hR
end
theorem opp_dir {f : Vc} (h : Dir f) : Dir (-f.1, -f.2) := by
 refine ⟨opp_ok h.1, ?_⟩
 simp only
 rcases h.2 with h | h | ⟨h, h'⟩
 ·right; left; omega
 ·left; omega
 ·right; right; omega
end Go.Proofs.YtfpppijfkeidgaaGreatDoor
