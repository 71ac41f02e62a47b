/- Chapter 1: distances enclose. -/
import Derived.Test.YthabingkfmlbbaaGreatGap
set_option linter.unusedSimpArgs false
namespace Go.Proofs.YthabingkfmlbbaaGreat
open Go.Ev
def real (p q : Pt) : Int := (q.1.1 * p.2 - p.1.1 * q.2) * (q.1.1 * p.2 - p.1.1 * q.2) + (q.1.2.1 * p.2 - p.1.2.1 * q.2) * (q.1.2.1 * p.2 - p.1.2.1 * q.2) + (q.1.2.2 * p.2 - p.1.2.2 * q.2) * (q.1.2.2 * p.2 - p.1.2.2 * q.2)
theorem div_bd {n m : Int} (hm : 1 ≤ m) (h : -(1000000 * m) ≤ n ∧ n ≤ 1000000 * m) : -1000000 ≤ n / m ∧ n / m ≤ 1000000 := by
 constructor
 ·exact Int.le_ediv_of_mul_le (by omega) (by omega)
 ·exact Int.ediv_le_of_le_mul (by omega) (by omega)
theorem low_eq {n m d : Int} (hm : 1 ≤ m) (h : -(1000000 * m) ≤ n ∧ n ≤ 1000000 * m) (hm2 : m ≤ 10000) (hd : 0 ≤ d ∧ d ≤ 1000) : lowOf n m d = n / m - d ∧ highOf n m d = -((-n) / m) + d ∧ (-1000000 ≤ n / m ∧ n / m ≤ 1000000) ∧ 0 ≤ -((-n) / m) - n / m ∧ -((-n) / m) - n / m ≤ 1 := by
 have b1 := div_bd hm h
 have b2 := div_bd (n := -n) hm (by omega)
 unfold lowOf highOf
 rw [wr_id (n := n / m) (by omega) (by omega), wr_id (n := n / m - d) (by omega) (by omega), wr_id (n := -n) (by omega) (by omega), wr_id (n := (-n) / m) (by omega) (by omega), wr_id (n := -((-n) / m)) (by omega) (by omega), wr_id (by omega) (by omega)]
 refine ⟨rfl, rfl, b1, ?_⟩
 have h1 := Int.emod_nonneg n (show m ≠ 0 by omega)
 have h2 := Int.emod_lt_of_pos n (show 0 < m by omega)
 have h3 := Int.mul_ediv_add_emod n m
 have h4 := Int.mul_ediv_add_emod (-n) m
 have h5 := Int.emod_nonneg (-n) (show m ≠ 0 by omega)
 have h6 := Int.emod_lt_of_pos (-n) (show 0 < m by omega)
 have h7 : m * (-((-n) / m) - n / m) = (-n) % m + n % m := by rw [Int.mul_sub, Int.mul_neg]; omega
 constructor
 ·rcases (show -((-n) / m) - n / m < 0 ∨ 0 ≤ -((-n) / m) - n / m by omega) with c | c
  ·have := Int.mul_neg_of_pos_of_neg (show 0 < m by omega) c; omega
  ·exact c
 ·rcases (show 2 ≤ -((-n) / m) - n / m ∨ -((-n) / m) - n / m ≤ 1 by omega) with c | c
  ·have := Int.mul_le_mul_of_nonneg_left c (show 0 ≤ m by omega); omega
  ·exact c
def boxOf (r : Pt) (d : Int) : (Int × Int) × (Int × Int) × Int × Int := ((lowOf r.1.1 r.2 d, highOf r.1.1 r.2 d), (lowOf r.1.2.1 r.2 d, highOf r.1.2.1 r.2 d), lowOf r.1.2.2 r.2 d, highOf r.1.2.2 r.2 d)
theorem box_val {p : Tr} (h0 : (trkE p).2 = 0) {time : Int} (ht : tErr time p = 0) {r : Pt} (h1 : s31 (p, time) = some r) (hr : PtOk r) : s9 (p, time) = some (boxOf r p.2, 0) := by
 have V := valid_of h0
 have hr : 0 < r.2 := by have := hr.den; omega
 have e59 : s29 [p] = some 0 := by rw [s29_eq _ (by simp)]; simp [firstE_one, h0]
 have e60 : s30 (time, [p]) = some 0 := by rw [s30_eq _ _ (by simp) (by simpa using V)]; simp [firstE_one, ht]
 unfold s9
 simp only [e59, e60, h1, optE_some, s32_eq hr, s33_eq hr, show ((0 : Int) != 0) = false from rfl, cond_false]
 rfl
end Go.Proofs.YthabingkfmlbbaaGreat
