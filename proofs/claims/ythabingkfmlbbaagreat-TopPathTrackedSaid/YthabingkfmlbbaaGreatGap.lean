/- Chapter 1: the gap between two tracks. -/
import Derived.Test.YthabingkfmlbbaaGreatWide
set_option linter.unusedSimpArgs false
namespace Go.Proofs.YthabingkfmlbbaaGreat
open Go.Ev
def gap (p q : Pt) (e : Int) : Gp := (((q.1.1 * p.2 - p.1.1 * q.2, q.1.2.1 * p.2 - p.1.2.1 * q.2, q.1.2.2 * p.2 - p.1.2.2 * q.2), p.2 * q.2), e)
theorem dens {p q : Pt} (hp : PtOk p) (hq : PtOk q) : 1 ≤ p.2 * q.2 ∧ p.2 * q.2 ≤ 100000000 := by
 obtain ⟨p1, p2⟩ := hp.den
 obtain ⟨q1, q2⟩ := hq.den
 have := prod_bound (p := p.2) (q := q.2) (m := 10000) (by omega) p2 (by omega) q2
 have : 0 < p.2 * q.2 := Int.mul_pos (by omega) (by omega)
 omega
theorem comp_bd {x y d e : Int} (hd : 1 ≤ d) (he : 1 ≤ e) (hd2 : d ≤ 10000) (he2 : e ≤ 10000) (hx : -(1000000 * d) ≤ x ∧ x ≤ 1000000 * d) (hy : -(1000000 * e) ≤ y ∧ y ≤ 1000000 * e) :
 wr (wr (y * d) - wr (x * e)) = y * d - x * e ∧ -(2000000 * (d * e)) ≤ y * d - x * e ∧ y * d - x * e ≤ 2000000 * (d * e) := by
 have h1 := Int.mul_le_mul_of_nonneg_right hx.2 (show 0 ≤ e by omega)
 have h2 := Int.mul_le_mul_of_nonneg_right hx.1 (show 0 ≤ e by omega)
 have h3 := Int.mul_le_mul_of_nonneg_right hy.2 (show 0 ≤ d by omega)
 have h4 := Int.mul_le_mul_of_nonneg_right hy.1 (show 0 ≤ d by omega)
 have e1 : 1000000 * d * e = 1000000 * (d * e) := by grind
 have e2 : 1000000 * e * d = 1000000 * (d * e) := by grind
 have e3 : -(1000000 * d) * e = -(1000000 * (d * e)) := by grind
 have e4 : -(1000000 * e) * d = -(1000000 * (d * e)) := by grind
 have := prod_bound (p := d) (q := e) (m := 10000) (by omega) hd2 (by omega) he2
 rw [wr_id (n := y * d) (by omega) (by omega), wr_id (n := x * e) (by omega) (by omega), wr_id (by omega) (by omega)]
 omega
theorem gap_ok {p q : Pt} (hp : PtOk p) (hq : PtOk q) {e : Int} (he : 0 ≤ e ∧ e ≤ 2000) : GpOk (gap p q e) := by
 obtain ⟨p1, p2⟩ := hp.den
 obtain ⟨q1, q2⟩ := hq.den
 exact ⟨dens hp hq, he, (comp_bd p1 q1 p2 q2 hp.x hq.x).2, (comp_bd p1 q1 p2 q2 hp.y hq.y).2, (comp_bd p1 q1 p2 q2 hp.z hq.z).2⟩
theorem s49_eq {a b : Tr} {s r : Int} {p q : Pt} (h1 : s31 (a, s) = some p) (h2 : s31 (b, r) = some q) (hp : PtOk p) (hq : PtOk q) (ha : 0 ≤ a.2 ∧ a.2 ≤ 1000) (hb : 0 ≤ b.2 ∧ b.2 ≤ 1000) : s49 (a, s, b, r) = some (gap p q (a.2 + b.2)) := by
 obtain ⟨p1, p2⟩ := hp.den
 obtain ⟨q1, q2⟩ := hq.den
 have hd := dens hp hq
 unfold s49
 simp only [h1, h2, optE_some, (comp_bd p1 q1 p2 q2 hp.x hq.x).1, (comp_bd p1 q1 p2 q2 hp.y hq.y).1, (comp_bd p1 q1 p2 q2 hp.z hq.z).1]
 rw [wr_id (n := p.2 * q.2) (by omega) (by omega), wr_id (n := a.2 + b.2) (by omega) (by omega)]
 rfl
theorem firstE_two (x y : Int) : firstE [x, y] = bif x != 0 then x else y := by
 simp only [firstE]
 cases h : x != 0
 ·simp only [cond_false]; have := firstE_one y; simp only [firstE] at this; exact this
 ·rfl
theorem root_mono {r s d : Int} (hd : 1 ≤ d) (h0 : 0 ≤ r) (h : r ≤ s) : (r * d) * (r * d) ≤ (s * d) * (s * d) := sq_mono (Int.mul_nonneg h0 (by omega)) (Int.mul_le_mul_of_nonneg_right h (by omega))
theorem IsLo.mono {n n' d r r' : Int} (hd : 1 ≤ d) (h : IsLo n d r) (h' : IsLo n' d r') (hn : n ≤ n') : r ≤ r' := by
 obtain ⟨a1, a2, a3, a4⟩ := h
 obtain ⟨b1, b2, b3, b4⟩ := h'
 rcases (show r' < r ∨ r ≤ r' by omega) with c | c
 ·have := root_mono (r := r' + 1) (s := r) hd (by omega) (by omega); omega
 ·exact c
theorem IsHi.mono {n n' d r r' : Int} (hd : 1 ≤ d) (h : IsHi n d r) (h' : IsHi n' d r') (hn : n ≤ n') : r ≤ r' := by
 obtain ⟨a1, a2, a3, a4⟩ := h
 obtain ⟨b1, b2, b3, b4⟩ := h'
 rcases (show r' < r ∨ r ≤ r' by omega) with c | c
 ·have := root_mono (r := r') (s := r - 1) hd (by omega) (by omega)
  have := a4 (by omega); omega
 ·exact c
end Go.Proofs.YthabingkfmlbbaaGreat
