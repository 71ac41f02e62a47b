/- Chapter 1: the gap between two tracks. -/
import Derived.Test.YtgpfdacidgmelaaGreatWide
set_option linter.unusedSimpArgs false
namespace Go.Proofs.YtgpfdacidgmelaaGreat
open Go.Ev

def gap (p q : Pt) (e : Int) : Gp := (((q.1.1 * p.2 - p.1.1 * q.2, q.1.2.1 * p.2 - p.1.2.1 * q.2, q.1.2.2 * p.2 - p.1.2.2 * q.2), p.2 * q.2), e)

theorem dens {p q : Pt} (hp : PtOk p) (hq : PtOk q) : 1 ≤ p.2 * q.2 ∧ p.2 * q.2 ≤ 100000000 := by
  obtain ⟨p1, p2⟩ := hp.den
  obtain ⟨q1, q2⟩ := hq.den
  have := prod_bound (p := p.2) (q := q.2) (m := 10000) (by omega) p2 (by omega) q2
  have : 0 < p.2 * q.2 := Int.mul_pos (by omega) (by omega)
  omega
theorem comp_bd {x y d e : Int} (hd : 1 ≤ d) (he : 1 ≤ e) (hd2 : d ≤ 10000) (he2 : e ≤ 10000) (hx : -(1000000 * d) ≤ x ∧ x ≤ 1000000 * d) (hy : -(1000000 * e) ≤ y ∧ y ≤ 1000000 * e) :
    wr (wr (y * d) - wr (x * e)) = y * d - x * e ∧ -(2000000 * (d * e)) ≤ y * d - x * e ∧ y * d - x * e ≤ 2000000 * (d * e) := by
  have h1 := Int.mul_le_mul_of_nonneg_right hx.2 (show 0 ≤ e by omega)
  have h2 := Int.mul_le_mul_of_nonneg_right hx.1 (show 0 ≤ e by omega)
  have h3 := Int.mul_le_mul_of_nonneg_right hy.2 (show 0 ≤ d by omega)
  have h4 := Int.mul_le_mul_of_nonneg_right hy.1 (show 0 ≤ d by omega)
  have e1 : 1000000 * d * e = 1000000 * (d * e) := by grind
  have e2 : 1000000 * e * d = 1000000 * (d * e) := by grind
  have e3 : -(1000000 * d) * e = -(1000000 * (d * e)) := by grind
  have e4 : -(1000000 * e) * d = -(1000000 * (d * e)) := by grind
  have := prod_bound (p := d) (q := e) (m := 10000) (by omega) hd2 (by omega) he2
  rw [wr_id (n := y * d) (by omega) (by omega), wr_id (n := x * e) (by omega) (by omega), wr_id (by omega) (by omega)]
  omega
theorem gap_ok {p q : Pt} (hp : PtOk p) (hq : PtOk q) {e : Int} (he : 0 ≤ e ∧ e ≤ 2000) : GpOk (gap p q e) := by
  obtain ⟨p1, p2⟩ := hp.den
  obtain ⟨q1, q2⟩ := hq.den
  exact ⟨dens hp hq, he, (comp_bd p1 q1 p2 q2 hp.x hq.x).2, (comp_bd p1 q1 p2 q2 hp.y hq.y).2, (comp_bd p1 q1 p2 q2 hp.z hq.z).2⟩

theorem s63_eq {a b : Tr} {s r : Int} {p q : Pt} (h1 : s88 (a, s) = some p) (h2 : s88 (b, r) = some q) (hp : PtOk p) (hq : PtOk q) (ha : 0 ≤ a.2 ∧ a.2 ≤ 1000) (hb : 0 ≤ b.2 ∧ b.2 ≤ 1000) : s63 (a, s, b, r) = some (gap p q (a.2 + b.2)) := by
  obtain ⟨p1, p2⟩ := hp.den
  obtain ⟨q1, q2⟩ := hq.den
  have hd := dens hp hq
  unfold s63
  simp only [h1, h2, optE_some, (comp_bd p1 q1 p2 q2 hp.x hq.x).1, (comp_bd p1 q1 p2 q2 hp.y hq.y).1, (comp_bd p1 q1 p2 q2 hp.z hq.z).1]
  rw [wr_id (n := p.2 * q.2) (by omega) (by omega), wr_id (n := a.2 + b.2) (by omega) (by omega)]
  rfl

theorem firstE_two (x y : Int) : firstE [x, y] = bif x != 0 then x else y := by
  simp only [firstE]
  cases h : x != 0
  · simp only [cond_false]; have := firstE_one y; simp only [firstE] at this; exact this
  · rfl

/-- The distance of two valid tracks at a time of both. -/
theorem dist_ok {a b : Tr} (ha : (trkE a).2 = 0) (hb : (trkE b).2 = 0) {time : Int} (ta : tErr time a = 0) (tb : tErr time b = 0) {p q : Pt} (h1 : s88 (a, time) = some p) (h2 : s88 (b, time) = some q) (hp : PtOk p) (hq : PtOk q) :
    ∃ r, s13 (a, b, time) = some (r, 0) ∧ IsLo (near (gap p q (a.2 + b.2))) (p.2 * q.2) r.1 ∧ IsHi (far (gap p q (a.2 + b.2))) (p.2 * q.2) r.2 := by
  have Va := valid_of ha
  have Vb := valid_of hb
  have e59 : s61 [a, b] = some 0 := by rw [s61_eq _ (by simp)]; simp only [List.map_cons, List.map_nil, firstE_two, ha, hb]; rfl
  have e60 : s62 (time, [a, b]) = some 0 := by
    rw [s62_eq _ _ (by simp) (fun p hp => by rcases List.mem_cons.1 hp with rfl | hp; exact Va; rcases List.mem_cons.1 hp with rfl | hp; exact Vb; cases hp)]
    simp only [List.map_cons, List.map_nil, firstE_two, ta, tb]; rfl
  obtain ⟨r, g1, g2, g3⟩ := s64_eq (gap_ok hp hq (e := a.2 + b.2) (by have := Va.doubt; have := Vb.doubt; omega))
  refine ⟨r, ?_, g2, g3⟩
  unfold s13
  simp only [e59, e60, optE_some, show ((0 : Int) != 0) = false from rfl, cond_false, s63_eq h1 h2 hp hq Va.doubt Vb.doubt, g1]

theorem root_mono {r s d : Int} (hd : 1 ≤ d) (h0 : 0 ≤ r) (h : r ≤ s) : (r * d) * (r * d) ≤ (s * d) * (s * d) := sq_mono (Int.mul_nonneg h0 (by omega)) (Int.mul_le_mul_of_nonneg_right h (by omega))
theorem IsLo.mono {n n' d r r' : Int} (hd : 1 ≤ d) (h : IsLo n d r) (h' : IsLo n' d r') (hn : n ≤ n') : r ≤ r' := by
  obtain ⟨a1, a2, a3, a4⟩ := h
  obtain ⟨b1, b2, b3, b4⟩ := h'
  rcases (show r' < r ∨ r ≤ r' by omega) with c | c
  · have := root_mono (r := r' + 1) (s := r) hd (by omega) (by omega); omega
  · exact c
theorem IsHi.mono {n n' d r r' : Int} (hd : 1 ≤ d) (h : IsHi n d r) (h' : IsHi n' d r') (hn : n ≤ n') : r ≤ r' := by
  obtain ⟨a1, a2, a3, a4⟩ := h
  obtain ⟨b1, b2, b3, b4⟩ := h'
  rcases (show r' < r ∨ r ≤ r' by omega) with c | c
  · have := root_mono (r := r') (s := r - 1) hd (by omega) (by omega)
    have := a4 (by omega); omega
  · exact c
/-- A number that is below another one when scaled, by their squares. -/
theorem le_of_sq {a b : Int} (hb : 0 ≤ b) (h : a * a ≤ b * b) : a ≤ b := by
  rcases (show b < a ∨ a ≤ b by omega) with c | c
  · have := Int.mul_lt_mul_of_pos_left c (show 0 < a by omega)
    have h2 := Int.mul_le_mul_of_nonneg_right (Int.le_of_lt c) hb
    omega
  · exact c
theorem le_of_root {r s d : Int} (hd : 1 ≤ d) (hs : 0 ≤ s) (h : (r * d) * (r * d) ≤ (s * d) * (s * d)) : r ≤ s := by
  have h1 := le_of_sq (Int.mul_nonneg hs (by omega)) h
  exact Int.le_of_mul_le_mul_right h1 (by omega)

/-- Minkowski, on whole numbers. -/
theorem minkowski {a b c x y z s t : Int} (hs : 0 ≤ s) (ht : 0 ≤ t) (h1 : a * a + b * b + c * c ≤ s * s) (h2 : x * x + y * y + z * z ≤ t * t) : (a + x) * (a + x) + (b + y) * (b + y) + (c + z) * (c + z) ≤ (s + t) * (s + t) := by
  have hst := Int.mul_nonneg hs ht
  have lag : (a*a+b*b+c*c)*(x*x+y*y+z*z) - (a*x+b*y+c*z)*(a*x+b*y+c*z) = (a*y-b*x)*(a*y-b*x) + (a*z-c*x)*(a*z-c*x) + (b*z-c*y)*(b*z-c*y) := by grind
  have n1 := (sq_bound (a := a*y-b*x) (m := sz (a*y-b*x)) (by have := sz_spec (a*y-b*x); omega) (by have := sz_spec (a*y-b*x); omega)).1
  have n2 := (sq_bound (a := a*z-c*x) (m := sz (a*z-c*x)) (by have := sz_spec (a*z-c*x); omega) (by have := sz_spec (a*z-c*x); omega)).1
  have n3 := (sq_bound (a := b*z-c*y) (m := sz (b*z-c*y)) (by have := sz_spec (b*z-c*y); omega) (by have := sz_spec (b*z-c*y); omega)).1
  have q1 : ∀ v : Int, 0 ≤ v * v := fun v => (sq_bound (a := v) (m := sz v) (by have := sz_spec v; omega) (by have := sz_spec v; omega)).1
  have m1 : (a*a+b*b+c*c)*(x*x+y*y+z*z) ≤ (s*s)*(t*t) := Int.mul_le_mul h1 h2 (by have := q1 x; have := q1 y; have := q1 z; omega) (q1 s)
  have e1 : (s*s)*(t*t) = (s*t)*(s*t) := by grind
  have dot : a*x+b*y+c*z ≤ s*t := le_of_sq hst (by omega)
  have e2 : (a + x) * (a + x) + (b + y) * (b + y) + (c + z) * (c + z) = (a*a+b*b+c*c) + (x*x+y*y+z*z) + 2 * (a*x+b*y+c*z) := by grind
  have e3 : (s + t) * (s + t) = s*s + t*t + 2*(s*t) := by grind
  omega
end Go.Proofs.YtgpfdacidgmelaaGreat
