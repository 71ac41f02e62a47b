/- Chapter 1: what a site sees. -/
import Derived.Test.YthabingkfmlbbaaGreatEnclosedLaw
import Derived.Test.YthabingkfmlbbaaGreatGm4
set_option linter.unusedSimpArgs false
namespace Go.Proofs.YthabingkfmlbbaaGreat
open Go.Ev
theorem s78_eq (a b : Int) : s78 (W a, W b) = some (decide (a < b)) := by
 unfold s78
 simp only []
 by_cases h1 : (W a).1 < (W b).1
 ·have := (W_less a b).1 (.inl (decide_eq_true h1))
  simp only [decide_eq_true h1, cond_true, decide_eq_true this]
 ·by_cases h2 : (W a).1 = (W b).1
  ·by_cases h3 : (W a).2 < (W b).2
   ·have := (W_less a b).1 (.inr ⟨beq_iff_eq.2 h2, decide_eq_true h3⟩)
    simp only [decide_eq_false h1, beq_iff_eq.2 h2, decide_eq_true h3, cond_false, cond_true, decide_eq_true this]
   ·have : ¬ a < b := fun hab => by
     rcases (W_less a b).2 hab with c | c
     ·exact h1 (of_decide_eq_true c)
     ·exact h3 (of_decide_eq_true c.2)
    simp only [decide_eq_false h1, beq_iff_eq.2 h2, decide_eq_false h3, cond_false, cond_true, decide_eq_false this]
  ·have : ¬ a < b := fun hab => by
    rcases (W_less a b).2 hab with c | c
    ·exact h1 (of_decide_eq_true c)
    ·exact h2 (beq_iff_eq.1 c.1)
   simp only [decide_eq_false h1, beq_eq_false_iff_ne.2 h2, cond_false, decide_eq_false this]
theorem s91_eq {a n : Int} (ha : 0 ≤ a) (hn : 0 ≤ n) (hn2 : n < 18446744073709551616) (h : a * n < 340282366920938463463374607431768211456) : s91 (W a, n) = some (W (a * n)) := by
 have e : a * n = (a / 18446744073709551616 * n) * 18446744073709551616 + a % 18446744073709551616 * n := by
  conv => lhs; rw [show a = a / 18446744073709551616 * 18446744073709551616 + a % 18446744073709551616 by omega]
  grind
 have p1 := Int.mul_nonneg (show 0 ≤ a / 18446744073709551616 by omega) hn
 have p2 := Int.mul_nonneg (show 0 ≤ a % 18446744073709551616 by omega) hn
 unfold s91 W
 simp only [uw_id hn hn2, s102_eq (show 0 ≤ a % 18446744073709551616 by omega) (by omega) hn hn2, optE_some]
 rw [e] at h ⊢
 generalize a / 18446744073709551616 * n = p at *
 generalize a % 18446744073709551616 * n = q at *
 rw [uw_id (n := p) (by omega) (by omega), uw_id (by omega) (by omega)]
 congr 2 <;> omega
structure AxOk (w : Int × Int × Int) : Prop where
 x : -100 ≤ w.1 ∧ w.1 ≤ 100
 y : -100 ≤ w.2.1 ∧ w.2.1 ≤ 100
 z : -100 ≤ w.2.2 ∧ w.2.2 ≤ 100
def siz (w : Int × Int × Int) : Int := sz w.1 + sz w.2.1 + sz w.2.2
def dot (w v : Int × Int × Int) : Int := w.1 * v.1 + w.2.1 * v.2.1 + w.2.2 * v.2.2
theorem s90_eq {w : Int × Int × Int} (h : AxOk w) : s90 w = some (siz w) := by
 obtain ⟨hx, hy, hz⟩ := h
 have sx := sz_spec w.1
 have sy := sz_spec w.2.1
 have sw := sz_spec w.2.2
 have ex : mx w.1 (wr (-w.1)) = sz w.1 := by rw [wr_id (by omega) (by omega)]; rfl
 have ey : mx w.2.1 (wr (-w.2.1)) = sz w.2.1 := by rw [wr_id (by omega) (by omega)]; rfl
 have ez : mx w.2.2 (wr (-w.2.2)) = sz w.2.2 := by rw [wr_id (by omega) (by omega)]; rfl
 have r0 : step90_0 (0, w, 0) = some (.inl (sz w.1, w, 1)) := by
  show some (Sum.inl (wr (0 + mx w.1 (wr (-w.1))), w, (1 : Int))) = _
  rw [ex, Int.zero_add, wr_id (by omega) (by omega)]
 have r1 : step90_0 (sz w.1, w, 1) = some (.inl (sz w.1 + sz w.2.1, w, 2)) := by
  show some (Sum.inl (wr (sz w.1 + mx w.2.1 (wr (-w.2.1))), w, (2 : Int))) = _
  rw [ey, wr_id (by omega) (by omega)]
 have r2 : step90_0 (sz w.1 + sz w.2.1, w, 2) = some (.inl (siz w, w, 3)) := by
  show some (Sum.inl (wr (sz w.1 + sz w.2.1 + mx w.2.2 (wr (-w.2.2))), w, (3 : Int))) = _
  rw [ez, wr_id (by omega) (by omega)]; rfl
 have r3 : step90_0 (siz w, w, 3) = some (.inr (siz w)) := rfl
 unfold s90
 rw [loopVal_next r0, loopVal_next r1, loopVal_next r2, loopVal_last r3]
 rfl
theorem dot_bd {w : Int × Int × Int} (h : AxOk w) {g : Gp} (G : GpOk g) : -60000000000000000 ≤ dot w g.1.1 ∧ dot w g.1.1 ≤ 60000000000000000 ∧ s89 (w, g.1.1) = some (dot w g.1.1) := by
 obtain ⟨d1, d2⟩ := G.den
 obtain ⟨hx, hy, hz⟩ := h
 have key : ∀ a b : Int, -100 ≤ a → a ≤ 100 → -200000000000000 ≤ b → b ≤ 200000000000000 → -20000000000000000 ≤ a * b ∧ a * b ≤ 20000000000000000 := by
  intro a b h1 h2 h3 h4
  have e1 : a.natAbs * b.natAbs ≤ 100 * 200000000000000 := Nat.mul_le_mul (by omega) (by omega)
  have e2 : (a * b).natAbs = a.natAbs * b.natAbs := Int.natAbs_mul a b
  omega
 have kx := key w.1 g.1.1.1 hx.1 hx.2 (by have := G.x; omega) (by have := G.x; omega)
 have ky := key w.2.1 g.1.1.2.1 hy.1 hy.2 (by have := G.y; omega) (by have := G.y; omega)
 have kz := key w.2.2 g.1.1.2.2 hz.1 hz.2 (by have := G.z; omega) (by have := G.z; omega)
 refine ⟨by unfold dot; omega, by unfold dot; omega, ?_⟩
 unfold s89 dot
 simp only []
 rw [wr_id (n := w.1 * g.1.1.1) (by omega) (by omega), wr_id (n := w.2.1 * g.1.1.2.1) (by omega) (by omega), wr_id (n := w.2.2 * g.1.1.2.2) (by omega) (by omega), wr_id (n := w.1 * g.1.1.1 + w.2.1 * g.1.1.2.1) (by omega) (by omega), wr_id (by omega) (by omega)]
def off (g : Gp) (w : Int × Int × Int) : Int := g.2 * siz w * g.1.2
theorem s67_eq {w : Int × Int × Int} (h : AxOk w) {g : Gp} (G : GpOk g) : s67 (g, w) = some (dot w g.1.1 - off g w, dot w g.1.1 + off g w) ∧ 0 ≤ off g w ∧ off g w ≤ 60000000000000 := by
 obtain ⟨d1, d2⟩ := G.den
 obtain ⟨e1, e2⟩ := G.doubt
 obtain ⟨b1, b2, b3⟩ := dot_bd h G
 have hs : 0 ≤ siz w ∧ siz w ≤ 300 := by
  obtain ⟨hx, hy, hz⟩ := h
  have := sz_spec w.1; have := sz_spec w.2.1; have := sz_spec w.2.2
  unfold siz; omega
 have p1 := Int.mul_nonneg e1 hs.1
 have p2 : g.2 * siz w ≤ 2000 * 300 := Int.mul_le_mul e2 hs.2 hs.1 (by omega)
 have q1 := Int.mul_nonneg p1 (show 0 ≤ g.1.2 by omega)
 have q2 : g.2 * siz w * g.1.2 ≤ 600000 * 100000000 := Int.mul_le_mul p2 d2 (by omega) (by omega)
 refine ⟨?_, q1, q2⟩
 unfold s67 off
 simp only [s88, optE_some, b3, s90_eq h]
 rw [wr_id (n := g.2 * siz w) (by omega) (by omega), wr_id (n := g.2 * siz w * g.1.2) (by omega) (by omega), wr_id (n := dot w g.1.1 - _) (by omega) (by omega), wr_id (by omega) (by omega)]
end Go.Proofs.YthabingkfmlbbaaGreat
