/- Inequalities in the plane: which can be satisfied. -/
import Derived.Test.YtfpppijfkeidgaaGreatDoorMinFrac
set_option linter.unusedSimpArgs false
namespace Go.Proofs.YtfpppijfkeidgaaGreatDoor
abbrev Hf := Int × Int × Int
def dt (g h : Hf) : Int := g.1 * h.2.1 - g.2.1 * h.1
def ab (n : Int) : Int := (n.natAbs : Int)
def HOk (h : Hf) : Prop := (h.1 = 1 ∨ h.1 = -1 ∨ (h.1 = 0 ∧ h.2.1 ≠ 0)) ∧ (-1000 ≤ h.2.1 ∧ h.2.1 ≤ 1000) ∧ (-100000 ≤ h.2.2 ∧ h.2.2 ≤ 100000)
def Pair2 (g h : Hf) : Prop := dt g h = 0 ∧ g.1 * h.1 + g.2.1 * h.2.1 < 0 ∧ (ab h.1 + ab h.2.1) * g.2.2 + (ab g.1 + ab g.2.1) * h.2.2 < 0
def Trip (f g h : Hf) : Prop := 0 ≤ dt g h ∧ 0 ≤ dt h f ∧ 0 ≤ dt f g ∧ 0 < dt g h + dt h f + dt f g ∧ dt g h * f.2.2 + dt h f * g.2.2 + dt f g * h.2.2 < 0
def Contra (H : List Hf) : Prop := (∃ g ∈ H, ∃ h ∈ H, Pair2 g h) ∨ ∃ f ∈ H, ∃ g ∈ H, ∃ h ∈ H, Trip f g h
def Feas (H : List Hf) : Prop := ∃ X V D : Int, 0 < D ∧ ∀ h ∈ H, h.1 * X + h.2.1 * V ≤ h.2.2 * D
theorem ab_of (n : Int) : (0 ≤ n ∧ ab n = n) ∨ (n < 0 ∧ ab n = -n) := by unfold ab; omega
theorem pos_of_mul {a b : Int} (ha : 0 < a) (h : a * b < 0) : b < 0 := by
 rcases Int.lt_or_le b 0 with h1 | h1
 ·exact h1
 ·have := Int.mul_nonneg (show 0 ≤ a by omega) h1; omega
theorem pair_sum {g h : Hf} (hg : HOk g) (hh : HOk h) (h1 : dt g h = 0) (h2 : g.1 * h.1 + g.2.1 * h.2.1 < 0) : (ab h.1 + ab h.2.1) * g.1 + (ab g.1 + ab g.2.1) * h.1 = 0 ∧ (ab h.1 + ab h.2.1) * g.2.1 + (ab g.1 + ab g.2.1) * h.2.1 = 0 ∧ 0 < ab h.1 + ab h.2.1 ∧ 0 < ab g.1 + ab g.2.1 := by
 obtain ⟨a, b, c⟩ := g
 obtain ⟨a', b', c'⟩ := h
 unfold dt at h1
 simp only at h1 h2 ⊢
 have sq : 0 ≤ b * b := by rcases Int.le_total 0 b with h | h; exact Int.mul_nonneg h h; exact Int.mul_nonneg_of_nonpos_of_nonpos h h
 rcases hg.1 with hg | hg | ⟨hg, hg2⟩ <;> rcases hh.1 with hh | hh | ⟨hh, hh2⟩ <;> simp only at hg hh <;> subst hg <;> subst hh
 ·have : b' = b := by omega
  subst this; omega
 ·have : b' = -b := by omega
  subst this
  have := ab_of b; have := ab_of (-b)
  have e1 : ab 1 = 1 := rfl
  have e2 : ab (-1) = 1 := rfl
  have e3 : ab (-b) = ab b := by omega
  rw [e1, e2, e3]
  refine ⟨by omega, by grind, by omega, by omega⟩
 ·simp at hh2; omega
 ·have : b' = -b := by omega
  subst this
  have := ab_of b; have := ab_of (-b)
  have e1 : ab 1 = 1 := rfl
  have e2 : ab (-1) = 1 := rfl
  have e3 : ab (-b) = ab b := by omega
  rw [e1, e2, e3]
  refine ⟨by omega, by grind, by omega, by omega⟩
 ·have : b' = b := by omega
  subst this; omega
 ·simp at hh2; omega
 ·simp at hg2; omega
 ·simp at hg2; omega
 ·simp only [Int.zero_mul, Int.zero_add] at h2
  simp only at hg2 hh2
  have e0 : ab 0 = 0 := rfl
  have q1 := ab_of b; have q2 := ab_of b'
  rw [e0]
  refine ⟨by simp, ?_, by omega, by omega⟩
  have hs : (0 < b ∧ b' < 0) ∨ (b < 0 ∧ 0 < b') := by
   rcases Int.lt_or_le 0 b with hb | hb
   ·rcases Int.lt_or_le b' 0 with hb' | hb'
    ·exact .inl ⟨hb, hb'⟩
    ·have := Int.mul_nonneg (show 0 ≤ b by omega) hb'; omega
   ·rcases Int.lt_or_le 0 b' with hb' | hb'
    ·exact .inr ⟨by omega, hb'⟩
    ·have := Int.mul_nonneg_of_nonpos_of_nonpos hb hb'; omega
  rcases hs with ⟨s1, s2⟩ | ⟨s1, s2⟩
  ·rw [show ab b = b by omega, show ab b' = -b' by omega]; grind
  ·rw [show ab b = -b by omega, show ab b' = b' by omega]; grind
theorem feas_not {H : List Hf} (hok : ∀ h ∈ H, HOk h) (hf : Feas H) : ¬ Contra H := by
 obtain ⟨X, V, D, hD, hs⟩ := hf
 rintro (⟨g, hg, h, hh, h1, h2, h3⟩ | ⟨f, hf, g, hg, h, hh, h1, h2, h3, _, h5⟩)
 ·obtain ⟨z1, z2, p1, p2⟩ := pair_sum (hok g hg) (hok h hh) h1 h2
  have a1 := Int.mul_le_mul_of_nonneg_left (hs g hg) (show 0 ≤ ab h.1 + ab h.2.1 by omega)
  have a2 := Int.mul_le_mul_of_nonneg_left (hs h hh) (show 0 ≤ ab g.1 + ab g.2.1 by omega)
  generalize ab h.1 + ab h.2.1 = p at *
  generalize ab g.1 + ab g.2.1 = q at *
  have e1 : p * (g.1 * X + g.2.1 * V) + q * (h.1 * X + h.2.1 * V) = (p * g.1 + q * h.1) * X + (p * g.2.1 + q * h.2.1) * V := by grind
  have e2 : p * (g.2.2 * D) + q * (h.2.2 * D) = D * (p * g.2.2 + q * h.2.2) := by grind
  rw [z1, z2, Int.zero_mul, Int.zero_mul] at e1
  have := Int.mul_neg_of_pos_of_neg hD h3
  omega
 ·have a1 := Int.mul_le_mul_of_nonneg_left (hs f hf) h1
  have a2 := Int.mul_le_mul_of_nonneg_left (hs g hg) h2
  have a3 := Int.mul_le_mul_of_nonneg_left (hs h hh) h3
  have e1 : dt g h * (f.1 * X + f.2.1 * V) + dt h f * (g.1 * X + g.2.1 * V) + dt f g * (h.1 * X + h.2.1 * V) = 0 := by unfold dt; grind
  have e2 : dt g h * (f.2.2 * D) + dt h f * (g.2.2 * D) + dt f g * (h.2.2 * D) = D * (dt g h * f.2.2 + dt h f * g.2.2 + dt f g * h.2.2) := by grind
  have := Int.mul_neg_of_pos_of_neg hD h5
  omega
theorem min_ex : ∀ (L : List Int), L ≠ [] → ∃ m ∈ L, ∀ y ∈ L, m ≤ y
 | [], h => absurd rfl h
 | [x], _ => ⟨x, by simp, fun y hy => by simp at hy; omega⟩
 | x :: z :: L, _ => by
   obtain ⟨m, h1, h2⟩ := min_ex (z :: L) (by simp)
   by_cases h : x ≤ m
   ·refine ⟨x, by simp, fun y hy => ?_⟩
    rcases List.mem_cons.1 hy with rfl | hy
    ·omega
    ·have := h2 y hy; omega
   ·refine ⟨m, List.mem_cons_of_mem _ h1, fun y hy => ?_⟩
    rcases List.mem_cons.1 hy with rfl | hy
    ·omega
    ·exact h2 y hy
theorem fm {H : List Hf} (hok : ∀ h ∈ H, HOk h) {V D : Int} (hD : 0 < D) (h0 : ∀ h ∈ H, h.1 = 0 → h.2.1 * V ≤ h.2.2 * D)
 (h1 : ∀ u ∈ H, u.1 = 1 → ∀ w ∈ H, w.1 = -1 → (u.2.1 + w.2.1) * V ≤ (u.2.2 + w.2.2) * D) : Feas H := by
 by_cases hU : (H.filter fun h => h.1 == 1) = []
 ·have noU : ∀ h ∈ H, h.1 ≠ 1 := fun h hh e => by
   have : h ∈ H.filter fun h => h.1 == 1 := List.mem_filter.2 ⟨hh, by simp [e]⟩
   rw [hU] at this; cases this
  by_cases hW : (H.filter fun h => h.1 == -1) = []
  ·have noW : ∀ h ∈ H, h.1 ≠ -1 := fun h hh e => by
    have : h ∈ H.filter fun h => h.1 == -1 := List.mem_filter.2 ⟨hh, by simp [e]⟩
    rw [hW] at this; cases this
   refine ⟨0, V, D, hD, fun h hh => ?_⟩
   rcases (hok h hh).1 with e | e | ⟨e, _⟩
   ·exact absurd e (noU h hh)
   ·exact absurd e (noW h hh)
   ·have := h0 h hh e
    rw [e]; omega
  ·obtain ⟨m, hm, hmin⟩ := min_ex ((H.filter fun h => h.1 == -1).map fun h => h.2.2 * D - h.2.1 * V) (by simpa using hW)
   refine ⟨-m, V, D, hD, fun h hh => ?_⟩
   rcases (hok h hh).1 with e | e | ⟨e, _⟩
   ·exact absurd e (noU h hh)
   ·have := hmin _ (List.mem_map.2 ⟨h, List.mem_filter.2 ⟨hh, by simp [e]⟩, rfl⟩)
    rw [e]; omega
   ·have := h0 h hh e
    rw [e]; omega
 ·obtain ⟨m, hm, hmin⟩ := min_ex ((H.filter fun h => h.1 == 1).map fun h => h.2.2 * D - h.2.1 * V) (by simpa using hU)
  obtain ⟨u, hu, rfl⟩ := List.mem_map.1 hm
  obtain ⟨hu1, hu2⟩ := List.mem_filter.1 hu
  have hu2 : u.1 = 1 := by simpa using hu2
  refine ⟨u.2.2 * D - u.2.1 * V, V, D, hD, fun h hh => ?_⟩
  rcases (hok h hh).1 with e | e | ⟨e, _⟩
  ·have := hmin _ (List.mem_map.2 ⟨h, List.mem_filter.2 ⟨hh, by simp [e]⟩, rfl⟩)
   rw [e]; omega
  ·have := h1 u hu1 hu2 h hh e
   rw [Int.add_mul, Int.add_mul] at this
   rw [e]; omega
  ·have := h0 h hh e
   rw [e]; omega
def UpB (H : List Hf) (n d : Int) : Prop := 0 < d ∧ ((∃ r ∈ H, r.1 = 0 ∧ 0 < r.2.1 ∧ n * r.2.1 = r.2.2 * d) ∨ ∃ u ∈ H, ∃ w ∈ H, u.1 = 1 ∧ w.1 = -1 ∧ 0 < u.2.1 + w.2.1 ∧ n * (u.2.1 + w.2.1) = (u.2.2 + w.2.2) * d)
def LoB (H : List Hf) (n d : Int) : Prop := 0 < d ∧ ((∃ r ∈ H, r.1 = 0 ∧ r.2.1 < 0 ∧ n * -r.2.1 = r.2.2 * d) ∨ ∃ u ∈ H, ∃ w ∈ H, u.1 = 1 ∧ w.1 = -1 ∧ u.2.1 + w.2.1 < 0 ∧ n * -(u.2.1 + w.2.1) = (u.2.2 + w.2.2) * d)
theorem gap_mul {n d n' d' c e c' e' : Int} (hd : 0 < d) (hd' : 0 < d') (he : 0 < e) (he' : 0 < e') (h1 : n * e = c * d) (h2 : n' * e' = c' * d') (h : n * d' + n' * d < 0) : c * e' + c' * e < 0 := by
 have p := Int.mul_pos he he'
 have h3 := Int.mul_neg_of_pos_of_neg p h
 have e1 : e * e' * (n * d' + n' * d) = d * d' * (c * e' + c' * e) := by
  have a : e * e' * (n * d' + n' * d) = (n * e) * e' * d' + (n' * e') * e * d := by grind
  rw [a, h1, h2]; grind
 rw [e1] at h3
 exact pos_of_mul (Int.mul_pos hd hd') h3
theorem conflict {H : List Hf} {n d n' d' : Int} (hu : UpB H n d) (hl : LoB H n' d') (h : n * d' + n' * d < 0) : Contra H := by
 obtain ⟨hd, hu⟩ := hu
 obtain ⟨hd', hl⟩ := hl
 rcases hu with ⟨r, hr, r1, r2, r3⟩ | ⟨u1, hu1, w1, hw1, a1, b1, e1, f1⟩
 ·rcases hl with ⟨s, hs, s1, s2, s3⟩ | ⟨u2, hu2, w2, hw2, a2, b2, e2, f2⟩
  ·have g := gap_mul hd hd' r2 (show 0 < -s.2.1 by omega) r3 s3 h
   refine .inl ⟨r, hr, s, hs, ?_, ?_, ?_⟩
   ·unfold dt; rw [r1, s1]; simp
   ·rw [r1]
    have := Int.mul_neg_of_pos_of_neg r2 s2
    omega
   ·have q1 := ab_of r.2.1; have q2 := ab_of s.2.1
    rw [r1, s1, show ab 0 = 0 from rfl, show ab r.2.1 = r.2.1 by omega, show ab s.2.1 = -s.2.1 by omega]
    grind
  ·have g := gap_mul hd hd' r2 (show 0 < -(u2.2.1 + w2.2.1) by omega) r3 f2 h
   refine .inr ⟨r, hr, w2, hw2, u2, hu2, ?_⟩
   have d1 : dt w2 u2 = -(u2.2.1 + w2.2.1) := by unfold dt; rw [a2, b2]; omega
   have d2 : dt u2 r = r.2.1 := by unfold dt; rw [a2, r1]; omega
   have d3 : dt r w2 = r.2.1 := by unfold dt; rw [b2, r1]; omega
   unfold Trip
   rw [d1, d2, d3]
   refine ⟨by omega, by omega, by omega, by omega, by grind⟩
 ·rcases hl with ⟨s, hs, s1, s2, s3⟩ | ⟨u2, hu2, w2, hw2, a2, b2, e2, f2⟩
  ·have g := gap_mul hd hd' e1 (show 0 < -s.2.1 by omega) f1 s3 h
   refine .inr ⟨s, hs, u1, hu1, w1, hw1, ?_⟩
   have d1 : dt u1 w1 = u1.2.1 + w1.2.1 := by unfold dt; rw [a1, b1]; omega
   have d2 : dt w1 s = -s.2.1 := by unfold dt; rw [b1, s1]; omega
   have d3 : dt s u1 = -s.2.1 := by unfold dt; rw [a1, s1]; omega
   unfold Trip
   rw [d1, d2, d3]
   refine ⟨by omega, by omega, by omega, by omega, by grind⟩
  ·have g := gap_mul hd hd' e1 (show 0 < -(u2.2.1 + w2.2.1) by omega) f1 f2 h
   have pr : ∀ u ∈ H, ∀ w ∈ H, u.1 = 1 → w.1 = -1 → u.2.1 + w.2.1 = 0 → u.2.2 + w.2.2 < 0 → Contra H := fun u hu w hw hu1 hw1 h0 hc => by
    refine .inl ⟨u, hu, w, hw, ?_, ?_, ?_⟩
    ·unfold dt; rw [hu1, hw1]; omega
    ·have hb : w.2.1 = -u.2.1 := by omega
     have sq : 0 ≤ u.2.1 * u.2.1 := by rcases Int.le_total 0 u.2.1 with h | h; exact Int.mul_nonneg h h; exact Int.mul_nonneg_of_nonpos_of_nonpos h h
     have e : u.2.1 * -u.2.1 = -(u.2.1 * u.2.1) := by grind
     rw [hu1, hw1, hb, e]; omega
    ·have q1 := ab_of u.2.1; have q2 := ab_of w.2.1
     rw [hu1, hw1, show ab 1 = 1 from rfl, show ab (-1) = 1 from rfl, show ab w.2.1 = ab u.2.1 by omega, ← Int.mul_add]
     exact Int.mul_neg_of_pos_of_neg (by omega) hc
   have hsum : ((u1.2.2 + w2.2.2) * (u1.2.1 + w1.2.1) - (u1.2.1 + w2.2.1) * (u1.2.2 + w1.2.2)) + ((u2.2.2 + w1.2.2) * (u1.2.1 + w1.2.1) - (u2.2.1 + w1.2.1) * (u1.2.2 + w1.2.2)) = (u1.2.2 + w1.2.2) * -(u2.2.1 + w2.2.1) + (u2.2.2 + w2.2.2) * (u1.2.1 + w1.2.1) := by grind
   have t1 : dt u1 w1 = u1.2.1 + w1.2.1 := by unfold dt; rw [a1, b1]; omega
   have t2 : dt w1 w2 = w1.2.1 - w2.2.1 := by unfold dt; rw [b1, b2]; omega
   have t3 : dt w2 u1 = -(u1.2.1 + w2.2.1) := by unfold dt; rw [b2, a1]; omega
   have t4 : dt w2 u2 = -(u2.2.1 + w2.2.1) := by unfold dt; rw [b2, a2]; omega
   have t5 : dt u2 u1 = u1.2.1 - u2.2.1 := by unfold dt; rw [a1, a2]; omega
   have t6 : dt u1 w2 = u1.2.1 + w2.2.1 := by unfold dt; rw [a1, b2]; omega
   have t7 : dt w1 u2 = -(u2.2.1 + w1.2.1) := by unfold dt; rw [b1, a2]; omega
   have t8 : dt u2 w1 = u2.2.1 + w1.2.1 := by unfold dt; rw [b1, a2]; omega
   have far : ∀ c k : Int, 0 < k → c * (u1.2.1 + w1.2.1) - k * (u1.2.2 + w1.2.2) < 0 → -(u2.2.1 + w2.2.1) * c + k * (u2.2.2 + w2.2.2) < 0 := fun c k hk hc => by
    have z1 := Int.mul_neg_of_pos_of_neg (show 0 < -(u2.2.1 + w2.2.1) by omega) hc
    have z2 := Int.mul_neg_of_pos_of_neg hk g
    refine pos_of_mul e1 ?_
    have e : (u1.2.1 + w1.2.1) * (-(u2.2.1 + w2.2.1) * c + k * (u2.2.2 + w2.2.2)) = -(u2.2.1 + w2.2.1) * (c * (u1.2.1 + w1.2.1) - k * (u1.2.2 + w1.2.2)) + k * ((u1.2.2 + w1.2.2) * -(u2.2.1 + w2.2.1) + (u2.2.2 + w2.2.2) * (u1.2.1 + w1.2.1)) := by grind
    omega
   by_cases hg1 : (u1.2.2 + w2.2.2) * (u1.2.1 + w1.2.1) - (u1.2.1 + w2.2.1) * (u1.2.2 + w1.2.2) < 0
   ·rcases Int.lt_trichotomy (u1.2.1 + w2.2.1) 0 with hk | hk | hk
    ·refine .inr ⟨u1, hu1, w1, hw1, w2, hw2, ?_⟩
     unfold Trip
     rw [t1, t2, t3]
     refine ⟨by omega, by omega, by omega, by omega, by grind⟩
    ·rw [hk] at hg1
     refine pr u1 hu1 w2 hw2 a1 b2 hk (pos_of_mul e1 ?_)
     rw [Int.mul_comm]; omega
    ·refine .inr ⟨u1, hu1, w2, hw2, u2, hu2, ?_⟩
     have := far _ _ hk hg1
     unfold Trip
     rw [t4, t5, t6]
     refine ⟨by omega, by omega, by omega, by omega, by grind⟩
   ·have hg2 : (u2.2.2 + w1.2.2) * (u1.2.1 + w1.2.1) - (u2.2.1 + w1.2.1) * (u1.2.2 + w1.2.2) < 0 := by omega
    rcases Int.lt_trichotomy (u2.2.1 + w1.2.1) 0 with hk | hk | hk
    ·refine .inr ⟨u1, hu1, w1, hw1, u2, hu2, ?_⟩
     unfold Trip
     rw [t1, t5, t7]
     refine ⟨by omega, by omega, by omega, by omega, by grind⟩
    ·rw [hk] at hg2
     refine pr u2 hu2 w1 hw1 a2 b1 hk (pos_of_mul e1 ?_)
     rw [Int.mul_comm]; omega
    ·refine .inr ⟨u2, hu2, w1, hw1, w2, hw2, ?_⟩
     have := far _ _ hk hg2
     unfold Trip
     rw [t2, t4, t8]
     refine ⟨by omega, by omega, by omega, by omega, by grind⟩
end Go.Proofs.YtfpppijfkeidgaaGreatDoor
