/- Chapter 1: what is greater with a greater doubt. -/
import Derived.Test.YtgpfdacidgmelaaGreatGap
set_option linter.unusedSimpArgs false
namespace Go.Proofs.YtgpfdacidgmelaaGreat
open Go.Ev

theorem sz_neg (n : Int) : sz (-n) = sz n := by unfold sz mx; split <;> split <;> omega
theorem mx0_mono {a b : Int} (h : a ≤ b) : 0 ≤ mx 0 a ∧ mx 0 a ≤ mx 0 b := by unfold mx; split <;> split <;> omega
theorem sq_nonneg (v : Int) : 0 ≤ v * v := (sq_bound (a := v) (m := sz v) (by have := sz_spec v; omega) (by have := sz_spec v; omega)).1

theorem near_sym (p q : Pt) (e : Int) : near (gap q p e) = near (gap p q e) ∧ far (gap q p e) = far (gap p q e) := by
  have h : ∀ x y : Int, sz (x * q.2 - y * p.2) = sz (y * p.2 - x * q.2) := fun x y => by rw [← sz_neg]; congr 1; omega
  unfold near far near1 far1 gap
  simp only [h, Int.mul_comm q.2 p.2, and_self]
theorem near_mono {p q : Pt} {e e' : Int} (hd : 0 ≤ p.2 * q.2) (he : e ≤ e') (h0 : 0 ≤ e) : near (gap p q e') ≤ near (gap p q e) ∧ far (gap p q e) ≤ far (gap p q e') := by
  have h := Int.mul_le_mul_of_nonneg_right he hd
  have hp := Int.mul_nonneg h0 hd
  have h1 : ∀ x : Int, mx 0 (sz x - e' * (p.2 * q.2)) * mx 0 (sz x - e' * (p.2 * q.2)) ≤ mx 0 (sz x - e * (p.2 * q.2)) * mx 0 (sz x - e * (p.2 * q.2)) := fun x => by
    have m := mx0_mono (a := sz x - e' * (p.2 * q.2)) (b := sz x - e * (p.2 * q.2)) (by omega)
    exact sq_mono m.1 m.2
  have h2 : ∀ x : Int, (sz x + e * (p.2 * q.2)) * (sz x + e * (p.2 * q.2)) ≤ (sz x + e' * (p.2 * q.2)) * (sz x + e' * (p.2 * q.2)) := fun x => by
    have := sz_spec x
    exact sq_mono (by omega) (by omega)
  unfold near far near1 far1 gap
  simp only []
  constructor
  · have a1 := h1 (q.1.1 * p.2 - p.1.1 * q.2); have a2 := h1 (q.1.2.1 * p.2 - p.1.2.1 * q.2); have a3 := h1 (q.1.2.2 * p.2 - p.1.2.2 * q.2); omega
  · have a1 := h2 (q.1.1 * p.2 - p.1.1 * q.2); have a2 := h2 (q.1.2.1 * p.2 - p.1.2.1 * q.2); have a3 := h2 (q.1.2.2 * p.2 - p.1.2.2 * q.2); omega

/-- The square of the distance itself. -/
def real (p q : Pt) : Int := (q.1.1 * p.2 - p.1.1 * q.2) * (q.1.1 * p.2 - p.1.1 * q.2) + (q.1.2.1 * p.2 - p.1.2.1 * q.2) * (q.1.2.1 * p.2 - p.1.2.1 * q.2) + (q.1.2.2 * p.2 - p.1.2.2 * q.2) * (q.1.2.2 * p.2 - p.1.2.2 * q.2)
theorem near_real {p q : Pt} {e : Int} (hd : 0 ≤ p.2 * q.2) (h0 : 0 ≤ e) : near (gap p q e) ≤ real p q ∧ real p q ≤ far (gap p q e) := by
  have hp := Int.mul_nonneg h0 hd
  have h1 : ∀ x : Int, mx 0 (sz x - e * (p.2 * q.2)) * mx 0 (sz x - e * (p.2 * q.2)) ≤ x * x := fun x => by
    have hz := sz_spec x
    have m : 0 ≤ mx 0 (sz x - e * (p.2 * q.2)) ∧ mx 0 (sz x - e * (p.2 * q.2)) ≤ sz x := by unfold mx; split <;> omega
    have := sq_mono m.1 m.2
    rw [sz_sq] at this; exact this
  have h2 : ∀ x : Int, x * x ≤ (sz x + e * (p.2 * q.2)) * (sz x + e * (p.2 * q.2)) := fun x => by
    have hz := sz_spec x
    have := sq_mono (a := sz x) (b := sz x + e * (p.2 * q.2)) (by omega) (by omega)
    rw [sz_sq] at this; exact this
  unfold near far near1 far1 gap real
  simp only []
  constructor
  · have a1 := h1 (q.1.1 * p.2 - p.1.1 * q.2); have a2 := h1 (q.1.2.1 * p.2 - p.1.2.1 * q.2); have a3 := h1 (q.1.2.2 * p.2 - p.1.2.2 * q.2); omega
  · have a1 := h2 (q.1.1 * p.2 - p.1.1 * q.2); have a2 := h2 (q.1.2.1 * p.2 - p.1.2.1 * q.2); have a3 := h2 (q.1.2.2 * p.2 - p.1.2.2 * q.2); omega

/-- The triangle. -/
theorem triangle {p q r : Pt} (hp : 1 ≤ p.2) (hq : 1 ≤ q.2) (hr : 1 ≤ r.2) {l s t : Int} (hs : 0 ≤ s) (ht : 0 ≤ t) (h : (l * (p.2 * q.2)) * (l * (p.2 * q.2)) ≤ real p q) (h1 : real p r ≤ (s * (p.2 * r.2)) * (s * (p.2 * r.2))) (h2 : real r q ≤ (t * (r.2 * q.2)) * (t * (r.2 * q.2))) : l ≤ s + t := by
  have hpq : 0 < p.2 * q.2 := Int.mul_pos (by omega) (by omega)
  have hpr : 0 ≤ p.2 * r.2 := Int.mul_nonneg (by omega) (by omega)
  have hrq : 0 ≤ r.2 * q.2 := Int.mul_nonneg (by omega) (by omega)
  have hpqr : 0 < (p.2 * q.2) * r.2 := Int.mul_pos hpq (by omega)
  unfold real at h h1 h2
  have k1 : (q.2 * (r.1.1 * p.2 - p.1.1 * r.2)) * (q.2 * (r.1.1 * p.2 - p.1.1 * r.2)) + (q.2 * (r.1.2.1 * p.2 - p.1.2.1 * r.2)) * (q.2 * (r.1.2.1 * p.2 - p.1.2.1 * r.2)) + (q.2 * (r.1.2.2 * p.2 - p.1.2.2 * r.2)) * (q.2 * (r.1.2.2 * p.2 - p.1.2.2 * r.2)) ≤ (s * ((p.2 * q.2) * r.2)) * (s * ((p.2 * q.2) * r.2)) := by
    have := Int.mul_le_mul_of_nonneg_left h1 (sq_nonneg q.2)
    have e1 : q.2 * q.2 * ((s * (p.2 * r.2)) * (s * (p.2 * r.2))) = (s * ((p.2 * q.2) * r.2)) * (s * ((p.2 * q.2) * r.2)) := by grind
    rw [e1] at this
    refine Int.le_trans (Int.le_of_eq ?_) this
    grind
  have k2 : (p.2 * (q.1.1 * r.2 - r.1.1 * q.2)) * (p.2 * (q.1.1 * r.2 - r.1.1 * q.2)) + (p.2 * (q.1.2.1 * r.2 - r.1.2.1 * q.2)) * (p.2 * (q.1.2.1 * r.2 - r.1.2.1 * q.2)) + (p.2 * (q.1.2.2 * r.2 - r.1.2.2 * q.2)) * (p.2 * (q.1.2.2 * r.2 - r.1.2.2 * q.2)) ≤ (t * ((p.2 * q.2) * r.2)) * (t * ((p.2 * q.2) * r.2)) := by
    have := Int.mul_le_mul_of_nonneg_left h2 (sq_nonneg p.2)
    have e1 : p.2 * p.2 * ((t * (r.2 * q.2)) * (t * (r.2 * q.2))) = (t * ((p.2 * q.2) * r.2)) * (t * ((p.2 * q.2) * r.2)) := by grind
    rw [e1] at this
    refine Int.le_trans (Int.le_of_eq ?_) this
    grind
  have m := minkowski (Int.mul_nonneg hs (Int.le_of_lt hpqr)) (Int.mul_nonneg ht (Int.le_of_lt hpqr)) k1 k2
  have g1 : q.2 * (r.1.1 * p.2 - p.1.1 * r.2) + p.2 * (q.1.1 * r.2 - r.1.1 * q.2) = r.2 * (q.1.1 * p.2 - p.1.1 * q.2) := by grind
  have g2 : q.2 * (r.1.2.1 * p.2 - p.1.2.1 * r.2) + p.2 * (q.1.2.1 * r.2 - r.1.2.1 * q.2) = r.2 * (q.1.2.1 * p.2 - p.1.2.1 * q.2) := by grind
  have g3 : q.2 * (r.1.2.2 * p.2 - p.1.2.2 * r.2) + p.2 * (q.1.2.2 * r.2 - r.1.2.2 * q.2) = r.2 * (q.1.2.2 * p.2 - p.1.2.2 * q.2) := by grind
  rw [g1, g2, g3] at m
  have hm := Int.mul_le_mul_of_nonneg_left h (sq_nonneg r.2)
  have e1 : r.2 * r.2 * ((l * (p.2 * q.2)) * (l * (p.2 * q.2))) = (l * ((p.2 * q.2) * r.2)) * (l * ((p.2 * q.2) * r.2)) := by grind
  rw [e1] at hm
  refine le_of_root (d := (p.2 * q.2) * r.2) (by omega) (by omega) (Int.le_trans hm ?_)
  have e2 : s * (p.2 * q.2 * r.2) + t * (p.2 * q.2 * r.2) = (s + t) * (p.2 * q.2 * r.2) := by grind
  rw [e2] at m
  refine Int.le_trans (Int.le_of_eq ?_) m
  grind

theorem scan_none {E : Type} {hit : Nat → Option E} {e : E} : ∀ {m k : Nat}, (∀ j, k ≤ j → j < k + m → hit j = none) → scan hit e m k = e
  | 0, _, _ => rfl
  | m + 1, k, h => by
    simp only [scan]
    rw [h k (Nat.le_refl _) (by omega)]
    exact scan_none fun j h1 h2 => h j (by omega) (by omega)

/-- A valid track with another doubt. -/
theorem trk_doubt {p : Tr} (h : (trkE p).2 = 0) {e : Int} (he : 0 ≤ e ∧ e ≤ 1000) : (trkE (p.1, e)).2 = 0 := by
  have V := valid_of h
  have hk : ∀ i, i < p.1.length → hitK p.1 i = 0 := by
    unfold trkE at h
    rw [if_neg (by have := V.pos; omega), if_neg (by have := V.most; omega)] at h
    rcases scan_cases (hitT p.1 p) (.inr p) p.1.length 0 with ⟨_, hn⟩ | ⟨j, x, _, _, hj, hs⟩
    · exact fun i hi => hitT_none.1 (hn i (by omega) (by omega))
    · unfold trkScan at h
      rw [hs] at h
      unfold hitT at hj
      split at hj
      · cases hj
      · rename_i hne
        obtain rfl := Option.some.inj hj
        exact absurd h hne
  unfold trkE
  rw [if_neg (by have := V.pos; show ¬ p.1.length = 0; omega), if_neg (by have := V.most; show ¬ 12 < p.1.length; omega)]
  have : trkScan (p.1, e) = .inr (p.1, e) := scan_none fun j _ hj => hitT_none.2 (hk j (by simpa using hj))
  rw [this, sumE_r, win_iff.2 he]
  rfl
end Go.Proofs.YtgpfdacidgmelaaGreat
