/- Chapter 1: no track is faster than half the speed of light: what has arrived stays so. -/
import Derived.Test.YtgpfdacidgmelaaGreatSignal
set_option linter.unusedSimpArgs false
namespace Go.Proofs.YtgpfdacidgmelaaGreat
open Go.Ev

theorem on_piece {p : Tr} (V : Valid p) {t : Int} (h1 : firstT p ≤ t) (h2 : t + 1 ≤ lastT p) : ∃ i, i + 1 < p.1.length ∧ (p.1.getD i (0, 0, 0, 0)).1 ≤ t ∧ t + 1 ≤ (p.1.getD (i + 1) (0, 0, 0, 0)).1 := by
  have hp := V.pos
  obtain ⟨m, hm, hq, hlt⟩ := least_ex (q := fun k => t < (p.1.getD k (0, 0, 0, 0)).1) (n := p.1.length - 1) (by show t < _; have := h2; unfold lastT at this; omega)
  cases m with
  | zero => unfold firstT at h1; omega
  | succ i =>
    have := hlt i (by omega)
    exact ⟨i, by omega, by omega, by omega⟩

theorem strict_of {p : Tr} (V : Valid p) : ∀ {j k : Nat}, k < j → j < p.1.length → (p.1.getD k (0, 0, 0, 0)).1 < (p.1.getD j (0, 0, 0, 0)).1
  | 0, k, hk, _ => by omega
  | j + 1, k, hk, hj => by
    have h2 := (V.piece j hj).1
    by_cases e : k = j
    · rw [e]; exact h2
    · have h1 := strict_of V (j := j) (k := k) (by omega) (by omega)
      omega

/-- A point of a track lies on the piece of its time. -/
theorem on_line {p : Tr} (V : Valid p) {i : Nat} (hi : i + 1 < p.1.length) {t : Int} (h1 : (p.1.getD i (0, 0, 0, 0)).1 ≤ t) (h2 : t ≤ (p.1.getD (i + 1) (0, 0, 0, 0)).1) {m : Nat} (hm : FirstAt p.1 t m) {q : Pt} (hq : q = spotAt p.1 m t) {dd s : Int} (hdd : (p.1.getD (i + 1) (0, 0, 0, 0)).1 - (p.1.getD i (0, 0, 0, 0)).1 = dd) (hs : t - (p.1.getD i (0, 0, 0, 0)).1 = s) :
    q.1.1 * dd = ((p.1.getD i (0, 0, 0, 0)).2.1 * dd + ((p.1.getD (i + 1) (0, 0, 0, 0)).2.1 - (p.1.getD i (0, 0, 0, 0)).2.1) * s) * q.2 ∧
    q.1.2.1 * dd = ((p.1.getD i (0, 0, 0, 0)).2.2.1 * dd + ((p.1.getD (i + 1) (0, 0, 0, 0)).2.2.1 - (p.1.getD i (0, 0, 0, 0)).2.2.1) * s) * q.2 ∧
    q.1.2.2 * dd = ((p.1.getD i (0, 0, 0, 0)).2.2.2 * dd + ((p.1.getD (i + 1) (0, 0, 0, 0)).2.2.2 - (p.1.getD i (0, 0, 0, 0)).2.2.2) * s) * q.2 := by
  have hpc := V.piece i hi
  have ka := kR_spec (V.knot i (by omega))
  have kb := kR_spec (V.knot (i + 1) hi)
  by_cases c1 : (p.1.getD i (0, 0, 0, 0)).1 = t
  · have e : m = i := hm.uniq ⟨by omega, by show t ≤ (p.1.getD i (0, 0, 0, 0)).1; omega, fun k hk => by have := strict_of V hk (show i < p.1.length by omega); show (p.1.getD k (0, 0, 0, 0)).1 < t; omega⟩
    subst e
    unfold spotAt at hq
    rw [if_pos c1] at hq
    rw [hq]
    have : s = 0 := by omega
    rw [this]
    simp only [Int.mul_zero, Int.add_zero, Int.mul_one]
    exact ⟨trivial, trivial, trivial⟩
  · have e : m = i + 1 := hm.uniq ⟨hi, h2, fun k hk => by
      by_cases ek : k = i
      · rw [ek]; show (p.1.getD i (0, 0, 0, 0)).1 < t; omega
      · have := strict_of V (show k < i by omega) (show i < p.1.length by omega); show (p.1.getD k (0, 0, 0, 0)).1 < t; omega⟩
    subst e
    unfold spotAt at hq
    by_cases c2 : (p.1.getD (i + 1) (0, 0, 0, 0)).1 = t
    · rw [if_pos c2] at hq
      rw [hq]
      have : s = dd := by omega
      rw [this]
      simp only [Int.mul_one]
      have key : ∀ x y : Int, y * dd = x * dd + (y - x) * dd := fun x y => by grind
      exact ⟨key _ _, key _ _, key _ _⟩
    · rw [if_neg c2] at hq
      rw [Nat.add_sub_cancel] at hq
      rw [hq]
      have ed : (p.1.getD (i + 1) (0, 0, 0, 0)).1 - (p.1.getD i (0, 0, 0, 0)).1 = dd := hdd
      have es : t - (p.1.getD i (0, 0, 0, 0)).1 = s := hs
      simp only [ed, es]
      have mx := mid_bd (a := (p.1.getD i (0, 0, 0, 0)).2.1) (b := (p.1.getD (i + 1) (0, 0, 0, 0)).2.1) (s := s) (d := dd) (by omega) (by omega) (by omega) (by omega) (by omega) (by omega) (by omega)
      have my := mid_bd (a := (p.1.getD i (0, 0, 0, 0)).2.2.1) (b := (p.1.getD (i + 1) (0, 0, 0, 0)).2.2.1) (s := s) (d := dd) (by omega) (by omega) (by omega) (by omega) (by omega) (by omega) (by omega)
      have mz := mid_bd (a := (p.1.getD i (0, 0, 0, 0)).2.2.2) (b := (p.1.getD (i + 1) (0, 0, 0, 0)).2.2.2) (s := s) (d := dd) (by omega) (by omega) (by omega) (by omega) (by omega) (by omega) (by omega)
      exact ⟨by rw [mx.2.2], by rw [my.2.2], by rw [mz.2.2]⟩

/-- How far two points are apart, times both denominators. -/
def apart (q r : Pt) : Int := (r.1.1 * q.2 - q.1.1 * r.2) * (r.1.1 * q.2 - q.1.1 * r.2) + (r.1.2.1 * q.2 - q.1.2.1 * r.2) * (r.1.2.1 * q.2 - q.1.2.1 * r.2) + (r.1.2.2 * q.2 - q.1.2.2 * r.2) * (r.1.2.2 * q.2 - q.1.2.2 * r.2)

theorem way_of {x a w s dd d y d' : Int} (h1 : x * dd = (a * dd + w * s) * d) (h2 : y * dd = (a * dd + w * (s + 1)) * d') : (y * d - x * d') * dd = w * (d * d') := by grind

/-- In one tick a track goes less than one tick. -/
theorem slow {p : Tr} (V : Valid p) {t : Int} (h1 : firstT p ≤ t) (h2 : t + 1 ≤ lastT p) {q r : Pt} (hq : s88 (p, t) = some q) (hr : s88 (p, t + 1) = some r) : apart q r ≤ (q.2 * r.2) * (q.2 * r.2) := by
  obtain ⟨i, hi, i1, i2⟩ := on_piece V h1 h2
  obtain ⟨q', q1, _, qk, m, qm, qe⟩ := at_ok V (time := t) ⟨h1, by omega⟩
  obtain ⟨r', r1, _, rk, n, rm, re⟩ := at_ok V (time := t + 1) ⟨by omega, h2⟩
  obtain rfl : q' = q := Option.some.inj (q1.symm.trans hq)
  obtain rfl : r' = r := Option.some.inj (r1.symm.trans hr)
  obtain ⟨dd, hdd⟩ : ∃ dd, (p.1.getD (i + 1) (0, 0, 0, 0)).1 - (p.1.getD i (0, 0, 0, 0)).1 = dd := ⟨_, rfl⟩
  obtain ⟨s, hs⟩ : ∃ s, t - (p.1.getD i (0, 0, 0, 0)).1 = s := ⟨_, rfl⟩
  obtain ⟨lx, ly, lz⟩ := on_line V hi i1 (by omega) qm qe hdd hs
  obtain ⟨mx', my', mz'⟩ := on_line V hi (t := t + 1) (by omega) i2 rm re hdd (show t + 1 - (p.1.getD i (0, 0, 0, 0)).1 = s + 1 by omega)
  have wx := way_of lx mx'
  have wy := way_of ly my'
  have wz := way_of lz mz'
  obtain ⟨g1, g2, g3⟩ := V.piece i hi
  unfold sqd at g3
  have hdd' : (p.1.getD (i + 1) (0, 0, 0, 0)).1 - (p.1.getD i (0, 0, 0, 0)).1 = dd := hdd
  rw [hdd'] at g2 g3
  have hpos : 1 ≤ dd := by omega
  unfold apart
  generalize r'.1.1 * q'.2 - q'.1.1 * r'.2 = vx at wx ⊢
  generalize r'.1.2.1 * q'.2 - q'.1.2.1 * r'.2 = vy at wy ⊢
  generalize r'.1.2.2 * q'.2 - q'.1.2.2 * r'.2 = vz at wz ⊢
  generalize q'.2 * r'.2 = D at wx wy wz ⊢
  have g3' : 4 * (((p.1.getD (i + 1) (0, 0, 0, 0)).2.1 - (p.1.getD i (0, 0, 0, 0)).2.1) * ((p.1.getD (i + 1) (0, 0, 0, 0)).2.1 - (p.1.getD i (0, 0, 0, 0)).2.1) + ((p.1.getD (i + 1) (0, 0, 0, 0)).2.2.1 - (p.1.getD i (0, 0, 0, 0)).2.2.1) * ((p.1.getD (i + 1) (0, 0, 0, 0)).2.2.1 - (p.1.getD i (0, 0, 0, 0)).2.2.1) + ((p.1.getD (i + 1) (0, 0, 0, 0)).2.2.2 - (p.1.getD i (0, 0, 0, 0)).2.2.2) * ((p.1.getD (i + 1) (0, 0, 0, 0)).2.2.2 - (p.1.getD i (0, 0, 0, 0)).2.2.2)) ≤ dd * dd := g3
  generalize (p.1.getD (i + 1) (0, 0, 0, 0)).2.1 - (p.1.getD i (0, 0, 0, 0)).2.1 = ax at wx g3'
  generalize (p.1.getD (i + 1) (0, 0, 0, 0)).2.2.1 - (p.1.getD i (0, 0, 0, 0)).2.2.1 = ay at wy g3'
  generalize (p.1.getD (i + 1) (0, 0, 0, 0)).2.2.2 - (p.1.getD i (0, 0, 0, 0)).2.2.2 = az at wz g3'
  have hDD := sq_nonneg D
  have e1 : (vx * vx + vy * vy + vz * vz) * (dd * dd) = (ax * ax + ay * ay + az * az) * (D * D) := by
    have : (vx * vx + vy * vy + vz * vz) * (dd * dd) = (vx * dd) * (vx * dd) + (vy * dd) * (vy * dd) + (vz * dd) * (vz * dd) := by grind
    rw [this, wx, wy, wz]; grind
  have n0 : 0 ≤ ax * ax + ay * ay + az * az := by have := sq_nonneg ax; have := sq_nonneg ay; have := sq_nonneg az; omega
  have h3 : (ax * ax + ay * ay + az * az) * (D * D) ≤ (dd * dd) * (D * D) := Int.mul_le_mul_of_nonneg_right (by omega) hDD
  have hp2 : 0 < dd * dd := Int.mul_pos (by omega) (by omega)
  refine Int.le_of_mul_le_mul_right ?_ hp2
  rw [e1, Int.mul_comm (D * D) (dd * dd)]
  exact h3

theorem sz_mul {a b : Int} (hb : 0 ≤ b) : sz (a * b) = sz a * b := by
  rcases (sz_spec a).2.1 with h | h
  · have ha : 0 ≤ a := by have := (sz_spec a).1; omega
    have := Int.mul_nonneg ha hb
    rw [h]; unfold sz mx; split <;> omega
  · have ha : 0 ≤ -a := by have := (sz_spec a).1; omega
    have := Int.mul_nonneg ha hb
    have e : -a * b = -(a * b) := Int.neg_mul a b
    rw [h]; unfold sz mx; split <;> omega
theorem sz_add (a b : Int) : sz (a + b) ≤ sz a + sz b := by
  have h1 := sz_spec a; have h2 := sz_spec b; have h3 := sz_spec (a + b); omega

theorem scale3 {a b c a' b' c' u v w d d' D n : Int} (hd : 1 ≤ d) (hd' : 1 ≤ d') (hD : 1 ≤ D) (hn : 0 ≤ n) (a0 : 0 ≤ a') (b0 : 0 ≤ b') (c0 : 0 ≤ c') (ha : a' * d ≤ a * d' + u) (hb : b' * d ≤ b * d' + v) (hc : c' * d ≤ c * d' + w)
    (h1 : a * a + b * b + c * c ≤ (n * (D * d)) * (n * (D * d))) (h2 : u * u + v * v + w * w ≤ (D * (d * d')) * (D * (d * d'))) : a' * a' + b' * b' + c' * c' ≤ ((n + 1) * (D * d')) * ((n + 1) * (D * d')) := by
  have hDd : 0 ≤ D * d := Int.mul_nonneg (by omega) (by omega)
  have hdd : 0 ≤ d * d' := Int.mul_nonneg (by omega) (by omega)
  have hs : 0 ≤ n * (D * d) * d' := Int.mul_nonneg (Int.mul_nonneg hn hDd) (by omega)
  have ht : 0 ≤ D * (d * d') := Int.mul_nonneg (by omega) hdd
  have h1' : (a * d') * (a * d') + (b * d') * (b * d') + (c * d') * (c * d') ≤ (n * (D * d) * d') * (n * (D * d) * d') := by
    have e1 : (a * d') * (a * d') + (b * d') * (b * d') + (c * d') * (c * d') = (a * a + b * b + c * c) * (d' * d') := by grind
    have e2 : (n * (D * d) * d') * (n * (D * d) * d') = (n * (D * d)) * (n * (D * d)) * (d' * d') := by grind
    rw [e1, e2]
    exact Int.mul_le_mul_of_nonneg_right h1 (sq_nonneg d')
  have m := minkowski hs ht h1' h2
  have qa := sq_mono (Int.mul_nonneg a0 (show 0 ≤ d by omega)) ha
  have qb := sq_mono (Int.mul_nonneg b0 (show 0 ≤ d by omega)) hb
  have qc := sq_mono (Int.mul_nonneg c0 (show 0 ≤ d by omega)) hc
  have hp2 : 0 < d * d := Int.mul_pos (by omega) (by omega)
  refine Int.le_of_mul_le_mul_right ?_ hp2
  have e3 : (a' * a' + b' * b' + c' * c') * (d * d) = (a' * d) * (a' * d) + (b' * d) * (b' * d) + (c' * d) * (c' * d) := by grind
  have e4 : ((n + 1) * (D * d')) * ((n + 1) * (D * d')) * (d * d) = (n * (D * d) * d' + D * (d * d')) * (n * (D * d) * d' + D * (d * d')) := by grind
  rw [e3, e4]
  omega

theorem comp_next {p x q y d d' D : Int} (hd : 1 ≤ d) (hd' : 1 ≤ d') (_hD : 1 ≤ D) (hx : x = q * D - p * d) {y' : Int} (hy : y = y' * D - p * d') : sz y * d ≤ sz x * d' + sz (D * (y' * d - q * d')) := by
  have e : y * d = x * d' + D * (y' * d - q * d') := by rw [hx, hy]; grind
  have := sz_add (x * d') (D * (y' * d - q * d'))
  rw [← e, sz_mul (show 0 ≤ d by omega), sz_mul (show 0 ≤ d' by omega)] at this
  exact this

theorem apart_scale {q r : Pt} {D : Int} (h : apart q r ≤ (q.2 * r.2) * (q.2 * r.2)) :
    sz (D * (r.1.1 * q.2 - q.1.1 * r.2)) * sz (D * (r.1.1 * q.2 - q.1.1 * r.2)) + sz (D * (r.1.2.1 * q.2 - q.1.2.1 * r.2)) * sz (D * (r.1.2.1 * q.2 - q.1.2.1 * r.2)) + sz (D * (r.1.2.2 * q.2 - q.1.2.2 * r.2)) * sz (D * (r.1.2.2 * q.2 - q.1.2.2 * r.2)) ≤ (D * (q.2 * r.2)) * (D * (q.2 * r.2)) := by
  unfold apart at h
  simp only [sz_sq]
  generalize r.1.1 * q.2 - q.1.1 * r.2 = vx at h ⊢
  generalize r.1.2.1 * q.2 - q.1.2.1 * r.2 = vy at h ⊢
  generalize r.1.2.2 * q.2 - q.1.2.2 * r.2 = vz at h ⊢
  generalize q.2 * r.2 = E at h ⊢
  have e1 : D * vx * (D * vx) + D * vy * (D * vy) + D * vz * (D * vz) = (vx * vx + vy * vy + vz * vz) * (D * D) := by grind
  have e2 : D * E * (D * E) = E * E * (D * D) := by grind
  rw [e1, e2]
  exact Int.mul_le_mul_of_nonneg_right h (sq_nonneg D)

/-- One tick later: the farthest distance, and the nearest one. -/
theorem far_next {p q r : Pt} (hp : PtOk p) (hq : PtOk q) (hr : PtOk r) {e : Int} (he : 0 ≤ e) (h : apart q r ≤ (q.2 * r.2) * (q.2 * r.2)) {n : Int} (hn : 0 ≤ n) (hf : far (gap p q e) ≤ (n * (p.2 * q.2)) * (n * (p.2 * q.2))) :
    far (gap p r e) ≤ ((n + 1) * (p.2 * r.2)) * ((n + 1) * (p.2 * r.2)) := by
  have d1 := hp.den; have d2 := hq.den; have d3 := hr.den
  have k0 : ∀ z, 0 ≤ sz z := fun z => (sz_spec z).1
  have h0 : 0 ≤ e * (p.2 * r.2) := Int.mul_nonneg he (Int.mul_nonneg (by omega) (by omega))
  have step : ∀ x y q' r' p' : Int, x = q' * p.2 - p' * q.2 → y = r' * p.2 - p' * r.2 → (sz y + e * (p.2 * r.2)) * q.2 ≤ (sz x + e * (p.2 * q.2)) * r.2 + sz (p.2 * (r' * q.2 - q' * r.2)) := fun x y q' r' p' hx hy => by
    have := comp_next d2.1 d3.1 d1.1 hx hy
    have e1 : (sz y + e * (p.2 * r.2)) * q.2 = sz y * q.2 + e * (p.2 * (q.2 * r.2)) := by grind
    have e2 : (sz x + e * (p.2 * q.2)) * r.2 = sz x * r.2 + e * (p.2 * (q.2 * r.2)) := by grind
    rw [e1, e2]; omega
  exact scale3 (a := sz (q.1.1 * p.2 - p.1.1 * q.2) + e * (p.2 * q.2)) (b := sz (q.1.2.1 * p.2 - p.1.2.1 * q.2) + e * (p.2 * q.2)) (c := sz (q.1.2.2 * p.2 - p.1.2.2 * q.2) + e * (p.2 * q.2))
    (a' := sz (r.1.1 * p.2 - p.1.1 * r.2) + e * (p.2 * r.2)) (b' := sz (r.1.2.1 * p.2 - p.1.2.1 * r.2) + e * (p.2 * r.2)) (c' := sz (r.1.2.2 * p.2 - p.1.2.2 * r.2) + e * (p.2 * r.2))
    d2.1 d3.1 d1.1 hn (by have := k0 (r.1.1 * p.2 - p.1.1 * r.2); omega) (by have := k0 (r.1.2.1 * p.2 - p.1.2.1 * r.2); omega) (by have := k0 (r.1.2.2 * p.2 - p.1.2.2 * r.2); omega)
    (step _ _ _ _ _ rfl rfl) (step _ _ _ _ _ rfl rfl) (step _ _ _ _ _ rfl rfl) hf (apart_scale h)
theorem near_next {p q r : Pt} (hp : PtOk p) (hq : PtOk q) (hr : PtOk r) {e : Int} (h : apart q r ≤ (q.2 * r.2) * (q.2 * r.2)) {n : Int} (hn : 0 ≤ n) (hf : near (gap p q e) ≤ (n * (p.2 * q.2)) * (n * (p.2 * q.2))) :
    near (gap p r e) ≤ ((n + 1) * (p.2 * r.2)) * ((n + 1) * (p.2 * r.2)) := by
  have d1 := hp.den; have d2 := hq.den; have d3 := hr.den
  have k0 : ∀ z, 0 ≤ mx 0 z := fun z => by unfold mx; split <;> omega
  have step : ∀ x y q' r' p' : Int, x = q' * p.2 - p' * q.2 → y = r' * p.2 - p' * r.2 → mx 0 (sz y - e * (p.2 * r.2)) * q.2 ≤ mx 0 (sz x - e * (p.2 * q.2)) * r.2 + sz (p.2 * (r' * q.2 - q' * r.2)) := fun x y q' r' p' hx hy => by
    have := comp_next d2.1 d3.1 d1.1 hx hy
    have hv := (sz_spec (p.2 * (r' * q.2 - q' * r.2))).1
    have e1 : (sz y - e * (p.2 * r.2)) * q.2 = sz y * q.2 - e * (p.2 * (q.2 * r.2)) := by grind
    have e2 : (sz x - e * (p.2 * q.2)) * r.2 = sz x * r.2 - e * (p.2 * (q.2 * r.2)) := by grind
    have m1 : (sz x - e * (p.2 * q.2)) * r.2 ≤ mx 0 (sz x - e * (p.2 * q.2)) * r.2 := Int.mul_le_mul_of_nonneg_right (by unfold mx; split <;> omega) (by omega)
    have m2 : 0 ≤ mx 0 (sz x - e * (p.2 * q.2)) * r.2 := Int.mul_nonneg (k0 _) (by omega)
    have m3 : mx 0 (sz y - e * (p.2 * r.2)) = 0 ∨ mx 0 (sz y - e * (p.2 * r.2)) = sz y - e * (p.2 * r.2) := by unfold mx; split <;> simp
    rcases m3 with m3 | m3
    · rw [m3, Int.zero_mul]; omega
    · rw [m3, e1]; omega
  exact scale3 (a := mx 0 (sz (q.1.1 * p.2 - p.1.1 * q.2) - e * (p.2 * q.2))) (b := mx 0 (sz (q.1.2.1 * p.2 - p.1.2.1 * q.2) - e * (p.2 * q.2))) (c := mx 0 (sz (q.1.2.2 * p.2 - p.1.2.2 * q.2) - e * (p.2 * q.2)))
    (a' := mx 0 (sz (r.1.1 * p.2 - p.1.1 * r.2) - e * (p.2 * r.2))) (b' := mx 0 (sz (r.1.2.1 * p.2 - p.1.2.1 * r.2) - e * (p.2 * r.2))) (c' := mx 0 (sz (r.1.2.2 * p.2 - p.1.2.2 * r.2) - e * (p.2 * r.2)))
    d2.1 d3.1 d1.1 hn (k0 _) (k0 _) (k0 _) (step _ _ _ _ _ rfl rfl) (step _ _ _ _ _ rfl rfl) (step _ _ _ _ _ rfl rfl) hf (apart_scale h)

/-- The truth of 'has arrived', and of 'has not', of two valid tracks at two times. -/
noncomputable def arrT (a b : Tr) (s r : Int) : Bool := (s72 (a, s, b, r)).getD false
noncomputable def misT (a b : Tr) (s r : Int) : Bool := (s71 (a, s, b, r)).getD false

structure Sees (a b : Tr) (s r : Int) : Prop where
  arr : s72 (a, s, b, r) = some (arrT a b s r)
  ref : s30 (a, b, s, r) = some (arrT a b s r)
  mis : s71 (a, s, b, r) = some (misT a b s r)
  away : s31 (a, b, s, r) = some (misT a b s r)
theorem sees {a b : Tr} (Va : Valid a) (Vb : Valid b) {s r : Int} (hs : tErr s a = 0) (hr : tErr r b = 0) (hd : -200000 ≤ r - s ∧ r - s ≤ 200000) : Sees a b s r := by
  obtain ⟨p, q, _, _, _, _, _, h1, h2, h3, h4⟩ := arr_ok Va Vb hs hr hd
  have e1 : arrT a b s r = arrQ (gap p q (a.2 + b.2)) (r - s) := by unfold arrT; rw [h1]; rfl
  have e2 : misT a b s r = misQ (gap p q (a.2 + b.2)) (r - s) := by unfold misT; rw [h3]; rfl
  exact ⟨by rw [h1, e1], by rw [h2, e1], by rw [h3, e2], by rw [h4, e2]⟩

/-- One tick later in receipt. -/
theorem later {a b : Tr} (Va : Valid a) (Vb : Valid b) {s r : Int} (hs : tErr s a = 0) (h1 : firstT b ≤ r) (h2 : r + 1 ≤ lastT b) (h0 : s ≤ r) (hd : r - s ≤ 190000) : (arrT a b s r = true → arrT a b s (r + 1) = true) ∧ (misT a b s (r + 1) = true → misT a b s r = true) := by
  obtain ⟨p, q, p1, q1, pk, qk, _, x1, _, x3, _⟩ := arr_ok Va Vb hs (tErr_of.2 (show firstT b ≤ r ∧ r ≤ lastT b by omega)) (by omega)
  obtain ⟨p', q', p2, q2, _, qk', _, y1, _, y3, _⟩ := arr_ok Va Vb hs (tErr_of.2 (show firstT b ≤ r + 1 ∧ r + 1 ≤ lastT b by omega)) (by omega)
  obtain rfl : p = p' := Option.some.inj (p1.symm.trans p2)
  have hap := slow Vb h1 h2 q1 q2
  have he : 0 ≤ a.2 + b.2 := by have := Va.doubt; have := Vb.doubt; omega
  have e1 : arrT a b s r = arrQ (gap p q (a.2 + b.2)) (r - s) := by unfold arrT; rw [x1]; rfl
  have e2 : misT a b s r = misQ (gap p q (a.2 + b.2)) (r - s) := by unfold misT; rw [x3]; rfl
  have e3 : arrT a b s (r + 1) = arrQ (gap p q' (a.2 + b.2)) (r + 1 - s) := by unfold arrT; rw [y1]; rfl
  have e4 : misT a b s (r + 1) = misQ (gap p q' (a.2 + b.2)) (r + 1 - s) := by unfold misT; rw [y3]; rfl
  have en : r + 1 - s = (r - s) + 1 := by omega
  rw [e1, e2, e3, e4, en]
  unfold arrQ misQ
  constructor
  · intro h
    exact decide_eq_true (far_next pk qk qk' he hap (by omega) (of_decide_eq_true h))
  · intro h
    have h := of_decide_eq_true h
    refine decide_eq_true ?_
    rcases Int.lt_or_le (((r - s) * (gap p q (a.2 + b.2)).1.2) * ((r - s) * (gap p q (a.2 + b.2)).1.2)) (near (gap p q (a.2 + b.2))) with c | c
    · exact c
    · have := near_next pk qk qk' hap (show 0 ≤ r - s by omega) c
      exact absurd h (by show ¬ (((r - s + 1) * (p.2 * q'.2)) * ((r - s + 1) * (p.2 * q'.2)) < _); omega)
/-- One tick earlier in sending. -/
theorem earlier {a b : Tr} (Va : Valid a) (Vb : Valid b) {s r : Int} (hr : tErr r b = 0) (h1 : firstT a ≤ s) (h2 : s + 1 ≤ lastT a) (h0 : s + 1 ≤ r) (hd : r - s ≤ 190000) : (arrT a b (s + 1) r = true → arrT a b s r = true) ∧ (misT a b s r = true → misT a b (s + 1) r = true) := by
  obtain ⟨p, q, p1, q1, pk, qk, _, x1, _, x3, _⟩ := arr_ok Va Vb (tErr_of.2 (show firstT a ≤ s ∧ s ≤ lastT a by omega)) hr (by omega)
  obtain ⟨p', q', p2, q2, pk', _, _, y1, _, y3, _⟩ := arr_ok Va Vb (tErr_of.2 (show firstT a ≤ s + 1 ∧ s + 1 ≤ lastT a by omega)) hr (by omega)
  obtain rfl : q = q' := Option.some.inj (q1.symm.trans q2)
  have hap := slow Va h1 h2 p1 p2
  have hap' : apart p' p ≤ (p'.2 * p.2) * (p'.2 * p.2) := by
    have e : apart p' p = apart p p' := by unfold apart; grind
    rw [e, Int.mul_comm p'.2 p.2]; exact hap
  have he : 0 ≤ a.2 + b.2 := by have := Va.doubt; have := Vb.doubt; omega
  have e1 : arrT a b s r = arrQ (gap p q (a.2 + b.2)) (r - s) := by unfold arrT; rw [x1]; rfl
  have e2 : misT a b s r = misQ (gap p q (a.2 + b.2)) (r - s) := by unfold misT; rw [x3]; rfl
  have e3 : arrT a b (s + 1) r = arrQ (gap p' q (a.2 + b.2)) (r - (s + 1)) := by unfold arrT; rw [y1]; rfl
  have e4 : misT a b (s + 1) r = misQ (gap p' q (a.2 + b.2)) (r - (s + 1)) := by unfold misT; rw [y3]; rfl
  have en : r - s = (r - (s + 1)) + 1 := by omega
  have n1 := near_sym p q (a.2 + b.2)
  have n2 := near_sym p' q (a.2 + b.2)
  rw [e1, e2, e3, e4, en]
  have c1 : (gap p q (a.2 + b.2)).1.2 = q.2 * p.2 := Int.mul_comm p.2 q.2
  have c2 : (gap p' q (a.2 + b.2)).1.2 = q.2 * p'.2 := Int.mul_comm p'.2 q.2
  unfold arrQ misQ
  rw [c1, c2, ← n1.1, ← n1.2, ← n2.1, ← n2.2]
  constructor
  · intro h
    exact decide_eq_true (far_next qk pk' pk he hap' (by omega) (of_decide_eq_true h))
  · intro h
    have h := of_decide_eq_true h
    refine decide_eq_true ?_
    rcases Int.lt_or_le (((r - (s + 1)) * (q.2 * p'.2)) * ((r - (s + 1)) * (q.2 * p'.2))) (near (gap q p' (a.2 + b.2))) with c | c
    · exact c
    · have := near_next qk pk' pk hap' (show 0 ≤ r - (s + 1) by omega) c
      exact absurd h (by omega)
/-- What has arrived is not away. -/
theorem not_both {a b : Tr} (Va : Valid a) (Vb : Valid b) {s r : Int} (hs : tErr s a = 0) (hr : tErr r b = 0) (hd : -200000 ≤ r - s ∧ r - s ≤ 200000) (h : arrT a b s r = true) : misT a b s r = false := by
  obtain ⟨p, q, _, _, _, _, G, h1, _, h3, _⟩ := arr_ok Va Vb hs hr hd
  have e1 : arrT a b s r = arrQ (gap p q (a.2 + b.2)) (r - s) := by unfold arrT; rw [h1]; rfl
  have e2 : misT a b s r = misQ (gap p q (a.2 + b.2)) (r - s) := by unfold misT; rw [h3]; rfl
  rw [e1] at h
  rw [e2]
  have := near_far G
  have h := of_decide_eq_true h
  exact decide_eq_false (by omega)
end Go.Proofs.YtgpfdacidgmelaaGreat
