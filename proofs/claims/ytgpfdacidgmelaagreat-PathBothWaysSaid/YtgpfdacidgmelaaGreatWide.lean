/- Chapter 1: numbers of 128 bits, and the distances of a gap. -/
import Derived.Test.YtgpfdacidgmelaaGreatAt
import Derived.Test.YtgpfdacidgmelaaGreatGb1
set_option linter.unusedSimpArgs false
namespace Go.Proofs.YtgpfdacidgmelaaGreat
open Go.Ev

theorem uw_id {n : Int} (h1 : 0 ≤ n) (h2 : n < 18446744073709551616) : IntKind.u64.wrap n = n := by
  simp [IntKind.wrap, IntKind.signed, IntKind.bits]
  omega
theorem uw_mod (n : Int) : IntKind.u64.wrap n = n % 18446744073709551616 := by
  simp [IntKind.wrap, IntKind.signed, IntKind.bits]
theorem shr32 {x : Int} : shrI .u64 x 32 = x / 4294967296 := by
  unfold shrI
  have : (2 : Int) ^ (min (32 : Int).toNat IntKind.u64.bits) = 4294967296 := by simp [IntKind.bits]
  rw [this, Int.fdiv_eq_ediv_of_nonneg _ (by omega)]
theorem and32 {x : Int} (h1 : 0 ≤ x) (h2 : x < 18446744073709551616) : andI .u64 x 4294967295 = x % 4294967296 := by
  unfold andI
  have e1 : (BitVec.ofInt IntKind.u64.bits x).toNat = x.toNat := by
    rw [BitVec.toNat_ofInt]
    have : ((2 ^ IntKind.u64.bits : Nat) : Int) = 18446744073709551616 := by simp [IntKind.bits]
    rw [this, Int.emod_eq_of_lt h1 h2]
  have e2 : (BitVec.ofInt IntKind.u64.bits 4294967295).toNat = 2 ^ 32 - 1 := by rfl
  rw [BitVec.toNat_and, e1, e2, Nat.and_two_pow_sub_one_eq_mod, uw_id (by omega) (by omega)]
  omega

theorem mmmc (a b c d : Int) : a * b * (c * d) = a * c * (b * d) := by rw [Int.mul_assoc, ← Int.mul_assoc b c d, Int.mul_comm b c, Int.mul_assoc c b d, ← Int.mul_assoc]
theorem prod_bound {p q m : Int} (h1 : 0 ≤ p) (h2 : p ≤ m) (h3 : 0 ≤ q) (h4 : q ≤ m) : 0 ≤ p * q ∧ p * q ≤ m * m := ⟨Int.mul_nonneg h1 h3, Int.mul_le_mul h2 h4 h3 (by omega)⟩

theorem s139_eq {x y : Int} (hx : 0 ≤ x) (hx2 : x < 18446744073709551616) (hy : 0 ≤ y) (hy2 : y < 18446744073709551616) : s139 (x, y) = some (x * y / 18446744073709551616, x * y % 18446744073709551616) := by
  have ex : x = x / 4294967296 * 4294967296 + x % 4294967296 := by omega
  have ey : y = y / 4294967296 * 4294967296 + y % 4294967296 := by omega
  have hxy : x * y = (x / 4294967296 * (y / 4294967296)) * 18446744073709551616 + (x / 4294967296 * (y % 4294967296)) * 4294967296 + (x % 4294967296 * (y / 4294967296)) * 4294967296 + x % 4294967296 * (y % 4294967296) := by
    conv => lhs; rw [ex, ey]
    have e1 : x / 4294967296 * 4294967296 * (y / 4294967296 * 4294967296) = x / 4294967296 * (y / 4294967296) * 18446744073709551616 := by rw [mmmc, show (4294967296 : Int) * 4294967296 = 18446744073709551616 by decide]
    have e2 : x / 4294967296 * 4294967296 * (y % 4294967296) = x / 4294967296 * (y % 4294967296) * 4294967296 := Int.mul_right_comm _ _ _
    have e3 : x % 4294967296 * (y / 4294967296 * 4294967296) = x % 4294967296 * (y / 4294967296) * 4294967296 := (Int.mul_assoc _ _ _).symm
    rw [Int.add_mul, Int.mul_add, Int.mul_add, e1, e2, e3]
    omega
  obtain ⟨a1, a2⟩ := prod_bound (p := x / 4294967296) (q := y / 4294967296) (m := 4294967295) (by omega) (by omega) (by omega) (by omega)
  obtain ⟨b1, b2⟩ := prod_bound (p := x / 4294967296) (q := y % 4294967296) (m := 4294967295) (by omega) (by omega) (by omega) (by omega)
  obtain ⟨c1, c2⟩ := prod_bound (p := x % 4294967296) (q := y / 4294967296) (m := 4294967295) (by omega) (by omega) (by omega) (by omega)
  obtain ⟨d1, d2⟩ := prod_bound (p := x % 4294967296) (q := y % 4294967296) (m := 4294967295) (by omega) (by omega) (by omega) (by omega)
  unfold s139
  simp only [shr32, and32 hx hx2, and32 hy hy2, uw_mod (x * y), hxy]
  generalize x / 4294967296 * (y / 4294967296) = a at *
  generalize x / 4294967296 * (y % 4294967296) = b at *
  generalize x % 4294967296 * (y / 4294967296) = c at *
  generalize x % 4294967296 * (y % 4294967296) = d at *
  rw [uw_id (n := d) (by omega) (by omega), uw_id (n := b) (by omega) (by omega), uw_id (n := a) (by omega) (by omega), uw_id (n := c) (by omega) (by omega)]
  rw [uw_id (n := b + d / 4294967296) (by omega) (by omega), and32 (by omega) (by omega), uw_id (n := (b + d / 4294967296) % 4294967296 + c) (by omega) (by omega)]
  rw [uw_id (n := a + (b + d / 4294967296) / 4294967296) (by omega) (by omega), uw_id (by omega) (by omega)]
  congr 2
  omega

/-- A number from 0 on as two halves. -/
def W (n : Int) : Int × Int := (n / 18446744073709551616, n % 18446744073709551616)
def sz (n : Int) : Int := mx n (-n)
theorem sz_spec (n : Int) : 0 ≤ sz n ∧ (sz n = n ∨ sz n = -n) ∧ n ≤ sz n ∧ -n ≤ sz n := by
  unfold sz mx; split <;> omega
theorem sz_sq (n : Int) : sz n * sz n = n * n := by
  rcases (sz_spec n).2.1 with h | h <;> rw [h]
  exact Int.neg_mul_neg n n

theorem s105_eq {n : Int} (h1 : -4000000000000000000 ≤ n) (h2 : n ≤ 4000000000000000000) : s105 n = some (W (n * n)) := by
  obtain ⟨g1, g2, _⟩ := sz_spec n
  have e : mx n (wr (-n)) = sz n := by rw [wr_id (by omega) (by omega)]; rfl
  unfold s105
  simp only [e, uw_id g1 (show sz n < 18446744073709551616 by omega)]
  rw [s139_eq g1 (by omega) g1 (by omega), sz_sq]
  rfl

theorem s156_eq {a b : Int} (ha : 0 ≤ a) (hb : 0 ≤ b) (h : a + b < 340282366920938463463374607431768211456) : s156 (W a, W b) = some (W (a + b)) := by
  unfold s156 W
  simp only []
  rw [decide_eq_true (show (0 : Int) ≤ a % 18446744073709551616 by omega), decide_eq_true (show (0 : Int) ≤ b % 18446744073709551616 by omega)]
  simp only [Bool.and_self, cond_true]
  rw [uw_id (n := a / 18446744073709551616 + b / 18446744073709551616) (by omega) (by omega), uw_id (by omega) (by omega)]
  congr 2 <;> omega

theorem W_less (a b : Int) : (decide ((W a).1 < (W b).1) = true ∨ (((W a).1 == (W b).1) = true ∧ decide ((W a).2 < (W b).2) = true)) ↔ a < b := by
  unfold W
  simp only [decide_eq_true_eq, beq_iff_eq]
  omega

/-- A gap: its vector, its denominator, its doubt. -/
abbrev Gp := ((Int × Int × Int) × Int) × Int
def near1 (g : Gp) (x : Int) : Int := mx 0 (sz x - g.2 * g.1.2) * mx 0 (sz x - g.2 * g.1.2)
def far1 (g : Gp) (x : Int) : Int := (sz x + g.2 * g.1.2) * (sz x + g.2 * g.1.2)
def near (g : Gp) : Int := near1 g g.1.1.1 + near1 g g.1.1.2.1 + near1 g g.1.1.2.2
def far (g : Gp) : Int := far1 g g.1.1.1 + far1 g g.1.1.2.1 + far1 g g.1.1.2.2
structure GpOk (g : Gp) : Prop where
  den : 1 ≤ g.1.2 ∧ g.1.2 ≤ 100000000
  doubt : 0 ≤ g.2 ∧ g.2 ≤ 2000
  x : -(2000000 * g.1.2) ≤ g.1.1.1 ∧ g.1.1.1 ≤ 2000000 * g.1.2
  y : -(2000000 * g.1.2) ≤ g.1.1.2.1 ∧ g.1.1.2.1 ≤ 2000000 * g.1.2
  z : -(2000000 * g.1.2) ≤ g.1.1.2.2 ∧ g.1.1.2.2 ≤ 2000000 * g.1.2

theorem GpOk.by' {g : Gp} (G : GpOk g) : 0 ≤ g.2 * g.1.2 ∧ g.2 * g.1.2 ≤ 2000 * g.1.2 := by
  obtain ⟨d1, d2⟩ := G.den
  obtain ⟨e1, e2⟩ := G.doubt
  exact ⟨Int.mul_nonneg e1 (by omega), Int.mul_le_mul_of_nonneg_right e2 (by omega)⟩
/-- The size of a component. -/
def comp (g : Gp) (x : Int) : Prop := -(2000000 * g.1.2) ≤ x ∧ x ≤ 2000000 * g.1.2

theorem near1_ok {g : Gp} (G : GpOk g) {x : Int} (hx : comp g x) : s105 (mx 0 (wr (mx x (wr (-x)) - wr (g.2 * g.1.2)))) = some (W (near1 g x)) ∧ 0 ≤ near1 g x ∧ near1 g x ≤ (2002000 * g.1.2) * (2002000 * g.1.2) := by
  obtain ⟨d1, d2⟩ := G.den
  obtain ⟨b1, b2⟩ := G.by'
  obtain ⟨x1, x2⟩ := hx
  obtain ⟨z1, z2, _⟩ := sz_spec x
  have e1 : mx x (wr (-x)) = sz x := by rw [wr_id (by omega) (by omega)]; rfl
  have m1 : 0 ≤ mx 0 (sz x - g.2 * g.1.2) := by unfold mx; split <;> omega
  have m2 : mx 0 (sz x - g.2 * g.1.2) ≤ 2002000 * g.1.2 := by unfold mx; split <;> omega
  obtain ⟨p1, p2⟩ := prod_bound m1 m2 m1 m2
  refine ⟨?_, p1, p2⟩
  rw [e1, wr_id (n := g.2 * g.1.2) (by omega) (by omega), wr_id (by omega) (by omega), s105_eq (by omega) (by omega)]
  rfl
theorem far1_ok {g : Gp} (G : GpOk g) {x : Int} (hx : comp g x) : s105 (wr (mx x (wr (-x)) + wr (g.2 * g.1.2))) = some (W (far1 g x)) ∧ 0 ≤ far1 g x ∧ far1 g x ≤ (2002000 * g.1.2) * (2002000 * g.1.2) := by
  obtain ⟨d1, d2⟩ := G.den
  obtain ⟨b1, b2⟩ := G.by'
  obtain ⟨x1, x2⟩ := hx
  obtain ⟨z1, z2, _⟩ := sz_spec x
  have e1 : mx x (wr (-x)) = sz x := by rw [wr_id (by omega) (by omega)]; rfl
  obtain ⟨p1, p2⟩ := prod_bound (p := sz x + g.2 * g.1.2) (q := sz x + g.2 * g.1.2) (m := 2002000 * g.1.2) (by omega) (by omega) (by omega) (by omega)
  refine ⟨?_, p1, p2⟩
  rw [e1, wr_id (n := g.2 * g.1.2) (by omega) (by omega), wr_id (by omega) (by omega), s105_eq (by omega) (by omega)]
  rfl
theorem big_bound {d : Int} (h1 : 1 ≤ d) (h2 : d ≤ 100000000) : 0 ≤ (2002000 * d) * (2002000 * d) ∧ (2002000 * d) * (2002000 * d) ≤ 40080040000000000000000000000 := by
  obtain ⟨p1, p2⟩ := prod_bound (p := 2002000 * d) (q := 2002000 * d) (m := 200200000000000) (by omega) (by omega) (by omega) (by omega)
  exact ⟨p1, by omega⟩

theorem s101_eq {g : Gp} (G : GpOk g) : s101 g = some (W (near g)) ∧ 0 ≤ near g ∧ near g ≤ 3 * ((2002000 * g.1.2) * (2002000 * g.1.2)) := by
  obtain ⟨x1, x2, x3⟩ := near1_ok G G.x
  obtain ⟨y1, y2, y3⟩ := near1_ok G G.y
  obtain ⟨z1, z2, z3⟩ := near1_ok G G.z
  obtain ⟨k1, k2⟩ := big_bound G.den.1 G.den.2
  have w0 : ((0, 0) : Int × Int) = W 0 := rfl
  refine ⟨?_, by unfold near; omega, by unfold near; omega⟩
  unfold s101
  simp only [x1, y1, z1, optE_some]
  rw [w0, s156_eq (by omega) x2 (by omega)]
  simp only [optE_some, Int.zero_add]
  rw [s156_eq x2 y2 (by omega)]
  simp only [optE_some]
  rw [s156_eq (by omega) z2 (by omega)]
  rfl
theorem s102_eq {g : Gp} (G : GpOk g) : s102 g = some (W (far g)) ∧ 0 ≤ far g ∧ far g ≤ 3 * ((2002000 * g.1.2) * (2002000 * g.1.2)) := by
  obtain ⟨x1, x2, x3⟩ := far1_ok G G.x
  obtain ⟨y1, y2, y3⟩ := far1_ok G G.y
  obtain ⟨z1, z2, z3⟩ := far1_ok G G.z
  obtain ⟨k1, k2⟩ := big_bound G.den.1 G.den.2
  have w0 : ((0, 0) : Int × Int) = W 0 := rfl
  refine ⟨?_, by unfold far; omega, by unfold far; omega⟩
  unfold s102
  simp only [x1, y1, z1, optE_some]
  rw [w0, s156_eq (by omega) x2 (by omega)]
  simp only [optE_some, Int.zero_add]
  rw [s156_eq x2 y2 (by omega)]
  simp only [optE_some]
  rw [s156_eq (by omega) z2 (by omega)]
  rfl

/-- The root of a square over a denominator, rounded down; rounded up. -/
def IsLo (n d r : Int) : Prop := 0 ≤ r ∧ r < 8000000 ∧ (r * d) * (r * d) ≤ n ∧ n < ((r + 1) * d) * ((r + 1) * d)
def IsHi (n d r : Int) : Prop := 0 ≤ r ∧ r ≤ 8000000 ∧ n ≤ (r * d) * (r * d) ∧ (1 ≤ r → ((r - 1) * d) * ((r - 1) * d) < n)

theorem sq_mono {a b : Int} (h1 : 0 ≤ a) (h2 : a ≤ b) : a * a ≤ b * b := (prod_bound h1 h2 h1 h2).2
theorem sq_scale {j k : Nat} {d : Int} (hd : 1 ≤ d) (h : j ≤ k) : ((j : Int) * d) * ((j : Int) * d) ≤ ((k : Int) * d) * ((k : Int) * d) :=
  sq_mono (Int.mul_nonneg (by omega) (by omega)) (Int.mul_le_mul_of_nonneg_right (by omega) (by omega))
theorem top_bound {d n : Int} (hd : 1 ≤ d) (h : n ≤ 3 * ((2002000 * d) * (2002000 * d))) : n < (8000000 * d) * (8000000 * d) := by
  have e1 : (2002000 * d) * (2002000 * d) = 4008004000000 * (d * d) := by rw [mmmc, show (2002000 : Int) * 2002000 = 4008004000000 by decide]
  have e2 : (8000000 * d) * (8000000 * d) = 64000000000000 * (d * d) := by rw [mmmc, show (8000000 : Int) * 8000000 = 64000000000000 by decide]
  have e3 : 1 ≤ d * d := Int.le_trans hd (by have := Int.mul_le_mul_of_nonneg_left hd (show 0 ≤ d by omega); omega)
  omega

/-- The search for the lower end. -/
theorem lo_search {g : Gp} (G : GpOk g) {n : Int} (h0 : 0 ≤ n) (hn : n ≤ 3 * ((2002000 * g.1.2) * (2002000 * g.1.2))) (v : Int × Int × Int × Int × Int) (hv : v.2.2.2.1 = g.1.2) : ∃ r, loopVal step74_0a ((W n, v, ()), 0, 8000000) = some r ∧ IsLo n g.1.2 r := by
  obtain ⟨d1, d2⟩ := G.den
  have htop := top_bound d1 hn
  obtain ⟨m, hm, hq, hlt⟩ := least_ex (q := fun k : Nat => n < (((k : Int) + 1) * g.1.2) * (((k : Int) + 1) * g.1.2)) (n := 7999999) htop
  refine ⟨(m : Int), ?_, by omega, by omega, ?_, hq⟩
  · refine search_law (step := step74_0a) (st := fun i j => ((W n, v, ()), (i : Int), (j : Int))) (g := fun k => decide (n < (((k : Int) + 1) * g.1.2) * (((k : Int) + 1) * g.1.2))) (n := 8000000) (fun i j hij hj => ?_) (fun i hi => ?_) (m := m) (by omega) (fun k hk => decide_eq_false (hlt k hk)) (fun k hk _ => decide_eq_true ?_)
    · have hp : ((((i + j) / 2 + 1 : Nat) : Int) * g.1.2) ≤ 8000000 * g.1.2 := Int.mul_le_mul_of_nonneg_right (by omega) (by omega)
      have hp0 : 0 ≤ ((((i + j) / 2 + 1 : Nat) : Int) * g.1.2) := Int.mul_nonneg (by omega) (by omega)
      have hs := s105_eq (n := (((i + j) / 2 + 1 : Nat) : Int) * g.1.2) (by omega) (by omega)
      simp only [step74_0a, lt_cast, hij, decide_true, cond_true, half_mid (show i + j < 4611686018427387904 by omega), wr_succ (show (i + j) / 2 < 4611686018427387904 by omega), hv]
      rw [wr_id (n := (((i + j) / 2 + 1 : Nat) : Int) * g.1.2) (by omega) (by omega), hs]
      simp only [optE_some]
      have hless := W_less n ((((i + j) / 2 + 1 : Nat) : Int) * g.1.2 * ((((i + j) / 2 + 1 : Nat) : Int) * g.1.2))
      have ecast : (((i + j) / 2 + 1 : Nat) : Int) = (((i + j) / 2 : Nat) : Int) + 1 := rfl
      rw [← ecast]
      by_cases hd : n < (((i + j) / 2 + 1 : Nat) : Int) * g.1.2 * ((((i + j) / 2 + 1 : Nat) : Int) * g.1.2)
      · rw [if_pos (decide_eq_true hd)]
        rcases hless.2 hd with h | ⟨h, h'⟩
        · rw [h]; rfl
        · rw [h, h']
          cases decide ((W n).1 < (W ((((i + j) / 2 + 1 : Nat) : Int) * g.1.2 * ((((i + j) / 2 + 1 : Nat) : Int) * g.1.2))).1) <;> rfl
      · rw [if_neg (by simpa using hd)]
        have hno := fun h => hd (hless.1 h)
        cases h1 : decide ((W n).1 < (W ((((i + j) / 2 + 1 : Nat) : Int) * g.1.2 * ((((i + j) / 2 + 1 : Nat) : Int) * g.1.2))).1) with
        | true => exact absurd (.inl h1) hno
        | false =>
          cases h2 : ((W n).1 == (W ((((i + j) / 2 + 1 : Nat) : Int) * g.1.2 * ((((i + j) / 2 + 1 : Nat) : Int) * g.1.2))).1) with
          | false => rfl
          | true =>
            cases h3 : decide ((W n).2 < (W ((((i + j) / 2 + 1 : Nat) : Int) * g.1.2 * ((((i + j) / 2 + 1 : Nat) : Int) * g.1.2))).2) with
            | true => exact absurd (.inr ⟨h2, h3⟩) hno
            | false => rfl
    · simp only [step74_0a, lt_cast, Nat.lt_irrefl, decide_false, cond_false]
    · have := sq_scale (j := m + 1) (k := k + 1) d1 (by omega)
      have e1 : ((m + 1 : Nat) : Int) = (m : Int) + 1 := rfl
      have e2 : ((k + 1 : Nat) : Int) = (k : Int) + 1 := rfl
      rw [e1, e2] at this
      omega
  · cases m with
    | zero => simp; exact h0
    | succ m =>
      have := hlt m (by omega)
      have e1 : ((m + 1 : Nat) : Int) = (m : Int) + 1 := rfl
      rw [e1]; omega

/-- The search for the upper end. -/
theorem hi_search {g : Gp} (G : GpOk g) {n : Int} (hn : n ≤ 3 * ((2002000 * g.1.2) * (2002000 * g.1.2))) (v : Int × Int × Int × Int × Int) (hv : v.2.2.2.1 = g.1.2) : ∃ r, loopVal step74_0b ((v, W n, ()), 0, 8000000) = some r ∧ IsHi n g.1.2 r := by
  obtain ⟨d1, d2⟩ := G.den
  have htop := top_bound d1 hn
  obtain ⟨m, hm, hq, hlt⟩ := least_ex (q := fun k : Nat => n ≤ ((k : Int) * g.1.2) * ((k : Int) * g.1.2)) (n := 8000000) (Int.le_of_lt htop)
  refine ⟨(m : Int), ?_, by omega, by omega, hq, ?_⟩
  · refine search_law (step := step74_0b) (st := fun i j => ((v, W n, ()), (i : Int), (j : Int))) (g := fun k => decide (n ≤ ((k : Int) * g.1.2) * ((k : Int) * g.1.2))) (n := 8000000) (fun i j hij hj => ?_) (fun i hi => ?_) (m := m) (by omega) (fun k hk => decide_eq_false (hlt k hk)) (fun k hk _ => decide_eq_true ?_)
    · have hp : ((((i + j) / 2 : Nat) : Int) * g.1.2) ≤ 8000000 * g.1.2 := Int.mul_le_mul_of_nonneg_right (by omega) (by omega)
      have hp0 : 0 ≤ ((((i + j) / 2 : Nat) : Int) * g.1.2) := Int.mul_nonneg (by omega) (by omega)
      have hs := s105_eq (n := (((i + j) / 2 : Nat) : Int) * g.1.2) (by omega) (by omega)
      simp only [step74_0b, lt_cast, hij, decide_true, cond_true, half_mid (show i + j < 4611686018427387904 by omega), wr_succ (show (i + j) / 2 < 4611686018427387904 by omega), hv]
      rw [wr_id (n := (((i + j) / 2 : Nat) : Int) * g.1.2) (by omega) (by omega), hs]
      simp only [optE_some]
      have hless := W_less ((((i + j) / 2 : Nat) : Int) * g.1.2 * ((((i + j) / 2 : Nat) : Int) * g.1.2)) n
      by_cases hd : n ≤ (((i + j) / 2 : Nat) : Int) * g.1.2 * ((((i + j) / 2 : Nat) : Int) * g.1.2)
      · rw [if_pos (decide_eq_true hd)]
        have hno := fun h => (show ¬ (((i + j) / 2 : Nat) : Int) * g.1.2 * ((((i + j) / 2 : Nat) : Int) * g.1.2) < n by omega) (hless.1 h)
        cases h1 : decide ((W ((((i + j) / 2 : Nat) : Int) * g.1.2 * ((((i + j) / 2 : Nat) : Int) * g.1.2))).1 < (W n).1) with
        | true => exact absurd (.inl h1) hno
        | false =>
          cases h2 : ((W ((((i + j) / 2 : Nat) : Int) * g.1.2 * ((((i + j) / 2 : Nat) : Int) * g.1.2))).1 == (W n).1) with
          | false => rfl
          | true =>
            cases h3 : decide ((W ((((i + j) / 2 : Nat) : Int) * g.1.2 * ((((i + j) / 2 : Nat) : Int) * g.1.2))).2 < (W n).2) with
            | true => exact absurd (.inr ⟨h2, h3⟩) hno
            | false => rfl
      · rw [if_neg (by simpa using hd)]
        rcases hless.2 (by omega) with h | ⟨h, h'⟩
        · rw [h]; rfl
        · rw [h, h']
          cases decide ((W ((((i + j) / 2 : Nat) : Int) * g.1.2 * ((((i + j) / 2 : Nat) : Int) * g.1.2))).1 < (W n).1) <;> rfl
    · simp only [step74_0b, lt_cast, Nat.lt_irrefl, decide_false, cond_false]
    · have := sq_scale (j := m) (k := k) d1 hk
      omega
  · intro h1
    cases m with
    | zero => simp at h1
    | succ m =>
      have := hlt m (by omega)
      have e1 : ((m + 1 : Nat) : Int) - 1 = (m : Int) := by omega
      rw [e1]; omega

theorem s64_eq {g : Gp} (G : GpOk g) : ∃ r, s64 g = some r ∧ IsLo (near g) g.1.2 r.1 ∧ IsHi (far g) g.1.2 r.2 := by
  obtain ⟨n1, n2, n3⟩ := s101_eq G
  obtain ⟨f1, f2, f3⟩ := s102_eq G
  obtain ⟨lo, l1, l2⟩ := lo_search G n2 n3 (g.1.1.1, g.1.1.2.1, g.1.1.2.2, g.1.2, g.2) rfl
  obtain ⟨hi, h1, h2⟩ := hi_search G f3 (g.1.1.1, g.1.1.2.1, g.1.1.2.2, g.1.2, g.2) rfl
  refine ⟨(lo, hi), ?_, l2, h2⟩
  unfold s64
  simp only [n1, f1, l1, h1, optE_some]
end Go.Proofs.YtgpfdacidgmelaaGreat
