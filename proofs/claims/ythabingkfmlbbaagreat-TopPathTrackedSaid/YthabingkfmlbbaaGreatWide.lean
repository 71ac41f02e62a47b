/- Chapter 1: numbers of 128 bits, and the distances of a gap. -/
import Derived.Test.YthabingkfmlbbaaGreatBox
import Derived.Test.YthabingkfmlbbaaGreatGm4
set_option linter.unusedSimpArgs false
namespace Go.Proofs.YthabingkfmlbbaaGreat
open Go.Ev
theorem uw_id {n : Int} (h1 : 0 ≤ n) (h2 : n < 18446744073709551616) : IntKind.u64.wrap n = n := by
 simp [IntKind.wrap, IntKind.signed, IntKind.bits]
 omega
theorem uw_mod (n : Int) : IntKind.u64.wrap n = n % 18446744073709551616 := by
 simp [IntKind.wrap, IntKind.signed, IntKind.bits]
theorem shr32 {x : Int} : shrI .u64 x 32 = x / 4294967296 := by
 unfold shrI
 have : (2 : Int) ^ (min (32 : Int).toNat IntKind.u64.bits) = 4294967296 := by simp [IntKind.bits]
 rw [this, Int.fdiv_eq_ediv_of_nonneg _ (by omega)]
theorem and32 {x : Int} (h1 : 0 ≤ x) (h2 : x < 18446744073709551616) : andI .u64 x 4294967295 = x % 4294967296 := by
 unfold andI
 have e1 : (BitVec.ofInt IntKind.u64.bits x).toNat = x.toNat := by
  rw [BitVec.toNat_ofInt]
  have : ((2 ^ IntKind.u64.bits : Nat) : Int) = 18446744073709551616 := by simp [IntKind.bits]
  rw [this, Int.emod_eq_of_lt h1 h2]
 have e2 : (BitVec.ofInt IntKind.u64.bits 4294967295).toNat = 2 ^ 32 - 1 := by rfl
 rw [BitVec.toNat_and, e1, e2, Nat.and_two_pow_sub_one_eq_mod, uw_id (by omega) (by omega)]
 omega
theorem mmmc (a b c d : Int) : a * b * (c * d) = a * c * (b * d) := by rw [Int.mul_assoc, ← Int.mul_assoc b c d, Int.mul_comm b c, Int.mul_assoc c b d, ← Int.mul_assoc]
theorem prod_bound {p q m : Int} (h1 : 0 ≤ p) (h2 : p ≤ m) (h3 : 0 ≤ q) (h4 : q ≤ m) : 0 ≤ p * q ∧ p * q ≤ m * m := ⟨Int.mul_nonneg h1 h3, Int.mul_le_mul h2 h4 h3 (by omega)⟩
theorem s102_eq {x y : Int} (hx : 0 ≤ x) (hx2 : x < 18446744073709551616) (hy : 0 ≤ y) (hy2 : y < 18446744073709551616) : s102 (x, y) = some (x * y / 18446744073709551616, x * y % 18446744073709551616) := by
 have ex : x = x / 4294967296 * 4294967296 + x % 4294967296 := by omega
 have ey : y = y / 4294967296 * 4294967296 + y % 4294967296 := by omega
 have hxy : x * y = (x / 4294967296 * (y / 4294967296)) * 18446744073709551616 + (x / 4294967296 * (y % 4294967296)) * 4294967296 + (x % 4294967296 * (y / 4294967296)) * 4294967296 + x % 4294967296 * (y % 4294967296) := by
  conv => lhs; rw [ex, ey]
  have e1 : x / 4294967296 * 4294967296 * (y / 4294967296 * 4294967296) = x / 4294967296 * (y / 4294967296) * 18446744073709551616 := by rw [mmmc, show (4294967296 : Int) * 4294967296 = 18446744073709551616 by decide]
  have e2 : x / 4294967296 * 4294967296 * (y % 4294967296) = x / 4294967296 * (y % 4294967296) * 4294967296 := Int.mul_right_comm _ _ _
  have e3 : x % 4294967296 * (y / 4294967296 * 4294967296) = x % 4294967296 * (y / 4294967296) * 4294967296 := (Int.mul_assoc _ _ _).symm
  rw [Int.add_mul, Int.mul_add, Int.mul_add, e1, e2, e3]
  omega
 obtain ⟨a1, a2⟩ := prod_bound (p := x / 4294967296) (q := y / 4294967296) (m := 4294967295) (by omega) (by omega) (by omega) (by omega)
 obtain ⟨b1, b2⟩ := prod_bound (p := x / 4294967296) (q := y % 4294967296) (m := 4294967295) (by omega) (by omega) (by omega) (by omega)
 obtain ⟨c1, c2⟩ := prod_bound (p := x % 4294967296) (q := y / 4294967296) (m := 4294967295) (by omega) (by omega) (by omega) (by omega)
 obtain ⟨d1, d2⟩ := prod_bound (p := x % 4294967296) (q := y % 4294967296) (m := 4294967295) (by omega) (by omega) (by omega) (by omega)
 unfold s102
 simp only [shr32, and32 hx hx2, and32 hy hy2, uw_mod (x * y), hxy]
 generalize x / 4294967296 * (y / 4294967296) = a at *
 generalize x / 4294967296 * (y % 4294967296) = b at *
 generalize x % 4294967296 * (y / 4294967296) = c at *
 generalize x % 4294967296 * (y % 4294967296) = d at *
 rw [uw_id (n := d) (by omega) (by omega), uw_id (n := b) (by omega) (by omega), uw_id (n := a) (by omega) (by omega), uw_id (n := c) (by omega) (by omega)]
 rw [uw_id (n := b + d / 4294967296) (by omega) (by omega), and32 (by omega) (by omega), uw_id (n := (b + d / 4294967296) % 4294967296 + c) (by omega) (by omega)]
 rw [uw_id (n := a + (b + d / 4294967296) / 4294967296) (by omega) (by omega), uw_id (by omega) (by omega)]
 congr 2
 omega
def W (n : Int) : Int × Int := (n / 18446744073709551616, n % 18446744073709551616)
def sz (n : Int) : Int := mx n (-n)
theorem sz_spec (n : Int) : 0 ≤ sz n ∧ (sz n = n ∨ sz n = -n) ∧ n ≤ sz n ∧ -n ≤ sz n := by
 unfold sz mx; split <;> omega
theorem sz_sq (n : Int) : sz n * sz n = n * n := by
 rcases (sz_spec n).2.1 with h | h <;> rw [h]
 exact Int.neg_mul_neg n n
theorem s79_eq {n : Int} (h1 : -4000000000000000000 ≤ n) (h2 : n ≤ 4000000000000000000) : s79 n = some (W (n * n)) := by
 obtain ⟨g1, g2, _⟩ := sz_spec n
 have e : mx n (wr (-n)) = sz n := by rw [wr_id (by omega) (by omega)]; rfl
 unfold s79
 simp only [e, uw_id g1 (show sz n < 18446744073709551616 by omega)]
 rw [s102_eq g1 (by omega) g1 (by omega), sz_sq]
 rfl
theorem s107_eq {a b : Int} (ha : 0 ≤ a) (hb : 0 ≤ b) (h : a + b < 340282366920938463463374607431768211456) : s107 (W a, W b) = some (W (a + b)) := by
 unfold s107 W
 simp only []
 rw [decide_eq_true (show (0 : Int) ≤ a % 18446744073709551616 by omega), decide_eq_true (show (0 : Int) ≤ b % 18446744073709551616 by omega)]
 simp only [Bool.and_self, cond_true]
 rw [uw_id (n := a / 18446744073709551616 + b / 18446744073709551616) (by omega) (by omega), uw_id (by omega) (by omega)]
 congr 2 <;> omega
theorem W_less (a b : Int) : (decide ((W a).1 < (W b).1) = true ∨ (((W a).1 == (W b).1) = true ∧ decide ((W a).2 < (W b).2) = true)) ↔ a < b := by
 unfold W
 simp only [decide_eq_true_eq, beq_iff_eq]
 omega
abbrev Gp := ((Int × Int × Int) × Int) × Int
def near1 (g : Gp) (x : Int) : Int := mx 0 (sz x - g.2 * g.1.2) * mx 0 (sz x - g.2 * g.1.2)
def far1 (g : Gp) (x : Int) : Int := (sz x + g.2 * g.1.2) * (sz x + g.2 * g.1.2)
def near (g : Gp) : Int := near1 g g.1.1.1 + near1 g g.1.1.2.1 + near1 g g.1.1.2.2
def far (g : Gp) : Int := far1 g g.1.1.1 + far1 g g.1.1.2.1 + far1 g g.1.1.2.2
structure GpOk (g : Gp) : Prop where
 den : 1 ≤ g.1.2 ∧ g.1.2 ≤ 100000000
 doubt : 0 ≤ g.2 ∧ g.2 ≤ 2000
 x : -(2000000 * g.1.2) ≤ g.1.1.1 ∧ g.1.1.1 ≤ 2000000 * g.1.2
 y : -(2000000 * g.1.2) ≤ g.1.1.2.1 ∧ g.1.1.2.1 ≤ 2000000 * g.1.2
 z : -(2000000 * g.1.2) ≤ g.1.1.2.2 ∧ g.1.1.2.2 ≤ 2000000 * g.1.2
theorem GpOk.by' {g : Gp} (G : GpOk g) : 0 ≤ g.2 * g.1.2 ∧ g.2 * g.1.2 ≤ 2000 * g.1.2 := by
 obtain ⟨d1, d2⟩ := G.den
 obtain ⟨e1, e2⟩ := G.doubt
 exact ⟨Int.mul_nonneg e1 (by omega), Int.mul_le_mul_of_nonneg_right e2 (by omega)⟩
def comp (g : Gp) (x : Int) : Prop := -(2000000 * g.1.2) ≤ x ∧ x ≤ 2000000 * g.1.2
theorem near1_ok {g : Gp} (G : GpOk g) {x : Int} (hx : comp g x) : s79 (mx 0 (wr (mx x (wr (-x)) - wr (g.2 * g.1.2)))) = some (W (near1 g x)) ∧ 0 ≤ near1 g x ∧ near1 g x ≤ (2002000 * g.1.2) * (2002000 * g.1.2) := by
 obtain ⟨d1, d2⟩ := G.den
 obtain ⟨b1, b2⟩ := G.by'
 obtain ⟨x1, x2⟩ := hx
 obtain ⟨z1, z2, _⟩ := sz_spec x
 have e1 : mx x (wr (-x)) = sz x := by rw [wr_id (by omega) (by omega)]; rfl
 have m1 : 0 ≤ mx 0 (sz x - g.2 * g.1.2) := by unfold mx; split <;> omega
 have m2 : mx 0 (sz x - g.2 * g.1.2) ≤ 2002000 * g.1.2 := by unfold mx; split <;> omega
 obtain ⟨p1, p2⟩ := prod_bound m1 m2 m1 m2
 refine ⟨?_, p1, p2⟩
 rw [e1, wr_id (n := g.2 * g.1.2) (by omega) (by omega), wr_id (by omega) (by omega), s79_eq (by omega) (by omega)]
 rfl
theorem far1_ok {g : Gp} (G : GpOk g) {x : Int} (hx : comp g x) : s79 (wr (mx x (wr (-x)) + wr (g.2 * g.1.2))) = some (W (far1 g x)) ∧ 0 ≤ far1 g x ∧ far1 g x ≤ (2002000 * g.1.2) * (2002000 * g.1.2) := by
 obtain ⟨d1, d2⟩ := G.den
 obtain ⟨b1, b2⟩ := G.by'
 obtain ⟨x1, x2⟩ := hx
 obtain ⟨z1, z2, _⟩ := sz_spec x
 have e1 : mx x (wr (-x)) = sz x := by rw [wr_id (by omega) (by omega)]; rfl
 obtain ⟨p1, p2⟩ := prod_bound (p := sz x + g.2 * g.1.2) (q := sz x + g.2 * g.1.2) (m := 2002000 * g.1.2) (by omega) (by omega) (by omega) (by omega)
 refine ⟨?_, p1, p2⟩
 rw [e1, wr_id (n := g.2 * g.1.2) (by omega) (by omega), wr_id (by omega) (by omega), s79_eq (by omega) (by omega)]
 rfl
theorem big_bound {d : Int} (h1 : 1 ≤ d) (h2 : d ≤ 100000000) : 0 ≤ (2002000 * d) * (2002000 * d) ∧ (2002000 * d) * (2002000 * d) ≤ 40080040000000000000000000000 := by
 obtain ⟨p1, p2⟩ := prod_bound (p := 2002000 * d) (q := 2002000 * d) (m := 200200000000000) (by omega) (by omega) (by omega) (by omega)
 exact ⟨p1, by omega⟩
theorem s69_eq {g : Gp} (G : GpOk g) : s69 g = some (W (near g)) ∧ 0 ≤ near g ∧ near g ≤ 3 * ((2002000 * g.1.2) * (2002000 * g.1.2)) := by
 obtain ⟨x1, x2, x3⟩ := near1_ok G G.x
 obtain ⟨y1, y2, y3⟩ := near1_ok G G.y
 obtain ⟨z1, z2, z3⟩ := near1_ok G G.z
 obtain ⟨k1, k2⟩ := big_bound G.den.1 G.den.2
 have w0 : ((0, 0) : Int × Int) = W 0 := rfl
 refine ⟨?_, by unfold near; omega, by unfold near; omega⟩
 unfold s69
 simp only [x1, y1, z1, optE_some]
 rw [w0, s107_eq (by omega) x2 (by omega)]
 simp only [optE_some, Int.zero_add]
 rw [s107_eq x2 y2 (by omega)]
 simp only [optE_some]
 rw [s107_eq (by omega) z2 (by omega)]
 rfl
theorem s70_eq {g : Gp} (G : GpOk g) : s70 g = some (W (far g)) ∧ 0 ≤ far g ∧ far g ≤ 3 * ((2002000 * g.1.2) * (2002000 * g.1.2)) := by
 obtain ⟨x1, x2, x3⟩ := far1_ok G G.x
 obtain ⟨y1, y2, y3⟩ := far1_ok G G.y
 obtain ⟨z1, z2, z3⟩ := far1_ok G G.z
 obtain ⟨k1, k2⟩ := big_bound G.den.1 G.den.2
 have w0 : ((0, 0) : Int × Int) = W 0 := rfl
 refine ⟨?_, by unfold far; omega, by unfold far; omega⟩
 unfold s70
 simp only [x1, y1, z1, optE_some]
 rw [w0, s107_eq (by omega) x2 (by omega)]
 simp only [optE_some, Int.zero_add]
 rw [s107_eq x2 y2 (by omega)]
 simp only [optE_some]
 rw [s107_eq (by omega) z2 (by omega)]
 rfl
def IsLo (n d r : Int) : Prop := 0 ≤ r ∧ r < 8000000 ∧ (r * d) * (r * d) ≤ n ∧ n < ((r + 1) * d) * ((r + 1) * d)
def IsHi (n d r : Int) : Prop := 0 ≤ r ∧ r ≤ 8000000 ∧ n ≤ (r * d) * (r * d) ∧ (1 ≤ r → ((r - 1) * d) * ((r - 1) * d) < n)
theorem sq_mono {a b : Int} (h1 : 0 ≤ a) (h2 : a ≤ b) : a * a ≤ b * b := (prod_bound h1 h2 h1 h2).2
end Go.Proofs.YthabingkfmlbbaaGreat
