/- Products of words. -/
import Derived.Test.YthabingkfmlbbaaGm4
import Derived.Test.YthabingkfmlbbaaSearch
set_option linter.unusedSimpArgs false
namespace Go.Proofs.Ythabingkfmlbbaa
open Go.Ev
theorem zshr32 {x : Int} : shrI .u64 x 32 = x / 4294967296 := by
 unfold shrI
 have : (2 : Int) ^ (min (32 : Int).toNat IntKind.u64.bits) = 4294967296 := by rfl
 rw [this, Int.fdiv_eq_ediv_of_nonneg _ (by omega)]
theorem u64_wrap (n : Int) : IntKind.u64.wrap n = n % 18446744073709551616 := by simp [IntKind.wrap, IntKind.signed, IntKind.bits]
theorem zand32 {x : Int} (h : 0 ≤ x) (h2 : x < 18446744073709551616) : andI .u64 x 4294967295 = x % 4294967296 := by
 unfold andI
 have e1 : (BitVec.ofInt IntKind.u64.bits x &&& BitVec.ofInt IntKind.u64.bits 4294967295).toNat = x.toNat % 4294967296 := by
  rw [BitVec.toNat_and, BitVec.toNat_ofInt, BitVec.toNat_ofInt]
  have a1 : (x % ((2 ^ IntKind.u64.bits : Nat) : Int)).toNat = x.toNat := by
   have : ((2 ^ IntKind.u64.bits : Nat) : Int) = 18446744073709551616 := rfl
   rw [this]; omega
  have a2 : ((4294967295 : Int) % ((2 ^ IntKind.u64.bits : Nat) : Int)).toNat = 2 ^ 32 - 1 := rfl
  rw [a1, a2, Nat.and_two_pow_sub_one_eq_mod]
 rw [e1, u64_wrap]
 omega
theorem u64_id {n : Int} (h : 0 ≤ n) (h2 : n < 18446744073709551616) : IntKind.u64.wrap n = n := by
 rw [u64_wrap]
 omega
theorem mul64 {x y : Int} (hx : 0 ≤ x ∧ x < 18446744073709551616) (hy : 0 ≤ y ∧ y < 18446744073709551616) : ∃ hi lo, s74 (x, y) = some (hi, lo) ∧ hi * 18446744073709551616 + lo = x * y ∧ (0 ≤ hi ∧ hi < 18446744073709551616) ∧ 0 ≤ lo ∧ lo < 18446744073709551616 := by
 have ex : x = (x / 4294967296) * 4294967296 + x % 4294967296 := by omega
 have ey : y = (y / 4294967296) * 4294967296 + y % 4294967296 := by omega
 have bx1 : 0 ≤ x / 4294967296 ∧ x / 4294967296 ≤ 4294967295 := by omega
 have bx0 : 0 ≤ x % 4294967296 ∧ x % 4294967296 ≤ 4294967295 := by omega
 have by1 : 0 ≤ y / 4294967296 ∧ y / 4294967296 ≤ 4294967295 := by omega
 have by0 : 0 ≤ y % 4294967296 ∧ y % 4294967296 ≤ 4294967295 := by omega
 refine ⟨_, _, rfl, ?_⟩
 simp only [zshr32, zand32 hx.1 hx.2, zand32 hy.1 hy.2]
 generalize x / 4294967296 = x1 at ex bx1 ⊢
 generalize x % 4294967296 = x0 at ex bx0 ⊢
 generalize y / 4294967296 = y1 at ey by1 ⊢
 generalize y % 4294967296 = y0 at ey by0 ⊢
 have prod : x * y = x1 * y1 * 18446744073709551616 + x1 * y0 * 4294967296 + x0 * y1 * 4294967296 + x0 * y0 := by rw [ex, ey]; grind
 have mb : ∀ {a b : Int}, (0 ≤ a ∧ a ≤ 4294967295) → (0 ≤ b ∧ b ≤ 4294967295) → 0 ≤ a * b ∧ a * b ≤ 18446744065119617025 := fun ha hb => ⟨Int.mul_nonneg ha.1 hb.1, by
  have := Int.mul_le_mul ha.2 hb.2 hb.1 (by omega)
  omega⟩
 have p11 := mb bx1 by1
 have p10 := mb bx1 by0
 have p01 := mb bx0 by1
 have p00 := mb bx0 by0
 rw [prod]
 generalize x1 * y1 = a at p11 ⊢
 generalize x1 * y0 = b at p10 ⊢
 generalize x0 * y1 = c at p01 ⊢
 generalize x0 * y0 = d at p00 ⊢
 rw [u64_id (n := a) (by omega) (by omega), u64_id (n := b) (by omega) (by omega), u64_id (n := c) (by omega) (by omega), u64_id (n := d) (by omega) (by omega), u64_id (n := b + d / 4294967296) (by omega) (by omega),
  zand32 (x := b + d / 4294967296) (by omega) (by omega), u64_id (n := (b + d / 4294967296) % 4294967296 + c) (by omega) (by omega)]
 have hlow : IntKind.u64.wrap (a * 18446744073709551616 + b * 4294967296 + c * 4294967296 + d) = (b * 4294967296 + c * 4294967296 + d) % 18446744073709551616 := by
  rw [u64_wrap]
  omega
 rw [hlow, u64_id (n := a + (b + d / 4294967296) / 4294967296) (by omega) (by omega), u64_id (by omega) (by omega)]
 refine ⟨by omega, by omega, by omega, by omega⟩
end Go.Proofs.Ythabingkfmlbbaa
