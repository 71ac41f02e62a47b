/- Bits of masks. -/
import Derived.Test.YtdoehknomnhlkaaDoorSearch
set_option linter.unusedSimpArgs false
namespace Go.Proofs.YtdoehknomnhlkaaDoor
open Go.Ev
theorem ofInt_nat {a : Nat} (h : a < 4611686018427387904) : (BitVec.ofInt 64 (a : Int)).toNat = a := by
 rw [BitVec.ofInt_natCast, BitVec.toNat_ofNat]
 exact Nat.mod_eq_of_lt (by omega)
theorem or_nat {a b : Nat} (ha : a < 4611686018427387904) (hb : b < 4611686018427387904) : orI .i64 (a : Int) (b : Int) = ((a ||| b : Nat) : Int) := by
 have h : a ||| b < 2 ^ 62 := Nat.or_lt_two_pow (by omega) (by omega)
 have e : (BitVec.ofInt IntKind.i64.bits (a : Int) ||| BitVec.ofInt IntKind.i64.bits (b : Int)).toNat = a ||| b := by
  show (BitVec.ofInt 64 (a : Int) ||| BitVec.ofInt 64 (b : Int)).toNat = _
  rw [BitVec.toNat_or, ofInt_nat ha, ofInt_nat hb]
 unfold orI
 rw [e]
 exact wr_id (by omega) (by omega)
theorem and_nat {a b : Nat} (ha : a < 4611686018427387904) (hb : b < 4611686018427387904) : andI .i64 (a : Int) (b : Int) = ((a &&& b : Nat) : Int) := by
 have h : a &&& b ≤ a := Nat.and_le_left
 have e : (BitVec.ofInt IntKind.i64.bits (a : Int) &&& BitVec.ofInt IntKind.i64.bits (b : Int)).toNat = a &&& b := by
  show (BitVec.ofInt 64 (a : Int) &&& BitVec.ofInt 64 (b : Int)).toNat = _
  rw [BitVec.toNat_and, ofInt_nat ha, ofInt_nat hb]
 unfold andI
 rw [e]
 exact wr_id (by omega) (by omega)
theorem shl_nat {k : Nat} (h : k ≤ 61) : shlI .i64 1 (k : Int) = ((2 ^ k : Nat) : Int) := by
 have hp : 2 ^ k ≤ 2 ^ 61 := Nat.pow_le_pow_right (by omega) h
 unfold shlI
 rw [Int.toNat_natCast, show min k IntKind.i64.bits = k from Nat.min_eq_left (by show k ≤ 64; omega), Int.one_mul]
 have e : ((2 : Int) ^ k) = ((2 ^ k : Nat) : Int) := by simp
 rw [e]
 have hp : 2 ^ k ≤ 2305843009213693952 := hp
 generalize 2 ^ k = q at hp ⊢
 exact wr_id (by omega) (by omega)
def mk (f : Nat → Bool) : Nat → Nat
 | 0 => 0
 | k + 1 => if f k then mk f k ||| 2 ^ k else mk f k
theorem mk_lt (f : Nat → Bool) : ∀ k, mk f k < 2 ^ k
 | 0 => by simp [mk]
 | k + 1 => by
   have h := mk_lt f k
   have hp : 2 ^ k < 2 ^ (k + 1) := Nat.pow_lt_pow_right (by omega) (by omega)
   unfold mk
   split
   ·exact Nat.or_lt_two_pow (by omega) hp
   ·omega
theorem mk_bit (f : Nat → Bool) (i : Nat) : ∀ k, (mk f k).testBit i = (decide (i < k) && f i)
 | 0 => by simp [mk]
 | k + 1 => by
   have ih := mk_bit f i k
   unfold mk
   by_cases hik : i = k
   ·subst hik
    have h0 : (mk f i).testBit i = false := by rw [ih]; simp
    split
    ·rename_i h; rw [Nat.testBit_or, h0, Nat.testBit_two_pow_self, h]; simp
    ·rename_i h; rw [h0]; simp at h; simp [h]
   ·have hd : decide (i < k + 1) = decide (i < k) := by
     by_cases h : i < k
     ·rw [decide_eq_true h, decide_eq_true (show i < k + 1 by omega)]
     ·rw [decide_eq_false h, decide_eq_false (show ¬ i < k + 1 by omega)]
    split
    ·rw [Nat.testBit_or, ih, Nat.testBit_two_pow, decide_eq_false (show ¬ k = i by omega), Bool.or_false, hd]
    ·rw [ih, hd]
theorem mk_full (f : Nat → Bool) (k : Nat) : mk f k + 1 = 2 ^ k ↔ ∀ i, i < k → f i = true := by
 have hp : 0 < 2 ^ k := Nat.two_pow_pos k
 constructor
 ·intro h i hi
  have h1 : mk f k = 2 ^ k - 1 := by omega
  have h2 := mk_bit f i k
  rw [h1, Nat.testBit_two_pow_sub_one] at h2
  simpa [hi] using h2.symm
 ·intro h
  have : mk f k = 2 ^ k - 1 := Nat.eq_of_testBit_eq fun i => by
   rw [mk_bit, Nat.testBit_two_pow_sub_one]
   by_cases hi : i < k
   ·rw [h i hi]; simp
   ·simp [hi]
  omega
end Go.Proofs.YtdoehknomnhlkaaDoor
