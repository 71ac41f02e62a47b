import Derived.Test.YthckjfbhdjjnkaaDoorBase4
set_option linter.unusedSimpArgs false
namespace Go.Proofs.YthckjfbhdjjnkaaDoor
open Go.Ev
def pc : Nat → Nat → Nat
 | 0, _ => 0
 | k + 1, x => x % 2 + pc k (x / 2)
def stp (d t x : Nat) : Nat := x / 2 + pc 8 (x &&& t) % 2 * 2 ^ (d - 1)
def itr (d t s : Nat) : Nat → Nat
 | 0 => s
 | k + 1 => stp d t (itr d t s k)
theorem itr_add (d t s a : Nat) : ∀ k, itr d t s (a + k) = itr d t (itr d t s a) k
 | 0 => rfl
 | k + 1 => congrArg (stp d t) (itr_add d t s a k)
theorem stp_lt {d x : Nat} (t : Nat) (hd : 1 ≤ d) (h : x < 2 ^ d) : stp d t x < 2 ^ d := by
 obtain ⟨e, rfl⟩ : ∃ e, d = e + 1 := ⟨d - 1, by omega⟩
 unfold stp
 rw [Nat.add_sub_cancel]
 rw [Nat.pow_succ] at h ⊢
 have h2 := Nat.mod_lt (pc 8 (x &&& t)) (show 0 < 2 by omega)
 have h3 : pc 8 (x &&& t) % 2 * 2 ^ e ≤ 1 * 2 ^ e := Nat.mul_le_mul_right _ (by omega)
 omega
theorem itr_lt {d s : Nat} (t : Nat) (hd : 1 ≤ d) (h : s < 2 ^ d) : ∀ k, itr d t s k < 2 ^ d
 | 0 => h
 | k + 1 => stp_lt t hd (itr_lt t hd h k)
theorem stp_inj {d t x y : Nat} (hd : 1 ≤ d) (ht : t % 2 = 1) (hx : x < 2 ^ d) (hy : y < 2 ^ d) (h : stp d t x = stp d t y) : x = y := by
 obtain ⟨e, rfl⟩ : ∃ e, d = e + 1 := ⟨d - 1, by omega⟩
 unfold stp at h
 rw [Nat.add_sub_cancel] at h
 rw [Nat.pow_succ] at hx hy
 have hp : 0 < 2 ^ e := Nat.two_pow_pos e
 have e1 : x / 2 = y / 2 := by
  have := congrArg (· % 2 ^ e) h
  simp only [Nat.add_mul_mod_self_right] at this
  rwa [Nat.mod_eq_of_lt (by omega), Nat.mod_eq_of_lt (by omega)] at this
 have e2 : pc 8 (x &&& t) % 2 = pc 8 (y &&& t) % 2 := by
  rw [e1] at h
  exact Nat.eq_of_mul_eq_mul_right hp (Nat.add_left_cancel h)
 have f : ∀ z, pc 8 (z &&& t) = z % 2 + pc 7 ((z / 2) &&& (t / 2)) := fun z => by
  show (z &&& t) % 2 + pc 7 ((z &&& t) / 2) = _
  have a1 := Nat.and_mod_two_pow (a := z) (b := t) (n := 1)
  have a2 := Nat.and_div_two_pow (a := z) (b := t) (n := 1)
  simp only [Nat.pow_one] at a1 a2
  rw [a1, a2, ht, Nat.and_one_is_mod, Nat.mod_mod]
 rw [f, f, e1] at e2
 omega
theorem stp_zero (d t : Nat) : stp d t 0 = 0 := by
 unfold stp
 rw [Nat.zero_and]
 simp [pc]
theorem itr_pos {d t s : Nat} (hd : 1 ≤ d) (ht : t % 2 = 1) (h : s < 2 ^ d) (h0 : 1 ≤ s) : ∀ k, 1 ≤ itr d t s k
 | 0 => h0
 | k + 1 => by
   have ih := itr_pos hd ht h h0 k
   show 1 ≤ stp d t (itr d t s k)
   by_cases e : stp d t (itr d t s k) = 0
   ·have := stp_inj hd ht (itr_lt t hd h k) (show 0 < 2 ^ d from Nat.two_pow_pos d) (e.trans (stp_zero d t).symm)
    omega
   ·omega
theorem itr_cancel {d t s : Nat} (hd : 1 ≤ d) (ht : t % 2 = 1) (h : s < 2 ^ d) : ∀ i j, itr d t s i = itr d t s (i + j) → itr d t s j = s
 | 0, j, e => by rw [Nat.zero_add] at e; exact e.symm
 | i + 1, j, e => by
   rw [show i + 1 + j = (i + j) + 1 by omega] at e
   exact itr_cancel hd ht h i j (stp_inj hd ht (itr_lt t hd h i) (itr_lt t hd h (i + j)) e)
theorem pigeon : ∀ (n : Nat) (f : Nat → Nat), (∀ k, k ≤ n → f k < n) → ∃ i j, i < j ∧ j ≤ n ∧ f i = f j
 | 0, f, h => absurd (h 0 (Nat.le_refl 0)) (Nat.not_lt_zero _)
 | n + 1, f, h => by
   by_cases e : ∃ i, i ≤ n ∧ f i = f (n + 1)
   ·obtain ⟨i, h1, h2⟩ := e
    exact ⟨i, n + 1, by omega, Nat.le_refl _, h2⟩
   ·have e : ∀ i, i ≤ n → f i ≠ f (n + 1) := fun i h1 h2 => e ⟨i, h1, h2⟩
    obtain ⟨i, j, h1, h2, h3⟩ := pigeon n (fun k => if f k < f (n + 1) then f k else f k - 1) (fun k hk => by
     have a := h k (by omega)
     have b := h (n + 1) (Nat.le_refl _)
     have c := e k hk
     show (if f k < f (n + 1) then f k else f k - 1) < n
     split <;> omega)
    refine ⟨i, j, h1, by omega, ?_⟩
    have c1 := e i (by omega)
    have c2 := e j h2
    have h3 : (if f i < f (n + 1) then f i else f i - 1) = (if f j < f (n + 1) then f j else f j - 1) := h3
    split at h3 <;> split at h3 <;> omega
theorem period_ex {d t s : Nat} (hd : 1 ≤ d) (ht : t % 2 = 1) (h : s < 2 ^ d) (h0 : 1 ≤ s) : ∃ p, 1 ≤ p ∧ p ≤ 2 ^ d - 1 ∧ itr d t s p = s := by
 obtain ⟨i, j, h1, h2, h3⟩ := pigeon (2 ^ d - 1) (fun k => itr d t s k - 1) (fun k _ => by
  have := itr_pos hd ht h h0 k
  have := itr_lt t hd h k
  show itr d t s k - 1 < _
  omega)
 have a := itr_pos hd ht h h0 i
 have b := itr_pos hd ht h h0 j
 have h3 : itr d t s i - 1 = itr d t s j - 1 := h3
 refine ⟨j - i, by omega, by omega, itr_cancel hd ht h i (j - i) ?_⟩
 rw [show i + (j - i) = j by omega]
 omega
theorem period_least {d t s : Nat} (hd : 1 ≤ d) (ht : t % 2 = 1) (h : s < 2 ^ d) (h0 : 1 ≤ s) : ∃ p, 1 ≤ p ∧ p ≤ 2 ^ d - 1 ∧ itr d t s p = s ∧ ∀ k, 1 ≤ k → k < p → itr d t s k ≠ s := by
 obtain ⟨p, h1, h2, h3⟩ := period_ex hd ht h h0
 have key : ∀ m, (∀ k, 1 ≤ k → k < m → itr d t s k ≠ s) ∨ ∃ p, 1 ≤ p ∧ p < m ∧ itr d t s p = s ∧ ∀ k, 1 ≤ k → k < p → itr d t s k ≠ s := by
  intro m
  induction m with
  | zero => exact .inl fun k _ h => absurd h (Nat.not_lt_zero _)
  | succ m ih =>
    rcases ih with ih | ⟨p, a, b, c⟩
    ·by_cases e : 1 ≤ m ∧ itr d t s m = s
     ·exact .inr ⟨m, e.1, by omega, e.2, ih⟩
     ·refine .inl fun k hk hk2 hk3 => ?_
      by_cases e2 : k = m
      ·exact e ⟨by omega, by rw [← e2]; exact hk3⟩
      ·exact ih k hk (by omega) hk3
    ·exact .inr ⟨p, a, by omega, c⟩
 rcases key (p + 1) with h4 | ⟨q, a, b, c, d'⟩
 ·exact absurd h3 (h4 p h1 (by omega))
 ·exact ⟨q, a, by omega, c, d'⟩
theorem wrap_nat {n : Nat} (h : n < 9223372036854775808) : IntKind.i64.wrap (n : Int) = (n : Int) := wr_id (by omega) (by omega)
theorem andI_nat {a b : Nat} (ha : a < 4611686018427387904) (hb : b < 4611686018427387904) : andI .i64 (a : Int) (b : Int) = ((a &&& b : Nat) : Int) := by
 unfold andI
 rw [show IntKind.i64.bits = 64 from rfl, BitVec.ofInt_natCast, BitVec.ofInt_natCast, BitVec.toNat_and, BitVec.toNat_ofNat, BitVec.toNat_ofNat, Nat.mod_eq_of_lt (show a < 2 ^ 64 by omega), Nat.mod_eq_of_lt (show b < 2 ^ 64 by omega)]
 have := Nat.and_le_left (n := a) (m := b)
 exact wrap_nat (by omega)
theorem orI_nat {a b : Nat} (ha : a < 2 ^ 62) (hb : b < 2 ^ 62) : orI .i64 (a : Int) (b : Int) = ((a ||| b : Nat) : Int) := by
 unfold orI
 rw [show IntKind.i64.bits = 64 from rfl, BitVec.ofInt_natCast, BitVec.ofInt_natCast, BitVec.toNat_or, BitVec.toNat_ofNat, BitVec.toNat_ofNat, Nat.mod_eq_of_lt (show a < 2 ^ 64 by omega), Nat.mod_eq_of_lt (show b < 2 ^ 64 by omega)]
 have := Nat.or_lt_two_pow ha hb
 exact wrap_nat (by omega)
theorem shr_one (a : Nat) : shrI .i64 (a : Int) 1 = ((a / 2 : Nat) : Int) := by
 unfold shrI
 show Int.fdiv (a : Int) 2 = _
 rw [Int.fdiv_eq_ediv_of_nonneg _ (by omega)]
 omega
theorem shl_bit {b d : Nat} (hb : b < 2) (h1 : 1 ≤ d) (h8 : d ≤ 8) : shlI .i64 (b : Int) (wr ((d : Int) - 1)) = ((b * 2 ^ (d - 1) : Nat) : Int) := by
 have h : b = 0 ∨ b = 1 := by omega
 have hd : d = 1 ∨ d = 2 ∨ d = 3 ∨ d = 4 ∨ d = 5 ∨ d = 6 ∨ d = 7 ∨ d = 8 := by omega
 rcases h with rfl | rfl <;> rcases hd with rfl | rfl | rfl | rfl | rfl | rfl | rfl | rfl <;> rfl
theorem shl_pow {d : Int} (h1 : 1 ≤ d) (h8 : d ≤ 8) : wr (shlI .i64 1 d - 1) = ((2 ^ d.toNat - 1 : Nat) : Int) := by
 have hd : d = 1 ∨ d = 2 ∨ d = 3 ∨ d = 4 ∨ d = 5 ∨ d = 6 ∨ d = 7 ∨ d = 8 := by omega
 rcases hd with rfl | rfl | rfl | rfl | rfl | rfl | rfl | rfl <;> rfl
theorem pow_le {d : Nat} (h8 : d ≤ 8) : 2 ^ d ≤ 256 := Nat.pow_le_pow_right (n := 2) (by omega) h8
theorem u64_nat {n : Nat} (h : n < 256) : IntKind.u64.wrap (n : Int) = (n : Int) := by
 simp [IntKind.wrap, IntKind.signed, IntKind.bits]
 omega
theorem fed_eq {d t x : Nat} (h1 : 1 ≤ d) (h8 : d ≤ 8) (hx : x < 2 ^ d) : orI .i64 (shrI .i64 (x : Int) 1) (shlI .i64 (andI .i64 (pc 8 (x &&& t) : Int) 1) (wr ((d : Int) - 1))) = (stp d t x : Int) := by
 have h2 := pow_le h8
 have hpc : ∀ k y, pc k y ≤ k := by
  intro k
  induction k with
  | zero => intro y; exact Nat.le_refl _
  | succ k ih => intro y; have := ih (y / 2); simp only [pc]; omega
 have h3 := hpc 8 (x &&& t)
 have e1 : andI .i64 (pc 8 (x &&& t) : Int) 1 = ((pc 8 (x &&& t) % 2 : Nat) : Int) := by
  have := andI_nat (a := pc 8 (x &&& t)) (b := 1) (by omega) (by omega)
  rw [Nat.and_one_is_mod] at this
  exact this
 have hb := Nat.mod_lt (pc 8 (x &&& t)) (show 0 < 2 by omega)
 have hq : 2 ^ (d - 1) * 2 = 2 ^ d := by rw [← Nat.pow_succ]; congr 1; omega
 have h4 : pc 8 (x &&& t) % 2 * 2 ^ (d - 1) ≤ 1 * 2 ^ (d - 1) := Nat.mul_le_mul_right _ (by omega)
 rw [e1, shl_bit hb h1 h8, shr_one, orI_nat (by omega) (by omega)]
 unfold stp
 rw [Nat.or_comm, Nat.mul_comm _ (2 ^ (d - 1)), ← Nat.two_pow_add_eq_or_of_lt (by omega), Nat.add_comm]
theorem low_bit {x : Nat} (hx : x < 256) : andI .i64 (x : Int) 1 = ((x % 2 : Nat) : Int) := by
 have := andI_nat (a := x) (b := 1) (by omega) (by omega)
 rw [Nat.and_one_is_mod] at this
 exact this
theorem and_lt {x t : Nat} (hx : x < 256) : x &&& t < 256 := Nat.lt_of_le_of_lt Nat.and_le_left hx
def low : Nat → Nat → List Int
 | 0, _ => []
 | k + 1, n => ((n / 2 ^ k % 2 : Nat) : Int) :: low k n
theorem low_len (n : Nat) : ∀ k, (low k n).length = k
 | 0 => rfl
 | k + 1 => by simp [low, low_len n k]
theorem low_sum : ∀ d, d ≤ 8 → ∀ n, n < 256 → n < 2 ^ d → (low d n).foldl (· + ·) 0 = (pc 8 n : Int) := by decide +kernel
theorem low_part : ∀ d, d ≤ 8 → ∀ n, n < 256 → ∀ k, k ≤ 8 → 0 ≤ ((low d n).take k).foldl (· + ·) 0 ∧ ((low d n).take k).foldl (· + ·) 0 ≤ 8 := by decide +kernel
theorem low_set (d k n : Nat) (h : k < d) : (List.replicate (d - k) (0 : Int) ++ low k n).set (d - 1 - k) ((n / 2 ^ k % 2 : Nat) : Int) = List.replicate (d - (k + 1)) 0 ++ low (k + 1) n := by
 obtain ⟨m, hm⟩ : ∃ m, d - k = m + 1 := ⟨d - k - 1, by omega⟩
 rw [show d - 1 - k = m by omega, show d - (k + 1) = m by omega, hm, List.replicate_succ', List.append_assoc, List.set_append, List.length_replicate, if_neg (by omega), Nat.sub_self]
 rfl
end Go.Proofs.YthckjfbhdjjnkaaDoor
