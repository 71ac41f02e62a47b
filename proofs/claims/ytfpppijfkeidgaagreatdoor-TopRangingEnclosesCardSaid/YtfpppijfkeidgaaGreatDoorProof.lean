/- Claims: what a proof says, and which are accepted. -/
import Derived.Test.YtfpppijfkeidgaaGreatDoorResid
set_option linter.unusedSimpArgs false
namespace Go.Proofs.YtfpppijfkeidgaaGreatDoor
open Go.Ev
abbrev Rw := (Int × Int) × Int × Int × Bool
def rwOf (m : Msr) (i : Int) (up : Bool) : Rw := (((hf m up).1, (hf m up).2.1), (hf m up).2.2, i, up)
def rwsF : Nat → List Msr → List Rw
 | _, [] => []
 | i, m :: l => rwOf m i true :: rwOf m i false :: rwsF (i + 1) l
theorem opp_eq (v : Int × Int) (h1 : -1000000 ≤ v.1 ∧ v.1 ≤ 1000000) (h2 : -1000000 ≤ v.2 ∧ v.2 ≤ 1000000) : s65 v = some (-v.1, -v.2) := by
 show some (wr (-v.1), wr (-v.2)) = _
 rw [wr_id (by omega) (by omega), wr_id (by omega) (by omega)]
theorem rows_loop (l : List Msr) (hl : l.length ≤ 1000) (hv : ∀ m ∈ l, mErr m = 0) : ∀ (n k : Nat) (out : List Rw), k + n = l.length → out.length = 2 * k →
 loopVal step62_0 (out, l, (l.length : Int), (k : Int)) = some (out ++ rwsF k (l.drop k)) := by
 intro n
 induction n with
 | zero =>
   intro k out hk ho
   obtain rfl : k = l.length := by omega
   rw [List.drop_length]
   exact loopVal_last (by simp [step62_0, rwsF])
 | succ n ih =>
   intro k out hk ho
   have hk' : k < l.length := by omega
   have hm := hv _ (getD_mem (0, 0, 0, 0, 0) hk')
   rw [getD_drop l (0, 0, 0, 0, 0) hk', rwsF]
   obtain ⟨m, hn⟩ : ∃ m : Msr, l.getD k (0, 0, 0, 0, 0) = m := ⟨_, rfl⟩
   rw [hn] at hm ⊢
   obtain ⟨k1, k2, _, k4, _⟩ := mErr_ok.1 hm
   have hs : step62_0 (out, l, (l.length : Int), (k : Int)) = some (.inl (out ++ [rwOf m k true, rwOf m k false], l, (l.length : Int), ((k + 1 : Nat) : Int))) := by
    have h1 := opp_eq (0, m.2.2.1 - m.2.1) (by simp) (by simp; omega)
    have h2 := opp_eq (1, m.2.2.1) (by simp) (by simp; omega)
    simp only [step62_0, hn, lt_cast, inB_cast, hk', decide_true, cond_true, Int.toNat_natCast, wr_succ (show k < 4611686018427387904 by omega), room_true (b := 40) (n := out.length + 2) (by omega) (by omega),
     wr_id (n := m.2.2.1 - m.2.1) (by omega) (by omega), wr_id (n := -m.2.2.2.1) (by omega) (by omega), h1, h2, optE_some]
    by_cases h1 : m.1 = 1
    ·rw [show (m.1 == 1) = true by simpa using h1, cond_true]
     simp only [rwOf, hf, if_pos h1, if_true, Bool.false_eq_true, if_false, Int.neg_zero]
    ·rw [show (m.1 == 1) = false by simpa using h1, cond_false]
     simp only [rwOf, hf, if_neg h1, if_true, Bool.false_eq_true, if_false]
   rw [loopVal_next hs, ih (k + 1) _ (by omega) (by simp [ho]; omega), List.append_assoc]
   rfl
theorem rows_eq (l : List Msr) (hl : l.length ≤ 1000) (hv : ∀ m ∈ l, mErr m = 0) : s62 l = some (rwsF 0 l) := by
 have h := rows_loop l hl hv l.length 0 [] (by omega) rfl
 rw [show ((0 : Nat) : Int) = 0 from rfl, List.drop_zero, List.nil_append] at h
 unfold s62
 simp only [h, optE_some]
theorem rwsF_len : ∀ (l : List Msr) (i : Nat), (rwsF i l).length = 2 * l.length
 | [], _ => rfl
 | m :: l, i => by simp only [rwsF, List.length_cons, rwsF_len l]; omega
theorem rwsF_get : ∀ (l : List Msr) (i j : Nat) (d : Rw), j < l.length → (rwsF i l).getD (2 * j) d = rwOf (l.getD j (0, 0, 0, 0, 0)) ((i + j : Nat) : Int) true ∧ (rwsF i l).getD (2 * j + 1) d = rwOf (l.getD j (0, 0, 0, 0, 0)) ((i + j : Nat) : Int) false
 | [], _, _, _, h => by simp at h
 | m :: l, i, 0, d, _ => ⟨rfl, rfl⟩
 | m :: l, i, j + 1, d, h => by
   have := rwsF_get l (i + 1) j d (by simpa using h)
   rw [show 2 * (j + 1) = (2 * j + 1) + 1 by omega, show i + (j + 1) = i + 1 + j by omega]
   simp only [rwsF, List.getD_cons_succ]
   exact this
theorem open_eq (l : List Msr) (hl : l.length ≤ 1000) : s47 l = some (if (chkM l).2 = 0 then (rwsF 0 l, 0) else ([], (chkM l).2)) := by
 unfold s47
 simp only [chk1, optE_some]
 by_cases h : (chkM l).2 = 0
 ·have hv := ((chkE_zero mErr (0, 0, 0, 0, 0) 12 l).1 h).2
  rw [if_pos h, h, rows_eq l hl hv]
  rfl
 ·rw [if_neg h, show ((chkM l).2 != 0) = true by simpa using h]
  rfl
theorem shr32 {x : Int} : shrI .u64 x 32 = x / 4294967296 := by
 unfold shrI
 have : (2 : Int) ^ (min (32 : Int).toNat IntKind.u64.bits) = 4294967296 := by rfl
 rw [this, Int.fdiv_eq_ediv_of_nonneg _ (by omega)]
theorem u64_wrap (n : Int) : IntKind.u64.wrap n = n % 18446744073709551616 := by simp [IntKind.wrap, IntKind.signed, IntKind.bits]
theorem and32 {x : Int} (h : 0 ≤ x) (h2 : x < 18446744073709551616) : andI .u64 x 4294967295 = x % 4294967296 := by
 unfold andI
 have e1 : (BitVec.ofInt IntKind.u64.bits x &&& BitVec.ofInt IntKind.u64.bits 4294967295).toNat = x.toNat % 4294967296 := by
  rw [BitVec.toNat_and, BitVec.toNat_ofInt, BitVec.toNat_ofInt]
  have a1 : (x % ((2 ^ IntKind.u64.bits : Nat) : Int)).toNat = x.toNat := by
   have : ((2 ^ IntKind.u64.bits : Nat) : Int) = 18446744073709551616 := rfl
   rw [this]; omega
  have a2 : ((4294967295 : Int) % ((2 ^ IntKind.u64.bits : Nat) : Int)).toNat = 2 ^ 32 - 1 := rfl
  rw [a1, a2, Nat.and_two_pow_sub_one_eq_mod]
 rw [e1, u64_wrap]
 omega
theorem u64_id {n : Int} (h : 0 ≤ n) (h2 : n < 18446744073709551616) : IntKind.u64.wrap n = n := by
 rw [u64_wrap]
 omega
theorem mul64 {x y : Int} (hx : 0 ≤ x ∧ x < 18446744073709551616) (hy : 0 ≤ y ∧ y < 18446744073709551616) : ∃ hi lo, s74 (x, y) = some (hi, lo) ∧ hi * 18446744073709551616 + lo = x * y ∧ (0 ≤ hi ∧ hi < 18446744073709551616) ∧ 0 ≤ lo ∧ lo < 18446744073709551616 := by
 have ex : x = (x / 4294967296) * 4294967296 + x % 4294967296 := by omega
 have ey : y = (y / 4294967296) * 4294967296 + y % 4294967296 := by omega
 have bx1 : 0 ≤ x / 4294967296 ∧ x / 4294967296 ≤ 4294967295 := by omega
 have bx0 : 0 ≤ x % 4294967296 ∧ x % 4294967296 ≤ 4294967295 := by omega
 have by1 : 0 ≤ y / 4294967296 ∧ y / 4294967296 ≤ 4294967295 := by omega
 have by0 : 0 ≤ y % 4294967296 ∧ y % 4294967296 ≤ 4294967295 := by omega
 refine ⟨_, _, rfl, ?_⟩
 simp only [shr32, and32 hx.1 hx.2, and32 hy.1 hy.2]
 generalize x / 4294967296 = x1 at ex bx1 ⊢
 generalize x % 4294967296 = x0 at ex bx0 ⊢
 generalize y / 4294967296 = y1 at ey by1 ⊢
 generalize y % 4294967296 = y0 at ey by0 ⊢
 have prod : x * y = x1 * y1 * 18446744073709551616 + x1 * y0 * 4294967296 + x0 * y1 * 4294967296 + x0 * y0 := by rw [ex, ey]; grind
 have mb : ∀ {a b : Int}, (0 ≤ a ∧ a ≤ 4294967295) → (0 ≤ b ∧ b ≤ 4294967295) → 0 ≤ a * b ∧ a * b ≤ 18446744065119617025 := fun ha hb => ⟨Int.mul_nonneg ha.1 hb.1, by
  have := Int.mul_le_mul ha.2 hb.2 hb.1 (by omega)
  omega⟩
 have p11 := mb bx1 by1
 have p10 := mb bx1 by0
 have p01 := mb bx0 by1
 have p00 := mb bx0 by0
 rw [prod]
 generalize x1 * y1 = a at p11 ⊢
 generalize x1 * y0 = b at p10 ⊢
 generalize x0 * y1 = c at p01 ⊢
 generalize x0 * y0 = d at p00 ⊢
 rw [u64_id (n := a) (by omega) (by omega), u64_id (n := b) (by omega) (by omega), u64_id (n := c) (by omega) (by omega), u64_id (n := d) (by omega) (by omega), u64_id (n := b + d / 4294967296) (by omega) (by omega),
  and32 (x := b + d / 4294967296) (by omega) (by omega), u64_id (n := (b + d / 4294967296) % 4294967296 + c) (by omega) (by omega)]
 have hlow : IntKind.u64.wrap (a * 18446744073709551616 + b * 4294967296 + c * 4294967296 + d) = (b * 4294967296 + c * 4294967296 + d) % 18446744073709551616 := by
  rw [u64_wrap]
  omega
 rw [hlow, u64_id (n := a + (b + d / 4294967296) / 4294967296) (by omega) (by omega), u64_id (by omega) (by omega)]
 refine ⟨by omega, by omega, by omega, by omega⟩
theorem exceeds_eq {a b c d : Int} (ha : -9223372036854775807 ≤ a ∧ a ≤ 9223372036854775807) (hc : -9223372036854775807 ≤ c ∧ c ≤ 9223372036854775807) (hb : 0 < b ∧ b ≤ 9223372036854775807) (hd : 0 < d ∧ d ≤ 9223372036854775807) :
 s51 (a, b, c, d) = some (decide (a * b > c * d)) := by
 unfold s51
 simp only [size_eq, optE_some, mx_abs (n := a) (by omega) (by omega), mx_abs (n := c) (by omega) (by omega), u64_id (n := (a.natAbs : Int)) (by omega) (by omega), u64_id (n := (c.natAbs : Int)) (by omega) (by omega), u64_id (n := b) (by omega) (by omega), u64_id (n := d) (by omega) (by omega)]
 obtain ⟨h1, l1, e1, f1, g1, k1⟩ := mul64 (x := a.natAbs) (y := b) (by omega) (by omega)
 obtain ⟨h2, l2, e2, f2, g2, k2⟩ := mul64 (x := c.natAbs) (y := d) (by omega) (by omega)
 simp only [e1, e2, optE_some]
 by_cases hs : (a < 0) = (c < 0)
 ·have : (decide (a < 0) == decide (c < 0)) = true := by simp [hs]
  rw [this]
  simp only [Bool.not_true, cond_false]
  have key : ∀ r : Bool, (bif h1 == h2 then bif l1 == l2 then some false else bif decide (h1 > h2) then some (!(true == decide (a < 0))) else bif h1 == h2 then some (!(decide (l1 > l2) == decide (a < 0))) else some (!(false == decide (a < 0)))
   else bif decide (h1 > h2) then some (!(true == decide (a < 0))) else bif h1 == h2 then some (!(decide (l1 > l2) == decide (a < 0))) else some (!(false == decide (a < 0)))) = some r ↔
   r = (if h1 = h2 ∧ l1 = l2 then false else !(decide (h1 * 18446744073709551616 + l1 > h2 * 18446744073709551616 + l2) == decide (a < 0))) := by
   intro r
   by_cases hh : h1 = h2
   ·subst hh
    by_cases hll : l1 = l2
    ·subst hll; simp [eq_comm]
    ·have : (l1 == l2) = false := by simpa using hll
     simp only [beq_self_eq_true, cond_true, this, cond_false, decide_eq_false (show ¬ h1 > h1 by omega), hll, and_false, if_false]
     rw [show decide (h1 * 18446744073709551616 + l1 > h1 * 18446744073709551616 + l2) = decide (l1 > l2) by rw [decide_eq_decide]; omega]
     simp [eq_comm]
   ·have : (h1 == h2) = false := by simpa using hh
    simp only [this, cond_false, hh, false_and, if_false]
    by_cases hg : h1 > h2
    ·rw [decide_eq_true hg, decide_eq_true (show h1 * 18446744073709551616 + l1 > h2 * 18446744073709551616 + l2 by omega)]
     simp [eq_comm]
    ·rw [decide_eq_false hg, decide_eq_false (show ¬ h1 * 18446744073709551616 + l1 > h2 * 18446744073709551616 + l2 by omega)]
     simp [eq_comm]
  rw [key, f1, f2]
  by_cases hn : a < 0
  ·have hc' : c < 0 := by rw [← hs]; exact hn
   have q1 : (a.natAbs : Int) * b = -(a * b) := by rw [show (a.natAbs : Int) = -a by omega]; grind
   have q2 : (c.natAbs : Int) * d = -(c * d) := by rw [show (c.natAbs : Int) = -c by omega]; grind
   rw [q1, q2, decide_eq_true hn]
   rw [q1] at f1; rw [q2] at f2
   by_cases he : h1 = h2 ∧ l1 = l2
   ·rw [if_pos he, decide_eq_false (by have := he.1; have := he.2; omega)]
   ·rw [if_neg he]
    by_cases hg : a * b > c * d
    ·rw [decide_eq_true hg, decide_eq_false (by omega)]; rfl
    ·rw [decide_eq_false hg, decide_eq_true (by
      have : a * b ≠ c * d := fun e => he (by
       have : h1 * 18446744073709551616 + l1 = h2 * 18446744073709551616 + l2 := by omega
       exact ⟨by omega, by omega⟩)
      omega)]; rfl
  ·have hc' : ¬ c < 0 := by rw [← hs]; exact hn
   have q1 : (a.natAbs : Int) * b = a * b := by rw [show (a.natAbs : Int) = a by omega]
   have q2 : (c.natAbs : Int) * d = c * d := by rw [show (c.natAbs : Int) = c by omega]
   rw [q1, q2, decide_eq_false hn]
   rw [q1] at f1; rw [q2] at f2
   by_cases he : h1 = h2 ∧ l1 = l2
   ·rw [if_pos he, decide_eq_false (by have := he.1; have := he.2; omega)]
   ·rw [if_neg he]
    by_cases hg : a * b > c * d
    ·rw [decide_eq_true hg]; rfl
    ·rw [decide_eq_false hg]; rfl
 ·have : (decide (a < 0) == decide (c < 0)) = false := by
   by_cases h1 : a < 0 <;> by_cases h2 : c < 0 <;> simp [h1, h2] at hs ⊢
  rw [this]
  simp only [Bool.not_false, cond_true]
  congr 1
  by_cases hn : c < 0
  ·have hn2 : ¬ a < 0 := fun h => hs (by simp [h, hn])
   have q1 := Int.mul_nonneg (show 0 ≤ a by omega) (show 0 ≤ b by omega)
   have q2 := Int.mul_neg_of_neg_of_pos hn hd.1
   rw [decide_eq_true hn, decide_eq_true (by omega)]
  ·have hn2 : a < 0 := by
    rcases Int.lt_or_le a 0 with h | h
    ·exact h
    ·exact absurd (by simp [hn, show ¬ a < 0 by omega]) hs
   have q1 := Int.mul_neg_of_neg_of_pos hn2 hb.1
   have q2 := Int.mul_nonneg (show 0 ≤ c by omega) (show 0 ≤ d by omega)
   rw [decide_eq_false hn, decide_eq_false (by omega)]
end Go.Proofs.YtfpppijfkeidgaaGreatDoor
