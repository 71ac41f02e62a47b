/- What is proved holds. -/
import Derived.Test.YtfpppijfkeidgaaGreatDoorClaimLaw
set_option linter.unusedSimpArgs false
namespace Go.Proofs.YtfpppijfkeidgaaGreatDoor
open Go.Ev
theorem cmp_lt {n d m k p q : Int} (hd : 0 < d) (hk : 0 < k) (h1 : n < d * (p + 1)) (h2 : k * q ≤ m) (hpq : p + 1 ≤ q) : n * k < m * d := by
 have a1 : n * k < d * (p + 1) * k := Int.mul_lt_mul_of_pos_right h1 hk
 have a2 : d * (p + 1) * k ≤ d * q * k := Int.mul_le_mul_of_nonneg_right (Int.mul_le_mul_of_nonneg_left hpq (by omega)) (by omega)
 have a3 : d * (k * q) ≤ d * m := Int.mul_le_mul_of_nonneg_left h2 (by omega)
 have e1 : d * q * k = d * (k * q) := by grind
 have e2 : d * m = m * d := Int.mul_comm _ _
 omega
theorem floor_eq {n d : Int} (h : 0 < d) : s69 (n, d) = some (wr (n / d)) := floor_law (n := n) (m := d) h
theorem compare_loop : ∀ (N : Nat) (n d m k : Int), (0 < d ∧ d ≤ 1000000000000000) → (0 < k ∧ k ≤ 1000000000000000) → (-1000000000000000 ≤ n ∧ n ≤ 1000000000000000) → (-1000000000000000 ≤ m ∧ m ≤ 1000000000000000) → d + k < N →
 loopVal step46_0 (n, d, m, k) = some (cmpI (n * k) (m * d)) := by
 intro N
 induction N with
 | zero => intro n d m k h1 h2 _ _ h; omega
 | succ N ih =>
   intro n d m k hd hk hn hm hN
   have n1 := Int.mul_ediv_add_emod n d
   have n2 := Int.emod_nonneg n (show d ≠ 0 by omega)
   have n3 := Int.emod_lt_of_pos n hd.1
   have m1 := Int.mul_ediv_add_emod m k
   have m2 := Int.emod_nonneg m (show k ≠ 0 by omega)
   have m3 := Int.emod_lt_of_pos m hk.1
   have sz : ∀ a b : Int, (0 < b ∧ b ≤ 1000000000000000) → (-1000000000000000 ≤ a ∧ a ≤ 1000000000000000) → -1000000000000000 ≤ a / b ∧ a / b ≤ 1000000000000000 := fun a b hb ha => by
    obtain ⟨g, hg⟩ : ∃ g : Nat, b = (g : Int) := ⟨b.toNat, by omega⟩
    have := div_size (a := a) (g := g) (by omega)
    rw [hg]; omega
   have np := sz n d hd hn
   have mp := sz m k hk hm
   have hst : step46_0 (n, d, m, k) = bif decide (n / d < m / k) then some (.inr (-1)) else bif decide (n / d > m / k) then some (.inr 1) else
    bif n % d == 0 then (bif m % k == 0 then some (.inr 0) else some (.inr (-1))) else (bif m % k == 0 then some (.inr 1) else some (.inl (k, m % k, d, n % d))) := by
    have w1 : wr (wr (n / d) * d) = n - n % d := by
     rw [wr_id (n := n / d) (by omega) (by omega), Int.mul_comm, show d * (n / d) = n - n % d by omega]
     exact wr_id (by omega) (by omega)
    have w2 : wr (wr (m / k) * k) = m - m % k := by
     rw [wr_id (n := m / k) (by omega) (by omega), Int.mul_comm, show k * (m / k) = m - m % k by omega]
     exact wr_id (by omega) (by omega)
    have w3 : wr (n - (n - n % d)) = n % d := by rw [wr_id (by omega) (by omega)]; omega
    have w4 : wr (m - (m - m % k)) = m % k := by rw [wr_id (by omega) (by omega)]; omega
    simp only [step46_0, floor_eq hd.1, floor_eq hk.1, optE_some, w1, w2, w3, w4]
    rw [wr_id (n := n / d) (by omega) (by omega), wr_id (n := m / k) (by omega) (by omega)]
    cases decide (n / d < m / k) <;> cases decide (n / d > m / k) <;> cases n % d == 0 <;> cases m % k == 0 <;> rfl
   generalize hp : n / d = p at *
   generalize hq : m / k = q at *
   generalize hr : n % d = r at *
   generalize hs : m % k = s at *
   have lt1 : p < q → n * k < m * d := fun h => cmp_lt (p := p) (q := q) hd.1 hk.1 (by rw [Int.mul_add, Int.mul_one]; omega) (by omega) (by omega)
   have lt2 : q < p → m * d < n * k := fun h => cmp_lt (p := q) (q := p) hk.1 hd.1 (by rw [Int.mul_add, Int.mul_one]; omega) (by omega) (by omega)
   by_cases h1 : p < q
   ·rw [decide_eq_true h1, cond_true] at hst
    rw [loopVal_last hst, cmpI, if_pos (lt1 h1)]
   ·rw [decide_eq_false h1, cond_false] at hst
    by_cases h2 : q < p
    ·rw [decide_eq_true (show p > q from h2), cond_true] at hst
     have := lt2 h2
     rw [loopVal_last hst, cmpI, if_neg (by omega), if_neg (by omega)]
    ·rw [decide_eq_false (show ¬ p > q from h2), cond_false] at hst
     have hpq : p = q := by omega
     subst hpq
     have hdiff : n * k - m * d = r * k - s * d := by rw [← n1, ← m1]; grind
     have hrk : r = 0 → r * k = 0 := fun h => by rw [h, Int.zero_mul]
     have hsd : s = 0 → s * d = 0 := fun h => by rw [h, Int.zero_mul]
     have hrk2 : r ≠ 0 → 0 < r * k := fun h => Int.mul_pos (by omega) hk.1
     have hsd2 : s ≠ 0 → 0 < s * d := fun h => Int.mul_pos (by omega) hd.1
     by_cases hr0 : r = 0
     ·have a := hrk hr0
      rw [show (r == 0) = true by simpa using hr0, cond_true] at hst
      by_cases hs0 : s = 0
      ·have b := hsd hs0
       rw [show (s == 0) = true by simpa using hs0, cond_true] at hst
       rw [loopVal_last hst, cmpI, if_neg (by omega), if_pos (by omega)]
      ·have b := hsd2 hs0
       rw [show (s == 0) = false by simpa using hs0, cond_false] at hst
       rw [loopVal_last hst, cmpI, if_pos (by omega)]
     ·have a := hrk2 hr0
      rw [show (r == 0) = false by simpa using hr0, cond_false] at hst
      by_cases hs0 : s = 0
      ·have b := hsd hs0
       rw [show (s == 0) = true by simpa using hs0, cond_true] at hst
       rw [loopVal_last hst, cmpI, if_neg (by omega), if_neg (by omega)]
      ·rw [show (s == 0) = false by simpa using hs0, cond_false] at hst
       rw [loopVal_next hst, ih k s d r (by omega) (by omega) (by omega) (by omega) (by omega)]
       congr 1
       have c1 : k * r = r * k := Int.mul_comm _ _
       have c2 : d * s = s * d := Int.mul_comm _ _
       unfold cmpI
       rw [c1, c2]
       by_cases g1 : r * k < s * d
       ·rw [if_pos g1, if_pos (by omega)]
       ·rw [if_neg g1, if_neg (show ¬ n * k < m * d by omega)]
        by_cases g2 : r * k = s * d
        ·rw [if_pos g2, if_pos (by omega)]
        ·rw [if_neg g2, if_neg (by omega)]
theorem compare_eq {n d m k : Int} (hd : 0 < d ∧ d ≤ 1000000000000000) (hk : 0 < k ∧ k ≤ 1000000000000000) (hn : -1000000000000000 ≤ n ∧ n ≤ 1000000000000000) (hm : -1000000000000000 ≤ m ∧ m ≤ 1000000000000000) :
 s46 (n, d, m, k) = some (cmpI (n * k) (m * d)) := by
 unfold s46
 simp only [compare_loop ((d + k).toNat + 1) n d m k hd hk hn hm (by omega), optE_some]
def Sat (x : Fr × Fr) (l : List Msr) : Prop := ∀ m ∈ l, m.2.2.2.1 * dn x ≤ ms x m ∧ ms x m ≤ m.2.2.2.2 * dn x
def lhs (x : Fr × Fr) (a b : Int) : Int := a * (x.1.1 * x.2.2) + b * (x.2.1 * x.1.2)
theorem hf_sat {x : Fr × Fr} {l : List Msr} (hs : Sat x l) {m : Msr} (hm : m ∈ l) (up : Bool) : lhs x (hf m up).1 (hf m up).2.1 ≤ (hf m up).2.2 * dn x := by
 obtain ⟨h1, h2⟩ := hs m hm
 unfold ms at h1 h2
 unfold lhs hf
 by_cases hk : m.1 = 1
 ·rw [if_pos hk] at h1 h2
  cases up
  ·simp only [hk, if_true, Bool.false_eq_true, if_false]; grind
  ·simp only [hk, if_true]; grind
 ·rw [if_neg hk] at h1 h2
  cases up
  ·simp only [hk, if_false, Bool.false_eq_true]; grind
  ·simp only [hk, if_false, if_true]; grind
theorem tl_sat {x : Fr × Fr} {l : List Msr} (hs : Sat x l) : ∀ (T : List Tm) (s r : Int × Int × Int), lhs x s.1 s.2.1 ≤ s.2.2 * dn x → tl l T s = .inr r → lhs x r.1 r.2.1 ≤ r.2.2 * dn x
 | [], s, r, h, ht => by obtain rfl := Sum.inr.inj ht; exact h
 | t :: T, s, r, h, ht => by
   rw [tl] at ht
   cases hb : tE l.length t != 0 with
   | true => rw [hb, cond_true] at ht; cases ht
   | false =>
     rw [hb, cond_false] at ht
     obtain ⟨h1, h2⟩ := tE_ok (show tE l.length t = 0 by simpa using hb)
     refine tl_sat hs T _ r ?_ ht
     have hm := hf_sat hs (getD_mem (l := l) (k := t.1.toNat) (0, 0, 0, 0, 0) (by omega)) t.2.1
     unfold acc
     generalize hf (l.getD t.1.toNat (0, 0, 0, 0, 0)) t.2.1 = g at hm ⊢
     have := Int.mul_le_mul_of_nonneg_left hm (show 0 ≤ t.2.2 by omega)
     unfold lhs at *
     simp only
     grind
end Go.Proofs.YtfpppijfkeidgaaGreatDoor
