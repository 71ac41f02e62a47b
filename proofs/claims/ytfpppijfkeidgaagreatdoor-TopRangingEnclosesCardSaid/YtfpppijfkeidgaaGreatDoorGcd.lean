/- Greatest common divisors. -/
import Derived.Test.YtfpppijfkeidgaaGreatDoorSearch
set_option linter.unusedSimpArgs false
namespace Go.Proofs.YtfpppijfkeidgaaGreatDoor
open Go.Ev
def euStep : Int × Int → Option ((Int × Int) ⊕ Int) := fun (a, b) =>
 bif b != 0 then
  bif !(b == 0) then
   some (.inl (b, Int.tmod a b))
  else
   none
 else
  some (.inr a)
theorem eu_loop : ∀ (n : Nat) (a b : Int), b.natAbs < n → ∃ r, loopVal euStep (a, b) = some r ∧ r.natAbs = Nat.gcd a.natAbs b.natAbs ∧ (0 ≤ a → 0 ≤ b → 0 ≤ r) := by
 intro n
 induction n with
 | zero => intro a b h; omega
 | succ n ih =>
   intro a b h
   by_cases hb : b = 0
   ·subst hb
    exact ⟨a, loopVal_last rfl, by simp, fun h _ => h⟩
   ·have hm : (Int.tmod a b).natAbs = a.natAbs % b.natAbs := Int.natAbs_tmod a b
    have hpos : 0 < b.natAbs := by omega
    have hlt := Nat.mod_lt a.natAbs hpos
    obtain ⟨r, h1, h2, h3⟩ := ih b (Int.tmod a b) (by omega)
    refine ⟨r, ?_, ?_, fun ha hb => h3 hb (Int.tmod_nonneg _ ha)⟩
    ·have hs : euStep (a, b) = some (.inl (b, Int.tmod a b)) := by
      have e : (b != 0) = true := by simpa using hb
      have e2 : (b == 0) = false := by simpa using hb
      simp only [euStep, e, e2, cond_true, Bool.not_false]
     rw [loopVal_next hs]; exact h1
    ·rw [h2, hm, Nat.gcd_comm a.natAbs, Nat.gcd_rec b.natAbs a.natAbs, Nat.gcd_comm]
noncomputable def euV (a b : Int) : Int := (loopVal euStep (a, b)).getD 0
theorem eu_val (a b : Int) : loopVal euStep (a, b) = some (euV a b) := by
 obtain ⟨r, h, _⟩ := eu_loop _ a b (Nat.lt_succ_self _)
 simp only [euV, h, Option.getD_some]
theorem eu_abs (a b : Int) : (euV a b).natAbs = Nat.gcd a.natAbs b.natAbs := by
 obtain ⟨r, h, h2, _⟩ := eu_loop _ a b (Nat.lt_succ_self _)
 simp only [euV, h, Option.getD_some, h2]
theorem mx_abs {n : Int} (h1 : -9223372036854775808 < n) (h2 : n < 9223372036854775808) : mx n (wr (-n)) = (n.natAbs : Int) := by
 rw [wr_id (n := -n) (by omega) (by omega)]
 unfold mx
 split <;> omega
theorem eu_size {a b : Int} (h3 : 0 < b) (h4 : b < 4611686018427387904) : mx (euV a b) (wr (-(euV a b))) = (Nat.gcd a.natAbs b.natAbs : Nat) := by
 have h := eu_abs a b
 have hle : Nat.gcd a.natAbs b.natAbs ≤ b.natAbs := Nat.gcd_le_right _ (by omega)
 rw [mx_abs (by omega) (by omega), h]
theorem gcd_pos {a b : Int} (h : 0 < b) : 0 < Nat.gcd a.natAbs b.natAbs := Nat.gcd_pos_of_pos_right _ (by omega)
def lowF (n d : Int) : Int × Int := (n / (Nat.gcd n.natAbs d.natAbs : Nat), d / (Nat.gcd n.natAbs d.natAbs : Nat))
theorem gcd_dvd_l (a b : Int) : ((Nat.gcd a.natAbs b.natAbs : Nat) : Int) ∣ a := Int.ofNat_dvd_left.2 (Nat.gcd_dvd_left _ _)
theorem gcd_dvd_r (a b : Int) : ((Nat.gcd a.natAbs b.natAbs : Nat) : Int) ∣ b := Int.ofNat_dvd_left.2 (Nat.gcd_dvd_right _ _)
theorem tdiv_gcd_l (a b : Int) : Int.tdiv a (Nat.gcd a.natAbs b.natAbs : Nat) = a / (Nat.gcd a.natAbs b.natAbs : Nat) := Int.tdiv_eq_ediv_of_dvd (gcd_dvd_l a b)
theorem tdiv_gcd_r (a b : Int) : Int.tdiv b (Nat.gcd a.natAbs b.natAbs : Nat) = b / (Nat.gcd a.natAbs b.natAbs : Nat) := Int.tdiv_eq_ediv_of_dvd (gcd_dvd_r a b)
theorem div_size {a : Int} {g : Nat} (hg : 0 < g) : (a / (g : Int)).natAbs ≤ a.natAbs := by
 rcases Int.le_total 0 a with h | h
 ·have h1 : a / (g : Int) ≤ a := Int.ediv_le_self _ h
  have h2 : 0 ≤ a / (g : Int) := Int.ediv_nonneg h (by omega)
  omega
 ·have h1 : a / (g : Int) ≤ 0 := by
   rcases Int.lt_or_eq_of_le h with h | h
   ·exact Int.le_of_lt (Int.ediv_neg_of_neg_of_pos h (by omega))
   ·rw [h]; simp
  have h2 : a ≤ a / (g : Int) := by
   have h3 := Int.mul_ediv_add_emod a g
   have h4 := Int.emod_nonneg a (show (g : Int) ≠ 0 by omega)
   have h5 := Int.emod_lt_of_pos a (show (0 : Int) < g by omega)
   by_cases hc : a / (g : Int) = 0
   ·rw [hc] at h3 ⊢; omega
   ·have h8 := Int.mul_nonneg (show 0 ≤ (g : Int) - 1 by omega) (show 0 ≤ -1 - a / (g : Int) by omega)
    have h9 : ((g : Int) - 1) * (-1 - a / g) = -(g : Int) - g * (a / g) + 1 + a / g := by grind
    omega
  omega
end Go.Proofs.YtfpppijfkeidgaaGreatDoor
