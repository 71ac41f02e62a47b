/- Laws of loops on typed data. -/
import Derived.Test.YtlngennlccaneaaBase
set_option linter.unusedSimpArgs false
namespace Go.Proofs.Ytlngennlccaneaa
open Go.Ev
section
variable {σ E : Type} {step : σ → Option (σ ⊕ E)}
theorem loop_for {st : Nat → σ} {n : Nat} {e : E} (h : ∀ k, k < n → step (st k) = some (.inl (st (k + 1)))) (hl : step (st n) = some (.inr e)) : ∀ k, k ≤ n → loopVal step (st k) = some e := by
 intro k hk
 induction hm : n - k generalizing k with
 | zero =>
   have : k = n := by omega
   subst this
   exact loopVal_last hl
 | succ m ih =>
   rw [loopVal_next (h k (by omega))]
   exact ih (k + 1) (by omega) (by omega)
def scan (hit : Nat → Option E) (e : E) : Nat → Nat → E
 | 0, _ => e
 | m + 1, k => match hit k with
   | some x => x
   | none => scan hit e m (k + 1)
theorem loop_scan {st : Nat → σ} {hit : Nat → Option E} {n : Nat} {e : E} (h : ∀ k, k < n → step (st k) = match hit k with | some x => some (.inr x) | none => some (.inl (st (k + 1)))) (hl : step (st n) = some (.inr e)) :
 ∀ m k, k + m = n → loopVal step (st k) = some (scan hit e m k) := by
 intro m
 induction m with
 | zero =>
   intro k hk
   have : k = n := by omega
   subst this
   exact loopVal_last hl
 | succ m ih =>
   intro k hk
   have h1 := h k (by omega)
   simp only [scan]
   cases hh : hit k with
   | some x => rw [hh] at h1; exact loopVal_last h1
   | none => rw [hh] at h1; rw [loopVal_next h1]; exact ih (k + 1) (by omega)
end
theorem range_map_succ {β : Type} (f : Nat → β) (k : Nat) : (List.range k).map f ++ [f k] = (List.range (k + 1)).map f := by
 rw [List.range_succ, List.map_append]; rfl
theorem tmod_of {n m : Int} : n.tmod m = if 0 ≤ n then n % m else -((-n) % m) := by
 split
 ·rename_i hn; exact Int.tmod_eq_emod_of_nonneg hn
 ·rename_i hn
  have h1 : (-n).tmod m = (-n) % m := Int.tmod_eq_emod_of_nonneg (by omega)
  rw [Int.neg_tmod] at h1
  omega
theorem neg_mod {n m : Int} (h : 0 < m) : (-n) % m = if n % m = 0 then 0 else m - n % m := by
 have h1 := Int.emod_nonneg n (show m ≠ 0 by omega)
 have h2 := Int.emod_lt_of_pos n h
 have h3 := Int.mul_ediv_add_emod n m
 split
 ·rename_i h0
  have : -n = m * (-(n / m)) := by rw [Int.mul_neg]; omega
  rw [this]; exact Int.mul_emod_right _ _
 ·rename_i h0
  have : -n = (m - n % m) + m * (-(n / m) - 1) := by rw [Int.mul_sub, Int.mul_neg, Int.mul_one]; omega
  rw [this, Int.add_mul_emod_self_left]
  exact Int.emod_eq_of_lt (by omega) (by omega)
theorem tmod_neg_iff {n m : Int} (h : 0 < m) : n.tmod m = (if n < 0 ∧ n % m ≠ 0 then n % m - m else n % m) := by
 have h1 := Int.emod_nonneg n (show m ≠ 0 by omega)
 rw [tmod_of]
 by_cases hn : 0 ≤ n
 ·rw [if_pos hn, if_neg (fun h => by omega)]
 ·rw [if_neg hn, neg_mod h]
  by_cases h0 : n % m = 0
  ·simp [h0]
  ·rw [if_neg h0, if_pos ⟨by omega, h0⟩]; omega
theorem mod_law {n m : Int} (h : 0 < m) (h2 : m < 4611686018427387904) : (bif !(m == 0) then bif decide (Int.tmod n m < 0) then some (wr (Int.tmod n m + m)) else some (Int.tmod n m) else none) = some (n % m) := by
 have hm : (m == 0) = false := by simp; omega
 have h1 := Int.emod_nonneg n (show m ≠ 0 by omega)
 have h3 := Int.emod_lt_of_pos n h
 rw [hm]
 simp only [Bool.not_false, cond_true]
 rw [tmod_neg_iff h]
 split
 ·rw [decide_eq_true (by omega), cond_true, wr_id (by omega) (by omega)]
  congr 1; omega
 ·rw [decide_eq_false (by omega), cond_false]
end Go.Proofs.Ytlngennlccaneaa
