/- Laws of searches. -/
import Derived.Test.YthabingkfmlbbaaLoops
set_option linter.unusedSimpArgs false
namespace Go.Proofs.Ythabingkfmlbbaa
open Go.Ev
theorem optE_some {β R : Type} (x : β) (f : β → R) (g : R) : optE (some x) f g = f x := rfl
theorem sumE_l {β γ R : Type} (x : β) (f : β → R) (g : γ → R) : sumE (.inl x : β ⊕ γ) f g = f x := rfl
theorem sumE_r {β γ R : Type} (x : γ) (f : β → R) (g : γ → R) : sumE (.inr x : β ⊕ γ) f g = g x := rfl
theorem half_mid {i j : Nat} (h : i + j < 4611686018427387904) : wr (shrI .u64 (IntKind.u64.wrap (wr ((i : Int) + (j : Int)))) 1) = (((i + j) / 2 : Nat) : Int) := by
 rw [wr_id (n := (i : Int) + (j : Int)) (by omega) (by omega)]
 have h1 : IntKind.u64.wrap ((i : Int) + (j : Int)) = (i : Int) + (j : Int) := by
  simp [IntKind.wrap, IntKind.signed, IntKind.bits]
  omega
 rw [h1]
 have h2 : shrI .u64 ((i : Int) + (j : Int)) 1 = ((i : Int) + (j : Int)) / 2 := by
  unfold shrI
  have : (2 : Int) ^ (min (1 : Int).toNat IntKind.u64.bits) = 2 := by simp [IntKind.bits]
  rw [this, Int.fdiv_eq_ediv_of_nonneg _ (by omega)]
 rw [h2, wr_id (by omega) (by omega)]
 omega
section
variable {σ : Type} {step : σ → Option (σ ⊕ Int)}
theorem search_law {st : Nat → Nat → σ} {g : Nat → Bool} {n : Nat} (hs : ∀ i j, i < j → j ≤ n → step (st i j) = if g ((i + j) / 2) = true then some (.inl (st i ((i + j) / 2))) else some (.inl (st ((i + j) / 2 + 1) j)))
 (hl : ∀ i, i ≤ n → step (st i i) = some (.inr (i : Int))) {m : Nat} (hm : m ≤ n) (h1 : ∀ k, k < m → g k = false) (h2 : ∀ k, m ≤ k → k < n → g k = true) : loopVal step (st 0 n) = some (m : Int) := by
 have key : ∀ d i j, j - i = d → i ≤ m → m ≤ j → j ≤ n → loopVal step (st i j) = some (m : Int) := by
  intro d
  induction d using Nat.strongRecOn with
  | _ d ih =>
    intro i j hd hi hj hn
    by_cases hij : i < j
    ·have hst := hs i j hij hn
     cases hg : g ((i + j) / 2) with
     | true =>
       rw [hg, if_pos rfl] at hst
       rw [loopVal_next hst]
       refine ih _ ?_ i ((i + j) / 2) rfl hi ?_ (by omega)
       ·omega
       ·rcases Nat.lt_or_ge ((i + j) / 2) m with h | h
        ·rw [h1 _ h] at hg; cases hg
        ·exact h
     | false =>
       rw [hg, if_neg (by simp)] at hst
       rw [loopVal_next hst]
       refine ih _ ?_ ((i + j) / 2 + 1) j rfl ?_ hj hn
       ·omega
       ·rcases Nat.lt_or_ge ((i + j) / 2) m with h | h
        ·exact h
        ·rw [h2 _ h (by omega)] at hg; cases hg
    ·have : i = m := by omega
     subst this
     have : j = i := by omega
     subst this
     exact loopVal_last (hl _ hn)
 exact key n 0 n (by omega) (by omega) hm (Nat.le_refl _)
end
section
variable {σ E : Type} {step : σ → Option (σ ⊕ E)}
end
theorem scan_cases {E : Type} (hit : Nat → Option E) (e : E) : ∀ m k, (scan hit e m k = e ∧ ∀ j, k ≤ j → j < k + m → hit j = none) ∨ ∃ j x, k ≤ j ∧ j < k + m ∧ hit j = some x ∧ scan hit e m k = x
 | 0, k => .inl ⟨rfl, fun j h1 h2 => by omega⟩
 | m + 1, k => by
   simp only [scan]
   cases hh : hit k with
   | some x => exact .inr ⟨k, x, Nat.le_refl _, by omega, hh, rfl⟩
   | none =>
     rcases scan_cases hit e m (k + 1) with ⟨h1, h2⟩ | ⟨j, x, h1, h2, h3, h4⟩
     ·refine .inl ⟨h1, fun j hj hj2 => ?_⟩
      by_cases e : j = k
      ·rw [e]; exact hh
      ·exact h2 j (by omega) (by omega)
     ·exact .inr ⟨j, x, by omega, by omega, h3, h4⟩
end Go.Proofs.Ythabingkfmlbbaa
