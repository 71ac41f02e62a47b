/- Laws of searches. -/
import Derived.Test.YtfpppijfkeidgaaGreatDoorLoops
set_option linter.unusedSimpArgs false
namespace Go.Proofs.YtfpppijfkeidgaaGreatDoor
open Go.Ev
theorem optE_some {β R : Type} (x : β) (f : β → R) (g : R) : optE (some x) f g = f x := rfl
theorem sumE_r {β γ R : Type} (x : γ) (f : β → R) (g : γ → R) : sumE (.inr x : β ⊕ γ) f g = g x := rfl
section
variable {σ : Type} {step : σ → Option (σ ⊕ Int)}
end
section
variable {σ E : Type} {step : σ → Option (σ ⊕ E)}
end
theorem scan_cases {E : Type} (hit : Nat → Option E) (e : E) : ∀ m k, (scan hit e m k = e ∧ ∀ j, k ≤ j → j < k + m → hit j = none) ∨ ∃ j x, k ≤ j ∧ j < k + m ∧ hit j = some x ∧ scan hit e m k = x
 | 0, k => .inl ⟨rfl, fun j h1 h2 => by omega⟩
 | m + 1, k => by
   simp only [scan]
   cases hh : hit k with
   | some x => exact .inr ⟨k, x, Nat.le_refl _, by omega, hh, rfl⟩
   | none =>
     rcases scan_cases hit e m (k + 1) with ⟨h1, h2⟩ | ⟨j, x, h1, h2, h3, h4⟩
     ·refine .inl ⟨h1, fun j hj hj2 => ?_⟩
      by_cases e : j = k
      ·rw [e]; exact hh
      ·exact h2 j (by omega) (by omega)
     ·exact .inr ⟨j, x, by omega, by omega, h3, h4⟩
end Go.Proofs.YtfpppijfkeidgaaGreatDoor
