/- Laws of searches. -/
import Derived.Test.YthckjfbhdjjnkaaLoops
set_option linter.unusedSimpArgs false
namespace Go.Proofs.Ythckjfbhdjjnkaa
open Go.Ev
theorem optE_some {β R : Type} (x : β) (f : β → R) (g : R) : optE (some x) f g = f x := rfl
theorem sumE_r {β γ R : Type} (x : γ) (f : β → R) (g : γ → R) : sumE (.inr x : β ⊕ γ) f g = g x := rfl
section
variable {σ : Type} {step : σ → Option (σ ⊕ Int)}
end
section
variable {σ E : Type} {step : σ → Option (σ ⊕ E)}
end
end Go.Proofs.Ythckjfbhdjjnkaa
