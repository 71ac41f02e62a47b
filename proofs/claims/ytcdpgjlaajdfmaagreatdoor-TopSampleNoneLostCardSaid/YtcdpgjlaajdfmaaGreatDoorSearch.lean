/- Laws of searches. -/
import Derived.Test.YtcdpgjlaajdfmaaGreatDoorLoops
set_option linter.unusedSimpArgs false
namespace Go.Proofs.YtcdpgjlaajdfmaaGreatDoor
open Go.Ev
theorem optE_some {β R : Type} (x : β) (f : β → R) (g : R) : optE (some x) f g = f x := rfl
section
variable {σ : Type} {step : σ → Option (σ ⊕ Int)}
end
section
variable {σ E : Type} {step : σ → Option (σ ⊕ E)}
end
end Go.Proofs.YtcdpgjlaajdfmaaGreatDoor
