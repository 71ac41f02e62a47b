/- Tones: which are valid, with an index, and their ambiguity. -/
import Derived.Test.YtfpppijfkeidgaaGreatDoorWideBase
import Derived.Test.YtfpppijfkeidgaaGreatDoorGcd
import Derived.Test.YtfpppijfkeidgaaGreatDoorMeas
set_option linter.unusedSimpArgs false
namespace Go.Proofs.YtfpppijfkeidgaaGreatDoor
open Go.Ev
theorem div_eq : step73_0 = euStep := rfl
theorem gcd_eq : step68_0 = euStep := rfl
theorem s73_eq (a b : Int) : s73 (a, b) = some (euV a b) := by
 unfold s73
 simp only [div_eq, eu_val, optE_some]
theorem s68_eu (a b : Int) : s68 (a, b) = some (mx (euV a b) (wr (-(euV a b)))) := by
 unfold s68
 simp only [gcd_eq, eu_val, optE_some]
 rfl
end Go.Proofs.YtfpppijfkeidgaaGreatDoor
