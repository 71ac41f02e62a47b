/- Residuals of measurements by a line. -/
import Derived.Test.YtfpppijfkeidgaaGreatDoorFracs
import Derived.Test.YtfpppijfkeidgaaGreatDoorDelays
set_option linter.unusedSimpArgs false
namespace Go.Proofs.YtfpppijfkeidgaaGreatDoor
open Go.Ev
theorem mulB {a b A B : Int} (ha : -A ≤ a ∧ a ≤ A) (hb : -B ≤ b ∧ b ≤ B) : -(A * B) ≤ a * b ∧ a * b ≤ A * B := by
 have h : (a * b).natAbs ≤ (A * B).natAbs := by
  rw [Int.natAbs_mul, Int.natAbs_mul]
  exact Nat.mul_le_mul (by omega) (by omega)
 have h2 : 0 ≤ A * B := Int.mul_nonneg (by omega) (by omega)
 omega
def ms (x : Fr × Fr) (m : Msr) : Int := if m.1 = 1 then (m.2.2.1 - m.2.1) * x.2.1 * x.1.2 else x.1.1 * x.2.2 + m.2.2.1 * x.2.1 * x.1.2
def dn (x : Fr × Fr) : Int := x.1.2 * x.2.2
def hf (m : Msr) (up : Bool) : Int × Int × Int := if m.1 = 1 then (if up then (0, m.2.2.1 - m.2.1, m.2.2.2.2) else (0, -(m.2.2.1 - m.2.1), -m.2.2.2.1)) else (if up then (1, m.2.2.1, m.2.2.2.2) else (-1, -m.2.2.1, -m.2.2.2.1))
end Go.Proofs.YtfpppijfkeidgaaGreatDoor
