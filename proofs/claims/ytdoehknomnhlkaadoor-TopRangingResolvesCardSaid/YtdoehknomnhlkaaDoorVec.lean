/- Lists of a fixed length. -/
import Derived.Test.YtdoehknomnhlkaaDoorLoops
set_option linter.unusedSimpArgs false
namespace Go.Proofs.YtdoehknomnhlkaaDoor
open Go.Ev
def putV : (n base off : Nat) → Bool → List Bool → List Bool
 | 0, _, _, _, _ => []
 | n + 1, base, off, v, xs => (bif Nat.beq base off then v else xs.headD false) :: putV n (base + 1) off v xs.tail
end Go.Proofs.YtdoehknomnhlkaaDoor
