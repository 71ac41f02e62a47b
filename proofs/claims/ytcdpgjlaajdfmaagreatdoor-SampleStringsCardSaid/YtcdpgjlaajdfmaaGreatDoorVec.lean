/- Lists of a fixed length. -/
import Derived.Test.YtcdpgjlaajdfmaaGreatDoorLoops
set_option linter.unusedSimpArgs false
namespace Go.Proofs.YtcdpgjlaajdfmaaGreatDoor
open Go.Ev
def putV (n base off : Nat) (v : Bool) (xs : List Bool) : List Bool := (List.range n).map fun k => bif Nat.beq (base + k) off then v else xs.getD k false
end Go.Proofs.YtcdpgjlaajdfmaaGreatDoor
