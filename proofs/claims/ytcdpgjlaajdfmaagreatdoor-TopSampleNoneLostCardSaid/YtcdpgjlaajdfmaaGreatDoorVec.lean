/- Lists of a fixed length. -/
import Derived.Test.YtcdpgjlaajdfmaaGreatDoorLoops
set_option linter.unusedSimpArgs false
namespace Go.Proofs.YtcdpgjlaajdfmaaGreatDoor
open Go.Ev
end Go.Proofs.YtcdpgjlaajdfmaaGreatDoor
