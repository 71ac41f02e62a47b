/- Printed by gen.py: specifications of functions. -/
import Derived.Test.YtcdpgjlaajdfmaaGreatDoorExts
import Derived.Test.YtcdpgjlaajdfmaaGreatDoorBase
import Derived.Test.YtcdpgjlaajdfmaaGreatDoorVec
set_option linter.unusedSimpArgs false
set_option maxRecDepth 100000
namespace Go.Proofs.YtcdpgjlaajdfmaaGreatDoor
open Go.Ev
end Go.Proofs.YtcdpgjlaajdfmaaGreatDoor
