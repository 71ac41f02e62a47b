/- Lists of a fixed length. -/
import Derived.Test.YtcdpgjlaajdfmaaLoops
set_option linter.unusedSimpArgs false
namespace Go.Proofs.Ytcdpgjlaajdfmaa
open Go.Ev
end Go.Proofs.Ytcdpgjlaajdfmaa
