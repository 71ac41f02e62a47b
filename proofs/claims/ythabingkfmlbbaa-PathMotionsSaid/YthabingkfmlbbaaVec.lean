/- Lists of a fixed length. -/
import Derived.Test.YthabingkfmlbbaaLoops
set_option linter.unusedSimpArgs false
namespace Go.Proofs.Ythabingkfmlbbaa
open Go.Ev
end Go.Proofs.Ythabingkfmlbbaa
