/- Lists of a fixed length. -/
import Derived.Test.YthabingkfmlbbaaGreatLoops
set_option linter.unusedSimpArgs false
namespace Go.Proofs.YthabingkfmlbbaaGreat
open Go.Ev
end Go.Proofs.YthabingkfmlbbaaGreat
