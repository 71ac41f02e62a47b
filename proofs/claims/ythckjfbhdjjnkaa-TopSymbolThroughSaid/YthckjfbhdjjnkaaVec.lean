/- Lists of a fixed length. -/
import Derived.Test.YthckjfbhdjjnkaaLoops
set_option linter.unusedSimpArgs false
namespace Go.Proofs.Ythckjfbhdjjnkaa
open Go.Ev
end Go.Proofs.Ythckjfbhdjjnkaa
