/- Lists of a fixed length. -/
import Derived.Test.YthckjfbhdjjnkaaDoorLoops
set_option linter.unusedSimpArgs false
namespace Go.Proofs.YthckjfbhdjjnkaaDoor
open Go.Ev
end Go.Proofs.YthckjfbhdjjnkaaDoor
