/- Printed by gen.py: specifications of functions. -/
import Derived.Test.YthckjfbhdjjnkaaGp1
set_option linter.unusedSimpArgs false
set_option maxRecDepth 100000
namespace Go.Proofs.Ythckjfbhdjjnkaa
open Go.Ev
end Go.Proofs.Ythckjfbhdjjnkaa
