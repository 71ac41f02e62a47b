/- Lists of a fixed length. -/
import Derived.Test.YtfpppijfkeidgaaGreatDoorLoops
set_option linter.unusedSimpArgs false
namespace Go.Proofs.YtfpppijfkeidgaaGreatDoor
open Go.Ev
end Go.Proofs.YtfpppijfkeidgaaGreatDoor
