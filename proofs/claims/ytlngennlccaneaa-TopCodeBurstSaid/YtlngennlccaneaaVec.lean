/- Lists of a fixed length. -/
import Derived.Test.YtlngennlccaneaaLoops
set_option linter.unusedSimpArgs false
namespace Go.Proofs.Ytlngennlccaneaa
open Go.Ev
end Go.Proofs.Ytlngennlccaneaa
