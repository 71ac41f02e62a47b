/- Which rules are valid, mismatches, spacing, wrong symbols: all as specified. -/
import Derived.Test.YthckjfbhdjjnkaaMarkLaw
set_option linter.unusedSimpArgs false
namespace Go.Proofs.Ythckjfbhdjjnkaa
open Go.Ev
theorem copyR_eq (r : Rule) (hl : r.1.length ≤ 1000000) : s19 r = some r := by
 unfold s19
 simp only [copy_eq r.1 hl, optE_some]
end Go.Proofs.Ythckjfbhdjjnkaa
