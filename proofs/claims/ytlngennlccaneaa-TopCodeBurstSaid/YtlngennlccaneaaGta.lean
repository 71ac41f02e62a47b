/- Printed by gen.py: specifications of functions. -/
import Derived.Test.YtlngennlccaneaaGtl
set_option linter.unusedSimpArgs false
set_option maxRecDepth 100000
namespace Go.Proofs.Ytlngennlccaneaa
open Go.Ev
theorem i4 : ItemOk Try.prog (.fn 4 [] [.d .bool] (fun _ => some true)) := item_fnM md5s ext5s (U := 150) (n := 24) noSpecial mixed items_nil (fun x => by kernel_rfl)
noncomputable def GtaK1 : List Ev.Item := .fn 4 [] [.d .bool] (fun _ => some true) :: GtlK2
theorem GtaK1_ok : ∀ q ∈ GtaK1, ItemOk Try.prog q := items_cons i4 GtlK2_ok
end Go.Proofs.Ytlngennlccaneaa
