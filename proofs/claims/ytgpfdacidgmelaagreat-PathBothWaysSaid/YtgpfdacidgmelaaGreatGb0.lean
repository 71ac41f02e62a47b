/- Printed by gen.py: specifications of functions. -/
import Derived.Test.YtgpfdacidgmelaaGreatExt1
import Derived.Test.YtgpfdacidgmelaaGreatLoops
set_option linter.unusedSimpArgs false
set_option maxRecDepth 100000
namespace Go.Proofs.YtgpfdacidgmelaaGreat
open Go.Ev

/-! cassegrain cassegrainlaw01.awake -/
theorem i11 : ItemOk Tryz.prog (.fn 11 [] [.d .bool] (fun _ => some true)) := item_fnM md1 ext1 (U := 64) (n := 12) noSpecial mixed items_nil (fun x => by kernel_rfl)
noncomputable def Gb0K1 : List Ev.Item := .fn 11 [] [.d .bool] (fun _ => some true) :: ([] : List Ev.Item)
theorem Gb0K1_ok : ∀ q ∈ Gb0K1, ItemOk Tryz.prog q := items_cons i11 items_nil
end Go.Proofs.YtgpfdacidgmelaaGreat
