/- Printed by gen.py: specifications of functions. -/
import Derived.Test.YtcdpgjlaajdfmaaGs0
set_option linter.unusedSimpArgs false
set_option maxRecDepth 100000
namespace Go.Proofs.Ytcdpgjlaajdfmaa
open Go.Ev
theorem i4 : ItemOk Try.prog (.fn 4 [] [.d .bool] (fun _ => some true)) := item_fnM md2s ext2s (U := 150) (n := 24) noSpecial mixed items_nil (fun x => by kernel_rfl)
noncomputable def Gs1K1 : List Ev.Item := .fn 4 [] [.d .bool] (fun _ => some true) :: Gs0K10
theorem Gs1K1_ok : ∀ q ∈ Gs1K1, ItemOk Try.prog q := items_cons i4 Gs0K10_ok
end Go.Proofs.Ytcdpgjlaajdfmaa
