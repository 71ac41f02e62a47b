/- Printed by gen.py: specifications of functions. -/
import Derived.Test.YtcdpgjlaajdfmaaGreatDoorG2l
set_option linter.unusedSimpArgs false
set_option maxRecDepth 100000
namespace Go.Proofs.YtcdpgjlaajdfmaaGreatDoor
open Go.Ev
theorem i5 : ItemOk Tryz.prog (.fn 5 [] [.d .bool] (fun _ => some true)) := item_fnM md5 ext5 (U := 64) (n := 12) noSpecial mixed items_nil (fun x => by kernel_rfl)
noncomputable def G2aK1 : List Ev.Item := .fn 5 [] [.d .bool] (fun _ => some true) :: ([] : List Ev.Item)
theorem G2aK1_ok : ∀ q ∈ G2aK1, ItemOk Tryz.prog q := items_cons i5 items_nil
end Go.Proofs.YtcdpgjlaajdfmaaGreatDoor
