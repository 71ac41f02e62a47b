/- Printed by gen.py: specifications of functions. -/
import Derived.Test.YtcdpgjlaajdfmaaGreatDoorG20
set_option linter.unusedSimpArgs false
set_option maxRecDepth 100000
namespace Go.Proofs.YtcdpgjlaajdfmaaGreatDoor
open Go.Ev
theorem i11 : ItemOk Tryz.prog (.fn 11 [] [.d .bool] (fun _ => some true)) := item_fnM md5s ext5s (U := 150) (n := 24) noSpecial mixed items_nil (fun x => by kernel_rfl)
noncomputable def G2tK1 : List Ev.Item := .fn 11 [] [.d .bool] (fun _ => some true) :: G20K13
theorem G2tK1_ok : ∀ q ∈ G2tK1, ItemOk Tryz.prog q := items_cons i11 G20K13_ok
end Go.Proofs.YtcdpgjlaajdfmaaGreatDoor
