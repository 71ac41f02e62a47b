/- Printed by gen.py: specifications of functions. -/
import Derived.Test.YtlngennlccaneaaExts
import Derived.Test.YtlngennlccaneaaBase
import Derived.Test.YtlngennlccaneaaVec
import Derived.Test.YtlngennlccaneaaLoops
set_option linter.unusedSimpArgs false
set_option maxRecDepth 100000
namespace Go.Proofs.Ytlngennlccaneaa
open Go.Ev
noncomputable def s30 : Int × Int × Int → Option (Bool) := fun (n, lo, hi) =>
 bif decide (lo ≤ n) then
  some (decide (n ≤ hi))
 else
  some (false)
theorem i30 : ItemOk Try.prog (.fn 30 [.d zI, .d zI, .d zI] [.d .bool] s30) := item_fnM md5 ext5 (U := 9) (n := 12) noSpecial mixed items_nil (fun x => by kernel_rfl)
noncomputable def GtlK1 : List Ev.Item := .fn 30 [.d zI, .d zI, .d zI] [.d .bool] s30 :: ([] : List Ev.Item)
theorem GtlK1_ok : ∀ q ∈ GtlK1, ItemOk Try.prog q := items_cons i30 items_nil
noncomputable def s29 : Bool × Int → Option (Int) := fun (ok, e0) =>
 bif ok then
  some (0)
 else
  some (e0)
theorem i29 : ItemOk Try.prog (.fn 29 [.d .bool, .d zI] [.d zI] s29) := item_fnM md5 ext5 (U := 9) (n := 12) noSpecial mixed GtlK1_ok (fun x => by kernel_rfl)
noncomputable def GtlK2 : List Ev.Item := .fn 29 [.d .bool, .d zI] [.d zI] s29 :: GtlK1
theorem GtlK2_ok : ∀ q ∈ GtlK2, ItemOk Try.prog q := items_cons i29 GtlK1_ok
end Go.Proofs.Ytlngennlccaneaa
