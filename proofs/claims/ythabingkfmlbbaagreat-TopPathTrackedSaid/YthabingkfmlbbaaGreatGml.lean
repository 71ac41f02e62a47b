/- Printed by gen.py: specifications of functions. -/
import Derived.Test.YthabingkfmlbbaaGreatExts
import Derived.Test.YthabingkfmlbbaaGreatBase
import Derived.Test.YthabingkfmlbbaaGreatVec
import Derived.Test.YthabingkfmlbbaaGreatLoops
set_option linter.unusedSimpArgs false
set_option maxRecDepth 100000
namespace Go.Proofs.YthabingkfmlbbaaGreat
open Go.Ev
noncomputable def s48 : Int × Int × Int → Option (Bool) := fun (n, lo, hi) =>
 bif decide (lo ≤ n) then
  some (decide (n ≤ hi))
 else
  some (false)
theorem i48 : ItemOk Tryz.prog (.fn 48 [.d zI, .d zI, .d zI] [.d .bool] s48) := item_fnM md5 ext5 (U := 9) (n := 12) noSpecial mixed items_nil (fun x => by kernel_rfl)
noncomputable def GmlK1 : List Ev.Item := .fn 48 [.d zI, .d zI, .d zI] [.d .bool] s48 :: ([] : List Ev.Item)
theorem GmlK1_ok : ∀ q ∈ GmlK1, ItemOk Tryz.prog q := items_cons i48 items_nil
noncomputable def s57 : (List (Int × Int × Int × Int)) × Int → Option (Int) := fun p =>
 bif inBounds (wr ((p.1.length : Int) - 1)) p.1.length then
  some ((p.1.getD (wr ((p.1.length : Int) - 1)).toNat (0, 0, 0, 0)).1)
 else
  none
theorem i57 : ItemOk Tryz.prog (.fn 57 [.d (.agg (.pair (.slice (.agg zF)) zI))] [.d zI] s57) := item_fnM md5 ext5 (U := 9) (n := 12) noSpecial mixed GmlK1_ok (fun x => by kernel_rfl)
noncomputable def GmlK2 : List Ev.Item := .fn 57 [.d (.agg (.pair (.slice (.agg zF)) zI))] [.d zI] s57 :: GmlK1
theorem GmlK2_ok : ∀ q ∈ GmlK2, ItemOk Tryz.prog q := items_cons i57 GmlK1_ok
noncomputable def s47 : Bool × Int → Option (Int) := fun (ok, e0) =>
 bif ok then
  some (0)
 else
  some (e0)
theorem i47 : ItemOk Tryz.prog (.fn 47 [.d .bool, .d zI] [.d zI] s47) := item_fnM md5 ext5 (U := 9) (n := 12) noSpecial mixed GmlK2_ok (fun x => by kernel_rfl)
noncomputable def GmlK3 : List Ev.Item := .fn 47 [.d .bool, .d zI] [.d zI] s47 :: GmlK2
theorem GmlK3_ok : ∀ q ∈ GmlK3, ItemOk Tryz.prog q := items_cons i47 GmlK2_ok
noncomputable def s95 : Int × Int → Option (Bool) := fun (n, most) =>
 optE (s48 (n, wr (-most), most)) (fun r1 =>
  some (r1))
  (none)
theorem i95 : ItemOk Tryz.prog (.fn 95 [.d zI, .d zI] [.d .bool] s95) := item_fnM md5 ext5 (U := 9) (n := 12) noSpecial mixed GmlK3_ok (fun x => by kernel_rfl)
noncomputable def GmlK4 : List Ev.Item := .fn 95 [.d zI, .d zI] [.d .bool] s95 :: GmlK3
theorem GmlK4_ok : ∀ q ∈ GmlK4, ItemOk Tryz.prog q := items_cons i95 GmlK3_ok
noncomputable def s59 : Int × Int × Int → Option (Int × Int × Int) := fun p =>
 some (p)
theorem i59 : ItemOk Tryz.prog (.fn 59 [.d (.agg (.pair zI zP))] [.d (.agg (.pair zI zP))] s59) := item_fnM md5 ext5 (U := 9) (n := 12) noSpecial mixed GmlK4_ok (fun x => by kernel_rfl)
noncomputable def GmlK5 : List Ev.Item := .fn 59 [.d (.agg (.pair zI zP))] [.d (.agg (.pair zI zP))] s59 :: GmlK4
theorem GmlK5_ok : ∀ q ∈ GmlK5, ItemOk Tryz.prog q := items_cons i59 GmlK4_ok
noncomputable def s102 : Int × Int → Option (Int × Int) := fun (x0, y0) =>
 some ((IntKind.u64.wrap ((IntKind.u64.wrap ((IntKind.u64.wrap ((shrI .u64 x0 32) * (shrI .u64 y0 32))) + (shrI .u64 (IntKind.u64.wrap ((IntKind.u64.wrap ((shrI .u64 x0 32) * (andI .u64 y0 4294967295))) + (shrI .u64 (IntKind.u64.wrap ((andI .u64 x0 4294967295) * (andI .u64 y0 4294967295))) 32))) 32))) + (shrI .u64 (IntKind.u64.wrap ((andI .u64 (IntKind.u64.wrap ((IntKind.u64.wrap ((shrI .u64 x0 32) * (andI .u64 y0 4294967295))) + (shrI .u64 (IntKind.u64.wrap ((andI .u64 x0 4294967295) * (andI .u64 y0 4294967295))) 32))) 4294967295) + (IntKind.u64.wrap ((andI .u64 x0 4294967295) * (shrI .u64 y0 32))))) 32)), IntKind.u64.wrap (x0 * y0)))
theorem i102 : ItemOk Tryz.prog (.fn 102 [.d (.int .u64), .d (.int .u64)] [.d (.int .u64), .d (.int .u64)] s102) := item_fnM md5 ext5 (U := 9) (n := 12) noSpecial mixed GmlK5_ok (fun x => by kernel_rfl)
noncomputable def GmlK6 : List Ev.Item := .fn 102 [.d (.int .u64), .d (.int .u64)] [.d (.int .u64), .d (.int .u64)] s102 :: GmlK5
theorem GmlK6_ok : ∀ q ∈ GmlK6, ItemOk Tryz.prog q := items_cons i102 GmlK5_ok
noncomputable def s79 : Int → Option (Int × Int) := fun n =>
 optE (s102 (IntKind.u64.wrap (mx n (wr (-n))), IntKind.u64.wrap (mx n (wr (-n))))) (fun r1 =>
  some (r1))
  (none)
theorem i79 : ItemOk Tryz.prog (.fn 79 [.d zI] [.d (.agg (.pair (.int .u64) (.int .u64)))] s79) := item_fnM md5 ext5 (U := 9) (n := 12) noSpecial mixed GmlK6_ok (fun x => by kernel_rfl)
noncomputable def GmlK7 : List Ev.Item := .fn 79 [.d zI] [.d (.agg (.pair (.int .u64) (.int .u64)))] s79 :: GmlK6
theorem GmlK7_ok : ∀ q ∈ GmlK7, ItemOk Tryz.prog q := items_cons i79 GmlK6_ok
noncomputable def s60 : (Int × Int × Int) × (Int × Int × Int) → Option (Int × Int × Int) := fun (t, o) =>
 some ((wr (t.1 - o.1), wr (t.2.1 - o.2.1), wr (t.2.2 - o.2.2)))
theorem i60 : ItemOk Tryz.prog (.fn 60 [.d (.agg (.pair zI zP)), .d (.agg (.pair zI zP))] [.d (.agg (.pair zI zP))] s60) := item_fnM md5 ext5 (U := 9) (n := 12) noSpecial mixed GmlK7_ok (fun x => by kernel_rfl)
noncomputable def GmlK8 : List Ev.Item := .fn 60 [.d (.agg (.pair zI zP)), .d (.agg (.pair zI zP))] [.d (.agg (.pair zI zP))] s60 :: GmlK7
theorem GmlK8_ok : ∀ q ∈ GmlK8, ItemOk Tryz.prog q := items_cons i60 GmlK7_ok
noncomputable def s89 : (Int × Int × Int) × (Int × Int × Int) → Option (Int) := fun (t, o) =>
 some (wr ((wr ((wr (t.1 * o.1)) + (wr (t.2.1 * o.2.1)))) + (wr (t.2.2 * o.2.2))))
theorem i89 : ItemOk Tryz.prog (.fn 89 [.d (.agg (.pair zI zP)), .d (.agg (.pair zI zP))] [.d zI] s89) := item_fnM md5 ext5 (U := 9) (n := 12) noSpecial mixed GmlK8_ok (fun x => by kernel_rfl)
noncomputable def GmlK9 : List Ev.Item := .fn 89 [.d (.agg (.pair zI zP)), .d (.agg (.pair zI zP))] [.d zI] s89 :: GmlK8
theorem GmlK9_ok : ∀ q ∈ GmlK9, ItemOk Tryz.prog q := items_cons i89 GmlK8_ok
noncomputable def s78 : (Int × Int) × (Int × Int) → Option (Bool) := fun (w, o) =>
 bif decide (w.1 < o.1) then
  some (true)
 else
  bif w.1 == o.1 then
   some (decide (w.2 < o.2))
  else
   some (false)
theorem i78 : ItemOk Tryz.prog (.fn 78 [.d (.agg (.pair (.int .u64) (.int .u64))), .d (.agg (.pair (.int .u64) (.int .u64)))] [.d .bool] s78) := item_fnM md5 ext5 (U := 9) (n := 12) noSpecial mixed GmlK9_ok (fun x => by kernel_rfl)
noncomputable def GmlK10 : List Ev.Item := .fn 78 [.d (.agg (.pair (.int .u64) (.int .u64))), .d (.agg (.pair (.int .u64) (.int .u64)))] [.d .bool] s78 :: GmlK9
theorem GmlK10_ok : ∀ q ∈ GmlK10, ItemOk Tryz.prog q := items_cons i78 GmlK9_ok
noncomputable def s107 : (Int × Int) × (Int × Int) → Option (Int × Int) := fun (w, o) =>
 bif (decide (0 ≤ w.2)) && ((decide (0 ≤ o.2)) && true) then
  some ((IntKind.u64.wrap ((IntKind.u64.wrap (w.1 + o.1)) + ((w.2 + o.2 + 0) / 18446744073709551616)), (w.2 + o.2 + 0) % 18446744073709551616))
 else
  none
theorem i107 : ItemOk Tryz.prog (.fn 107 [.d (.agg (.pair (.int .u64) (.int .u64))), .d (.agg (.pair (.int .u64) (.int .u64)))] [.d (.agg (.pair (.int .u64) (.int .u64)))] s107) := item_fnM md5 ext5 (U := 9) (n := 12) noSpecial mixed GmlK10_ok (fun x => by kernel_rfl)
noncomputable def GmlK11 : List Ev.Item := .fn 107 [.d (.agg (.pair (.int .u64) (.int .u64))), .d (.agg (.pair (.int .u64) (.int .u64)))] [.d (.agg (.pair (.int .u64) (.int .u64)))] s107 :: GmlK10
theorem GmlK11_ok : ∀ q ∈ GmlK11, ItemOk Tryz.prog q := items_cons i107 GmlK10_ok
end Go.Proofs.YthabingkfmlbbaaGreat
