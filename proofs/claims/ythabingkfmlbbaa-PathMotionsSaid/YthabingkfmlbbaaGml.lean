/- Printed by gen.py: specifications of functions. -/
import Derived.Test.YthabingkfmlbbaaExts
import Derived.Test.YthabingkfmlbbaaBase
import Derived.Test.YthabingkfmlbbaaVec
import Derived.Test.YthabingkfmlbbaaLoops
set_option linter.unusedSimpArgs false
set_option maxRecDepth 100000
namespace Go.Proofs.Ythabingkfmlbbaa
open Go.Ev
noncomputable def s24 : Int × Int × Int → Option (Bool) := fun (n, lo, hi) =>
 bif decide (lo ≤ n) then
  some (decide (n ≤ hi))
 else
  some (false)
theorem i24 : ItemOk Try.prog (.fn 24 [.d zI, .d zI, .d zI] [.d .bool] s24) := item_fnM md5 ext5 (U := 9) (n := 12) noSpecial mixed items_nil (fun x => by kernel_rfl)
noncomputable def GmlK1 : List Ev.Item := .fn 24 [.d zI, .d zI, .d zI] [.d .bool] s24 :: ([] : List Ev.Item)
theorem GmlK1_ok : ∀ q ∈ GmlK1, ItemOk Try.prog q := items_cons i24 items_nil
noncomputable def s49 : (List (Int × Int × Int × Int)) × Int → Option (Int) := fun p =>
 bif inBounds (wr ((p.1.length : Int) - 1)) p.1.length then
  some ((p.1.getD (wr ((p.1.length : Int) - 1)).toNat (0, 0, 0, 0)).1)
 else
  none
theorem i49 : ItemOk Try.prog (.fn 49 [.d (.agg (.pair (.slice (.agg zF)) zI))] [.d zI] s49) := item_fnM md5 ext5 (U := 9) (n := 12) noSpecial mixed GmlK1_ok (fun x => by kernel_rfl)
noncomputable def GmlK2 : List Ev.Item := .fn 49 [.d (.agg (.pair (.slice (.agg zF)) zI))] [.d zI] s49 :: GmlK1
theorem GmlK2_ok : ∀ q ∈ GmlK2, ItemOk Try.prog q := items_cons i49 GmlK1_ok
noncomputable def s27 : Bool × Int → Option (Int) := fun (ok, e0) =>
 bif ok then
  some (0)
 else
  some (e0)
theorem i27 : ItemOk Try.prog (.fn 27 [.d .bool, .d zI] [.d zI] s27) := item_fnM md5 ext5 (U := 9) (n := 12) noSpecial mixed GmlK2_ok (fun x => by kernel_rfl)
noncomputable def GmlK3 : List Ev.Item := .fn 27 [.d .bool, .d zI] [.d zI] s27 :: GmlK2
theorem GmlK3_ok : ∀ q ∈ GmlK3, ItemOk Try.prog q := items_cons i27 GmlK2_ok
noncomputable def s25 : Int × Int → Option (Bool) := fun (n, most) =>
 optE (s24 (n, wr (-most), most)) (fun r1 =>
  some (r1))
  (none)
theorem i25 : ItemOk Try.prog (.fn 25 [.d zI, .d zI] [.d .bool] s25) := item_fnM md5 ext5 (U := 9) (n := 12) noSpecial mixed GmlK3_ok (fun x => by kernel_rfl)
noncomputable def GmlK4 : List Ev.Item := .fn 25 [.d zI, .d zI] [.d .bool] s25 :: GmlK3
theorem GmlK4_ok : ∀ q ∈ GmlK4, ItemOk Try.prog q := items_cons i25 GmlK3_ok
noncomputable def s69 : Int × Int × Int → Option (Int × Int × Int) := fun p =>
 some (p)
theorem i69 : ItemOk Try.prog (.fn 69 [.d (.agg (.pair zI zP))] [.d (.agg (.pair zI zP))] s69) := item_fnM md5 ext5 (U := 9) (n := 12) noSpecial mixed GmlK4_ok (fun x => by kernel_rfl)
noncomputable def GmlK5 : List Ev.Item := .fn 69 [.d (.agg (.pair zI zP))] [.d (.agg (.pair zI zP))] s69 :: GmlK4
theorem GmlK5_ok : ∀ q ∈ GmlK5, ItemOk Try.prog q := items_cons i69 GmlK4_ok
noncomputable def s74 : Int × Int → Option (Int × Int) := fun (x0, y0) =>
 some ((IntKind.u64.wrap ((IntKind.u64.wrap ((IntKind.u64.wrap ((shrI .u64 x0 32) * (shrI .u64 y0 32))) + (shrI .u64 (IntKind.u64.wrap ((IntKind.u64.wrap ((shrI .u64 x0 32) * (andI .u64 y0 4294967295))) + (shrI .u64 (IntKind.u64.wrap ((andI .u64 x0 4294967295) * (andI .u64 y0 4294967295))) 32))) 32))) + (shrI .u64 (IntKind.u64.wrap ((andI .u64 (IntKind.u64.wrap ((IntKind.u64.wrap ((shrI .u64 x0 32) * (andI .u64 y0 4294967295))) + (shrI .u64 (IntKind.u64.wrap ((andI .u64 x0 4294967295) * (andI .u64 y0 4294967295))) 32))) 4294967295) + (IntKind.u64.wrap ((andI .u64 x0 4294967295) * (shrI .u64 y0 32))))) 32)), IntKind.u64.wrap (x0 * y0)))
theorem i74 : ItemOk Try.prog (.fn 74 [.d (.int .u64), .d (.int .u64)] [.d (.int .u64), .d (.int .u64)] s74) := item_fnM md5 ext5 (U := 9) (n := 12) noSpecial mixed GmlK5_ok (fun x => by kernel_rfl)
noncomputable def GmlK6 : List Ev.Item := .fn 74 [.d (.int .u64), .d (.int .u64)] [.d (.int .u64), .d (.int .u64)] s74 :: GmlK5
theorem GmlK6_ok : ∀ q ∈ GmlK6, ItemOk Try.prog q := items_cons i74 GmlK5_ok
noncomputable def s55 : Int → Option (Int × Int) := fun n =>
 optE (s74 (IntKind.u64.wrap (mx n (wr (-n))), IntKind.u64.wrap (mx n (wr (-n))))) (fun r1 =>
  some (r1))
  (none)
theorem i55 : ItemOk Try.prog (.fn 55 [.d zI] [.d (.agg (.pair (.int .u64) (.int .u64)))] s55) := item_fnM md5 ext5 (U := 9) (n := 12) noSpecial mixed GmlK6_ok (fun x => by kernel_rfl)
noncomputable def GmlK7 : List Ev.Item := .fn 55 [.d zI] [.d (.agg (.pair (.int .u64) (.int .u64)))] s55 :: GmlK6
theorem GmlK7_ok : ∀ q ∈ GmlK7, ItemOk Try.prog q := items_cons i55 GmlK6_ok
noncomputable def s70 : (Int × Int × Int) × (Int × Int × Int) → Option (Int × Int × Int) := fun (t, o) =>
 some ((wr (t.1 - o.1), wr (t.2.1 - o.2.1), wr (t.2.2 - o.2.2)))
theorem i70 : ItemOk Try.prog (.fn 70 [.d (.agg (.pair zI zP)), .d (.agg (.pair zI zP))] [.d (.agg (.pair zI zP))] s70) := item_fnM md5 ext5 (U := 9) (n := 12) noSpecial mixed GmlK7_ok (fun x => by kernel_rfl)
noncomputable def GmlK8 : List Ev.Item := .fn 70 [.d (.agg (.pair zI zP)), .d (.agg (.pair zI zP))] [.d (.agg (.pair zI zP))] s70 :: GmlK7
theorem GmlK8_ok : ∀ q ∈ GmlK8, ItemOk Try.prog q := items_cons i70 GmlK7_ok
noncomputable def s78 : (Int × Int × Int) × (Int × Int × Int) → Option (Int) := fun (t, o) =>
 some (wr ((wr ((wr (t.1 * o.1)) + (wr (t.2.1 * o.2.1)))) + (wr (t.2.2 * o.2.2))))
theorem i78 : ItemOk Try.prog (.fn 78 [.d (.agg (.pair zI zP)), .d (.agg (.pair zI zP))] [.d zI] s78) := item_fnM md5 ext5 (U := 9) (n := 12) noSpecial mixed GmlK8_ok (fun x => by kernel_rfl)
noncomputable def GmlK9 : List Ev.Item := .fn 78 [.d (.agg (.pair zI zP)), .d (.agg (.pair zI zP))] [.d zI] s78 :: GmlK8
theorem GmlK9_ok : ∀ q ∈ GmlK9, ItemOk Try.prog q := items_cons i78 GmlK8_ok
noncomputable def s54 : (Int × Int) × (Int × Int) → Option (Bool) := fun (w, o) =>
 bif decide (w.1 < o.1) then
  some (true)
 else
  bif w.1 == o.1 then
   some (decide (w.2 < o.2))
  else
   some (false)
theorem i54 : ItemOk Try.prog (.fn 54 [.d (.agg (.pair (.int .u64) (.int .u64))), .d (.agg (.pair (.int .u64) (.int .u64)))] [.d .bool] s54) := item_fnM md5 ext5 (U := 9) (n := 12) noSpecial mixed GmlK9_ok (fun x => by kernel_rfl)
noncomputable def GmlK10 : List Ev.Item := .fn 54 [.d (.agg (.pair (.int .u64) (.int .u64))), .d (.agg (.pair (.int .u64) (.int .u64)))] [.d .bool] s54 :: GmlK9
theorem GmlK10_ok : ∀ q ∈ GmlK10, ItemOk Try.prog q := items_cons i54 GmlK9_ok
noncomputable def s79 : (Int × Int) × (Int × Int) → Option (Int × Int) := fun (w, o) =>
 bif (decide (0 ≤ w.2)) && ((decide (0 ≤ o.2)) && true) then
  some ((IntKind.u64.wrap ((IntKind.u64.wrap (w.1 + o.1)) + ((w.2 + o.2 + 0) / 18446744073709551616)), (w.2 + o.2 + 0) % 18446744073709551616))
 else
  none
theorem i79 : ItemOk Try.prog (.fn 79 [.d (.agg (.pair (.int .u64) (.int .u64))), .d (.agg (.pair (.int .u64) (.int .u64)))] [.d (.agg (.pair (.int .u64) (.int .u64)))] s79) := item_fnM md5 ext5 (U := 9) (n := 12) noSpecial mixed GmlK10_ok (fun x => by kernel_rfl)
noncomputable def GmlK11 : List Ev.Item := .fn 79 [.d (.agg (.pair (.int .u64) (.int .u64))), .d (.agg (.pair (.int .u64) (.int .u64)))] [.d (.agg (.pair (.int .u64) (.int .u64)))] s79 :: GmlK10
theorem GmlK11_ok : ∀ q ∈ GmlK11, ItemOk Try.prog q := items_cons i79 GmlK10_ok
end Go.Proofs.Ythabingkfmlbbaa
