import Derived.Test.YtdoehknomnhlkaaGreatDoorExts
import Derived.Test.YtdoehknomnhlkaaGreatDoorBase
import Derived.Test.YtdoehknomnhlkaaGreatDoorVec
set_option linter.unusedSimpArgs false
set_option maxRecDepth 100000
namespace Go.Proofs.YtdoehknomnhlkaaGreatDoor
open Go.Ev
noncomputable def s261 : Int × Int × Int → Option (Bool) := fun (n, lo, hi) =>
 bif decide (lo ≤ n) then
  some (decide (n ≤ hi))
 else
  some (false)
theorem i261 : ItemOk Tryz.prog (.fn 261 [.d zI, .d zI, .d zI] [.d .bool] s261) := item_fnM md5 ext5 (U := 9) (n := 12) noSpecial mixed items_nil (fun x => by kernel_rfl)
noncomputable def G1lK1 : List Ev.Item := .fn 261 [.d zI, .d zI, .d zI] [.d .bool] s261 :: ([] : List Ev.Item)
theorem G1lK1_ok : ∀ q ∈ G1lK1, ItemOk Tryz.prog q := items_cons i261 items_nil
noncomputable def s262 : (List (Int × Int × Int × Int)) × Int → Option (Int) := fun p =>
 bif inBounds (wr ((p.1.length : Int) - 1)) p.1.length then
  some ((p.1.getD (wr ((p.1.length : Int) - 1)).toNat (0, 0, 0, 0)).1)
 else
  none
theorem i262 : ItemOk Tryz.prog (.fn 262 [.d (.agg (.pair (.slice (.agg zF)) zI))] [.d zI] s262) := item_fnM md5 ext5 (U := 9) (n := 12) noSpecial mixed G1lK1_ok (fun x => by kernel_rfl)
noncomputable def G1lK2 : List Ev.Item := .fn 262 [.d (.agg (.pair (.slice (.agg zF)) zI))] [.d zI] s262 :: G1lK1
theorem G1lK2_ok : ∀ q ∈ G1lK2, ItemOk Tryz.prog q := items_cons i262 G1lK1_ok
noncomputable def s277 : Bool × Int → Option (Int) := fun (ok, e0) =>
 bif ok then
  some (0)
 else
  some (e0)
theorem i277 : ItemOk Tryz.prog (.fn 277 [.d .bool, .d zI] [.d zI] s277) := item_fnM md5 ext5 (U := 9) (n := 12) noSpecial mixed G1lK2_ok (fun x => by kernel_rfl)
noncomputable def G1lK3 : List Ev.Item := .fn 277 [.d .bool, .d zI] [.d zI] s277 :: G1lK2
theorem G1lK3_ok : ∀ q ∈ G1lK3, ItemOk Tryz.prog q := items_cons i277 G1lK2_ok
noncomputable def s319 : Int × Int → Option (Bool) := fun (n, most) =>
 optE (s261 (n, wr (-most), most)) (fun r1 =>
  some (r1))
  (none)
theorem i319 : ItemOk Tryz.prog (.fn 319 [.d zI, .d zI] [.d .bool] s319) := item_fnM md5 ext5 (U := 9) (n := 12) noSpecial mixed G1lK3_ok (fun x => by kernel_rfl)
noncomputable def G1lK4 : List Ev.Item := .fn 319 [.d zI, .d zI] [.d .bool] s319 :: G1lK3
theorem G1lK4_ok : ∀ q ∈ G1lK4, ItemOk Tryz.prog q := items_cons i319 G1lK3_ok
noncomputable def s314 : Int × Int × Int → Option (Int × Int × Int) := fun p =>
 some (p)
theorem i314 : ItemOk Tryz.prog (.fn 314 [.d (.agg (.pair zI zP))] [.d (.agg (.pair zI zP))] s314) := item_fnM md5 ext5 (U := 9) (n := 12) noSpecial mixed G1lK4_ok (fun x => by kernel_rfl)
noncomputable def G1lK5 : List Ev.Item := .fn 314 [.d (.agg (.pair zI zP))] [.d (.agg (.pair zI zP))] s314 :: G1lK4
theorem G1lK5_ok : ∀ q ∈ G1lK5, ItemOk Tryz.prog q := items_cons i314 G1lK4_ok
noncomputable def s228 : Int × Int → Option (Int × Int) := fun (x0, y0) =>
 some ((IntKind.u64.wrap ((IntKind.u64.wrap ((IntKind.u64.wrap ((shrI .u64 x0 32) * (shrI .u64 y0 32))) + (shrI .u64 (IntKind.u64.wrap ((IntKind.u64.wrap ((shrI .u64 x0 32) * (andI .u64 y0 4294967295))) + (shrI .u64 (IntKind.u64.wrap ((andI .u64 x0 4294967295) * (andI .u64 y0 4294967295))) 32))) 32))) + (shrI .u64 (IntKind.u64.wrap ((andI .u64 (IntKind.u64.wrap ((IntKind.u64.wrap ((shrI .u64 x0 32) * (andI .u64 y0 4294967295))) + (shrI .u64 (IntKind.u64.wrap ((andI .u64 x0 4294967295) * (andI .u64 y0 4294967295))) 32))) 4294967295) + (IntKind.u64.wrap ((andI .u64 x0 4294967295) * (shrI .u64 y0 32))))) 32)), IntKind.u64.wrap (x0 * y0)))
theorem i228 : ItemOk Tryz.prog (.fn 228 [.d (.int .u64), .d (.int .u64)] [.d (.int .u64), .d (.int .u64)] s228) := item_fnM md5 ext5 (U := 9) (n := 12) noSpecial mixed G1lK5_ok (fun x => by kernel_rfl)
noncomputable def G1lK6 : List Ev.Item := .fn 228 [.d (.int .u64), .d (.int .u64)] [.d (.int .u64), .d (.int .u64)] s228 :: G1lK5
theorem G1lK6_ok : ∀ q ∈ G1lK6, ItemOk Tryz.prog q := items_cons i228 G1lK5_ok
noncomputable def s269 : Int → Option (Int × Int) := fun n =>
 optE (s228 (IntKind.u64.wrap (mx n (wr (-n))), IntKind.u64.wrap (mx n (wr (-n))))) (fun r1 =>
  some (r1))
  (none)
theorem i269 : ItemOk Tryz.prog (.fn 269 [.d zI] [.d (.agg (.pair (.int .u64) (.int .u64)))] s269) := item_fnM md5 ext5 (U := 9) (n := 12) noSpecial mixed G1lK6_ok (fun x => by kernel_rfl)
noncomputable def G1lK7 : List Ev.Item := .fn 269 [.d zI] [.d (.agg (.pair (.int .u64) (.int .u64)))] s269 :: G1lK6
theorem G1lK7_ok : ∀ q ∈ G1lK7, ItemOk Tryz.prog q := items_cons i269 G1lK6_ok
noncomputable def s315 : (Int × Int × Int) × (Int × Int × Int) → Option (Int × Int × Int) := fun (t, o) =>
 some ((wr (t.1 - o.1), wr (t.2.1 - o.2.1), wr (t.2.2 - o.2.2)))
theorem i315 : ItemOk Tryz.prog (.fn 315 [.d (.agg (.pair zI zP)), .d (.agg (.pair zI zP))] [.d (.agg (.pair zI zP))] s315) := item_fnM md5 ext5 (U := 9) (n := 12) noSpecial mixed G1lK7_ok (fun x => by kernel_rfl)
noncomputable def G1lK8 : List Ev.Item := .fn 315 [.d (.agg (.pair zI zP)), .d (.agg (.pair zI zP))] [.d (.agg (.pair zI zP))] s315 :: G1lK7
theorem G1lK8_ok : ∀ q ∈ G1lK8, ItemOk Tryz.prog q := items_cons i315 G1lK7_ok
noncomputable def s327 : (Int × Int × Int) × (Int × Int × Int) → Option (Int) := fun (t, o) =>
 some (wr ((wr ((wr (t.1 * o.1)) + (wr (t.2.1 * o.2.1)))) + (wr (t.2.2 * o.2.2))))
theorem i327 : ItemOk Tryz.prog (.fn 327 [.d (.agg (.pair zI zP)), .d (.agg (.pair zI zP))] [.d zI] s327) := item_fnM md5 ext5 (U := 9) (n := 12) noSpecial mixed G1lK8_ok (fun x => by kernel_rfl)
noncomputable def G1lK9 : List Ev.Item := .fn 327 [.d (.agg (.pair zI zP)), .d (.agg (.pair zI zP))] [.d zI] s327 :: G1lK8
theorem G1lK9_ok : ∀ q ∈ G1lK9, ItemOk Tryz.prog q := items_cons i327 G1lK8_ok
noncomputable def s268 : (Int × Int) × (Int × Int) → Option (Bool) := fun (w, o) =>
 bif decide (w.1 < o.1) then
  some (true)
 else
  bif w.1 == o.1 then
   some (decide (w.2 < o.2))
  else
   some (false)
theorem i268 : ItemOk Tryz.prog (.fn 268 [.d (.agg (.pair (.int .u64) (.int .u64))), .d (.agg (.pair (.int .u64) (.int .u64)))] [.d .bool] s268) := item_fnM md5 ext5 (U := 9) (n := 12) noSpecial mixed G1lK9_ok (fun x => by kernel_rfl)
noncomputable def G1lK10 : List Ev.Item := .fn 268 [.d (.agg (.pair (.int .u64) (.int .u64))), .d (.agg (.pair (.int .u64) (.int .u64)))] [.d .bool] s268 :: G1lK9
theorem G1lK10_ok : ∀ q ∈ G1lK10, ItemOk Tryz.prog q := items_cons i268 G1lK9_ok
noncomputable def s343 : (Int × Int) × (Int × Int) → Option (Int × Int) := fun (w, o) =>
 bif (decide (0 ≤ w.2)) && ((decide (0 ≤ o.2)) && true) then
  some ((IntKind.u64.wrap ((IntKind.u64.wrap (w.1 + o.1)) + ((w.2 + o.2 + 0) / 18446744073709551616)), (w.2 + o.2 + 0) % 18446744073709551616))
 else
  none
theorem i343 : ItemOk Tryz.prog (.fn 343 [.d (.agg (.pair (.int .u64) (.int .u64))), .d (.agg (.pair (.int .u64) (.int .u64)))] [.d (.agg (.pair (.int .u64) (.int .u64)))] s343) := item_fnM md5 ext5 (U := 9) (n := 12) noSpecial mixed G1lK10_ok (fun x => by kernel_rfl)
noncomputable def G1lK11 : List Ev.Item := .fn 343 [.d (.agg (.pair (.int .u64) (.int .u64))), .d (.agg (.pair (.int .u64) (.int .u64)))] [.d (.agg (.pair (.int .u64) (.int .u64)))] s343 :: G1lK10
theorem G1lK11_ok : ∀ q ∈ G1lK11, ItemOk Tryz.prog q := items_cons i343 G1lK10_ok
end Go.Proofs.YtdoehknomnhlkaaGreatDoor
