import Derived.Test.YtdoehknomnhlkaaGreatDoorExts
import Derived.Test.YtdoehknomnhlkaaGreatDoorBase
import Derived.Test.YtdoehknomnhlkaaGreatDoorVec
set_option linter.unusedSimpArgs false
set_option maxRecDepth 100000
namespace Go.Proofs.YtdoehknomnhlkaaGreatDoor
open Go.Ev
noncomputable def s117 : Int × Int × Int → Option (Bool) := fun (n, lo, hi) =>
 bif decide (lo ≤ n) then
  some (decide (n ≤ hi))
 else
  some (false)
theorem i117 : ItemOk Tryz.prog (.fn 117 [.d zI, .d zI, .d zI] [.d .bool] s117) := item_fnM md5 ext5 (U := 9) (n := 12) noSpecial mixed items_nil (fun x => by kernel_rfl)
noncomputable def G7lK1 : List Ev.Item := .fn 117 [.d zI, .d zI, .d zI] [.d .bool] s117 :: ([] : List Ev.Item)
theorem G7lK1_ok : ∀ q ∈ G7lK1, ItemOk Tryz.prog q := items_cons i117 items_nil
noncomputable def s148 : Int × Int → Option (Bool) := fun (n, most) =>
 optE (s117 (n, wr (-most), most)) (fun r1 =>
  some (r1))
  (none)
theorem i148 : ItemOk Tryz.prog (.fn 148 [.d zI, .d zI] [.d .bool] s148) := item_fnM md5 ext5 (U := 9) (n := 12) noSpecial mixed G7lK1_ok (fun x => by kernel_rfl)
noncomputable def G7lK2 : List Ev.Item := .fn 148 [.d zI, .d zI] [.d .bool] s148 :: G7lK1
theorem G7lK2_ok : ∀ q ∈ G7lK2, ItemOk Tryz.prog q := items_cons i148 G7lK1_ok
noncomputable def s226 : Int → Option (Int) := fun n =>
 some (mx n (wr (-n)))
theorem i226 : ItemOk Tryz.prog (.fn 226 [.d zI] [.d zI] s226) := item_fnM md5 ext5 (U := 9) (n := 12) noSpecial mixed G7lK2_ok (fun x => by kernel_rfl)
noncomputable def G7lK3 : List Ev.Item := .fn 226 [.d zI] [.d zI] s226 :: G7lK2
theorem G7lK3_ok : ∀ q ∈ G7lK3, ItemOk Tryz.prog q := items_cons i226 G7lK2_ok
noncomputable def s145 : Bool × Int → Option (Int) := fun (is, e0) =>
 bif is then
  some (0)
 else
  some (e0)
theorem i145 : ItemOk Tryz.prog (.fn 145 [.d .bool, .d zI] [.d zI] s145) := item_fnM md5 ext5 (U := 9) (n := 12) noSpecial mixed G7lK3_ok (fun x => by kernel_rfl)
noncomputable def G7lK4 : List Ev.Item := .fn 145 [.d .bool, .d zI] [.d zI] s145 :: G7lK3
theorem G7lK4_ok : ∀ q ∈ G7lK4, ItemOk Tryz.prog q := items_cons i145 G7lK3_ok
noncomputable def s152 : Int → Option (Int) := fun n =>
 optE (s117 (n, 0, 1000)) (fun r1 =>
  optE (s145 (r1, 2)) (fun r2 =>
   some (r2))
   (none))
  (none)
theorem i152 : ItemOk Tryz.prog (.fn 152 [.d zI] [.d zI] s152) := item_fnM md5 ext5 (U := 9) (n := 12) noSpecial mixed G7lK4_ok (fun x => by kernel_rfl)
noncomputable def G7lK5 : List Ev.Item := .fn 152 [.d zI] [.d zI] s152 :: G7lK4
theorem G7lK5_ok : ∀ q ∈ G7lK5, ItemOk Tryz.prog q := items_cons i152 G7lK4_ok
noncomputable def s252 : (Int × Int × Int) × Int → Option (Bool) := fun (t, d) =>
 bif !(t.1 == 0) then
  some (decide ((Int.tmod (wr ((wr (d - t.2.1)) + t.1)) t.1) ≤ (wr (t.2.2 - t.2.1))))
 else
  none
theorem i252 : ItemOk Tryz.prog (.fn 252 [.d (.agg (.pair zI zP)), .d zI] [.d .bool] s252) := item_fnM md5 ext5 (U := 9) (n := 12) noSpecial mixed G7lK5_ok (fun x => by kernel_rfl)
noncomputable def G7lK6 : List Ev.Item := .fn 252 [.d (.agg (.pair zI zP)), .d zI] [.d .bool] s252 :: G7lK5
theorem G7lK6_ok : ∀ q ∈ G7lK6, ItemOk Tryz.prog q := items_cons i252 G7lK5_ok
noncomputable def s218 : (Int × Int) × (Int × Int) → Option (Int) := fun (v, w) =>
 some (wr ((wr (v.1 * w.2)) - (wr (w.1 * v.2))))
theorem i218 : ItemOk Tryz.prog (.fn 218 [.d (.agg zP), .d (.agg zP)] [.d zI] s218) := item_fnM md5 ext5 (U := 9) (n := 12) noSpecial mixed G7lK6_ok (fun x => by kernel_rfl)
noncomputable def G7lK7 : List Ev.Item := .fn 218 [.d (.agg zP), .d (.agg zP)] [.d zI] s218 :: G7lK6
theorem G7lK7_ok : ∀ q ∈ G7lK7, ItemOk Tryz.prog q := items_cons i218 G7lK6_ok
noncomputable def s219 : (Int × Int) × (Int × Int) → Option (Int) := fun (v, w) =>
 optE (s218 (v, w)) (fun r1 =>
  bif r1 != 0 then
   some (0)
  else
   bif decide ((wr ((wr (v.1 * w.1)) + (wr (v.2 * w.2)))) ≤ 0) then
    some (0)
   else
    bif w.1 != 0 then
     bif !(w.1 == 0) then
      some (wr (Int.tdiv v.1 w.1))
     else
      none
    else
     bif !(w.2 == 0) then
      some (wr (Int.tdiv v.2 w.2))
     else
      none)
  (none)
theorem i219 : ItemOk Tryz.prog (.fn 219 [.d (.agg zP), .d (.agg zP)] [.d zI] s219) := item_fnM md5 ext5 (U := 9) (n := 12) noSpecial mixed G7lK7_ok (fun x => by kernel_rfl)
noncomputable def G7lK8 : List Ev.Item := .fn 219 [.d (.agg zP), .d (.agg zP)] [.d zI] s219 :: G7lK7
theorem G7lK8_ok : ∀ q ∈ G7lK8, ItemOk Tryz.prog q := items_cons i219 G7lK7_ok
noncomputable def s220 : Int × Int → Option (Int × Int) := fun v =>
 some ((wr (-v.1), wr (-v.2)))
theorem i220 : ItemOk Tryz.prog (.fn 220 [.d (.agg zP)] [.d (.agg zP)] s220) := item_fnM md5 ext5 (U := 9) (n := 12) noSpecial mixed G7lK8_ok (fun x => by kernel_rfl)
noncomputable def G7lK9 : List Ev.Item := .fn 220 [.d (.agg zP)] [.d (.agg zP)] s220 :: G7lK8
theorem G7lK9_ok : ∀ q ∈ G7lK9, ItemOk Tryz.prog q := items_cons i220 G7lK8_ok
noncomputable def s225 : (((List (Int × Bool × Int)) × Int) × Int) × (((List (Int × Bool × Int)) × Int) × Int) → Option (Bool) := fun (b, o) =>
 some (decide ((wr (b.2 * o.1.2)) < (wr (o.2 * b.1.2))))
theorem i225 : ItemOk Tryz.prog (.fn 225 [.d (.agg (.pair (.pair (.slice (.agg (.pair zI (.pair .bool zI)))) zI) zI)), .d (.agg (.pair (.pair (.slice (.agg (.pair zI (.pair .bool zI)))) zI) zI))] [.d .bool] s225) := item_fnM md5 ext5 (U := 9) (n := 12) noSpecial mixed G7lK9_ok (fun x => by kernel_rfl)
noncomputable def G7lK10 : List Ev.Item := .fn 225 [.d (.agg (.pair (.pair (.slice (.agg (.pair zI (.pair .bool zI)))) zI) zI)), .d (.agg (.pair (.pair (.slice (.agg (.pair zI (.pair .bool zI)))) zI) zI))] [.d .bool] s225 :: G7lK9
theorem G7lK10_ok : ∀ q ∈ G7lK10, ItemOk Tryz.prog q := items_cons i225 G7lK9_ok
noncomputable def s221 : ((Int × Int) × Int × Int × Bool) × ((Int × Int) × Int × Int × Bool) → Option (Bool) := fun (r0, s) =>
 bif r0.1.1 != 0 then
  some (decide ((wr (-s.2.1)) ≤ r0.2.1))
 else
  optE (s226 r0.1.2) (fun r1 =>
   optE (s226 s.1.2) (fun r2 =>
    some (decide ((wr ((wr (-s.2.1)) * r1)) ≤ (wr (r0.2.1 * r2)))))
    (none))
   (none)
theorem i221 : ItemOk Tryz.prog (.fn 221 [.d (.agg (.pair zP (.pair zI (.pair zI .bool)))), .d (.agg (.pair zP (.pair zI (.pair zI .bool))))] [.d .bool] s221) := item_fnM md5 ext5 (U := 9) (n := 12) noSpecial mixed G7lK10_ok (fun x => by kernel_rfl)
noncomputable def G7lK11 : List Ev.Item := .fn 221 [.d (.agg (.pair zP (.pair zI (.pair zI .bool)))), .d (.agg (.pair zP (.pair zI (.pair zI .bool))))] [.d .bool] s221 :: G7lK10
theorem G7lK11_ok : ∀ q ∈ G7lK11, ItemOk Tryz.prog q := items_cons i221 G7lK10_ok
end Go.Proofs.YtdoehknomnhlkaaGreatDoor
