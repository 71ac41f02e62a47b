/- Printed by gen.py: specifications of functions. -/
import Derived.Test.YtfpppijfkeidgaaGreatDoorExts
import Derived.Test.YtfpppijfkeidgaaGreatDoorBase
import Derived.Test.YtfpppijfkeidgaaGreatDoorVec
import Derived.Test.YtfpppijfkeidgaaGreatDoorLoops
set_option linter.unusedSimpArgs false
set_option maxRecDepth 100000
namespace Go.Proofs.YtfpppijfkeidgaaGreatDoor
open Go.Ev
noncomputable def s31 : Int × Int × Int → Option (Bool) := fun (n, lo, hi) =>
 bif decide (lo ≤ n) then
  some (decide (n ≤ hi))
 else
  some (false)
theorem i31 : ItemOk Tryz.prog (.fn 31 [.d zI, .d zI, .d zI] [.d .bool] s31) := item_fnM md5 ext5 (U := 9) (n := 12) noSpecial mixed items_nil (fun x => by kernel_rfl)
theorem j31 : ItemOk Tryz.prog (.fn 31 [.d zI, .d zI, .d zI] [.d .bool] (fun x => some (win x.1 x.2.1 x.2.2))) := item_imp i31 (by
 rintro ⟨n, lo, hi⟩ y h
 rw [← h]; show s31 (n, lo, hi) = some (win n lo hi); simp only [s31, win]; cases decide (lo ≤ n) <;> rfl)
noncomputable def G7lK1 : List Ev.Item := .fn 31 [.d zI, .d zI, .d zI] [.d .bool] (fun x => some (win x.1 x.2.1 x.2.2)) :: ([] : List Ev.Item)
theorem G7lK1_ok : ∀ q ∈ G7lK1, ItemOk Tryz.prog q := items_cons j31 items_nil
noncomputable def s33 : Int × Int → Option (Bool) := fun (n, most) =>
 some (win n (wr (-most)) most)
theorem i33 : ItemOk Tryz.prog (.fn 33 [.d zI, .d zI] [.d .bool] s33) := item_fnM md5 ext5 (U := 9) (n := 12) noSpecial mixed G7lK1_ok (fun x => by kernel_rfl)
theorem j33 : ItemOk Tryz.prog (.fn 33 [.d zI, .d zI] [.d .bool] (fun x => some (win x.1 (wr (-x.2)) x.2))) := item_imp i33 (by
 rintro ⟨n, m⟩ y h
 rw [← h]; rfl)
noncomputable def G7lK2 : List Ev.Item := .fn 33 [.d zI, .d zI] [.d .bool] (fun x => some (win x.1 (wr (-x.2)) x.2)) :: G7lK1
theorem G7lK2_ok : ∀ q ∈ G7lK2, ItemOk Tryz.prog q := items_cons j33 G7lK1_ok
noncomputable def s72 : Int → Option (Int) := fun n =>
 some (mx n (wr (-n)))
theorem i72 : ItemOk Tryz.prog (.fn 72 [.d zI] [.d zI] s72) := item_fnM md5 ext5 (U := 9) (n := 12) noSpecial mixed G7lK2_ok (fun x => by kernel_rfl)
noncomputable def G7lK3 : List Ev.Item := .fn 72 [.d zI] [.d zI] s72 :: G7lK2
theorem G7lK3_ok : ∀ q ∈ G7lK3, ItemOk Tryz.prog q := items_cons i72 G7lK2_ok
noncomputable def s29 : Bool × Int → Option (Int) := fun (is, e0) =>
 bif is then
  some (0)
 else
  some (e0)
theorem i29 : ItemOk Tryz.prog (.fn 29 [.d .bool, .d zI] [.d zI] s29) := item_fnM md5 ext5 (U := 9) (n := 12) noSpecial mixed G7lK3_ok (fun x => by kernel_rfl)
theorem j29 : ItemOk Tryz.prog (.fn 29 [.d .bool, .d zI] [.d zI] (fun x => some (unl x.1 x.2))) := item_imp i29 (by
 rintro ⟨b, e⟩ y h
 rw [← h]; show s29 (b, e) = some (unl b e); simp only [s29, unl]; cases b <;> rfl)
noncomputable def G7lK4 : List Ev.Item := .fn 29 [.d .bool, .d zI] [.d zI] (fun x => some (unl x.1 x.2)) :: G7lK3
theorem G7lK4_ok : ∀ q ∈ G7lK4, ItemOk Tryz.prog q := items_cons j29 G7lK3_ok
noncomputable def s43 : Int → Option (Int) := fun n =>
 some (unl (win n 0 1000) 2)
theorem i43 : ItemOk Tryz.prog (.fn 43 [.d zI] [.d zI] s43) := item_fnM md5 ext5 (U := 9) (n := 12) noSpecial mixed G7lK4_ok (fun x => by kernel_rfl)
theorem j43 : ItemOk Tryz.prog (.fn 43 [.d zI] [.d zI] (fun x => some (unl (win x 0 1000) 2))) := item_imp i43 (by
 intro n y h
 rw [← h]; rfl)
noncomputable def G7lK5 : List Ev.Item := .fn 43 [.d zI] [.d zI] (fun x => some (unl (win x 0 1000) 2)) :: G7lK4
theorem G7lK5_ok : ∀ q ∈ G7lK5, ItemOk Tryz.prog q := items_cons j43 G7lK4_ok
noncomputable def s77 : (Int × Int × Int) × Int → Option (Bool) := fun (t, d) =>
 bif !(t.1 == 0) then
  some (decide ((Int.tmod (wr ((wr (d - t.2.1)) + t.1)) t.1) ≤ (wr (t.2.2 - t.2.1))))
 else
  none
theorem i77 : ItemOk Tryz.prog (.fn 77 [.d (.agg (.pair zI zP)), .d zI] [.d .bool] s77) := item_fnM md5 ext5 (U := 9) (n := 12) noSpecial mixed G7lK5_ok (fun x => by kernel_rfl)
noncomputable def G7lK6 : List Ev.Item := .fn 77 [.d (.agg (.pair zI zP)), .d zI] [.d .bool] s77 :: G7lK5
theorem G7lK6_ok : ∀ q ∈ G7lK6, ItemOk Tryz.prog q := items_cons i77 G7lK5_ok
noncomputable def s63 : (Int × Int) × (Int × Int) → Option (Int) := fun (v, w) =>
 some (wr ((wr (v.1 * w.2)) - (wr (w.1 * v.2))))
theorem i63 : ItemOk Tryz.prog (.fn 63 [.d (.agg zP), .d (.agg zP)] [.d zI] s63) := item_fnM md5 ext5 (U := 9) (n := 12) noSpecial mixed G7lK6_ok (fun x => by kernel_rfl)
noncomputable def G7lK7 : List Ev.Item := .fn 63 [.d (.agg zP), .d (.agg zP)] [.d zI] s63 :: G7lK6
theorem G7lK7_ok : ∀ q ∈ G7lK7, ItemOk Tryz.prog q := items_cons i63 G7lK6_ok
noncomputable def s64 : (Int × Int) × (Int × Int) → Option (Int) := fun (v, w) =>
 optE (s63 (v, w)) (fun r1 =>
  bif r1 != 0 then
   some (0)
  else
   bif decide ((wr ((wr (v.1 * w.1)) + (wr (v.2 * w.2)))) ≤ 0) then
    some (0)
   else
    bif w.1 != 0 then
     bif !(w.1 == 0) then
      some (wr (Int.tdiv v.1 w.1))
     else
      none
    else
     bif !(w.2 == 0) then
      some (wr (Int.tdiv v.2 w.2))
     else
      none)
  (none)
theorem i64 : ItemOk Tryz.prog (.fn 64 [.d (.agg zP), .d (.agg zP)] [.d zI] s64) := item_fnM md5 ext5 (U := 9) (n := 12) noSpecial mixed G7lK7_ok (fun x => by kernel_rfl)
noncomputable def G7lK8 : List Ev.Item := .fn 64 [.d (.agg zP), .d (.agg zP)] [.d zI] s64 :: G7lK7
theorem G7lK8_ok : ∀ q ∈ G7lK8, ItemOk Tryz.prog q := items_cons i64 G7lK7_ok
noncomputable def s65 : Int × Int → Option (Int × Int) := fun v =>
 some ((wr (-v.1), wr (-v.2)))
theorem i65 : ItemOk Tryz.prog (.fn 65 [.d (.agg zP)] [.d (.agg zP)] s65) := item_fnM md5 ext5 (U := 9) (n := 12) noSpecial mixed G7lK8_ok (fun x => by kernel_rfl)
noncomputable def G7lK9 : List Ev.Item := .fn 65 [.d (.agg zP)] [.d (.agg zP)] s65 :: G7lK8
theorem G7lK9_ok : ∀ q ∈ G7lK9, ItemOk Tryz.prog q := items_cons i65 G7lK8_ok
noncomputable def s71 : (((List (Int × Bool × Int)) × Int) × Int) × (((List (Int × Bool × Int)) × Int) × Int) → Option (Bool) := fun (b, o) =>
 some (decide ((wr (b.2 * o.1.2)) < (wr (o.2 * b.1.2))))
theorem i71 : ItemOk Tryz.prog (.fn 71 [.d (.agg (.pair (.pair (.slice (.agg (.pair zI (.pair .bool zI)))) zI) zI)), .d (.agg (.pair (.pair (.slice (.agg (.pair zI (.pair .bool zI)))) zI) zI))] [.d .bool] s71) := item_fnM md5 ext5 (U := 9) (n := 12) noSpecial mixed G7lK9_ok (fun x => by kernel_rfl)
noncomputable def G7lK10 : List Ev.Item := .fn 71 [.d (.agg (.pair (.pair (.slice (.agg (.pair zI (.pair .bool zI)))) zI) zI)), .d (.agg (.pair (.pair (.slice (.agg (.pair zI (.pair .bool zI)))) zI) zI))] [.d .bool] s71 :: G7lK9
theorem G7lK10_ok : ∀ q ∈ G7lK10, ItemOk Tryz.prog q := items_cons i71 G7lK9_ok
noncomputable def s66 : ((Int × Int) × Int × Int × Bool) × ((Int × Int) × Int × Int × Bool) → Option (Bool) := fun (r0, s) =>
 bif r0.1.1 != 0 then
  some (decide ((wr (-s.2.1)) ≤ r0.2.1))
 else
  optE (s72 r0.1.2) (fun r1 =>
   optE (s72 s.1.2) (fun r2 =>
    some (decide ((wr ((wr (-s.2.1)) * r1)) ≤ (wr (r0.2.1 * r2)))))
    (none))
   (none)
theorem i66 : ItemOk Tryz.prog (.fn 66 [.d (.agg (.pair zP (.pair zI (.pair zI .bool)))), .d (.agg (.pair zP (.pair zI (.pair zI .bool))))] [.d .bool] s66) := item_fnM md5 ext5 (U := 9) (n := 12) noSpecial mixed G7lK10_ok (fun x => by kernel_rfl)
noncomputable def G7lK11 : List Ev.Item := .fn 66 [.d (.agg (.pair zP (.pair zI (.pair zI .bool)))), .d (.agg (.pair zP (.pair zI (.pair zI .bool))))] [.d .bool] s66 :: G7lK10
theorem G7lK11_ok : ∀ q ∈ G7lK11, ItemOk Tryz.prog q := items_cons i66 G7lK10_ok
end Go.Proofs.YtfpppijfkeidgaaGreatDoor
