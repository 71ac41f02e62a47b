/- Printed by gen.py: specifications of functions. -/
import Derived.Test.YthckjfbhdjjnkaaDoorLib4
import Derived.Test.YthckjfbhdjjnkaaDoorVec
set_option linter.unusedSimpArgs false
set_option maxRecDepth 100000
namespace Go.Proofs.YthckjfbhdjjnkaaDoor
open Go.Ev
noncomputable def s79 : Int × Int × Int → Option (Bool) := fun (n, lo, hi) =>
 bif decide (lo ≤ n) then
  some (decide (n ≤ hi))
 else
  some (false)
theorem i79 : ItemOk Tryd.prog (.fn 79 [.d zI, .d zI, .d zI] [.d .bool] s79) := item_fnM md4 ext4 (U := 9) (n := 12) noSpecial mixed K0_ok (fun x => by kernel_rfl)
noncomputable def Gd0K1 : List Ev.Item := .fn 79 [.d zI, .d zI, .d zI] [.d .bool] s79 :: K0
theorem Gd0K1_ok : ∀ q ∈ Gd0K1, ItemOk Tryd.prog q := items_cons i79 K0_ok
noncomputable def s105 : Int × Int → Option (Bool) := fun (n, most) =>
 optE (s79 (n, wr (-most), most)) (fun r1 =>
  some (r1))
  (none)
theorem i105 : ItemOk Tryd.prog (.fn 105 [.d zI, .d zI] [.d .bool] s105) := item_fnM md4 ext4 (U := 9) (n := 12) noSpecial mixed Gd0K1_ok (fun x => by kernel_rfl)
noncomputable def Gd0K2 : List Ev.Item := .fn 105 [.d zI, .d zI] [.d .bool] s105 :: Gd0K1
theorem Gd0K2_ok : ∀ q ∈ Gd0K2, ItemOk Tryd.prog q := items_cons i105 Gd0K1_ok
noncomputable def s82 : Bool × Int → Option (Int) := fun (is, e0) =>
 bif is then
  some (0)
 else
  some (e0)
theorem i82 : ItemOk Tryd.prog (.fn 82 [.d .bool, .d zI] [.d zI] s82) := item_fnM md4 ext4 (U := 9) (n := 12) noSpecial mixed Gd0K2_ok (fun x => by kernel_rfl)
noncomputable def Gd0K3 : List Ev.Item := .fn 82 [.d .bool, .d zI] [.d zI] s82 :: Gd0K2
theorem Gd0K3_ok : ∀ q ∈ Gd0K3, ItemOk Tryd.prog q := items_cons i82 Gd0K2_ok
noncomputable def s107 : Int → Option (Int) := fun n =>
 bif decide (n > 0) then
  some (0)
 else
  bif decide (n < 0) then
   some (1)
  else
   some ((-1))
theorem i107 : ItemOk Tryd.prog (.fn 107 [.d zI] [.d zI] s107) := item_fnM md4 ext4 (U := 9) (n := 12) noSpecial mixed Gd0K3_ok (fun x => by kernel_rfl)
noncomputable def Gd0K4 : List Ev.Item := .fn 107 [.d zI] [.d zI] s107 :: Gd0K3
theorem Gd0K4_ok : ∀ q ∈ Gd0K4, ItemOk Tryd.prog q := items_cons i107 Gd0K3_ok
noncomputable def s95 : Int × Int → Option (Int) := fun z =>
 some (wr ((wr (z.1 * z.1)) + (wr (z.2 * z.2))))
theorem i95 : ItemOk Tryd.prog (.fn 95 [.d (.agg zP)] [.d zI] s95) := item_fnM md4 ext4 (U := 9) (n := 12) noSpecial mixed Gd0K4_ok (fun x => by kernel_rfl)
noncomputable def Gd0K5 : List Ev.Item := .fn 95 [.d (.agg zP)] [.d zI] s95 :: Gd0K4
theorem Gd0K5_ok : ∀ q ∈ Gd0K5, ItemOk Tryd.prog q := items_cons i95 Gd0K4_ok
noncomputable def s117 : Int → Option (Bool) := fun n =>
 optE (s79 (n, 0, 1)) (fun r1 =>
  some (r1))
  (none)
theorem i117 : ItemOk Tryd.prog (.fn 117 [.d zI] [.d .bool] s117) := item_fnM md4 ext4 (U := 9) (n := 12) noSpecial mixed Gd0K5_ok (fun x => by kernel_rfl)
noncomputable def Gd0K6 : List Ev.Item := .fn 117 [.d zI] [.d .bool] s117 :: Gd0K5
theorem Gd0K6_ok : ∀ q ∈ Gd0K6, ItemOk Tryd.prog q := items_cons i117 Gd0K5_ok
noncomputable def s119 : Int → Option (Bool) := fun n =>
 optE (s105 (n, 7)) (fun r1 =>
  some (r1))
  (none)
theorem i119 : ItemOk Tryd.prog (.fn 119 [.d zI] [.d .bool] s119) := item_fnM md4 ext4 (U := 9) (n := 12) noSpecial mixed Gd0K6_ok (fun x => by kernel_rfl)
noncomputable def Gd0K7 : List Ev.Item := .fn 119 [.d zI] [.d .bool] s119 :: Gd0K6
theorem Gd0K7_ok : ∀ q ∈ Gd0K7, ItemOk Tryd.prog q := items_cons i119 Gd0K6_ok
noncomputable def s93 : Int → Option (Bool) := fun n =>
 optE (s79 (n, 0, 3)) (fun r1 =>
  some (r1))
  (none)
theorem i93 : ItemOk Tryd.prog (.fn 93 [.d zI] [.d .bool] s93) := item_fnM md4 ext4 (U := 9) (n := 12) noSpecial mixed Gd0K7_ok (fun x => by kernel_rfl)
noncomputable def Gd0K8 : List Ev.Item := .fn 93 [.d zI] [.d .bool] s93 :: Gd0K7
theorem Gd0K8_ok : ∀ q ∈ Gd0K8, ItemOk Tryd.prog q := items_cons i93 Gd0K7_ok
noncomputable def s123 : Int × Int → Option (Bool) := fun z =>
 optE (s105 (z.1, 2000)) (fun r1 =>
  bif r1 then
   optE (s105 (z.2, 2000)) (fun r2 =>
    some (r2))
    (none)
  else
   some (false))
  (none)
theorem i123 : ItemOk Tryd.prog (.fn 123 [.d (.agg zP)] [.d .bool] s123) := item_fnM md4 ext4 (U := 9) (n := 12) noSpecial mixed Gd0K8_ok (fun x => by kernel_rfl)
noncomputable def Gd0K9 : List Ev.Item := .fn 123 [.d (.agg zP)] [.d .bool] s123 :: Gd0K8
theorem Gd0K9_ok : ∀ q ∈ Gd0K9, ItemOk Tryd.prog q := items_cons i123 Gd0K8_ok
end Go.Proofs.YthckjfbhdjjnkaaDoor
