/- Printed by gen.py: specifications of functions. -/
import Derived.Test.YthckjfbhdjjnkaaExt4
import Derived.Test.YthckjfbhdjjnkaaVec
set_option linter.unusedSimpArgs false
set_option maxRecDepth 100000
namespace Go.Proofs.Ythckjfbhdjjnkaa
open Go.Ev
noncomputable def s40 : Int × Int × Int → Option (Bool) := fun (n, lo, hi) =>
 bif decide (lo ≤ n) then
  some (decide (n ≤ hi))
 else
  some (false)
theorem i40 : ItemOk Try.prog (.fn 40 [.d zI, .d zI, .d zI] [.d .bool] s40) := item_fnM md4 ext4 (U := 9) (n := 12) noSpecial mixed items_nil (fun x => by kernel_rfl)
noncomputable def Gp0K1 : List Ev.Item := .fn 40 [.d zI, .d zI, .d zI] [.d .bool] s40 :: ([] : List Ev.Item)
theorem Gp0K1_ok : ∀ q ∈ Gp0K1, ItemOk Try.prog q := items_cons i40 items_nil
noncomputable def s42 : Int × Int → Option (Bool) := fun (n, most) =>
 optE (s40 (n, wr (-most), most)) (fun r1 =>
  some (r1))
  (none)
theorem i42 : ItemOk Try.prog (.fn 42 [.d zI, .d zI] [.d .bool] s42) := item_fnM md4 ext4 (U := 9) (n := 12) noSpecial mixed Gp0K1_ok (fun x => by kernel_rfl)
noncomputable def Gp0K2 : List Ev.Item := .fn 42 [.d zI, .d zI] [.d .bool] s42 :: Gp0K1
theorem Gp0K2_ok : ∀ q ∈ Gp0K2, ItemOk Try.prog q := items_cons i42 Gp0K1_ok
noncomputable def s39 : Bool × Int → Option (Int) := fun (is, e0) =>
 bif is then
  some (0)
 else
  some (e0)
theorem i39 : ItemOk Try.prog (.fn 39 [.d .bool, .d zI] [.d zI] s39) := item_fnM md4 ext4 (U := 9) (n := 12) noSpecial mixed Gp0K2_ok (fun x => by kernel_rfl)
noncomputable def Gp0K3 : List Ev.Item := .fn 39 [.d .bool, .d zI] [.d zI] s39 :: Gp0K2
theorem Gp0K3_ok : ∀ q ∈ Gp0K3, ItemOk Try.prog q := items_cons i39 Gp0K2_ok
noncomputable def s97 : Int → Option (Int) := fun n =>
 bif decide (n > 0) then
  some (0)
 else
  bif decide (n < 0) then
   some (1)
  else
   some ((-1))
theorem i97 : ItemOk Try.prog (.fn 97 [.d zI] [.d zI] s97) := item_fnM md4 ext4 (U := 9) (n := 12) noSpecial mixed Gp0K3_ok (fun x => by kernel_rfl)
noncomputable def Gp0K4 : List Ev.Item := .fn 97 [.d zI] [.d zI] s97 :: Gp0K3
theorem Gp0K4_ok : ∀ q ∈ Gp0K4, ItemOk Try.prog q := items_cons i97 Gp0K3_ok
noncomputable def s58 : Int × Int → Option (Int) := fun z =>
 some (wr ((wr (z.1 * z.1)) + (wr (z.2 * z.2))))
theorem i58 : ItemOk Try.prog (.fn 58 [.d (.agg zP)] [.d zI] s58) := item_fnM md4 ext4 (U := 9) (n := 12) noSpecial mixed Gp0K4_ok (fun x => by kernel_rfl)
noncomputable def Gp0K5 : List Ev.Item := .fn 58 [.d (.agg zP)] [.d zI] s58 :: Gp0K4
theorem Gp0K5_ok : ∀ q ∈ Gp0K5, ItemOk Try.prog q := items_cons i58 Gp0K4_ok
noncomputable def s94 : Int → Option (Bool) := fun n =>
 optE (s40 (n, 0, 1)) (fun r1 =>
  some (r1))
  (none)
theorem i94 : ItemOk Try.prog (.fn 94 [.d zI] [.d .bool] s94) := item_fnM md4 ext4 (U := 9) (n := 12) noSpecial mixed Gp0K5_ok (fun x => by kernel_rfl)
noncomputable def Gp0K6 : List Ev.Item := .fn 94 [.d zI] [.d .bool] s94 :: Gp0K5
theorem Gp0K6_ok : ∀ q ∈ Gp0K6, ItemOk Try.prog q := items_cons i94 Gp0K5_ok
noncomputable def s88 : Int → Option (Bool) := fun n =>
 optE (s42 (n, 7)) (fun r1 =>
  some (r1))
  (none)
theorem i88 : ItemOk Try.prog (.fn 88 [.d zI] [.d .bool] s88) := item_fnM md4 ext4 (U := 9) (n := 12) noSpecial mixed Gp0K6_ok (fun x => by kernel_rfl)
noncomputable def Gp0K7 : List Ev.Item := .fn 88 [.d zI] [.d .bool] s88 :: Gp0K6
theorem Gp0K7_ok : ∀ q ∈ Gp0K7, ItemOk Try.prog q := items_cons i88 Gp0K6_ok
noncomputable def s57 : Int × Int → Option (Bool) := fun z =>
 optE (s42 (z.1, 2000)) (fun r1 =>
  bif r1 then
   optE (s42 (z.2, 2000)) (fun r2 =>
    some (r2))
    (none)
  else
   some (false))
  (none)
theorem i57 : ItemOk Try.prog (.fn 57 [.d (.agg zP)] [.d .bool] s57) := item_fnM md4 ext4 (U := 9) (n := 12) noSpecial mixed Gp0K7_ok (fun x => by kernel_rfl)
noncomputable def Gp0K8 : List Ev.Item := .fn 57 [.d (.agg zP)] [.d .bool] s57 :: Gp0K7
theorem Gp0K8_ok : ∀ q ∈ Gp0K8, ItemOk Try.prog q := items_cons i57 Gp0K7_ok
end Go.Proofs.Ythckjfbhdjjnkaa
