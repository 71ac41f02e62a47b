import Derived.Test.YtdoehknomnhlkaaGreatDoorExts
import Derived.Test.YtdoehknomnhlkaaGreatDoorLib5c
import Derived.Test.YtdoehknomnhlkaaGreatDoorVec
set_option linter.unusedSimpArgs false
set_option maxRecDepth 100000
namespace Go.Proofs.YtdoehknomnhlkaaGreatDoor
open Go.Ev
noncomputable def s193 : Int × Int × Int → Option (Bool) := fun (n, lo, hi) =>
 bif decide (lo ≤ n) then
  some (decide (n ≤ hi))
 else
  some (false)
theorem i193 : ItemOk Tryz.prog (.fn 193 [.d zI, .d zI, .d zI] [.d .bool] s193) := item_fnM md5 ext5 (U := 9) (n := 12) noSpecial mixed K0c_ok (fun x => by kernel_rfl)
noncomputable def G4lK1 : List Ev.Item := .fn 193 [.d zI, .d zI, .d zI] [.d .bool] s193 :: K0c
theorem G4lK1_ok : ∀ q ∈ G4lK1, ItemOk Tryz.prog q := items_cons i193 K0c_ok
noncomputable def s115 : Int × Int → Option (Bool) := fun (n, most) =>
 optE (s193 (n, wr (-most), most)) (fun r1 =>
  some (r1))
  (none)
theorem i115 : ItemOk Tryz.prog (.fn 115 [.d zI, .d zI] [.d .bool] s115) := item_fnM md5 ext5 (U := 9) (n := 12) noSpecial mixed G4lK1_ok (fun x => by kernel_rfl)
noncomputable def G4lK2 : List Ev.Item := .fn 115 [.d zI, .d zI] [.d .bool] s115 :: G4lK1
theorem G4lK2_ok : ∀ q ∈ G4lK2, ItemOk Tryz.prog q := items_cons i115 G4lK1_ok
noncomputable def s192 : Bool × Int → Option (Int) := fun (is, e0) =>
 bif is then
  some (0)
 else
  some (e0)
theorem i192 : ItemOk Tryz.prog (.fn 192 [.d .bool, .d zI] [.d zI] s192) := item_fnM md5 ext5 (U := 9) (n := 12) noSpecial mixed G4lK2_ok (fun x => by kernel_rfl)
noncomputable def G4lK3 : List Ev.Item := .fn 192 [.d .bool, .d zI] [.d zI] s192 :: G4lK2
theorem G4lK3_ok : ∀ q ∈ G4lK3, ItemOk Tryz.prog q := items_cons i192 G4lK2_ok
noncomputable def s347 : Int → Option (Int) := fun n =>
 bif decide (n > 0) then
  some (0)
 else
  bif decide (n < 0) then
   some (1)
  else
   some ((-1))
theorem i347 : ItemOk Tryz.prog (.fn 347 [.d zI] [.d zI] s347) := item_fnM md5 ext5 (U := 9) (n := 12) noSpecial mixed G4lK3_ok (fun x => by kernel_rfl)
noncomputable def G4lK4 : List Ev.Item := .fn 347 [.d zI] [.d zI] s347 :: G4lK3
theorem G4lK4_ok : ∀ q ∈ G4lK4, ItemOk Tryz.prog q := items_cons i347 G4lK3_ok
noncomputable def s114 : Int → Option (Bool) := fun n =>
 optE (s193 (n, 0, 1)) (fun r1 =>
  some (r1))
  (none)
theorem i114 : ItemOk Tryz.prog (.fn 114 [.d zI] [.d .bool] s114) := item_fnM md5 ext5 (U := 9) (n := 12) noSpecial mixed G4lK4_ok (fun x => by kernel_rfl)
noncomputable def G4lK5 : List Ev.Item := .fn 114 [.d zI] [.d .bool] s114 :: G4lK4
theorem G4lK5_ok : ∀ q ∈ G4lK5, ItemOk Tryz.prog q := items_cons i114 G4lK4_ok
noncomputable def s197 : Int → Option (Bool) := fun n =>
 optE (s115 (n, 7)) (fun r1 =>
  some (r1))
  (none)
theorem i197 : ItemOk Tryz.prog (.fn 197 [.d zI] [.d .bool] s197) := item_fnM md5 ext5 (U := 9) (n := 12) noSpecial mixed G4lK5_ok (fun x => by kernel_rfl)
noncomputable def G4lK6 : List Ev.Item := .fn 197 [.d zI] [.d .bool] s197 :: G4lK5
theorem G4lK6_ok : ∀ q ∈ G4lK6, ItemOk Tryz.prog q := items_cons i197 G4lK5_ok
end Go.Proofs.YtdoehknomnhlkaaGreatDoor
