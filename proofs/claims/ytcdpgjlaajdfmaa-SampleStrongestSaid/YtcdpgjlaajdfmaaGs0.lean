/- Printed by gen.py: specifications of functions. -/
import Derived.Test.YtcdpgjlaajdfmaaExt2
import Derived.Test.YtcdpgjlaajdfmaaVec
set_option linter.unusedSimpArgs false
set_option maxRecDepth 100000
namespace Go.Proofs.Ytcdpgjlaajdfmaa
open Go.Ev
noncomputable def s21 : Int × Int × Int → Option (Bool) := fun (n, lo, hi) =>
 bif decide (lo ≤ n) then
  some (decide (n ≤ hi))
 else
  some (false)
theorem i21 : ItemOk Try.prog (.fn 21 [.d zI, .d zI, .d zI] [.d .bool] s21) := item_fnM md2 ext2 (U := 9) (n := 12) noSpecial mixed items_nil (fun x => by kernel_rfl)
noncomputable def Gs0K1 : List Ev.Item := .fn 21 [.d zI, .d zI, .d zI] [.d .bool] s21 :: ([] : List Ev.Item)
theorem Gs0K1_ok : ∀ q ∈ Gs0K1, ItemOk Try.prog q := items_cons i21 items_nil
noncomputable def s56 : (Int × Int) × Int → Option (Bool) := fun (g, most) =>
 optE (s21 (g.1, wr (-most), most)) (fun r1 =>
  bif r1 then
   optE (s21 (g.2, wr (-most), most)) (fun r2 =>
    some (r2))
    (none)
  else
   some (false))
  (none)
theorem i56 : ItemOk Try.prog (.fn 56 [.d (.agg zP), .d zI] [.d .bool] s56) := item_fnM md2 ext2 (U := 9) (n := 12) noSpecial mixed Gs0K1_ok (fun x => by kernel_rfl)
noncomputable def Gs0K2 : List Ev.Item := .fn 56 [.d (.agg zP), .d zI] [.d .bool] s56 :: Gs0K1
theorem Gs0K2_ok : ∀ q ∈ Gs0K2, ItemOk Try.prog q := items_cons i56 Gs0K1_ok
noncomputable def s41 : Int × Int → Option (Bool) := fun g =>
 optE (s56 (g, 2000)) (fun r1 =>
  some (r1))
  (none)
theorem i41 : ItemOk Try.prog (.fn 41 [.d (.agg zP)] [.d .bool] s41) := item_fnM md2 ext2 (U := 9) (n := 12) noSpecial mixed Gs0K2_ok (fun x => by kernel_rfl)
noncomputable def Gs0K3 : List Ev.Item := .fn 41 [.d (.agg zP)] [.d .bool] s41 :: Gs0K2
theorem Gs0K3_ok : ∀ q ∈ Gs0K3, ItemOk Try.prog q := items_cons i41 Gs0K2_ok
noncomputable def s9 : Int × Int × Int → Option (Bool) := fun (n, lo, hi) =>
 bif decide (lo ≤ n) then
  some (decide (n ≤ hi))
 else
  some (false)
theorem i9 : ItemOk Try.prog (.fn 9 [.d zI, .d zI, .d zI] [.d .bool] s9) := item_fnM md2 ext2 (U := 9) (n := 12) noSpecial mixed Gs0K3_ok (fun x => by kernel_rfl)
noncomputable def Gs0K4 : List Ev.Item := .fn 9 [.d zI, .d zI, .d zI] [.d .bool] s9 :: Gs0K3
theorem Gs0K4_ok : ∀ q ∈ Gs0K4, ItemOk Try.prog q := items_cons i9 Gs0K3_ok
@[reducible] def T18_0 : Tmpl := ⟨15, [], [.val 5 (.slice zI), .val 6 zI, .val 7 zI], [], none⟩
@[reducible] def X18_0 : List (Ex × Tmpl) := [(.ret, ⟨15, [], [.val 2 zI], [], none⟩), (.exit 0, ⟨15, [], [], [], none⟩)]
noncomputable def step18_0 : (List Int) × Int × Int → Option (((List Int) × Int × Int) ⊕ ((Int) ⊕ (Unit))) := fun (t5, t6, t7) =>
 bif decide (t7 < t6) then
  bif inBounds t7 t5.length then
   bif (t5.getD t7.toNat 0) != 0 then
    some (.inr (.inl (t5.getD t7.toNat 0)))
   else
    some (.inl (t5, t6, wr (t7 + 1)))
  else
   none
 else
  some (.inr (.inr ()))
theorem one18_0 : oneLoop Try.prog 18 0 = true := by kernel_rfl
theorem lp18_0 : ItemOk Try.prog (.loop 18 0 T18_0 X18_0 (loopVal step18_0)) := item_loopM md2 ext2 (U := 9) (n := 11) noSpecial mixed Gs0K4_ok one18_0 (fun x => by kernel_rfl)
noncomputable def Gs0K5 : List Ev.Item := .loop 18 0 T18_0 X18_0 (loopVal step18_0) :: Gs0K4
theorem Gs0K5_ok : ∀ q ∈ Gs0K5, ItemOk Try.prog q := items_cons lp18_0 Gs0K4_ok
noncomputable def s18 : List Int → Option (Int) := fun l =>
 optE (loopVal step18_0 (l, (l.length : Int), 0)) (fun e1 =>
  sumE e1 (fun e2 =>
   some (e2)) (fun _ =>
   some (0)))
  (none)
theorem i18 : ItemOk Try.prog (.fn 18 [.d (.slice zI)] [.d zI] s18) := item_fnM md2 ext2 (U := 9) (n := 12) noSpecial mixed Gs0K5_ok (fun x => by kernel_rfl)
noncomputable def Gs0K6 : List Ev.Item := .fn 18 [.d (.slice zI)] [.d zI] s18 :: Gs0K5
theorem Gs0K6_ok : ∀ q ∈ Gs0K6, ItemOk Try.prog q := items_cons i18 Gs0K5_ok
noncomputable def s20 : Bool × Int → Option (Int) := fun (is, e0) =>
 bif is then
  some (0)
 else
  some (e0)
theorem i20 : ItemOk Try.prog (.fn 20 [.d .bool, .d zI] [.d zI] s20) := item_fnM md2 ext2 (U := 9) (n := 12) noSpecial mixed Gs0K6_ok (fun x => by kernel_rfl)
noncomputable def Gs0K7 : List Ev.Item := .fn 20 [.d .bool, .d zI] [.d zI] s20 :: Gs0K6
theorem Gs0K7_ok : ∀ q ∈ Gs0K7, ItemOk Try.prog q := items_cons i20 Gs0K6_ok
noncomputable def s26 : (Int × Int) × Int → Option (Int) := fun (g, most) =>
 optE (s9 (g.1, wr (-most), most)) (fun r1 =>
  bif !r1 then
   some (2)
  else
   optE (s9 (g.2, wr (-most), most)) (fun r2 =>
    bif !r2 then
     some (2)
    else
     some (0))
    (none))
  (none)
theorem i26 : ItemOk Try.prog (.fn 26 [.d (.agg zP), .d zI] [.d zI] s26) := item_fnM md2 ext2 (U := 9) (n := 12) noSpecial mixed Gs0K7_ok (fun x => by kernel_rfl)
noncomputable def Gs0K8 : List Ev.Item := .fn 26 [.d (.agg zP), .d zI] [.d zI] s26 :: Gs0K7
theorem Gs0K8_ok : ∀ q ∈ Gs0K8, ItemOk Try.prog q := items_cons i26 Gs0K7_ok
noncomputable def s40 : Int × Int → Option (Bool) := fun g =>
 optE (s41 g) (fun r1 =>
  some (!r1))
  (none)
theorem i40 : ItemOk Try.prog (.fn 40 [.d (.agg zP)] [.d .bool] s40) := item_fnM md2 ext2 (U := 9) (n := 12) noSpecial mixed Gs0K8_ok (fun x => by kernel_rfl)
noncomputable def Gs0K9 : List Ev.Item := .fn 40 [.d (.agg zP)] [.d .bool] s40 :: Gs0K8
theorem Gs0K9_ok : ∀ q ∈ Gs0K9, ItemOk Try.prog q := items_cons i40 Gs0K8_ok
noncomputable def s44 : Int × Int → Option (Int) := fun a =>
 some (wr ((wr (a.1 * a.1)) + (wr (a.2 * a.2))))
theorem i44 : ItemOk Try.prog (.fn 44 [.d (.agg zP)] [.d zI] s44) := item_fnM md2 ext2 (U := 9) (n := 12) noSpecial mixed Gs0K9_ok (fun x => by kernel_rfl)
noncomputable def Gs0K10 : List Ev.Item := .fn 44 [.d (.agg zP)] [.d zI] s44 :: Gs0K9
theorem Gs0K10_ok : ∀ q ∈ Gs0K10, ItemOk Try.prog q := items_cons i44 Gs0K9_ok
end Go.Proofs.Ytcdpgjlaajdfmaa
