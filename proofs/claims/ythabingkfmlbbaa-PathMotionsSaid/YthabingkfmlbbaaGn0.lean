/- Printed by gen.py: specifications of functions. -/
import Derived.Test.YthabingkfmlbbaaGm4
set_option linter.unusedSimpArgs false
set_option maxRecDepth 100000
namespace Go.Proofs.Ythabingkfmlbbaa
open Go.Ev
noncomputable def s46 : Int × Int → Option (Int) := fun (n, by0) =>
 bif !(by0 == 0) then
  bif decide ((Int.tmod n by0) < 0) then
   some (wr ((Int.tmod n by0) + by0))
  else
   some (Int.tmod n by0)
 else
  none
theorem i46 : ItemOk Try.prog (.fn 46 [.d zI, .d zI] [.d zI] s46) := item_fnM md5 ext5 (U := 9) (n := 12) noSpecial mixed Gm4K3_ok (fun x => by kernel_rfl)
noncomputable def Gn0K1 : List Ev.Item := .fn 46 [.d zI, .d zI] [.d zI] s46 :: Gm4K3
theorem Gn0K1_ok : ∀ q ∈ Gn0K1, ItemOk Try.prog q := items_cons i46 Gm4K3_ok
@[reducible] def T34_0 : Tmpl := ⟨33, [(2, .ref 2 0 0 0)], [.own 5 31 3 zI, .val 6 zI, .cells 2 [.d (.pair zI (.pair zP zP))]], [], none⟩
@[reducible] def X34_0 : List (Ex × Tmpl) := [(.exit 0, ⟨33, [], [.own 5 31 3 zI], [], none⟩)]
noncomputable def step34_0 : (List Int) × Int × (Int × (Int × Int) × Int × Int) → Option (((List Int) × Int × (Int × (Int × Int) × Int × Int)) ⊕ (List Int)) := fun (out, n, d) =>
 bif decide (n ≤ d.2.1.2) then
  bif room 8 (out.length + 1) then
   some (.inl (out ++ [n], wr (n + d.1), d))
  else
   none
 else
  some (.inr out)
theorem one34_0 : oneLoop Try.prog 34 0 = true := by kernel_rfl
theorem lp34_0 : ItemOk Try.prog (.loop 34 0 T34_0 X34_0 (loopVal step34_0)) := item_loopM md5 ext5 (U := 9) (n := 11) noSpecial mixed Gn0K1_ok one34_0 (fun x => by kernel_rfl)
noncomputable def Gn0K2 : List Ev.Item := .loop 34 0 T34_0 X34_0 (loopVal step34_0) :: Gn0K1
theorem Gn0K2_ok : ∀ q ∈ Gn0K2, ItemOk Try.prog q := items_cons lp34_0 Gn0K1_ok
noncomputable def s34 : (Int × (Int × Int) × Int × Int) × Int → Option (List Int) := fun (d, target) =>
 optE (s46 (wr (target - d.2.1.1), d.1)) (fun r1 =>
  optE (loopVal step34_0 ([], wr (d.2.1.1 + r1), d)) (fun e2 =>
   some (e2))
   (none))
  (none)
theorem i34 : ItemOk Try.prog (.fn 34 [.d (.agg (.pair zI (.pair zP zP))), .d zI] [.own 3 zI] s34) := item_fnM md5 ext5 (U := 9) (n := 12) noSpecial mixed Gn0K2_ok (fun x => by kernel_rfl)
noncomputable def Gn0K3 : List Ev.Item := .fn 34 [.d (.agg (.pair zI (.pair zP zP))), .d zI] [.own 3 zI] s34 :: Gn0K2
theorem Gn0K3_ok : ∀ q ∈ Gn0K3, ItemOk Try.prog q := items_cons i34 Gn0K2_ok
noncomputable def s47 : Int → Option (Int) := fun n =>
 some (mx n (wr (-n)))
theorem i47 : ItemOk Try.prog (.fn 47 [.d zI] [.d zI] s47) := item_fnM md5 ext5 (U := 9) (n := 12) noSpecial mixed Gn0K3_ok (fun x => by kernel_rfl)
noncomputable def Gn0K4 : List Ev.Item := .fn 47 [.d zI] [.d zI] s47 :: Gn0K3
theorem Gn0K4_ok : ∀ q ∈ Gn0K4, ItemOk Try.prog q := items_cons i47 Gn0K3_ok
@[reducible] def T35_0 : Tmpl := ⟨63, [(4, .ref 4 0 0 0), (8, .ref 8 0 0 0), (10, .ref 10 0 0 0)], [.val 1 (.slice (.agg (.pair zI zP))), .val 2 zI, .val 11 .bool, .val 12 zI, .cells 4 [.d (.pair zI (.pair zP zP))], .cells 8 [.d (.pair zI zP)], .cells 10 [.d (.pair zI zP)]], [], none⟩
@[reducible] def X35_0 : List (Ex × Tmpl) := [(.exit 0, ⟨63, [(8, .ref 8 0 0 0), (10, .ref 10 0 0 0)], [.val 11 .bool, .cells 8 [.d (.pair zI zP)], .cells 10 [.d (.pair zI zP)]], [], none⟩)]
noncomputable def step35_0 : (List (Int × Int × Int)) × Int × Bool × Int × (Int × (Int × Int) × Int × Int) × (Int × Int × Int) × (Int × Int × Int) → Option (((List (Int × Int × Int)) × Int × Bool × Int × (Int × (Int × Int) × Int × Int) × (Int × Int × Int) × (Int × Int × Int)) ⊕ (Bool × (Int × Int × Int) × (Int × Int × Int))) := fun (row, at0, found, k, d, t8, out) =>
 bif decide (k < (row.length : Int)) then
  bif inBounds k row.length then
   optE (s47 (wr ((row.getD k.toNat (0, 0, 0)).1 - at0))) (fun r1 =>
    bif decide (r1 > d.2.2.2) then
     some (.inl (row, at0, found, wr (k + 1), d, t8, out))
    else
     bif !found then
      bif inBounds k row.length then
       some (.inl (row, at0, true, wr (k + 1), d, t8, (at0, wr (r1 + (row.getD k.toNat (0, 0, 0)).2.1), k)))
      else
       none
     else
      bif inBounds k row.length then
       bif decide ((wr (r1 + (row.getD k.toNat (0, 0, 0)).2.1)) < out.2.1) then
        bif inBounds k row.length then
         some (.inl (row, at0, true, wr (k + 1), d, t8, (at0, wr (r1 + (row.getD k.toNat (0, 0, 0)).2.1), k)))
        else
         none
       else
        some (.inl (row, at0, found, wr (k + 1), d, t8, out))
      else
       none)
    (none)
  else
   none
 else
  some (.inr (found, t8, out))
theorem one35_0 : oneLoop Try.prog 35 0 = true := by kernel_rfl
theorem lp35_0 : ItemOk Try.prog (.loop 35 0 T35_0 X35_0 (loopVal step35_0)) := item_loopM md5 ext5 (U := 9) (n := 11) noSpecial mixed Gn0K4_ok one35_0 (fun x => by kernel_rfl)
noncomputable def Gn0K5 : List Ev.Item := .loop 35 0 T35_0 X35_0 (loopVal step35_0) :: Gn0K4
theorem Gn0K5_ok : ∀ q ∈ Gn0K5, ItemOk Try.prog q := items_cons lp35_0 Gn0K4_ok
noncomputable def s35 : (Int × (Int × Int) × Int × Int) × (List (Int × Int × Int)) × Int × Bool → Option ((Int × Int × Int) × Bool) := fun (d, row, at0, end0) =>
 bif end0 then
  some (((at0, 0, 0), true))
 else
  optE (loopVal step35_0 (row, at0, false, 0, d, (0, 0, 0), (at0, 0, 0))) (fun e1 =>
   some ((e1.2.2, e1.1)))
   (none)
theorem i35 : ItemOk Try.prog (.fn 35 [.d (.agg (.pair zI (.pair zP zP))), .d (.slice (.agg (.pair zI zP))), .d zI, .d .bool] [.d (.agg (.pair zI zP)), .d .bool] s35) := item_fnM md5 ext5 (U := 9) (n := 12) noSpecial mixed Gn0K5_ok (fun x => by kernel_rfl)
noncomputable def Gn0K6 : List Ev.Item := .fn 35 [.d (.agg (.pair zI (.pair zP zP))), .d (.slice (.agg (.pair zI zP))), .d zI, .d .bool] [.d (.agg (.pair zI zP)), .d .bool] s35 :: Gn0K5
theorem Gn0K6_ok : ∀ q ∈ Gn0K6, ItemOk Try.prog q := items_cons i35 Gn0K5_ok
end Go.Proofs.Ythabingkfmlbbaa
