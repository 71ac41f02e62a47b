/- Printed by gen.py: specifications of functions. -/
import Derived.Test.YtlngennlccaneaaGta
set_option linter.unusedSimpArgs false
set_option maxRecDepth 100000
namespace Go.Proofs.Ytlngennlccaneaa
open Go.Ev
noncomputable def Gt0K1 : List Ev.Item := .fn 30 [.d zI, .d zI, .d zI] [.d .bool] s30 :: ([] : List Ev.Item)
theorem Gt0K1_ok : ∀ q ∈ Gt0K1, ItemOk Try.prog q := items_cons i30 items_nil
noncomputable def Gt0K2 : List Ev.Item := .fn 29 [.d .bool, .d zI] [.d zI] s29 :: Gt0K1
theorem Gt0K2_ok : ∀ q ∈ Gt0K2, ItemOk Try.prog q := items_cons i29 Gt0K1_ok
noncomputable def Gt0K3 : List Ev.Item := .fn 4 [] [.d .bool] (fun _ => some true) :: Gt0K2
theorem Gt0K3_ok : ∀ q ∈ Gt0K3, ItemOk Try.prog q := items_cons i4 Gt0K2_ok
noncomputable def s8 : List Int → Option (List Int) := fun l =>
 bif room 8 (0 + l.length) then
  some (l)
 else
  none
theorem i8 : ItemOk Try.prog (.fn 8 [.d (.slice zI)] [.own 3 zI] s8) := item_fnM md5 ext5 (U := 9) (n := 12) noSpecial mixed Gt0K3_ok (fun x => by kernel_rfl)
noncomputable def Gt0K4 : List Ev.Item := .fn 8 [.d (.slice zI)] [.own 3 zI] s8 :: Gt0K3
theorem Gt0K4_ok : ∀ q ∈ Gt0K4, ItemOk Try.prog q := items_cons i8 Gt0K3_ok
@[reducible] def T14_0 : Tmpl := ⟨26, [], [.val 0 (.slice zI), .val 1 (.slice zI), .val 5 zI], [], none⟩
@[reducible] def X14_0 : List (Ex × Tmpl) := [(.ret, ⟨26, [], [.val 4 .bool], [], none⟩), (.exit 0, ⟨26, [], [], [], none⟩)]
noncomputable def step14_0 : (List Int) × (List Int) × Int → Option (((List Int) × (List Int) × Int) ⊕ ((Bool) ⊕ (Unit))) := fun (a, b, i) =>
 bif decide (i < (a.length : Int)) then
  bif inBounds i a.length then
   bif inBounds i b.length then
    bif (a.getD i.toNat 0) != (b.getD i.toNat 0) then
     some (.inr (.inl false))
    else
     some (.inl (a, b, wr (i + 1)))
   else
    none
  else
   none
 else
  some (.inr (.inr ()))
theorem one14_0 : oneLoop Try.prog 14 0 = true := by kernel_rfl
theorem lp14_0 : ItemOk Try.prog (.loop 14 0 T14_0 X14_0 (loopVal step14_0)) := item_loopM md5 ext5 (U := 9) (n := 11) noSpecial mixed Gt0K4_ok one14_0 (fun x => by kernel_rfl)
noncomputable def Gt0K5 : List Ev.Item := .loop 14 0 T14_0 X14_0 (loopVal step14_0) :: Gt0K4
theorem Gt0K5_ok : ∀ q ∈ Gt0K5, ItemOk Try.prog q := items_cons lp14_0 Gt0K4_ok
noncomputable def s14 : (List Int) × (List Int) → Option (Bool) := fun (a, b) =>
 bif (a.length : Int) != (b.length : Int) then
  some (false)
 else
  optE (loopVal step14_0 (a, b, 0)) (fun e1 =>
   sumE e1 (fun e2 =>
    some (e2)) (fun _ =>
    some (true)))
   (none)
theorem i14 : ItemOk Try.prog (.fn 14 [.d (.slice zI), .d (.slice zI)] [.d .bool] s14) := item_fnM md5 ext5 (U := 9) (n := 12) noSpecial mixed Gt0K5_ok (fun x => by kernel_rfl)
noncomputable def Gt0K6 : List Ev.Item := .fn 14 [.d (.slice zI), .d (.slice zI)] [.d .bool] s14 :: Gt0K5
theorem Gt0K6_ok : ∀ q ∈ Gt0K6, ItemOk Try.prog q := items_cons i14 Gt0K5_ok
noncomputable def s11 : Int × Int → Option (Int) := fun (n, by0) =>
 bif !(by0 == 0) then
  bif decide ((Int.tmod n by0) < 0) then
   some (wr ((Int.tmod n by0) + by0))
  else
   some (Int.tmod n by0)
 else
  none
theorem i11 : ItemOk Try.prog (.fn 11 [.d zI, .d zI] [.d zI] s11) := item_fnM md5 ext5 (U := 9) (n := 12) noSpecial mixed Gt0K6_ok (fun x => by kernel_rfl)
noncomputable def Gt0K7 : List Ev.Item := .fn 11 [.d zI, .d zI] [.d zI] s11 :: Gt0K6
theorem Gt0K7_ok : ∀ q ∈ Gt0K7, ItemOk Try.prog q := items_cons i11 Gt0K6_ok
noncomputable def s20 : Int × Int × Int → Option (Bool) := fun (n, lo, hi) =>
 bif decide (lo ≤ n) then
  some (decide (n ≤ hi))
 else
  some (false)
theorem i20 : ItemOk Try.prog (.fn 20 [.d zI, .d zI, .d zI] [.d .bool] s20) := item_fnM md5 ext5 (U := 9) (n := 12) noSpecial mixed Gt0K7_ok (fun x => by kernel_rfl)
noncomputable def Gt0K8 : List Ev.Item := .fn 20 [.d zI, .d zI, .d zI] [.d .bool] s20 :: Gt0K7
theorem Gt0K8_ok : ∀ q ∈ Gt0K8, ItemOk Try.prog q := items_cons i20 Gt0K7_ok
noncomputable def s5 : Int → Option (Int) := fun half =>
 optE (s20 (half, 1, 3)) (fun r1 =>
  bif !r1 then
   some (2)
  else
   some (0))
  (none)
theorem i5 : ItemOk Try.prog (.fn 5 [.d zI] [.d zI] s5) := item_fnM md5 ext5 (U := 9) (n := 12) noSpecial mixed Gt0K8_ok (fun x => by kernel_rfl)
noncomputable def Gt0K9 : List Ev.Item := .fn 5 [.d zI] [.d zI] s5 :: Gt0K8
theorem Gt0K9_ok : ∀ q ∈ Gt0K9, ItemOk Try.prog q := items_cons i5 Gt0K8_ok
noncomputable def s21 : Int → Option (Bool) := fun n =>
 optE (s20 (n, 0, 15)) (fun r1 =>
  some (r1))
  (none)
theorem i21 : ItemOk Try.prog (.fn 21 [.d zI] [.d .bool] s21) := item_fnM md5 ext5 (U := 9) (n := 12) noSpecial mixed Gt0K9_ok (fun x => by kernel_rfl)
noncomputable def Gt0K10 : List Ev.Item := .fn 21 [.d zI] [.d .bool] s21 :: Gt0K9
theorem Gt0K10_ok : ∀ q ∈ Gt0K10, ItemOk Try.prog q := items_cons i21 Gt0K9_ok
@[reducible] def T6_0 : Tmpl := ⟨16, [], [.val 0 (.slice zI), .val 3 zI], [], none⟩
@[reducible] def X6_0 : List (Ex × Tmpl) := [(.ret, ⟨16, [], [.val 2 zI], [], none⟩), (.exit 0, ⟨16, [], [], [], none⟩)]
noncomputable def step6_0 : (List Int) × Int → Option (((List Int) × Int) ⊕ ((Int) ⊕ (Unit))) := fun (l, i) =>
 bif decide (i < (l.length : Int)) then
  bif inBounds i l.length then
   optE (s21 (l.getD i.toNat 0)) (fun r1 =>
    bif !r1 then
     some (.inr (.inl 2))
    else
     some (.inl (l, wr (i + 1))))
    (none)
  else
   none
 else
  some (.inr (.inr ()))
theorem one6_0 : oneLoop Try.prog 6 0 = true := by kernel_rfl
theorem lp6_0 : ItemOk Try.prog (.loop 6 0 T6_0 X6_0 (loopVal step6_0)) := item_loopM md5 ext5 (U := 9) (n := 11) noSpecial mixed Gt0K10_ok one6_0 (fun x => by kernel_rfl)
noncomputable def Gt0K11 : List Ev.Item := .loop 6 0 T6_0 X6_0 (loopVal step6_0) :: Gt0K10
theorem Gt0K11_ok : ∀ q ∈ Gt0K11, ItemOk Try.prog q := items_cons lp6_0 Gt0K10_ok
noncomputable def s6 : List Int → Option (Int) := fun l =>
 optE (loopVal step6_0 (l, 0)) (fun e1 =>
  sumE e1 (fun e2 =>
   some (e2)) (fun _ =>
   some (0)))
  (none)
theorem i6 : ItemOk Try.prog (.fn 6 [.d (.slice zI)] [.d zI] s6) := item_fnM md5 ext5 (U := 9) (n := 12) noSpecial mixed Gt0K11_ok (fun x => by kernel_rfl)
noncomputable def Gt0K12 : List Ev.Item := .fn 6 [.d (.slice zI)] [.d zI] s6 :: Gt0K11
theorem Gt0K12_ok : ∀ q ∈ Gt0K12, ItemOk Try.prog q := items_cons i6 Gt0K11_ok
noncomputable def s9 : List Int → Option (Int) := fun word =>
 bif (word.length : Int) != 15 then
  some (10)
 else
  optE (s6 word) (fun r1 =>
   some (r1))
   (none)
theorem i9 : ItemOk Try.prog (.fn 9 [.d (.slice zI)] [.d zI] s9) := item_fnM md5 ext5 (U := 9) (n := 12) noSpecial mixed Gt0K12_ok (fun x => by kernel_rfl)
noncomputable def Gt0K13 : List Ev.Item := .fn 9 [.d (.slice zI)] [.d zI] s9 :: Gt0K12
theorem Gt0K13_ok : ∀ q ∈ Gt0K13, ItemOk Try.prog q := items_cons i9 Gt0K12_ok
@[reducible] def T15_0 : Tmpl := ⟨25, [], [.val 0 (.slice zI), .val 1 (.slice zI), .val 5 zI, .val 6 zI], [], none⟩
@[reducible] def X15_0 : List (Ex × Tmpl) := [(.exit 0, ⟨25, [], [.val 5 zI], [], none⟩)]
noncomputable def step15_0 : (List Int) × (List Int) × Int × Int → Option (((List Int) × (List Int) × Int × Int) ⊕ (Int)) := fun (a, b, n, i) =>
 bif decide (i < (a.length : Int)) then
  bif inBounds i a.length then
   bif inBounds i b.length then
    bif (a.getD i.toNat 0) != (b.getD i.toNat 0) then
     some (.inl (a, b, wr (n + 1), wr (i + 1)))
    else
     some (.inl (a, b, n, wr (i + 1)))
   else
    none
  else
   none
 else
  some (.inr n)
theorem one15_0 : oneLoop Try.prog 15 0 = true := by kernel_rfl
theorem lp15_0 : ItemOk Try.prog (.loop 15 0 T15_0 X15_0 (loopVal step15_0)) := item_loopM md5 ext5 (U := 9) (n := 11) noSpecial mixed Gt0K13_ok one15_0 (fun x => by kernel_rfl)
noncomputable def Gt0K14 : List Ev.Item := .loop 15 0 T15_0 X15_0 (loopVal step15_0) :: Gt0K13
theorem Gt0K14_ok : ∀ q ∈ Gt0K14, ItemOk Try.prog q := items_cons lp15_0 Gt0K13_ok
noncomputable def s15 : (List Int) × (List Int) → Option (Int) := fun (a, b) =>
 optE (loopVal step15_0 (a, b, 0, 0)) (fun e1 =>
  some (e1))
  (none)
theorem i15 : ItemOk Try.prog (.fn 15 [.d (.slice zI), .d (.slice zI)] [.d zI] s15) := item_fnM md5 ext5 (U := 9) (n := 12) noSpecial mixed Gt0K14_ok (fun x => by kernel_rfl)
noncomputable def Gt0K15 : List Ev.Item := .fn 15 [.d (.slice zI), .d (.slice zI)] [.d zI] s15 :: Gt0K14
theorem Gt0K15_ok : ∀ q ∈ Gt0K15, ItemOk Try.prog q := items_cons i15 Gt0K14_ok
@[reducible] def T37_0 : Tmpl := ⟨23, [], [.val 0 zI, .val 1 zI, .val 5 zI], [], none⟩
@[reducible] def X37_0 : List (Ex × Tmpl) := [(.exit 0, ⟨23, [], [.val 5 zI], [], none⟩)]
noncomputable def step37_0 : Int × Int × Int → Option ((Int × Int × Int) ⊕ (Int)) := fun (a, b, out) =>
 bif decide (b > 0) then
  bif (andI .i64 b 1) == 1 then
   bif decide ((shlI .i64 a 1) ≥ 16) then
    some (.inl (xorI .i64 (shlI .i64 a 1) 19, shrI .i64 b 1, xorI .i64 out a))
   else
    some (.inl (shlI .i64 a 1, shrI .i64 b 1, xorI .i64 out a))
  else
   bif decide ((shlI .i64 a 1) ≥ 16) then
    some (.inl (xorI .i64 (shlI .i64 a 1) 19, shrI .i64 b 1, out))
   else
    some (.inl (shlI .i64 a 1, shrI .i64 b 1, out))
 else
  some (.inr out)
theorem one37_0 : oneLoop Try.prog 37 0 = true := by kernel_rfl
theorem lp37_0 : ItemOk Try.prog (.loop 37 0 T37_0 X37_0 (loopVal step37_0)) := item_loopM md5 ext5 (U := 9) (n := 11) noSpecial mixed Gt0K15_ok one37_0 (fun x => by kernel_rfl)
noncomputable def Gt0K16 : List Ev.Item := .loop 37 0 T37_0 X37_0 (loopVal step37_0) :: Gt0K15
theorem Gt0K16_ok : ∀ q ∈ Gt0K16, ItemOk Try.prog q := items_cons lp37_0 Gt0K15_ok
noncomputable def s37 : Int × Int → Option (Int) := fun (a, b) =>
 optE (loopVal step37_0 (a, b, 0)) (fun e1 =>
  some (e1))
  (none)
theorem i37 : ItemOk Try.prog (.fn 37 [.d zI, .d zI] [.d zI] s37) := item_fnM md5 ext5 (U := 9) (n := 12) noSpecial mixed Gt0K16_ok (fun x => by kernel_rfl)
noncomputable def Gt0K17 : List Ev.Item := .fn 37 [.d zI, .d zI] [.d zI] s37 :: Gt0K16
theorem Gt0K17_ok : ∀ q ∈ Gt0K17, ItemOk Try.prog q := items_cons i37 Gt0K16_ok
@[reducible] def T40_0 : Tmpl := ⟨12, [], [.val 3 zI, .val 5 zI, .val 6 zI], [], none⟩
@[reducible] def X40_0 : List (Ex × Tmpl) := [(.exit 0, ⟨12, [], [.val 3 zI], [], none⟩)]
noncomputable def step40_0 : Int × Int × Int → Option ((Int × Int × Int) ⊕ (Int)) := fun (out, t5, t6) =>
 bif decide (t6 < t5) then
  optE (s37 (out, 2)) (fun r1 =>
   some (.inl (r1, t5, wr (t6 + 1))))
   (none)
 else
  some (.inr out)
theorem one40_0 : oneLoop Try.prog 40 0 = true := by kernel_rfl
theorem lp40_0 : ItemOk Try.prog (.loop 40 0 T40_0 X40_0 (loopVal step40_0)) := item_loopM md5 ext5 (U := 9) (n := 11) noSpecial mixed Gt0K17_ok one40_0 (fun x => by kernel_rfl)
noncomputable def Gt0K18 : List Ev.Item := .loop 40 0 T40_0 X40_0 (loopVal step40_0) :: Gt0K17
theorem Gt0K18_ok : ∀ q ∈ Gt0K18, ItemOk Try.prog q := items_cons lp40_0 Gt0K17_ok
noncomputable def s40 : Int → Option (Int) := fun n =>
 optE (loopVal step40_0 (1, Int.tmod n 15, 0)) (fun e1 =>
  some (e1))
  (none)
theorem i40 : ItemOk Try.prog (.fn 40 [.d zI] [.d zI] s40) := item_fnM md5 ext5 (U := 9) (n := 12) noSpecial mixed Gt0K18_ok (fun x => by kernel_rfl)
noncomputable def Gt0K19 : List Ev.Item := .fn 40 [.d zI] [.d zI] s40 :: Gt0K18
theorem Gt0K19_ok : ∀ q ∈ Gt0K19, ItemOk Try.prog q := items_cons i40 Gt0K18_ok
@[reducible] def T47_0 : Tmpl := ⟨13, [], [.val 0 zI, .val 3 zI], [], none⟩
@[reducible] def X47_0 : List (Ex × Tmpl) := [(.ret, ⟨13, [], [.val 2 zI], [], none⟩), (.exit 0, ⟨13, [], [], [], none⟩)]
noncomputable def step47_0 : Int × Int → Option ((Int × Int) ⊕ ((Int) ⊕ (Unit))) := fun (a, b) =>
 bif decide (b < 16) then
  optE (s37 (a, b)) (fun r1 =>
   bif r1 == 1 then
    some (.inr (.inl b))
   else
    some (.inl (a, wr (b + 1))))
   (none)
 else
  some (.inr (.inr ()))
theorem one47_0 : oneLoop Try.prog 47 0 = true := by kernel_rfl
theorem lp47_0 : ItemOk Try.prog (.loop 47 0 T47_0 X47_0 (loopVal step47_0)) := item_loopM md5 ext5 (U := 9) (n := 11) noSpecial mixed Gt0K19_ok one47_0 (fun x => by kernel_rfl)
noncomputable def Gt0K20 : List Ev.Item := .loop 47 0 T47_0 X47_0 (loopVal step47_0) :: Gt0K19
theorem Gt0K20_ok : ∀ q ∈ Gt0K20, ItemOk Try.prog q := items_cons lp47_0 Gt0K19_ok
noncomputable def s47 : Int → Option (Int) := fun a =>
 optE (loopVal step47_0 (a, 1)) (fun e1 =>
  sumE e1 (fun e2 =>
   some (e2)) (fun _ =>
   some (0)))
  (none)
theorem i47 : ItemOk Try.prog (.fn 47 [.d zI] [.d zI] s47) := item_fnM md5 ext5 (U := 9) (n := 12) noSpecial mixed Gt0K20_ok (fun x => by kernel_rfl)
noncomputable def Gt0K21 : List Ev.Item := .fn 47 [.d zI] [.d zI] s47 :: Gt0K20
theorem Gt0K21_ok : ∀ q ∈ Gt0K21, ItemOk Try.prog q := items_cons i47 Gt0K20_ok
noncomputable def s48 : Int → Option (Int) := fun position =>
 optE (s40 (wr (14 - position))) (fun r1 =>
  some (r1))
  (none)
theorem i48 : ItemOk Try.prog (.fn 48 [.d zI] [.d zI] s48) := item_fnM md5 ext5 (U := 9) (n := 12) noSpecial mixed Gt0K21_ok (fun x => by kernel_rfl)
noncomputable def Gt0K22 : List Ev.Item := .fn 48 [.d zI] [.d zI] s48 :: Gt0K21
theorem Gt0K22_ok : ∀ q ∈ Gt0K22, ItemOk Try.prog q := items_cons i48 Gt0K21_ok
@[reducible] def T46_0 : Tmpl := ⟨24, [], [.val 1 zI, .val 5 zI, .val 8 (.agg (.pair zI (.pair zI (.pair zI (.pair zI (.pair zI (.pair zI (.pair zI (.pair zI (.pair zI (.pair zI (.pair zI zF)))))))))))), .val 9 zI], [], none⟩
@[reducible] def X46_0 : List (Ex × Tmpl) := [(.exit 0, ⟨24, [], [.val 5 zI], [], none⟩)]
noncomputable def step46_0 : Int × Int × (Int × Int × Int × Int × Int × Int × Int × Int × Int × Int × Int × Int × Int × Int × Int) × Int → Option ((Int × Int × (Int × Int × Int × Int × Int × Int × Int × Int × Int × Int × Int × Int × Int × Int × Int) × Int) ⊕ (Int)) := fun (j, sum, t8, t9) =>
 bif decide (t9 < 15) then
  bif inBounds t9 15 then
   optE (s40 (wr (j * (wr (14 - t9))))) (fun r1 =>
    optE (s37 ([t8.1, t8.2.1, t8.2.2.1, t8.2.2.2.1, t8.2.2.2.2.1, t8.2.2.2.2.2.1, t8.2.2.2.2.2.2.1, t8.2.2.2.2.2.2.2.1, t8.2.2.2.2.2.2.2.2.1, t8.2.2.2.2.2.2.2.2.2.1, t8.2.2.2.2.2.2.2.2.2.2.1, t8.2.2.2.2.2.2.2.2.2.2.2.1, t8.2.2.2.2.2.2.2.2.2.2.2.2.1, t8.2.2.2.2.2.2.2.2.2.2.2.2.2.1, t8.2.2.2.2.2.2.2.2.2.2.2.2.2.2].getD t9.toNat 0, r1)) (fun r2 =>
     some (.inl (j, xorI .i64 sum r2, t8, wr (t9 + 1))))
     (none))
    (none)
  else
   none
 else
  some (.inr sum)
theorem one46_0 : oneLoop Try.prog 46 0 = true := by kernel_rfl
theorem lp46_0 : ItemOk Try.prog (.loop 46 0 T46_0 X46_0 (loopVal step46_0)) := item_loopM md5 ext5 (U := 9) (n := 11) noSpecial mixed Gt0K22_ok one46_0 (fun x => by kernel_rfl)
noncomputable def Gt0K23 : List Ev.Item := .loop 46 0 T46_0 X46_0 (loopVal step46_0) :: Gt0K22
theorem Gt0K23_ok : ∀ q ∈ Gt0K23, ItemOk Try.prog q := items_cons lp46_0 Gt0K22_ok
noncomputable def s46 : (Int × Int × Int × Int × Int × Int × Int × Int × Int × Int × Int × Int × Int × Int × Int) × Int → Option (Int) := fun (w, j) =>
 optE (loopVal step46_0 (j, 0, w, 0)) (fun e1 =>
  some (e1))
  (none)
theorem i46 : ItemOk Try.prog (.fn 46 [.d (.agg (.pair zI (.pair zI (.pair zI (.pair zI (.pair zI (.pair zI (.pair zI (.pair zI (.pair zI (.pair zI (.pair zI zF)))))))))))), .d zI] [.d zI] s46) := item_fnM md5 ext5 (U := 9) (n := 12) noSpecial mixed Gt0K23_ok (fun x => by kernel_rfl)
noncomputable def Gt0K24 : List Ev.Item := .fn 46 [.d (.agg (.pair zI (.pair zI (.pair zI (.pair zI (.pair zI (.pair zI (.pair zI (.pair zI (.pair zI (.pair zI (.pair zI zF)))))))))))), .d zI] [.d zI] s46 :: Gt0K23
theorem Gt0K24_ok : ∀ q ∈ Gt0K24, ItemOk Try.prog q := items_cons i46 Gt0K23_ok
@[reducible] def T38_0 : Tmpl := ⟨20, [(2, .ref 2 0 0 0)], [.val 1 zI, .own 5 18 3 zI, .val 6 zI, .arrp 2 zI 15 (.pair zI (.pair zI (.pair zI (.pair zI (.pair zI (.pair zI (.pair zI (.pair zI (.pair zI (.pair zI (.pair zI zF)))))))))))], [], none⟩
@[reducible] def X38_0 : List (Ex × Tmpl) := [(.exit 0, ⟨20, [], [.own 5 18 3 zI], [], none⟩)]
noncomputable def step38_0 : Int × (List Int) × Int × (Int × Int × Int × Int × Int × Int × Int × Int × Int × Int × Int × Int × Int × Int × Int) → Option ((Int × (List Int) × Int × (Int × Int × Int × Int × Int × Int × Int × Int × Int × Int × Int × Int × Int × Int × Int)) ⊕ (List Int)) := fun (half, out, j, w) =>
 bif decide (j ≤ (wr (2 * half))) then
  optE (s46 (w, j)) (fun r1 =>
   bif room 8 (out.length + 1) then
    some (.inl (half, out ++ [r1], wr (j + 1), w))
   else
    none)
   (none)
 else
  some (.inr out)
theorem one38_0 : oneLoop Try.prog 38 0 = true := by kernel_rfl
theorem lp38_0 : ItemOk Try.prog (.loop 38 0 T38_0 X38_0 (loopVal step38_0)) := item_loopM md5 ext5 (U := 9) (n := 11) noSpecial mixed Gt0K24_ok one38_0 (fun x => by kernel_rfl)
noncomputable def Gt0K25 : List Ev.Item := .loop 38 0 T38_0 X38_0 (loopVal step38_0) :: Gt0K24
theorem Gt0K25_ok : ∀ q ∈ Gt0K25, ItemOk Try.prog q := items_cons lp38_0 Gt0K24_ok
noncomputable def s38 : (Int × Int × Int × Int × Int × Int × Int × Int × Int × Int × Int × Int × Int × Int × Int) × Int → Option (List Int) := fun (w, half) =>
 optE (loopVal step38_0 (half, [], 1, w)) (fun e1 =>
  some (e1))
  (none)
theorem i38 : ItemOk Try.prog (.fn 38 [.d (.agg (.pair zI (.pair zI (.pair zI (.pair zI (.pair zI (.pair zI (.pair zI (.pair zI (.pair zI (.pair zI (.pair zI zF)))))))))))), .d zI] [.own 3 zI] s38) := item_fnM md5 ext5 (U := 9) (n := 12) noSpecial mixed Gt0K25_ok (fun x => by kernel_rfl)
noncomputable def Gt0K26 : List Ev.Item := .fn 38 [.d (.agg (.pair zI (.pair zI (.pair zI (.pair zI (.pair zI (.pair zI (.pair zI (.pair zI (.pair zI (.pair zI (.pair zI zF)))))))))))), .d zI] [.own 3 zI] s38 :: Gt0K25
theorem Gt0K26_ok : ∀ q ∈ Gt0K26, ItemOk Try.prog q := items_cons i38 Gt0K25_ok
end Go.Proofs.Ytlngennlccaneaa
