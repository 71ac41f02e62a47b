import Derived.Test.YthckjfbhdjjnkaaDoorGd1
set_option linter.unusedSimpArgs false
set_option maxRecDepth 100000
namespace Go.Proofs.YthckjfbhdjjnkaaDoor
open Go.Ev
noncomputable def s17 : List Int → Option (Bool) := fun l =>
 bif decide ((l.length : Int) ≤ 120) then
  some (true)
 else
  bif decide ((l.length : Int) > 600) then
   some (decide ((l.length : Int) ≤ 602))
  else
   some (false)
theorem i17 : ItemOk Tryd.prog (.fn 17 [.d (.slice zI)] [.d .bool] s17) := item_fnM md4 ext4 (U := 9) (n := 12) noSpecial mixed Gd1K5_ok (fun x => by kernel_rfl)
noncomputable def Gd2K1 : List Ev.Item := .fn 17 [.d (.slice zI)] [.d .bool] s17 :: Gd1K5
theorem Gd2K1_ok : ∀ q ∈ Gd2K1, ItemOk Tryd.prog q := items_cons i17 Gd1K5_ok
noncomputable def s22 : List Int → Option (List Int) := fun l =>
 bif room 8 (0 + l.length) then
  some (l)
 else
  none
theorem i22 : ItemOk Tryd.prog (.fn 22 [.d (.slice zI)] [.own 3 zI] s22) := item_fnM md4 ext4 (U := 9) (n := 12) noSpecial mixed Gd2K1_ok (fun x => by kernel_rfl)
noncomputable def Gd2K2 : List Ev.Item := .fn 22 [.d (.slice zI)] [.own 3 zI] s22 :: Gd2K1
theorem Gd2K2_ok : ∀ q ∈ Gd2K2, ItemOk Tryd.prog q := items_cons i22 Gd2K1_ok
@[reducible] def T80_0 : Tmpl := ⟨15, [], [.val 5 (.slice zI), .val 6 zI, .val 7 zI], [], none⟩
@[reducible] def X80_0 : List (Ex × Tmpl) := [(.ret, ⟨15, [], [.val 2 zI], [], none⟩), (.exit 0, ⟨15, [], [], [], none⟩)]
noncomputable def step80_0 : (List Int) × Int × Int → Option (((List Int) × Int × Int) ⊕ ((Int) ⊕ (Unit))) := fun (t5, t6, t7) =>
 bif decide (t7 < t6) then
  bif inBounds t7 t5.length then
   bif (t5.getD t7.toNat 0) != 0 then
    some (.inr (.inl (t5.getD t7.toNat 0)))
   else
    some (.inl (t5, t6, wr (t7 + 1)))
  else
   none
 else
  some (.inr (.inr ()))
theorem one80_0 : oneLoop Tryd.prog 80 0 = true := by kernel_rfl
theorem lp80_0 : ItemOk Tryd.prog (.loop 80 0 T80_0 X80_0 (loopVal step80_0)) := item_loopM md4 ext4 (U := 9) (n := 11) noSpecial mixed Gd2K2_ok one80_0 (fun x => by kernel_rfl)
noncomputable def Gd2K3 : List Ev.Item := .loop 80 0 T80_0 X80_0 (loopVal step80_0) :: Gd2K2
theorem Gd2K3_ok : ∀ q ∈ Gd2K3, ItemOk Tryd.prog q := items_cons lp80_0 Gd2K2_ok
noncomputable def s80 : List Int → Option (Int) := fun l =>
 optE (loopVal step80_0 (l, (l.length : Int), 0)) (fun e1 =>
  sumE e1 (fun e2 =>
   some (e2)) (fun _ =>
   some (0)))
  (none)
theorem i80 : ItemOk Tryd.prog (.fn 80 [.d (.slice zI)] [.d zI] s80) := item_fnM md4 ext4 (U := 9) (n := 12) noSpecial mixed Gd2K3_ok (fun x => by kernel_rfl)
noncomputable def Gd2K4 : List Ev.Item := .fn 80 [.d (.slice zI)] [.d zI] s80 :: Gd2K3
theorem Gd2K4_ok : ∀ q ∈ Gd2K4, ItemOk Tryd.prog q := items_cons i80 Gd2K3_ok
@[reducible] def T145_0 : Tmpl := ⟨19, [], [.val 0 (.slice zI), .val 1 (.clo 135 (.pair (.ptr (.clo 93 .unit)) .unit)), .val 7 zI, .val 8 zI], [], none⟩
@[reducible] def X145_0 : List (Ex × Tmpl) := [(.ret, ⟨19, [], [.val 4 zI], [], none⟩), (.exit 0, ⟨19, [], [], [], none⟩)]
noncomputable def step145_0 : (List Int) × (Unit × Unit) × Int × Int → Option (((List Int) × (Unit × Unit) × Int × Int) ⊕ ((Int) ⊕ (Unit))) := fun (s, f, t7, t8) =>
 bif decide (t8 < t7) then
  bif inBounds t8 s.length then
   optE (s93 (s.getD t8.toNat 0)) (fun r2 =>
    bif !r2 then
     some (.inr (.inl t8))
    else
     some (.inl (s, f, t7, wr (t8 + 1))))
    (none)
  else
   none
 else
  some (.inr (.inr ()))
theorem one145_0 : oneLoop Tryd.prog 145 0 = true := by kernel_rfl
theorem lp145_0 : ItemOk Tryd.prog (.loop 145 0 T145_0 X145_0 (loopVal step145_0)) := item_loopM md4 ext4 (U := 9) (n := 8) noSpecial mixed Gd2K4_ok one145_0 (fun x => by kernel_rfl)
noncomputable def Gd2K5 : List Ev.Item := .loop 145 0 T145_0 X145_0 (loopVal step145_0) :: Gd2K4
theorem Gd2K5_ok : ∀ q ∈ Gd2K5, ItemOk Tryd.prog q := items_cons lp145_0 Gd2K4_ok
noncomputable def s92 : List Int → Option (Int) := fun l =>
 optE (s82 (decide ((l.length : Int) ≤ 600), 8)) (fun r1 =>
  optE (loopVal step145_0 (l, ((), ()), (l.length : Int), 0)) (fun e2 =>
   sumE e2 (fun e3 =>
    optE (s82 (!(decide (e3 ≥ 0)), 2)) (fun r5 =>
     optE (s80 [r1, r5]) (fun r6 =>
      some (r6))
      (none))
     (none)) (fun _ =>
    optE (s82 (true, 2)) (fun r7 =>
     optE (s80 [r1, r7]) (fun r8 =>
      some (r8))
      (none))
     (none)))
   (none))
  (none)
theorem i92 : ItemOk Tryd.prog (.fn 92 [.d (.slice zI)] [.d zI] s92) := item_fnM md4 ext4 (U := 9) (n := 12) noSpecial mixed Gd2K5_ok (fun x => by kernel_rfl)
noncomputable def Gd2K6 : List Ev.Item := .fn 92 [.d (.slice zI)] [.d zI] s92 :: Gd2K5
theorem Gd2K6_ok : ∀ q ∈ Gd2K6, ItemOk Tryd.prog q := items_cons i92 Gd2K5_ok
@[reducible] def T36_0 : Tmpl := ⟨36, [], [.val 0 (.slice zI), .own 5 33 3 zI, .val 13 (.slice zI), .val 14 zI, .val 15 zI], [], none⟩
@[reducible] def X36_0 : List (Ex × Tmpl) := [(.exit 0, ⟨36, [], [.own 5 33 3 zI], [], none⟩)]
noncomputable def step36_0 : (List Int) × (List Int) × (List Int) × Int × Int → Option (((List Int) × (List Int) × (List Int) × Int × Int) ⊕ (List Int)) := fun (quadrants, out, t13, t14, t15) =>
 bif decide (t15 < t14) then
  bif inBounds t15 t13.length then
   bif decide (t15 > 0) then
    bif inBounds (wr (t15 - 1)) quadrants.length then
     bif room 8 (out.length + 1) then
      some (.inl (quadrants, out ++ [Int.tmod (wr ((wr ((t13.getD t15.toNat 0) - (quadrants.getD (wr (t15 - 1)).toNat 0))) + 4)) 4], t13, t14, wr (t15 + 1)))
     else
      none
    else
     none
   else
    some (.inl (quadrants, out, t13, t14, wr (t15 + 1)))
  else
   none
 else
  some (.inr out)
theorem one36_0 : oneLoop Tryd.prog 36 0 = true := by kernel_rfl
theorem lp36_0 : ItemOk Tryd.prog (.loop 36 0 T36_0 X36_0 (loopVal step36_0)) := item_loopM md4 ext4 (U := 9) (n := 11) noSpecial mixed Gd2K6_ok one36_0 (fun x => by kernel_rfl)
noncomputable def Gd2K7 : List Ev.Item := .loop 36 0 T36_0 X36_0 (loopVal step36_0) :: Gd2K6
theorem Gd2K7_ok : ∀ q ∈ Gd2K7, ItemOk Tryd.prog q := items_cons lp36_0 Gd2K6_ok
noncomputable def s36 : List Int → Option ((List Int) × Int) := fun quadrants =>
 optE (s92 quadrants) (fun r1 =>
  bif r1 != 0 then
   some (([], r1))
  else
   optE (loopVal step36_0 (quadrants, [], quadrants, (quadrants.length : Int), 0)) (fun e2 =>
    some ((e2, 0)))
    (none))
  (none)
theorem i36 : ItemOk Tryd.prog (.fn 36 [.d (.slice zI)] [.own 3 zI, .d zI] s36) := item_fnM md4 ext4 (U := 9) (n := 12) noSpecial mixed Gd2K7_ok (fun x => by kernel_rfl)
noncomputable def Gd2K8 : List Ev.Item := .fn 36 [.d (.slice zI)] [.own 3 zI, .d zI] s36 :: Gd2K7
theorem Gd2K8_ok : ∀ q ∈ Gd2K8, ItemOk Tryd.prog q := items_cons i36 Gd2K7_ok
@[reducible] def T37_0 : Tmpl := ⟨41, [], [.own 7 38 3 zI, .val 22 (.slice zI), .val 23 zI, .val 24 zI], [], none⟩
@[reducible] def X37_0 : List (Ex × Tmpl) := [(.exit 0, ⟨41, [], [.own 7 38 3 zI], [], none⟩)]
noncomputable def step37_0 : (List Int) × (List Int) × Int × Int → Option (((List Int) × (List Int) × Int × Int) ⊕ (List Int)) := fun (out, t22, t23, t24) =>
 bif decide (t24 < t23) then
  bif inBounds t24 t22.length then
   bif inBounds t24 out.length then
    bif room 8 (out.length + 1) then
     some (.inl (out ++ [Int.tmod (wr ((out.getD t24.toNat 0) + (t22.getD t24.toNat 0))) 4], t22, t23, wr (t24 + 1)))
    else
     none
   else
    none
  else
   none
 else
  some (.inr out)
theorem one37_0 : oneLoop Tryd.prog 37 0 = true := by kernel_rfl
theorem lp37_0 : ItemOk Tryd.prog (.loop 37 0 T37_0 X37_0 (loopVal step37_0)) := item_loopM md4 ext4 (U := 9) (n := 11) noSpecial mixed Gd2K8_ok one37_0 (fun x => by kernel_rfl)
noncomputable def Gd2K9 : List Ev.Item := .loop 37 0 T37_0 X37_0 (loopVal step37_0) :: Gd2K8
theorem Gd2K9_ok : ∀ q ∈ Gd2K9, ItemOk Tryd.prog q := items_cons lp37_0 Gd2K8_ok
noncomputable def s37 : Int × (List Int) → Option ((List Int) × Int) := fun (start, differences) =>
 optE (s93 start) (fun r1 =>
  optE (s82 (r1, 2)) (fun r2 =>
   optE (s92 differences) (fun r3 =>
    optE (s80 [r2, r3]) (fun r4 =>
     bif r4 != 0 then
      some (([], r4))
     else
      optE (loopVal step37_0 ([start], differences, (differences.length : Int), 0)) (fun e5 =>
       some ((e5, 0)))
       (none))
     (none))
    (none))
   (none))
  (none)
theorem i37 : ItemOk Tryd.prog (.fn 37 [.d zI, .d (.slice zI)] [.own 3 zI, .d zI] s37) := item_fnM md4 ext4 (U := 9) (n := 12) noSpecial mixed Gd2K9_ok (fun x => by kernel_rfl)
noncomputable def Gd2K10 : List Ev.Item := .fn 37 [.d zI, .d (.slice zI)] [.own 3 zI, .d zI] s37 :: Gd2K9
theorem Gd2K10_ok : ∀ q ∈ Gd2K10, ItemOk Tryd.prog q := items_cons i37 Gd2K9_ok
noncomputable def s28 : Int × Int × Int → Option (Bool) := fun (n, lo, hi) =>
 bif decide (lo ≤ n) then
  some (decide (n ≤ hi))
 else
  some (false)
theorem i28 : ItemOk Tryd.prog (.fn 28 [.d zI, .d zI, .d zI] [.d .bool] s28) := item_fnM md4 ext4 (U := 9) (n := 12) noSpecial mixed Gd2K10_ok (fun x => by kernel_rfl)
noncomputable def Gd2K11 : List Ev.Item := .fn 28 [.d zI, .d zI, .d zI] [.d .bool] s28 :: Gd2K10
theorem Gd2K11_ok : ∀ q ∈ Gd2K11, ItemOk Tryd.prog q := items_cons i28 Gd2K10_ok
@[reducible] def T38_0 : Tmpl := ⟨19, [], [.val 0 (.slice zI), .val 3 zI], [], none⟩
@[reducible] def X38_0 : List (Ex × Tmpl) := [(.ret, ⟨19, [], [.val 2 zI], [], none⟩), (.exit 0, ⟨19, [], [], [], none⟩)]
noncomputable def step38_0 : (List Int) × Int → Option (((List Int) × Int) ⊕ ((Int) ⊕ (Unit))) := fun (l, i) =>
 bif decide (i < (l.length : Int)) then
  bif inBounds i l.length then
   optE (s28 (l.getD i.toNat 0, 0, 3)) (fun r1 =>
    bif !r1 then
     some (.inr (.inl 2))
    else
     some (.inl (l, wr (i + 1))))
    (none)
  else
   none
 else
  some (.inr (.inr ()))
theorem one38_0 : oneLoop Tryd.prog 38 0 = true := by kernel_rfl
theorem lp38_0 : ItemOk Tryd.prog (.loop 38 0 T38_0 X38_0 (loopVal step38_0)) := item_loopM md4 ext4 (U := 9) (n := 11) noSpecial mixed Gd2K11_ok one38_0 (fun x => by kernel_rfl)
noncomputable def Gd2K12 : List Ev.Item := .loop 38 0 T38_0 X38_0 (loopVal step38_0) :: Gd2K11
theorem Gd2K12_ok : ∀ q ∈ Gd2K12, ItemOk Tryd.prog q := items_cons lp38_0 Gd2K11_ok
noncomputable def s38 : List Int → Option (Int) := fun l =>
 bif decide ((l.length : Int) > 600) then
  some (8)
 else
  optE (loopVal step38_0 (l, 0)) (fun e1 =>
   sumE e1 (fun e2 =>
    some (e2)) (fun _ =>
    some (0)))
   (none)
theorem i38 : ItemOk Tryd.prog (.fn 38 [.d (.slice zI)] [.d zI] s38) := item_fnM md4 ext4 (U := 9) (n := 12) noSpecial mixed Gd2K12_ok (fun x => by kernel_rfl)
noncomputable def Gd2K13 : List Ev.Item := .fn 38 [.d (.slice zI)] [.d zI] s38 :: Gd2K12
theorem Gd2K13_ok : ∀ q ∈ Gd2K13, ItemOk Tryd.prog q := items_cons i38 Gd2K12_ok
noncomputable def s74 : Int × Int → Option (Int) := fun (n, by0) =>
 bif !(by0 == 0) then
  bif decide ((Int.tmod n by0) < 0) then
   some (wr ((Int.tmod n by0) + by0))
  else
   some (Int.tmod n by0)
 else
  none
theorem i74 : ItemOk Tryd.prog (.fn 74 [.d zI, .d zI] [.d zI] s74) := item_fnM md4 ext4 (U := 9) (n := 12) noSpecial mixed Gd2K13_ok (fun x => by kernel_rfl)
noncomputable def Gd2K14 : List Ev.Item := .fn 74 [.d zI, .d zI] [.d zI] s74 :: Gd2K13
theorem Gd2K14_ok : ∀ q ∈ Gd2K14, ItemOk Tryd.prog q := items_cons i74 Gd2K13_ok
@[reducible] def T39_0 : Tmpl := ⟨26, [], [.val 0 (.slice zI), .own 3 24 3 zI, .val 4 zI], [], none⟩
@[reducible] def X39_0 : List (Ex × Tmpl) := [(.exit 0, ⟨26, [], [.own 3 24 3 zI], [], none⟩)]
noncomputable def step39_0 : (List Int) × (List Int) × Int → Option (((List Int) × (List Int) × Int) ⊕ (List Int)) := fun (l, out, i) =>
 bif decide (i < (l.length : Int)) then
  bif inBounds i l.length then
   bif inBounds (wr (i - 1)) l.length then
    optE (s74 (wr ((l.getD i.toNat 0) - (l.getD (wr (i - 1)).toNat 0)), 4)) (fun r1 =>
     bif room 8 (out.length + 1) then
      some (.inl (l, out ++ [r1], wr (i + 1)))
     else
      none)
     (none)
   else
    none
  else
   none
 else
  some (.inr out)
theorem one39_0 : oneLoop Tryd.prog 39 0 = true := by kernel_rfl
theorem lp39_0 : ItemOk Tryd.prog (.loop 39 0 T39_0 X39_0 (loopVal step39_0)) := item_loopM md4 ext4 (U := 9) (n := 11) noSpecial mixed Gd2K14_ok one39_0 (fun x => by kernel_rfl)
noncomputable def Gd2K15 : List Ev.Item := .loop 39 0 T39_0 X39_0 (loopVal step39_0) :: Gd2K14
theorem Gd2K15_ok : ∀ q ∈ Gd2K15, ItemOk Tryd.prog q := items_cons lp39_0 Gd2K14_ok
noncomputable def s39 : List Int → Option (List Int) := fun l =>
 optE (loopVal step39_0 (l, [], 1)) (fun e1 =>
  some (e1))
  (none)
theorem i39 : ItemOk Tryd.prog (.fn 39 [.d (.slice zI)] [.own 3 zI] s39) := item_fnM md4 ext4 (U := 9) (n := 12) noSpecial mixed Gd2K15_ok (fun x => by kernel_rfl)
noncomputable def Gd2K16 : List Ev.Item := .fn 39 [.d (.slice zI)] [.own 3 zI] s39 :: Gd2K15
theorem Gd2K16_ok : ∀ q ∈ Gd2K16, ItemOk Tryd.prog q := items_cons i39 Gd2K15_ok
@[reducible] def T26_0 : Tmpl := ⟨26, [], [.val 0 (.slice zI), .val 1 (.slice zI), .val 5 zI], [], none⟩
@[reducible] def X26_0 : List (Ex × Tmpl) := [(.ret, ⟨26, [], [.val 4 .bool], [], none⟩), (.exit 0, ⟨26, [], [], [], none⟩)]
noncomputable def step26_0 : (List Int) × (List Int) × Int → Option (((List Int) × (List Int) × Int) ⊕ ((Bool) ⊕ (Unit))) := fun (a, b, i) =>
 bif decide (i < (a.length : Int)) then
  bif inBounds i a.length then
   bif inBounds i b.length then
    bif (a.getD i.toNat 0) != (b.getD i.toNat 0) then
     some (.inr (.inl false))
    else
     some (.inl (a, b, wr (i + 1)))
   else
    none
  else
   none
 else
  some (.inr (.inr ()))
theorem one26_0 : oneLoop Tryd.prog 26 0 = true := by kernel_rfl
theorem lp26_0 : ItemOk Tryd.prog (.loop 26 0 T26_0 X26_0 (loopVal step26_0)) := item_loopM md4 ext4 (U := 9) (n := 11) noSpecial mixed Gd2K16_ok one26_0 (fun x => by kernel_rfl)
noncomputable def Gd2K17 : List Ev.Item := .loop 26 0 T26_0 X26_0 (loopVal step26_0) :: Gd2K16
theorem Gd2K17_ok : ∀ q ∈ Gd2K17, ItemOk Tryd.prog q := items_cons lp26_0 Gd2K16_ok
noncomputable def s26 : (List Int) × (List Int) → Option (Bool) := fun (a, b) =>
 bif (a.length : Int) != (b.length : Int) then
  some (false)
 else
  optE (loopVal step26_0 (a, b, 0)) (fun e1 =>
   sumE e1 (fun e2 =>
    some (e2)) (fun _ =>
    some (true)))
   (none)
theorem i26 : ItemOk Tryd.prog (.fn 26 [.d (.slice zI), .d (.slice zI)] [.d .bool] s26) := item_fnM md4 ext4 (U := 9) (n := 12) noSpecial mixed Gd2K17_ok (fun x => by kernel_rfl)
noncomputable def Gd2K18 : List Ev.Item := .fn 26 [.d (.slice zI), .d (.slice zI)] [.d .bool] s26 :: Gd2K17
theorem Gd2K18_ok : ∀ q ∈ Gd2K18, ItemOk Tryd.prog q := items_cons i26 Gd2K17_ok
@[reducible] def T40_0 : Tmpl := ⟨29, [], [.val 1 (.slice zI), .own 5 27 3 zI, .val 6 zI], [], none⟩
@[reducible] def X40_0 : List (Ex × Tmpl) := [(.exit 0, ⟨29, [], [.own 5 27 3 zI], [], none⟩)]
noncomputable def step40_0 : (List Int) × (List Int) × Int → Option (((List Int) × (List Int) × Int) ⊕ (List Int)) := fun (l, out, i) =>
 bif decide (i < (l.length : Int)) then
  bif inBounds i out.length then
   bif inBounds i l.length then
    optE (s74 (wr ((out.getD i.toNat 0) + (l.getD i.toNat 0)), 4)) (fun r1 =>
     bif room 8 (out.length + 1) then
      some (.inl (l, out ++ [r1], wr (i + 1)))
     else
      none)
     (none)
   else
    none
  else
   none
 else
  some (.inr out)
theorem one40_0 : oneLoop Tryd.prog 40 0 = true := by kernel_rfl
theorem lp40_0 : ItemOk Tryd.prog (.loop 40 0 T40_0 X40_0 (loopVal step40_0)) := item_loopM md4 ext4 (U := 9) (n := 11) noSpecial mixed Gd2K18_ok one40_0 (fun x => by kernel_rfl)
noncomputable def Gd2K19 : List Ev.Item := .loop 40 0 T40_0 X40_0 (loopVal step40_0) :: Gd2K18
theorem Gd2K19_ok : ∀ q ∈ Gd2K19, ItemOk Tryd.prog q := items_cons lp40_0 Gd2K18_ok
noncomputable def s40 : Int × (List Int) → Option (List Int) := fun (first0, l) =>
 optE (loopVal step40_0 (l, [first0], 0)) (fun e1 =>
  some (e1))
  (none)
theorem i40 : ItemOk Tryd.prog (.fn 40 [.d zI, .d (.slice zI)] [.own 3 zI] s40) := item_fnM md4 ext4 (U := 9) (n := 12) noSpecial mixed Gd2K19_ok (fun x => by kernel_rfl)
noncomputable def Gd2K20 : List Ev.Item := .fn 40 [.d zI, .d (.slice zI)] [.own 3 zI] s40 :: Gd2K19
theorem Gd2K20_ok : ∀ q ∈ Gd2K20, ItemOk Tryd.prog q := items_cons i40 Gd2K19_ok
noncomputable def s6 : (List Int) × Int → Option (Bool) := fun (l, first0) =>
 bif !true then
  some (false)
 else
  optE (s17 l) (fun r1 =>
   bif !r1 then
    some (true)
   else
    optE (s22 l) (fun r2 =>
     optE (s36 r2) (fun r3 =>
      optE (s22 l) (fun r4 =>
       optE (s37 (first0, r4)) (fun r5 =>
        optE (s38 l) (fun r6 =>
         bif r6 != 0 then
          bif r3.2 != r6 then
           some (false)
          else
           bif (r3.1.length : Int) != 0 then
            some (false)
           else
            bif r6 == 0 then
             bif r3.2 != 0 then
              some (false)
             else
              optE (s39 l) (fun r7 =>
               optE (s26 (r3.1, r7)) (fun r8 =>
                bif !r8 then
                 some (false)
                else
                 optE (s28 (first0, 0, 3)) (fun r9 =>
                  bif !r9 then
                   bif r5.2 == 2 then
                    some ((r5.1.length : Int) == 0)
                   else
                    some (false)
                  else
                   bif r6 != 0 then
                    bif r5.2 == r6 then
                     some ((r5.1.length : Int) == 0)
                    else
                     some (false)
                   else
                    bif r5.2 != 0 then
                     bif r5.2 == 0 then
                      optE (s40 (first0, l)) (fun r10 =>
                       optE (s26 (r5.1, r10)) (fun r11 =>
                        some (r11))
                        (none))
                       (none)
                     else
                      some (false)
                    else
                     optE (s40 (first0, l)) (fun r12 =>
                      optE (s26 (r5.1, r12)) (fun r13 =>
                       bif !r13 then
                        bif r5.2 == 0 then
                         optE (s40 (first0, l)) (fun r14 =>
                          optE (s26 (r5.1, r14)) (fun r15 =>
                           some (r15))
                           (none))
                          (none)
                        else
                         some (false)
                       else
                        bif decide ((l.length : Int) ≥ 600) then
                         bif r5.2 == 0 then
                          optE (s40 (first0, l)) (fun r16 =>
                           optE (s26 (r5.1, r16)) (fun r17 =>
                            some (r17))
                            (none))
                           (none)
                         else
                          some (false)
                        else
                         optE (s22 r5.1) (fun r18 =>
                          optE (s36 r18) (fun r19 =>
                           bif r19.2 != 0 then
                            bif r19.2 == 0 then
                             optE (s26 (r19.1, l)) (fun r20 =>
                              some (r20))
                              (none)
                            else
                             some (false)
                           else
                            optE (s26 (r19.1, l)) (fun r21 =>
                             bif !r21 then
                              bif r19.2 == 0 then
                               optE (s26 (r19.1, l)) (fun r22 =>
                                some (r22))
                                (none)
                              else
                               some (false)
                             else
                              bif (l.length : Int) == 0 then
                               bif r19.2 == 0 then
                                optE (s26 (r19.1, l)) (fun r23 =>
                                 some (r23))
                                 (none)
                               else
                                some (false)
                              else
                               bif inBounds 0 l.length then
                                optE (s22 r3.1) (fun r24 =>
                                 optE (s37 (l.getD 0 0, r24)) (fun r25 =>
                                  bif r25.2 == 0 then
                                   optE (s26 (r25.1, l)) (fun r26 =>
                                    some (r26))
                                    (none)
                                  else
                                   some (false))
                                  (none))
                                 (none)
                               else
                                none)
                             (none))
                           (none))
                          (none))
                       (none))
                      (none))
                  (none))
                (none))
               (none)
            else
             optE (s28 (first0, 0, 3)) (fun r27 =>
              bif !r27 then
               bif r5.2 == 2 then
                some ((r5.1.length : Int) == 0)
               else
                some (false)
              else
               bif r6 != 0 then
                bif r5.2 == r6 then
                 some ((r5.1.length : Int) == 0)
                else
                 some (false)
               else
                bif r5.2 != 0 then
                 bif r5.2 == 0 then
                  optE (s40 (first0, l)) (fun r28 =>
                   optE (s26 (r5.1, r28)) (fun r29 =>
                    some (r29))
                    (none))
                   (none)
                 else
                  some (false)
                else
                 optE (s40 (first0, l)) (fun r30 =>
                  optE (s26 (r5.1, r30)) (fun r31 =>
                   bif !r31 then
                    bif r5.2 == 0 then
                     optE (s40 (first0, l)) (fun r32 =>
                      optE (s26 (r5.1, r32)) (fun r33 =>
                       some (r33))
                       (none))
                      (none)
                    else
                     some (false)
                   else
                    bif decide ((l.length : Int) ≥ 600) then
                     bif r5.2 == 0 then
                      optE (s40 (first0, l)) (fun r34 =>
                       optE (s26 (r5.1, r34)) (fun r35 =>
                        some (r35))
                        (none))
                       (none)
                     else
                      some (false)
                    else
                     optE (s22 r5.1) (fun r36 =>
                      optE (s36 r36) (fun r37 =>
                       bif r37.2 != 0 then
                        bif r37.2 == 0 then
                         optE (s26 (r37.1, l)) (fun r38 =>
                          some (r38))
                          (none)
                        else
                         some (false)
                       else
                        optE (s26 (r37.1, l)) (fun r39 =>
                         bif !r39 then
                          bif r37.2 == 0 then
                           optE (s26 (r37.1, l)) (fun r40 =>
                            some (r40))
                            (none)
                          else
                           some (false)
                         else
                          bif (l.length : Int) == 0 then
                           bif r37.2 == 0 then
                            optE (s26 (r37.1, l)) (fun r41 =>
                             some (r41))
                             (none)
                           else
                            some (false)
                          else
                           bif inBounds 0 l.length then
                            optE (s22 r3.1) (fun r42 =>
                             optE (s37 (l.getD 0 0, r42)) (fun r43 =>
                              bif r43.2 == 0 then
                               optE (s26 (r43.1, l)) (fun r44 =>
                                some (r44))
                                (none)
                              else
                               some (false))
                              (none))
                             (none)
                           else
                            none)
                         (none))
                       (none))
                      (none))
                   (none))
                  (none))
              (none)
         else
          bif r6 == 0 then
           bif r3.2 != 0 then
            some (false)
           else
            optE (s39 l) (fun r45 =>
             optE (s26 (r3.1, r45)) (fun r46 =>
              bif !r46 then
               some (false)
              else
               optE (s28 (first0, 0, 3)) (fun r47 =>
                bif !r47 then
                 bif r5.2 == 2 then
                  some ((r5.1.length : Int) == 0)
                 else
                  some (false)
                else
                 bif r6 != 0 then
                  bif r5.2 == r6 then
                   some ((r5.1.length : Int) == 0)
                  else
                   some (false)
                 else
                  bif r5.2 != 0 then
                   bif r5.2 == 0 then
                    optE (s40 (first0, l)) (fun r48 =>
                     optE (s26 (r5.1, r48)) (fun r49 =>
                      some (r49))
                      (none))
                     (none)
                   else
                    some (false)
                  else
                   optE (s40 (first0, l)) (fun r50 =>
                    optE (s26 (r5.1, r50)) (fun r51 =>
                     bif !r51 then
                      bif r5.2 == 0 then
                       optE (s40 (first0, l)) (fun r52 =>
                        optE (s26 (r5.1, r52)) (fun r53 =>
                         some (r53))
                         (none))
                        (none)
                      else
                       some (false)
                     else
                      bif decide ((l.length : Int) ≥ 600) then
                       bif r5.2 == 0 then
                        optE (s40 (first0, l)) (fun r54 =>
                         optE (s26 (r5.1, r54)) (fun r55 =>
                          some (r55))
                          (none))
                         (none)
                       else
                        some (false)
                      else
                       optE (s22 r5.1) (fun r56 =>
                        optE (s36 r56) (fun r57 =>
                         bif r57.2 != 0 then
                          bif r57.2 == 0 then
                           optE (s26 (r57.1, l)) (fun r58 =>
                            some (r58))
                            (none)
                          else
                           some (false)
                         else
                          optE (s26 (r57.1, l)) (fun r59 =>
                           bif !r59 then
                            bif r57.2 == 0 then
                             optE (s26 (r57.1, l)) (fun r60 =>
                              some (r60))
                              (none)
                            else
                             some (false)
                           else
                            bif (l.length : Int) == 0 then
                             bif r57.2 == 0 then
                              optE (s26 (r57.1, l)) (fun r61 =>
                               some (r61))
                               (none)
                             else
                              some (false)
                            else
                             bif inBounds 0 l.length then
                              optE (s22 r3.1) (fun r62 =>
                               optE (s37 (l.getD 0 0, r62)) (fun r63 =>
                                bif r63.2 == 0 then
                                 optE (s26 (r63.1, l)) (fun r64 =>
                                  some (r64))
                                  (none)
                                else
                                 some (false))
                                (none))
                               (none)
                             else
                              none)
                           (none))
                         (none))
                        (none))
                     (none))
                    (none))
                (none))
              (none))
             (none)
          else
           optE (s28 (first0, 0, 3)) (fun r65 =>
            bif !r65 then
             bif r5.2 == 2 then
              some ((r5.1.length : Int) == 0)
             else
              some (false)
            else
             bif r6 != 0 then
              bif r5.2 == r6 then
               some ((r5.1.length : Int) == 0)
              else
               some (false)
             else
              bif r5.2 != 0 then
               bif r5.2 == 0 then
                optE (s40 (first0, l)) (fun r66 =>
                 optE (s26 (r5.1, r66)) (fun r67 =>
                  some (r67))
                  (none))
                 (none)
               else
                some (false)
              else
               optE (s40 (first0, l)) (fun r68 =>
                optE (s26 (r5.1, r68)) (fun r69 =>
                 bif !r69 then
                  bif r5.2 == 0 then
                   optE (s40 (first0, l)) (fun r70 =>
                    optE (s26 (r5.1, r70)) (fun r71 =>
                     some (r71))
                     (none))
                    (none)
                  else
                   some (false)
                 else
                  bif decide ((l.length : Int) ≥ 600) then
                   bif r5.2 == 0 then
                    optE (s40 (first0, l)) (fun r72 =>
                     optE (s26 (r5.1, r72)) (fun r73 =>
                      some (r73))
                      (none))
                     (none)
                   else
                    some (false)
                  else
                   optE (s22 r5.1) (fun r74 =>
                    optE (s36 r74) (fun r75 =>
                     bif r75.2 != 0 then
                      bif r75.2 == 0 then
                       optE (s26 (r75.1, l)) (fun r76 =>
                        some (r76))
                        (none)
                      else
                       some (false)
                     else
                      optE (s26 (r75.1, l)) (fun r77 =>
                       bif !r77 then
                        bif r75.2 == 0 then
                         optE (s26 (r75.1, l)) (fun r78 =>
                          some (r78))
                          (none)
                        else
                         some (false)
                       else
                        bif (l.length : Int) == 0 then
                         bif r75.2 == 0 then
                          optE (s26 (r75.1, l)) (fun r79 =>
                           some (r79))
                           (none)
                         else
                          some (false)
                        else
                         bif inBounds 0 l.length then
                          optE (s22 r3.1) (fun r80 =>
                           optE (s37 (l.getD 0 0, r80)) (fun r81 =>
                            bif r81.2 == 0 then
                             optE (s26 (r81.1, l)) (fun r82 =>
                              some (r82))
                              (none)
                            else
                             some (false))
                            (none))
                           (none)
                         else
                          none)
                       (none))
                     (none))
                    (none))
                 (none))
                (none))
            (none))
         (none))
        (none))
       (none))
      (none))
     (none))
   (none)
theorem i6 : ItemOk Tryd.prog (.fn 6 [.d (.slice zI), .d zI] [.d .bool] s6) := item_fnM md4 ext4 (U := 9) (n := 12) noSpecial mixed Gd2K20_ok (fun x => by kernel_rfl)
noncomputable def Gd2K21 : List Ev.Item := .fn 6 [.d (.slice zI), .d zI] [.d .bool] s6 :: Gd2K20
theorem Gd2K21_ok : ∀ q ∈ Gd2K21, ItemOk Tryd.prog q := items_cons i6 Gd2K20_ok
end Go.Proofs.YthckjfbhdjjnkaaDoor
