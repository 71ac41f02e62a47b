import Derived.Test.YthckjfbhdjjnkaaDoorGd4
set_option linter.unusedSimpArgs false
set_option maxRecDepth 100000
namespace Go.Proofs.YthckjfbhdjjnkaaDoor
open Go.Ev
noncomputable def s109 : (List (Int × Int)) × Int → Option (Int) := fun (l, length) =>
 optE (s94 l) (fun r1 =>
  optE (s79 (length, 1, 16)) (fun r2 =>
   optE (s82 (r2, 2)) (fun r3 =>
    optE (s80 [r1, r3]) (fun r4 =>
     some (r4))
     (none))
    (none))
   (none))
  (none)
theorem i109 : ItemOk Tryd.prog (.fn 109 [.d (.slice (.agg zP)), .d zI] [.d zI] s109) := item_fnM md4 ext4 (U := 9) (n := 12) noSpecial mixed Gd4K22_ok (fun x => by kernel_rfl)
noncomputable def Gd5K1 : List Ev.Item := .fn 109 [.d (.slice (.agg zP)), .d zI] [.d zI] s109 :: Gd4K22
theorem Gd5K1_ok : ∀ q ∈ Gd5K1, ItemOk Tryd.prog q := items_cons i109 Gd4K22_ok
@[reducible] def T110_0 : Tmpl := ⟨30, [], [.val 0 (.slice (.agg zP)), .val 1 zI, .own 7 28 83 (.agg zP), .val 8 zI], [], none⟩
@[reducible] def X110_0 : List (Ex × Tmpl) := [(.exit 0, ⟨30, [], [.own 7 28 83 (.agg zP)], [], none⟩)]
noncomputable def step110_0 : (List (Int × Int)) × Int × (List (Int × Int)) × Int → Option (((List (Int × Int)) × Int × (List (Int × Int)) × Int) ⊕ (List (Int × Int))) := fun (l, length, out, at0) =>
 bif decide ((wr (at0 + length)) ≤ (l.length : Int)) then
  bif (decide (0 ≤ at0)) && ((decide (at0 ≤ (wr (at0 + length)))) && (decide ((wr (at0 + length)) ≤ (l.length : Int)))) then
   optE (s96 ((l.take (wr (at0 + length)).toNat).drop at0.toNat)) (fun r1 =>
    bif room 16 (out.length + 1) then
     some (.inl (l, length, out ++ [r1], wr (at0 + length)))
    else
     none)
    (none)
  else
   none
 else
  some (.inr out)
theorem one110_0 : oneLoop Tryd.prog 110 0 = true := by kernel_rfl
theorem lp110_0 : ItemOk Tryd.prog (.loop 110 0 T110_0 X110_0 (loopVal step110_0)) := item_loopM md4 ext4 (U := 9) (n := 11) noSpecial mixed Gd5K1_ok one110_0 (fun x => by kernel_rfl)
noncomputable def Gd5K2 : List Ev.Item := .loop 110 0 T110_0 X110_0 (loopVal step110_0) :: Gd5K1
theorem Gd5K2_ok : ∀ q ∈ Gd5K2, ItemOk Tryd.prog q := items_cons lp110_0 Gd5K1_ok
noncomputable def s110 : (List (Int × Int)) × Int × Int → Option (List (Int × Int)) := fun (l, length, offset) =>
 optE (loopVal step110_0 (l, length, [], offset)) (fun e1 =>
  some (e1))
  (none)
theorem i110 : ItemOk Tryd.prog (.fn 110 [.d (.slice (.agg zP)), .d zI, .d zI] [.own 83 (.agg zP)] s110) := item_fnM md4 ext4 (U := 9) (n := 12) noSpecial mixed Gd5K2_ok (fun x => by kernel_rfl)
noncomputable def Gd5K3 : List Ev.Item := .fn 110 [.d (.slice (.agg zP)), .d zI, .d zI] [.own 83 (.agg zP)] s110 :: Gd5K2
theorem Gd5K3_ok : ∀ q ∈ Gd5K3, ItemOk Tryd.prog q := items_cons i110 Gd5K2_ok
@[reducible] def T66_2 : Tmpl := ⟨51, [], [.val 0 (.slice (.agg zP)), .val 1 zI, .val 7 zI, .own 8 48 3 zI, .val 10 zI, .val 25 zI, .val 26 zI, .val 34 (.slice (.agg zP)), .val 35 zI, .val 36 zI], [], none⟩
@[reducible] def X66_2 : List (Ex × Tmpl) := [(.exit 2, ⟨51, [], [.val 0 (.slice (.agg zP)), .val 1 zI, .val 7 zI, .own 8 48 3 zI, .val 10 zI, .val 25 zI, .val 26 zI], [], none⟩)]
noncomputable def step66_2 : (List (Int × Int)) × Int × Int × (List Int) × Int × Int × Int × (List (Int × Int)) × Int × Int → Option (((List (Int × Int)) × Int × Int × (List Int) × Int × Int × Int × (List (Int × Int)) × Int × Int) ⊕ ((List (Int × Int)) × Int × Int × (List Int) × Int × Int × Int)) := fun (l, length, count, out, total, t25, t26, t34, t35, t36) =>
 bif decide (t36 < t35) then
  bif inBounds t36 t34.length then
   optE (s95 (t34.getD t36.toNat (0, 0))) (fun r4 =>
    some (.inl (l, length, count, out, wr (total + r4), t25, t26, t34, t35, wr (t36 + 1))))
    (none)
  else
   none
 else
  some (.inr (l, length, count, out, total, t25, t26))
theorem one66_2 : oneLoop Tryd.prog 66 2 = true := by kernel_rfl
theorem lp66_2 : ItemOk Tryd.prog (.loop 66 2 T66_2 X66_2 (loopVal step66_2)) := item_loopM md4 ext4 (U := 9) (n := 11) noSpecial mixed Gd5K3_ok one66_2 (fun x => by kernel_rfl)
noncomputable def Gd5K4 : List Ev.Item := .loop 66 2 T66_2 X66_2 (loopVal step66_2) :: Gd5K3
theorem Gd5K4_ok : ∀ q ∈ Gd5K4, ItemOk Tryd.prog q := items_cons lp66_2 Gd5K3_ok
@[reducible] def T66_0 : Tmpl := ⟨51, [], [.val 0 (.slice (.agg zP)), .val 1 zI, .val 7 zI, .own 8 48 3 zI, .val 25 zI, .val 26 zI], [], none⟩
@[reducible] def X66_0 : List (Ex × Tmpl) := [(.exit 0, ⟨51, [], [.own 8 48 3 zI], [], none⟩)]
noncomputable def step66_0 : (List (Int × Int)) × Int × Int × (List Int) × Int × Int → Option (((List (Int × Int)) × Int × Int × (List Int) × Int × Int) ⊕ (List Int)) := fun (l, length, count, out, t25, t26) =>
 bif decide (t26 < t25) then
  optE (s110 (l, length, t26)) (fun r3 =>
   bif (decide (0 ≤ count)) && (decide (count ≤ (r3.length : Int))) then
    optE (loopVal step66_2 (l, length, count, out, 0, t25, t26, r3.take count.toNat, ((r3.take count.toNat).length : Int), 0)) (fun e4 =>
     bif room 8 (e4.2.2.2.1.length + 1) then
      some (.inl (e4.1, e4.2.1, e4.2.2.1, e4.2.2.2.1 ++ [e4.2.2.2.2.1], e4.2.2.2.2.2.1, wr (e4.2.2.2.2.2.2 + 1)))
     else
      none)
     (none)
   else
    none)
   (none)
 else
  some (.inr out)
theorem one66_0 : oneLoop Tryd.prog 66 0 = true := by kernel_rfl
theorem lp66_0 : ItemOk Tryd.prog (.loop 66 0 T66_0 X66_0 (loopVal step66_0)) := item_loopM md4 ext4 (U := 9) (n := 11) noSpecial mixed Gd5K4_ok one66_0 (fun x => by kernel_rfl)
noncomputable def Gd5K5 : List Ev.Item := .loop 66 0 T66_0 X66_0 (loopVal step66_0) :: Gd5K4
theorem Gd5K5_ok : ∀ q ∈ Gd5K5, ItemOk Tryd.prog q := items_cons lp66_0 Gd5K4_ok
noncomputable def s66 : (List (Int × Int)) × Int → Option ((List Int) × Int) := fun (l, length) =>
 optE (s109 (l, length)) (fun r1 =>
  bif r1 != 0 then
   some (([], r1))
  else
   optE (s110 (l, length, wr (length - 1))) (fun r2 =>
    optE (loopVal step66_0 (l, length, (r2.length : Int), [], length, 0)) (fun e3 =>
     some ((e3, 0)))
     (none))
    (none))
  (none)
theorem i66 : ItemOk Tryd.prog (.fn 66 [.d (.slice (.agg zP)), .d zI] [.own 3 zI, .d zI] s66) := item_fnM md4 ext4 (U := 9) (n := 12) noSpecial mixed Gd5K5_ok (fun x => by kernel_rfl)
noncomputable def Gd5K6 : List Ev.Item := .fn 66 [.d (.slice (.agg zP)), .d zI] [.own 3 zI, .d zI] s66 :: Gd5K5
theorem Gd5K6_ok : ∀ q ∈ Gd5K6, ItemOk Tryd.prog q := items_cons i66 Gd5K5_ok
@[reducible] def T112_0 : Tmpl := ⟨25, [], [.val 0 (.slice zI), .val 3 zI, .val 4 zI], [], none⟩
@[reducible] def X112_0 : List (Ex × Tmpl) := [(.exit 0, ⟨25, [], [.val 3 zI], [], none⟩)]
noncomputable def step112_0 : (List Int) × Int × Int → Option (((List Int) × Int × Int) ⊕ (Int)) := fun (x0, m, i) =>
 bif decide (i < (x0.length : Int)) then
  bif inBounds i x0.length then
   some (.inl (x0, mx m (x0.getD i.toNat 0), wr (i + 1)))
  else
   none
 else
  some (.inr m)
theorem one112_0 : oneLoop Tryd.prog 112 0 = true := by kernel_rfl
theorem lp112_0 : ItemOk Tryd.prog (.loop 112 0 T112_0 X112_0 (loopVal step112_0)) := item_loopM md4 ext4 (U := 9) (n := 11) noSpecial mixed Gd5K6_ok one112_0 (fun x => by kernel_rfl)
noncomputable def Gd5K7 : List Ev.Item := .loop 112 0 T112_0 X112_0 (loopVal step112_0) :: Gd5K6
theorem Gd5K7_ok : ∀ q ∈ Gd5K7, ItemOk Tryd.prog q := items_cons lp112_0 Gd5K6_ok
noncomputable def s112 : List Int → Option (Int) := fun x0 =>
 bif decide ((x0.length : Int) < 1) then
  none
 else
  bif inBounds 0 x0.length then
   optE (loopVal step112_0 (x0, x0.getD 0 0, 1)) (fun e1 =>
    some (e1))
    (none)
  else
   none
theorem i112 : ItemOk Tryd.prog (.fn 112 [.d (.slice zI)] [.d zI] s112) := item_fnM md4 ext4 (U := 9) (n := 12) noSpecial mixed Gd5K7_ok (fun x => by kernel_rfl)
noncomputable def Gd5K8 : List Ev.Item := .fn 112 [.d (.slice zI)] [.d zI] s112 :: Gd5K7
theorem Gd5K8_ok : ∀ q ∈ Gd5K8, ItemOk Tryd.prog q := items_cons i112 Gd5K7_ok
@[reducible] def T111_0 : Tmpl := ⟨19, [], [.val 0 (.slice zI), .val 1 zI, .val 7 zI, .val 8 zI], [], none⟩
@[reducible] def X111_0 : List (Ex × Tmpl) := [(.ret, ⟨19, [], [.val 4 zI], [], none⟩), (.exit 0, ⟨19, [], [], [], none⟩)]
noncomputable def step111_0 : (List Int) × Int × Int × Int → Option (((List Int) × Int × Int × Int) ⊕ ((Int) ⊕ (Unit))) := fun (s, v, t7, t8) =>
 bif decide (t8 < t7) then
  bif inBounds t8 s.length then
   bif v == (s.getD t8.toNat 0) then
    some (.inr (.inl t8))
   else
    some (.inl (s, v, t7, wr (t8 + 1)))
  else
   none
 else
  some (.inr (.inr ()))
theorem one111_0 : oneLoop Tryd.prog 111 0 = true := by kernel_rfl
theorem lp111_0 : ItemOk Tryd.prog (.loop 111 0 T111_0 X111_0 (loopVal step111_0)) := item_loopM md4 ext4 (U := 9) (n := 11) noSpecial mixed Gd5K8_ok one111_0 (fun x => by kernel_rfl)
noncomputable def Gd5K9 : List Ev.Item := .loop 111 0 T111_0 X111_0 (loopVal step111_0) :: Gd5K8
theorem Gd5K9_ok : ∀ q ∈ Gd5K9, ItemOk Tryd.prog q := items_cons lp111_0 Gd5K8_ok
noncomputable def s111 : (List Int) × Int → Option (Int) := fun (s, v) =>
 optE (loopVal step111_0 (s, v, (s.length : Int), 0)) (fun e1 =>
  sumE e1 (fun e2 =>
   some (e2)) (fun _ =>
   some ((-1))))
  (none)
theorem i111 : ItemOk Tryd.prog (.fn 111 [.d (.slice zI), .d zI] [.d zI] s111) := item_fnM md4 ext4 (U := 9) (n := 12) noSpecial mixed Gd5K9_ok (fun x => by kernel_rfl)
noncomputable def Gd5K10 : List Ev.Item := .fn 111 [.d (.slice zI), .d zI] [.d zI] s111 :: Gd5K9
theorem Gd5K10_ok : ∀ q ∈ Gd5K10, ItemOk Tryd.prog q := items_cons i111 Gd5K9_ok
noncomputable def s67 : (List (Int × Int)) × Int → Option (Int × Int) := fun (l, length) =>
 optE (s66 (l, length)) (fun r1 =>
  bif r1.2 != 0 then
   some ((0, r1.2))
  else
   optE (s112 r1.1) (fun r2 =>
    optE (s111 (r1.1, r2)) (fun r3 =>
     some ((r3, 0)))
     (none))
    (none))
  (none)
theorem i67 : ItemOk Tryd.prog (.fn 67 [.d (.slice (.agg zP)), .d zI] [.d zI, .d zI] s67) := item_fnM md4 ext4 (U := 9) (n := 12) noSpecial mixed Gd5K10_ok (fun x => by kernel_rfl)
noncomputable def Gd5K11 : List Ev.Item := .fn 67 [.d (.slice (.agg zP)), .d zI] [.d zI, .d zI] s67 :: Gd5K10
theorem Gd5K11_ok : ∀ q ∈ Gd5K11, ItemOk Tryd.prog q := items_cons i67 Gd5K10_ok
noncomputable def s68 : (List (Int × Int)) × Int × Int → Option ((List (Int × Int)) × Int) := fun (l, length, offset) =>
 optE (s109 (l, length)) (fun r1 =>
  optE (s79 (offset, 0, wr (length - 1))) (fun r2 =>
   optE (s82 (r2, 2)) (fun r3 =>
    optE (s80 [r1, r3]) (fun r4 =>
     bif r4 != 0 then
      some (([], r4))
     else
      optE (s110 (l, length, offset)) (fun r5 =>
       some ((r5, 0)))
       (none))
     (none))
    (none))
   (none))
  (none)
theorem i68 : ItemOk Tryd.prog (.fn 68 [.d (.slice (.agg zP)), .d zI, .d zI] [.own 83 (.agg zP), .d zI] s68) := item_fnM md4 ext4 (U := 9) (n := 12) noSpecial mixed Gd5K11_ok (fun x => by kernel_rfl)
noncomputable def Gd5K12 : List Ev.Item := .fn 68 [.d (.slice (.agg zP)), .d zI, .d zI] [.own 83 (.agg zP), .d zI] s68 :: Gd5K11
theorem Gd5K12_ok : ∀ q ∈ Gd5K12, ItemOk Tryd.prog q := items_cons i68 Gd5K11_ok
noncomputable def s69 : Int → Option (Int) := fun n =>
 optE (s28 (n, 1, 16)) (fun r1 =>
  bif !r1 then
   some (2)
  else
   some (0))
  (none)
theorem i69 : ItemOk Tryd.prog (.fn 69 [.d zI] [.d zI] s69) := item_fnM md4 ext4 (U := 9) (n := 12) noSpecial mixed Gd5K12_ok (fun x => by kernel_rfl)
noncomputable def Gd5K13 : List Ev.Item := .fn 69 [.d zI] [.d zI] s69 :: Gd5K12
theorem Gd5K13_ok : ∀ q ∈ Gd5K13, ItemOk Tryd.prog q := items_cons i69 Gd5K12_ok
@[reducible] def T73_0 : Tmpl := ⟨27, [], [.val 0 (.slice (.agg zP)), .val 1 zI, .own 7 25 83 (.agg zP), .val 8 zI], [], none⟩
@[reducible] def X73_0 : List (Ex × Tmpl) := [(.exit 0, ⟨27, [], [.own 7 25 83 (.agg zP)], [], none⟩)]
noncomputable def step73_0 : (List (Int × Int)) × Int × (List (Int × Int)) × Int → Option (((List (Int × Int)) × Int × (List (Int × Int)) × Int) ⊕ (List (Int × Int))) := fun (l, length, out, at0) =>
 bif decide ((wr (at0 + length)) ≤ (l.length : Int)) then
  optE (s99 (l, at0, length)) (fun r1 =>
   bif room 16 (out.length + 1) then
    some (.inl (l, length, out ++ [r1], wr (at0 + length)))
   else
    none)
   (none)
 else
  some (.inr out)
theorem one73_0 : oneLoop Tryd.prog 73 0 = true := by kernel_rfl
theorem lp73_0 : ItemOk Tryd.prog (.loop 73 0 T73_0 X73_0 (loopVal step73_0)) := item_loopM md4 ext4 (U := 9) (n := 11) noSpecial mixed Gd5K13_ok one73_0 (fun x => by kernel_rfl)
noncomputable def Gd5K14 : List Ev.Item := .loop 73 0 T73_0 X73_0 (loopVal step73_0) :: Gd5K13
theorem Gd5K14_ok : ∀ q ∈ Gd5K14, ItemOk Tryd.prog q := items_cons lp73_0 Gd5K13_ok
noncomputable def s73 : (List (Int × Int)) × Int × Int → Option (List (Int × Int)) := fun (l, length, offset) =>
 optE (loopVal step73_0 (l, length, [], offset)) (fun e1 =>
  some (e1))
  (none)
theorem i73 : ItemOk Tryd.prog (.fn 73 [.d (.slice (.agg zP)), .d zI, .d zI] [.own 83 (.agg zP)] s73) := item_fnM md4 ext4 (U := 9) (n := 12) noSpecial mixed Gd5K14_ok (fun x => by kernel_rfl)
noncomputable def Gd5K15 : List Ev.Item := .fn 73 [.d (.slice (.agg zP)), .d zI, .d zI] [.own 83 (.agg zP)] s73 :: Gd5K14
theorem Gd5K15_ok : ∀ q ∈ Gd5K15, ItemOk Tryd.prog q := items_cons i73 Gd5K14_ok
@[reducible] def T70_2 : Tmpl := ⟨43, [], [.val 0 (.slice (.agg zP)), .val 1 zI, .val 5 zI, .own 6 41 3 zI, .val 7 zI, .own 8 25 83 (.agg zP), .val 9 zI, .val 10 zI], [], none⟩
@[reducible] def X70_2 : List (Ex × Tmpl) := [(.exit 2, ⟨43, [], [.val 0 (.slice (.agg zP)), .val 1 zI, .val 5 zI, .own 6 41 3 zI, .val 7 zI, .val 9 zI], [], none⟩)]
noncomputable def step70_2 : (List (Int × Int)) × Int × Int × (List Int) × Int × (List (Int × Int)) × Int × Int → Option (((List (Int × Int)) × Int × Int × (List Int) × Int × (List (Int × Int)) × Int × Int) ⊕ ((List (Int × Int)) × Int × Int × (List Int) × Int × Int)) := fun (l, length, n, out, offset, sums, energy, i) =>
 bif decide (i < n) then
  bif inBounds i sums.length then
   optE (s98 (sums.getD i.toNat (0, 0))) (fun r3 =>
    some (.inl (l, length, n, out, offset, sums, wr (energy + r3), wr (i + 1))))
    (none)
  else
   none
 else
  some (.inr (l, length, n, out, offset, energy))
theorem one70_2 : oneLoop Tryd.prog 70 2 = true := by kernel_rfl
theorem lp70_2 : ItemOk Tryd.prog (.loop 70 2 T70_2 X70_2 (loopVal step70_2)) := item_loopM md4 ext4 (U := 9) (n := 11) noSpecial mixed Gd5K15_ok one70_2 (fun x => by kernel_rfl)
noncomputable def Gd5K16 : List Ev.Item := .loop 70 2 T70_2 X70_2 (loopVal step70_2) :: Gd5K15
theorem Gd5K16_ok : ∀ q ∈ Gd5K16, ItemOk Tryd.prog q := items_cons lp70_2 Gd5K15_ok
@[reducible] def T70_0 : Tmpl := ⟨43, [], [.val 0 (.slice (.agg zP)), .val 1 zI, .val 5 zI, .own 6 41 3 zI, .val 7 zI], [], none⟩
@[reducible] def X70_0 : List (Ex × Tmpl) := [(.exit 0, ⟨43, [], [.own 6 41 3 zI], [], none⟩)]
noncomputable def step70_0 : (List (Int × Int)) × Int × Int × (List Int) × Int → Option (((List (Int × Int)) × Int × Int × (List Int) × Int) ⊕ (List Int)) := fun (l, length, n, out, offset) =>
 bif decide (offset < length) then
  optE (s73 (l, length, offset)) (fun r2 =>
   optE (loopVal step70_2 (l, length, n, out, offset, r2, 0, 0)) (fun e3 =>
    bif room 8 (e3.2.2.2.1.length + 1) then
     some (.inl (e3.1, e3.2.1, e3.2.2.1, e3.2.2.2.1 ++ [e3.2.2.2.2.2], wr (e3.2.2.2.2.1 + 1)))
    else
     none)
    (none))
   (none)
 else
  some (.inr out)
theorem one70_0 : oneLoop Tryd.prog 70 0 = true := by kernel_rfl
theorem lp70_0 : ItemOk Tryd.prog (.loop 70 0 T70_0 X70_0 (loopVal step70_0)) := item_loopM md4 ext4 (U := 9) (n := 11) noSpecial mixed Gd5K16_ok one70_0 (fun x => by kernel_rfl)
noncomputable def Gd5K17 : List Ev.Item := .loop 70 0 T70_0 X70_0 (loopVal step70_0) :: Gd5K16
theorem Gd5K17_ok : ∀ q ∈ Gd5K17, ItemOk Tryd.prog q := items_cons lp70_0 Gd5K16_ok
noncomputable def s70 : (List (Int × Int)) × Int → Option (List Int) := fun (l, length) =>
 optE (s73 (l, length, wr (length - 1))) (fun r1 =>
  optE (loopVal step70_0 (l, length, (r1.length : Int), [], 0)) (fun e2 =>
   some (e2))
   (none))
  (none)
theorem i70 : ItemOk Tryd.prog (.fn 70 [.d (.slice (.agg zP)), .d zI] [.own 3 zI] s70) := item_fnM md4 ext4 (U := 9) (n := 12) noSpecial mixed Gd5K17_ok (fun x => by kernel_rfl)
noncomputable def Gd5K18 : List Ev.Item := .fn 70 [.d (.slice (.agg zP)), .d zI] [.own 3 zI] s70 :: Gd5K17
theorem Gd5K18_ok : ∀ q ∈ Gd5K18, ItemOk Tryd.prog q := items_cons i70 Gd5K17_ok
@[reducible] def T71_0 : Tmpl := ⟨28, [], [.own 5 10 3 zI, .val 6 zI, .val 7 zI], [], none⟩
@[reducible] def X71_0 : List (Ex × Tmpl) := [(.exit 0, ⟨28, [], [.val 6 zI], [], none⟩)]
noncomputable def step71_0 : (List Int) × Int × Int → Option (((List Int) × Int × Int) ⊕ (Int)) := fun (all0, best, i) =>
 bif decide (i < (all0.length : Int)) then
  bif inBounds i all0.length then
   bif inBounds best all0.length then
    bif decide ((all0.getD i.toNat 0) > (all0.getD best.toNat 0)) then
     some (.inl (all0, i, wr (i + 1)))
    else
     some (.inl (all0, best, wr (i + 1)))
   else
    none
  else
   none
 else
  some (.inr best)
theorem one71_0 : oneLoop Tryd.prog 71 0 = true := by kernel_rfl
theorem lp71_0 : ItemOk Tryd.prog (.loop 71 0 T71_0 X71_0 (loopVal step71_0)) := item_loopM md4 ext4 (U := 9) (n := 11) noSpecial mixed Gd5K18_ok one71_0 (fun x => by kernel_rfl)
noncomputable def Gd5K19 : List Ev.Item := .loop 71 0 T71_0 X71_0 (loopVal step71_0) :: Gd5K18
theorem Gd5K19_ok : ∀ q ∈ Gd5K19, ItemOk Tryd.prog q := items_cons lp71_0 Gd5K18_ok
noncomputable def s71 : (List (Int × Int)) × Int → Option (Int) := fun (l, length) =>
 optE (s70 (l, length)) (fun r1 =>
  optE (loopVal step71_0 (r1, 0, 0)) (fun e2 =>
   some (e2))
   (none))
  (none)
theorem i71 : ItemOk Tryd.prog (.fn 71 [.d (.slice (.agg zP)), .d zI] [.d zI] s71) := item_fnM md4 ext4 (U := 9) (n := 12) noSpecial mixed Gd5K19_ok (fun x => by kernel_rfl)
noncomputable def Gd5K20 : List Ev.Item := .fn 71 [.d (.slice (.agg zP)), .d zI] [.d zI] s71 :: Gd5K19
theorem Gd5K20_ok : ∀ q ∈ Gd5K20, ItemOk Tryd.prog q := items_cons i71 Gd5K19_ok
@[reducible] def T72_0 : Tmpl := ⟨26, [], [.val 0 (.slice (.agg zP)), .val 1 (.slice (.agg zP)), .val 5 zI], [], none⟩
@[reducible] def X72_0 : List (Ex × Tmpl) := [(.ret, ⟨26, [], [.val 4 .bool], [], none⟩), (.exit 0, ⟨26, [], [], [], none⟩)]
noncomputable def step72_0 : (List (Int × Int)) × (List (Int × Int)) × Int → Option (((List (Int × Int)) × (List (Int × Int)) × Int) ⊕ ((Bool) ⊕ (Unit))) := fun (a, b, i) =>
 bif decide (i < (a.length : Int)) then
  bif inBounds i a.length then
   bif inBounds i b.length then
    bif !(((a.getD i.toNat (0, 0)).1 == (b.getD i.toNat (0, 0)).1) && (((a.getD i.toNat (0, 0)).2 == (b.getD i.toNat (0, 0)).2) && true)) then
     some (.inr (.inl false))
    else
     some (.inl (a, b, wr (i + 1)))
   else
    none
  else
   none
 else
  some (.inr (.inr ()))
theorem one72_0 : oneLoop Tryd.prog 72 0 = true := by kernel_rfl
theorem lp72_0 : ItemOk Tryd.prog (.loop 72 0 T72_0 X72_0 (loopVal step72_0)) := item_loopM md4 ext4 (U := 9) (n := 11) noSpecial mixed Gd5K20_ok one72_0 (fun x => by kernel_rfl)
noncomputable def Gd5K21 : List Ev.Item := .loop 72 0 T72_0 X72_0 (loopVal step72_0) :: Gd5K20
theorem Gd5K21_ok : ∀ q ∈ Gd5K21, ItemOk Tryd.prog q := items_cons lp72_0 Gd5K20_ok
noncomputable def s72 : (List (Int × Int)) × (List (Int × Int)) → Option (Bool) := fun (a, b) =>
 bif (a.length : Int) != (b.length : Int) then
  some (false)
 else
  optE (loopVal step72_0 (a, b, 0)) (fun e1 =>
   sumE e1 (fun e2 =>
    some (e2)) (fun _ =>
    some (true)))
   (none)
theorem i72 : ItemOk Tryd.prog (.fn 72 [.d (.slice (.agg zP)), .d (.slice (.agg zP))] [.d .bool] s72) := item_fnM md4 ext4 (U := 9) (n := 12) noSpecial mixed Gd5K21_ok (fun x => by kernel_rfl)
noncomputable def Gd5K22 : List Ev.Item := .fn 72 [.d (.slice (.agg zP)), .d (.slice (.agg zP))] [.d .bool] s72 :: Gd5K21
theorem Gd5K22_ok : ∀ q ∈ Gd5K22, ItemOk Tryd.prog q := items_cons i72 Gd5K21_ok
noncomputable def s13 : (List (Int × Int)) × Int × Int → Option (Bool) := fun (l, length, offset) =>
 bif !true then
  some (false)
 else
  optE (s41 l) (fun r1 =>
   bif !r1 then
    some (true)
   else
    optE (s43 l) (fun r2 =>
     optE (s66 (r2, length)) (fun r3 =>
      optE (s43 l) (fun r4 =>
       optE (s67 (r4, length)) (fun r5 =>
        optE (s43 l) (fun r6 =>
         optE (s68 (r6, length, offset)) (fun r7 =>
          optE (s45 l) (fun r8 =>
           bif r8 == 0 then
            optE (s69 length) (fun r9 =>
             bif r9 != 0 then
              bif r3.2 == r9 then
               bif r5.2 == r9 then
                bif r7.2 == r9 then
                 bif (wr ((r3.1.length : Int) + (r7.1.length : Int))) == 0 then
                  some (r5.1 == 0)
                 else
                  some (false)
                else
                 some (false)
               else
                some (false)
              else
               some (false)
             else
              bif r3.2 != 0 then
               some (false)
              else
               optE (s70 (l, length)) (fun r10 =>
                optE (s26 (r3.1, r10)) (fun r11 =>
                 bif !r11 then
                  some (false)
                 else
                  bif r5.2 != 0 then
                   some (false)
                  else
                   optE (s71 (l, length)) (fun r12 =>
                    bif r5.1 != r12 then
                     some (false)
                    else
                     optE (s28 (offset, 0, wr (length - 1))) (fun r13 =>
                      bif !r13 then
                       bif r7.2 == 2 then
                        some ((r7.1.length : Int) == 0)
                       else
                        some (false)
                      else
                       bif r7.2 == 0 then
                        optE (s73 (l, length, offset)) (fun r14 =>
                         optE (s72 (r7.1, r14)) (fun r15 =>
                          some (r15))
                          (none))
                         (none)
                       else
                        some (false))
                      (none))
                    (none))
                 (none))
                (none))
             (none)
           else
            bif r8 != 0 then
             bif r3.2 == r8 then
              bif r5.2 == r8 then
               bif r7.2 == r8 then
                bif (wr ((r3.1.length : Int) + (r7.1.length : Int))) == 0 then
                 some (r5.1 == 0)
                else
                 some (false)
               else
                some (false)
              else
               some (false)
             else
              some (false)
            else
             bif r3.2 != 0 then
              some (false)
             else
              optE (s70 (l, length)) (fun r16 =>
               optE (s26 (r3.1, r16)) (fun r17 =>
                bif !r17 then
                 some (false)
                else
                 bif r5.2 != 0 then
                  some (false)
                 else
                  optE (s71 (l, length)) (fun r18 =>
                   bif r5.1 != r18 then
                    some (false)
                   else
                    optE (s28 (offset, 0, wr (length - 1))) (fun r19 =>
                     bif !r19 then
                      bif r7.2 == 2 then
                       some ((r7.1.length : Int) == 0)
                      else
                       some (false)
                     else
                      bif r7.2 == 0 then
                       optE (s73 (l, length, offset)) (fun r20 =>
                        optE (s72 (r7.1, r20)) (fun r21 =>
                         some (r21))
                         (none))
                        (none)
                      else
                       some (false))
                     (none))
                   (none))
                (none))
               (none))
           (none))
          (none))
         (none))
        (none))
       (none))
      (none))
     (none))
   (none)
theorem i13 : ItemOk Tryd.prog (.fn 13 [.d (.slice (.agg zP)), .d zI, .d zI] [.d .bool] s13) := item_fnM md4 ext4 (U := 9) (n := 12) noSpecial mixed Gd5K22_ok (fun x => by kernel_rfl)
noncomputable def Gd5K23 : List Ev.Item := .fn 13 [.d (.slice (.agg zP)), .d zI, .d zI] [.d .bool] s13 :: Gd5K22
theorem Gd5K23_ok : ∀ q ∈ Gd5K23, ItemOk Tryd.prog q := items_cons i13 Gd5K22_ok
end Go.Proofs.YthckjfbhdjjnkaaDoor
