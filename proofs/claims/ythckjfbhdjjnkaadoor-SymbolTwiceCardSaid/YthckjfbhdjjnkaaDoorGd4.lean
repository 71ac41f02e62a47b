import Derived.Test.YthckjfbhdjjnkaaDoorGd3
set_option linter.unusedSimpArgs false
set_option maxRecDepth 100000
namespace Go.Proofs.YthckjfbhdjjnkaaDoor
open Go.Ev
noncomputable def s56 : (Int × Int) × Int → Option ((Int × Int) × Int) := fun (z, full) =>
 optE (s105 (z.1, 1000000000000000)) (fun r1 =>
  bif !r1 then
   some (((0, 0), 2))
  else
   optE (s105 (z.2, 1000000000000000)) (fun r2 =>
    bif !r2 then
     some (((0, 0), 2))
    else
     optE (s79 (full, 1, 100000)) (fun r3 =>
      bif !r3 then
       some (((0, 0), 2))
      else
       bif !(full == 0) then
        bif !(full == 0) then
         some (((mn (mx (wr (Int.tdiv (wr (7 * z.1)) full)) (-7)) 7, mn (mx (wr (Int.tdiv (wr (7 * z.2)) full)) (-7)) 7), 0))
        else
         none
       else
        none)
      (none))
    (none))
  (none)
theorem i56 : ItemOk Tryd.prog (.fn 56 [.d (.agg zP), .d zI] [.d (.agg zP), .d zI] s56) := item_fnM md4 ext4 (U := 9) (n := 12) noSpecial mixed Gd3K20_ok (fun x => by kernel_rfl)
noncomputable def Gd4K1 : List Ev.Item := .fn 56 [.d (.agg zP), .d zI] [.d (.agg zP), .d zI] s56 :: Gd3K20
theorem Gd4K1_ok : ∀ q ∈ Gd4K1, ItemOk Tryd.prog q := items_cons i56 Gd3K20_ok
@[reducible] def T145_0a : Tmpl := ⟨19, [], [.val 0 (.slice zI), .val 1 (.clo 135 (.pair (.ptr (.clo 119 .unit)) .unit)), .val 7 zI, .val 8 zI], [], none⟩
@[reducible] def X145_0a : List (Ex × Tmpl) := [(.ret, ⟨19, [], [.val 4 zI], [], none⟩), (.exit 0, ⟨19, [], [], [], none⟩)]
noncomputable def step145_0a : (List Int) × (Unit × Unit) × Int × Int → Option (((List Int) × (Unit × Unit) × Int × Int) ⊕ ((Int) ⊕ (Unit))) := fun (s, f, t7, t8) =>
 bif decide (t8 < t7) then
  bif inBounds t8 s.length then
   optE (s119 (s.getD t8.toNat 0)) (fun r2 =>
    bif !r2 then
     some (.inr (.inl t8))
    else
     some (.inl (s, f, t7, wr (t8 + 1))))
    (none)
  else
   none
 else
  some (.inr (.inr ()))
theorem one145_0a : oneLoop Tryd.prog 145 0 = true := by kernel_rfl
theorem lp145_0a : ItemOk Tryd.prog (.loop 145 0 T145_0a X145_0a (loopVal step145_0a)) := item_loopM md4 ext4 (U := 9) (n := 8) noSpecial mixed Gd4K1_ok one145_0a (fun x => by kernel_rfl)
noncomputable def Gd4K2 : List Ev.Item := .loop 145 0 T145_0a X145_0a (loopVal step145_0a) :: Gd4K1
theorem Gd4K2_ok : ∀ q ∈ Gd4K2, ItemOk Tryd.prog q := items_cons lp145_0a Gd4K1_ok
noncomputable def s85 : List Int → Option (Int) := fun l =>
 optE (s82 (decide ((l.length : Int) ≤ 600), 8)) (fun r1 =>
  optE (loopVal step145_0a (l, ((), ()), (l.length : Int), 0)) (fun e2 =>
   sumE e2 (fun e3 =>
    optE (s82 (!(decide (e3 ≥ 0)), 2)) (fun r5 =>
     optE (s80 [r1, r5]) (fun r6 =>
      some (r6))
      (none))
     (none)) (fun _ =>
    optE (s82 (true, 2)) (fun r7 =>
     optE (s80 [r1, r7]) (fun r8 =>
      some (r8))
      (none))
     (none)))
   (none))
  (none)
theorem i85 : ItemOk Tryd.prog (.fn 85 [.d (.slice zI)] [.d zI] s85) := item_fnM md4 ext4 (U := 9) (n := 12) noSpecial mixed Gd4K2_ok (fun x => by kernel_rfl)
noncomputable def Gd4K3 : List Ev.Item := .fn 85 [.d (.slice zI)] [.d zI] s85 :: Gd4K2
theorem Gd4K3_ok : ∀ q ∈ Gd4K3, ItemOk Tryd.prog q := items_cons i85 Gd4K2_ok
@[reducible] def T57_0 : Tmpl := ⟨26, [], [.own 5 23 3 zI, .val 13 (.slice zI), .val 14 zI, .val 15 zI], [], none⟩
@[reducible] def X57_0 : List (Ex × Tmpl) := [(.exit 0, ⟨26, [], [.own 5 23 3 zI], [], none⟩)]
noncomputable def step57_0 : (List Int) × (List Int) × Int × Int → Option (((List Int) × (List Int) × Int × Int) ⊕ (List Int)) := fun (out, t13, t14, t15) =>
 bif decide (t15 < t14) then
  bif inBounds t15 t13.length then
   optE (s107 (t13.getD t15.toNat 0)) (fun r2 =>
    bif room 8 (out.length + 1) then
     some (.inl (out ++ [r2], t13, t14, wr (t15 + 1)))
    else
     none)
    (none)
  else
   none
 else
  some (.inr out)
theorem one57_0 : oneLoop Tryd.prog 57 0 = true := by kernel_rfl
theorem lp57_0 : ItemOk Tryd.prog (.loop 57 0 T57_0 X57_0 (loopVal step57_0)) := item_loopM md4 ext4 (U := 9) (n := 11) noSpecial mixed Gd4K3_ok one57_0 (fun x => by kernel_rfl)
noncomputable def Gd4K4 : List Ev.Item := .loop 57 0 T57_0 X57_0 (loopVal step57_0) :: Gd4K3
theorem Gd4K4_ok : ∀ q ∈ Gd4K4, ItemOk Tryd.prog q := items_cons lp57_0 Gd4K3_ok
noncomputable def s57 : List Int → Option ((List Int) × Int) := fun soft =>
 optE (s85 soft) (fun r1 =>
  bif r1 != 0 then
   some (([], r1))
  else
   optE (loopVal step57_0 ([], soft, (soft.length : Int), 0)) (fun e2 =>
    some ((e2, 0)))
    (none))
  (none)
theorem i57 : ItemOk Tryd.prog (.fn 57 [.d (.slice zI)] [.own 3 zI, .d zI] s57) := item_fnM md4 ext4 (U := 9) (n := 12) noSpecial mixed Gd4K4_ok (fun x => by kernel_rfl)
noncomputable def Gd4K5 : List Ev.Item := .fn 57 [.d (.slice zI)] [.own 3 zI, .d zI] s57 :: Gd4K4
theorem Gd4K5_ok : ∀ q ∈ Gd4K5, ItemOk Tryd.prog q := items_cons i57 Gd4K4_ok
@[reducible] def T58_0 : Tmpl := ⟨35, [], [.val 5 zI, .val 13 (.slice (.agg zP)), .val 14 zI, .val 15 zI], [], none⟩
@[reducible] def X58_0 : List (Ex × Tmpl) := [(.exit 0, ⟨35, [], [.val 5 zI], [], none⟩)]
noncomputable def step58_0 : Int × (List (Int × Int)) × Int × Int → Option ((Int × (List (Int × Int)) × Int × Int) ⊕ (Int)) := fun (balance, t13, t14, t15) =>
 bif decide (t15 < t14) then
  bif inBounds t15 t13.length then
   some (.inl (wr (balance + (wr ((wr ((t13.getD t15.toNat (0, 0)).1 * (t13.getD t15.toNat (0, 0)).1)) - (wr ((t13.getD t15.toNat (0, 0)).2 * (t13.getD t15.toNat (0, 0)).2))))), t13, t14, wr (t15 + 1)))
  else
   none
 else
  some (.inr balance)
theorem one58_0 : oneLoop Tryd.prog 58 0 = true := by kernel_rfl
theorem lp58_0 : ItemOk Tryd.prog (.loop 58 0 T58_0 X58_0 (loopVal step58_0)) := item_loopM md4 ext4 (U := 9) (n := 11) noSpecial mixed Gd4K5_ok one58_0 (fun x => by kernel_rfl)
noncomputable def Gd4K6 : List Ev.Item := .loop 58 0 T58_0 X58_0 (loopVal step58_0) :: Gd4K5
theorem Gd4K6_ok : ∀ q ∈ Gd4K6, ItemOk Tryd.prog q := items_cons lp58_0 Gd4K5_ok
noncomputable def s58 : List (Int × Int) → Option (Int × Int) := fun l =>
 optE (s94 l) (fun r1 =>
  bif r1 != 0 then
   some ((0, r1))
  else
   optE (loopVal step58_0 (0, l, (l.length : Int), 0)) (fun e2 =>
    bif decide (e2 ≥ 0) then
     some ((0, 0))
    else
     some ((1, 0)))
    (none))
  (none)
theorem i58 : ItemOk Tryd.prog (.fn 58 [.d (.slice (.agg zP))] [.d zI, .d zI] s58) := item_fnM md4 ext4 (U := 9) (n := 12) noSpecial mixed Gd4K6_ok (fun x => by kernel_rfl)
noncomputable def Gd4K7 : List Ev.Item := .fn 58 [.d (.slice (.agg zP))] [.d zI, .d zI] s58 :: Gd4K6
theorem Gd4K7_ok : ∀ q ∈ Gd4K7, ItemOk Tryd.prog q := items_cons i58 Gd4K6_ok
noncomputable def s59 : Int × Int → Option (Int × Int) := fun z =>
 bif decide (z.1 > 0) then
  bif decide (z.2 ≥ 0) then
   some ((0, 0))
  else
   bif decide (z.2 > 0) then
    some ((1, 0))
   else
    bif decide (z.1 < 0) then
     some ((2, 0))
    else
     bif decide (z.2 < 0) then
      some ((3, 0))
     else
      some ((0, 11))
 else
  bif decide (z.2 > 0) then
   some ((1, 0))
  else
   bif decide (z.1 < 0) then
    some ((2, 0))
   else
    bif decide (z.2 < 0) then
     some ((3, 0))
    else
     some ((0, 11))
theorem i59 : ItemOk Tryd.prog (.fn 59 [.d (.agg zP)] [.d zI, .d zI] s59) := item_fnM md4 ext4 (U := 9) (n := 12) noSpecial mixed Gd4K7_ok (fun x => by kernel_rfl)
noncomputable def Gd4K8 : List Ev.Item := .fn 59 [.d (.agg zP)] [.d zI, .d zI] s59 :: Gd4K7
theorem Gd4K8_ok : ∀ q ∈ Gd4K8, ItemOk Tryd.prog q := items_cons i59 Gd4K7_ok
noncomputable def s60 : (Int × Int) × Int → Option (Int) := fun (z, full) =>
 optE (s28 (z.1, (-1000000000000000), 1000000000000000)) (fun r1 =>
  bif !r1 then
   some (2)
  else
   optE (s28 (z.2, (-1000000000000000), 1000000000000000)) (fun r2 =>
    bif !r2 then
     some (2)
    else
     optE (s28 (full, 1, 100000)) (fun r3 =>
      bif !r3 then
       some (2)
      else
       some (0))
      (none))
    (none))
  (none)
theorem i60 : ItemOk Tryd.prog (.fn 60 [.d (.agg zP), .d zI] [.d zI] s60) := item_fnM md4 ext4 (U := 9) (n := 12) noSpecial mixed Gd4K8_ok (fun x => by kernel_rfl)
noncomputable def Gd4K9 : List Ev.Item := .fn 60 [.d (.agg zP), .d zI] [.d zI] s60 :: Gd4K8
theorem Gd4K9_ok : ∀ q ∈ Gd4K9, ItemOk Tryd.prog q := items_cons i60 Gd4K8_ok
noncomputable def s130 : Int → Option (Int) := fun n =>
 some (mx n (wr (-n)))
theorem i130 : ItemOk Tryd.prog (.fn 130 [.d zI] [.d zI] s130) := item_fnM md4 ext4 (U := 9) (n := 12) noSpecial mixed Gd4K9_ok (fun x => by kernel_rfl)
noncomputable def Gd4K10 : List Ev.Item := .fn 130 [.d zI] [.d zI] s130 :: Gd4K9
theorem Gd4K10_ok : ∀ q ∈ Gd4K10, ItemOk Tryd.prog q := items_cons i130 Gd4K9_ok
noncomputable def s129 : Int × Int → Option (Int) := fun (n, by0) =>
 bif !(by0 == 0) then
  bif !(by0 == 0) then
   bif decide ((Int.tmod n by0) < 0) then
    some (wr ((wr (Int.tdiv n by0)) - 1))
   else
    some (wr (Int.tdiv n by0))
  else
   none
 else
  none
theorem i129 : ItemOk Tryd.prog (.fn 129 [.d zI, .d zI] [.d zI] s129) := item_fnM md4 ext4 (U := 9) (n := 12) noSpecial mixed Gd4K10_ok (fun x => by kernel_rfl)
noncomputable def Gd4K11 : List Ev.Item := .fn 129 [.d zI, .d zI] [.d zI] s129 :: Gd4K10
theorem Gd4K11_ok : ∀ q ∈ Gd4K11, ItemOk Tryd.prog q := items_cons i129 Gd4K10_ok
noncomputable def s108 : Int × Int → Option (Int) := fun (x0, full) =>
 optE (s130 x0) (fun r1 =>
  optE (s129 (wr (7 * r1), full)) (fun r2 =>
   bif decide (r2 > 7) then
    bif decide (x0 < 0) then
     some ((-7))
    else
     some (7)
   else
    bif decide (x0 < 0) then
     some (wr (-r2))
    else
     some (r2))
   (none))
  (none)
theorem i108 : ItemOk Tryd.prog (.fn 108 [.d zI, .d zI] [.d zI] s108) := item_fnM md4 ext4 (U := 9) (n := 12) noSpecial mixed Gd4K11_ok (fun x => by kernel_rfl)
noncomputable def Gd4K12 : List Ev.Item := .fn 108 [.d zI, .d zI] [.d zI] s108 :: Gd4K11
theorem Gd4K12_ok : ∀ q ∈ Gd4K12, ItemOk Tryd.prog q := items_cons i108 Gd4K11_ok
noncomputable def s61 : (Int × Int) × Int → Option (Int × Int) := fun (z, full) =>
 optE (s108 (z.1, full)) (fun r1 =>
  optE (s108 (z.2, full)) (fun r2 =>
   some ((r1, r2)))
   (none))
  (none)
theorem i61 : ItemOk Tryd.prog (.fn 61 [.d (.agg zP), .d zI] [.d (.agg zP)] s61) := item_fnM md4 ext4 (U := 9) (n := 12) noSpecial mixed Gd4K12_ok (fun x => by kernel_rfl)
noncomputable def Gd4K13 : List Ev.Item := .fn 61 [.d (.agg zP), .d zI] [.d (.agg zP)] s61 :: Gd4K12
theorem Gd4K13_ok : ∀ q ∈ Gd4K13, ItemOk Tryd.prog q := items_cons i61 Gd4K12_ok
@[reducible] def T30_0 : Tmpl := ⟨19, [], [.val 0 (.slice zI), .val 3 zI], [], none⟩
@[reducible] def X30_0 : List (Ex × Tmpl) := [(.ret, ⟨19, [], [.val 2 zI], [], none⟩), (.exit 0, ⟨19, [], [], [], none⟩)]
noncomputable def step30_0 : (List Int) × Int → Option (((List Int) × Int) ⊕ ((Int) ⊕ (Unit))) := fun (l, i) =>
 bif decide (i < (l.length : Int)) then
  bif inBounds i l.length then
   optE (s28 (l.getD i.toNat 0, (-7), 7)) (fun r1 =>
    bif !r1 then
     some (.inr (.inl 2))
    else
     some (.inl (l, wr (i + 1))))
    (none)
  else
   none
 else
  some (.inr (.inr ()))
theorem one30_0 : oneLoop Tryd.prog 30 0 = true := by kernel_rfl
theorem lp30_0 : ItemOk Tryd.prog (.loop 30 0 T30_0 X30_0 (loopVal step30_0)) := item_loopM md4 ext4 (U := 9) (n := 11) noSpecial mixed Gd4K13_ok one30_0 (fun x => by kernel_rfl)
noncomputable def Gd4K14 : List Ev.Item := .loop 30 0 T30_0 X30_0 (loopVal step30_0) :: Gd4K13
theorem Gd4K14_ok : ∀ q ∈ Gd4K14, ItemOk Tryd.prog q := items_cons lp30_0 Gd4K13_ok
noncomputable def s30 : List Int → Option (Int) := fun l =>
 bif decide ((l.length : Int) > 600) then
  some (8)
 else
  optE (loopVal step30_0 (l, 0)) (fun e1 =>
   sumE e1 (fun e2 =>
    some (e2)) (fun _ =>
    some (0)))
   (none)
theorem i30 : ItemOk Tryd.prog (.fn 30 [.d (.slice zI)] [.d zI] s30) := item_fnM md4 ext4 (U := 9) (n := 12) noSpecial mixed Gd4K14_ok (fun x => by kernel_rfl)
noncomputable def Gd4K15 : List Ev.Item := .fn 30 [.d (.slice zI)] [.d zI] s30 :: Gd4K14
theorem Gd4K15_ok : ∀ q ∈ Gd4K15, ItemOk Tryd.prog q := items_cons i30 Gd4K14_ok
noncomputable def s87 : Int → Option (Int) := fun n =>
 bif decide (n > 0) then
  some (0)
 else
  bif decide (n < 0) then
   some (1)
  else
   some ((-1))
theorem i87 : ItemOk Tryd.prog (.fn 87 [.d zI] [.d zI] s87) := item_fnM md4 ext4 (U := 9) (n := 12) noSpecial mixed Gd4K15_ok (fun x => by kernel_rfl)
noncomputable def Gd4K16 : List Ev.Item := .fn 87 [.d zI] [.d zI] s87 :: Gd4K15
theorem Gd4K16_ok : ∀ q ∈ Gd4K16, ItemOk Tryd.prog q := items_cons i87 Gd4K15_ok
@[reducible] def T62_0 : Tmpl := ⟨20, [], [.val 0 (.slice zI), .own 3 18 3 zI, .val 4 zI], [], none⟩
@[reducible] def X62_0 : List (Ex × Tmpl) := [(.exit 0, ⟨20, [], [.own 3 18 3 zI], [], none⟩)]
noncomputable def step62_0 : (List Int) × (List Int) × Int → Option (((List Int) × (List Int) × Int) ⊕ (List Int)) := fun (l, out, i) =>
 bif decide (i < (l.length : Int)) then
  bif inBounds i l.length then
   optE (s87 (l.getD i.toNat 0)) (fun r1 =>
    bif room 8 (out.length + 1) then
     some (.inl (l, out ++ [r1], wr (i + 1)))
    else
     none)
    (none)
  else
   none
 else
  some (.inr out)
theorem one62_0 : oneLoop Tryd.prog 62 0 = true := by kernel_rfl
theorem lp62_0 : ItemOk Tryd.prog (.loop 62 0 T62_0 X62_0 (loopVal step62_0)) := item_loopM md4 ext4 (U := 9) (n := 11) noSpecial mixed Gd4K16_ok one62_0 (fun x => by kernel_rfl)
noncomputable def Gd4K17 : List Ev.Item := .loop 62 0 T62_0 X62_0 (loopVal step62_0) :: Gd4K16
theorem Gd4K17_ok : ∀ q ∈ Gd4K17, ItemOk Tryd.prog q := items_cons lp62_0 Gd4K16_ok
noncomputable def s62 : List Int → Option (List Int) := fun l =>
 optE (loopVal step62_0 (l, [], 0)) (fun e1 =>
  some (e1))
  (none)
theorem i62 : ItemOk Tryd.prog (.fn 62 [.d (.slice zI)] [.own 3 zI] s62) := item_fnM md4 ext4 (U := 9) (n := 12) noSpecial mixed Gd4K17_ok (fun x => by kernel_rfl)
noncomputable def Gd4K18 : List Ev.Item := .fn 62 [.d (.slice zI)] [.own 3 zI] s62 :: Gd4K17
theorem Gd4K18_ok : ∀ q ∈ Gd4K18, ItemOk Tryd.prog q := items_cons i62 Gd4K17_ok
@[reducible] def T63_0 : Tmpl := ⟨41, [], [.val 0 (.slice (.agg zP)), .val 3 zI, .val 4 zI, .val 5 zI], [], none⟩
@[reducible] def X63_0 : List (Ex × Tmpl) := [(.exit 0, ⟨41, [], [.val 3 zI, .val 4 zI], [], none⟩)]
noncomputable def step63_0 : (List (Int × Int)) × Int × Int × Int → Option (((List (Int × Int)) × Int × Int × Int) ⊕ (Int × Int)) := fun (l, re, im, i) =>
 bif decide (i < (l.length : Int)) then
  bif inBounds i l.length then
   bif inBounds i l.length then
    bif inBounds i l.length then
     bif inBounds i l.length then
      some (.inl (l, wr (re + (wr ((l.getD i.toNat (0, 0)).1 * (l.getD i.toNat (0, 0)).1))), wr (im + (wr ((l.getD i.toNat (0, 0)).2 * (l.getD i.toNat (0, 0)).2))), wr (i + 1)))
     else
      none
    else
     none
   else
    none
  else
   none
 else
  some (.inr (re, im))
theorem one63_0 : oneLoop Tryd.prog 63 0 = true := by kernel_rfl
theorem lp63_0 : ItemOk Tryd.prog (.loop 63 0 T63_0 X63_0 (loopVal step63_0)) := item_loopM md4 ext4 (U := 9) (n := 11) noSpecial mixed Gd4K18_ok one63_0 (fun x => by kernel_rfl)
noncomputable def Gd4K19 : List Ev.Item := .loop 63 0 T63_0 X63_0 (loopVal step63_0) :: Gd4K18
theorem Gd4K19_ok : ∀ q ∈ Gd4K19, ItemOk Tryd.prog q := items_cons lp63_0 Gd4K18_ok
noncomputable def s63 : List (Int × Int) → Option (Int) := fun l =>
 optE (loopVal step63_0 (l, 0, 0, 0)) (fun e1 =>
  bif decide (e1.1 ≥ e1.2) then
   some (0)
  else
   some (1))
  (none)
theorem i63 : ItemOk Tryd.prog (.fn 63 [.d (.slice (.agg zP))] [.d zI] s63) := item_fnM md4 ext4 (U := 9) (n := 12) noSpecial mixed Gd4K19_ok (fun x => by kernel_rfl)
noncomputable def Gd4K20 : List Ev.Item := .fn 63 [.d (.slice (.agg zP))] [.d zI] s63 :: Gd4K19
theorem Gd4K20_ok : ∀ q ∈ Gd4K20, ItemOk Tryd.prog q := items_cons i63 Gd4K19_ok
noncomputable def s64 : Int × Int → Option (Int) := fun z =>
 bif decide (z.1 > 0) then
  bif decide (z.2 ≥ 0) then
   some (0)
  else
   bif decide (z.2 > 0) then
    bif decide (z.1 ≤ 0) then
     some (1)
    else
     bif decide (z.1 < 0) then
      bif decide (z.2 ≤ 0) then
       some (2)
      else
       some (3)
     else
      some (3)
   else
    bif decide (z.1 < 0) then
     bif decide (z.2 ≤ 0) then
      some (2)
     else
      some (3)
    else
     some (3)
 else
  bif decide (z.2 > 0) then
   bif decide (z.1 ≤ 0) then
    some (1)
   else
    bif decide (z.1 < 0) then
     bif decide (z.2 ≤ 0) then
      some (2)
     else
      some (3)
    else
     some (3)
  else
   bif decide (z.1 < 0) then
    bif decide (z.2 ≤ 0) then
     some (2)
    else
     some (3)
   else
    some (3)
theorem i64 : ItemOk Tryd.prog (.fn 64 [.d (.agg zP)] [.d zI] s64) := item_fnM md4 ext4 (U := 9) (n := 12) noSpecial mixed Gd4K20_ok (fun x => by kernel_rfl)
noncomputable def Gd4K21 : List Ev.Item := .fn 64 [.d (.agg zP)] [.d zI] s64 :: Gd4K20
theorem Gd4K21_ok : ∀ q ∈ Gd4K21, ItemOk Tryd.prog q := items_cons i64 Gd4K20_ok
noncomputable def s11 : (Int × Int) × Int × ((List (Int × Int)) × List Int) → Option (Bool) := fun (z, full, x0) =>
 bif !true then
  some (false)
 else
  optE (s41 x0.1) (fun r1 =>
   bif !r1 then
    some (true)
   else
    optE (s17 x0.2) (fun r2 =>
     bif !r2 then
      some (true)
     else
      optE (s56 (z, full)) (fun r3 =>
       optE (s22 x0.2) (fun r4 =>
        optE (s57 r4) (fun r5 =>
         optE (s43 x0.1) (fun r6 =>
          optE (s58 r6) (fun r7 =>
           optE (s59 z) (fun r8 =>
            optE (s60 (z, full)) (fun r9 =>
             (fun (k1 : Unit → Option (Bool)) =>
               bif r9 != 0 then
                bif r3.2 != r9 then
                 some (false)
                else
                 bif !((r3.1.1 == 0) && ((r3.1.2 == 0) && true)) then
                  some (false)
                 else
                  k1 ()
               else
                k1 ()) (fun _ =>
               (fun (k2 : Unit → Option (Bool)) =>
                 bif r9 == 0 then
                  bif r3.2 != 0 then
                   some (false)
                  else
                   optE (s61 (z, full)) (fun r10 =>
                    bif !((r3.1.1 == r10.1) && ((r3.1.2 == r10.2) && true)) then
                     some (false)
                    else
                     k2 ())
                    (none)
                 else
                  k2 ()) (fun _ =>
                 optE (s30 x0.2) (fun r11 =>
                  (fun (k3 : Unit → Option (Bool)) =>
                    bif r11 != 0 then
                     bif r5.2 != r11 then
                      some (false)
                     else
                      bif (r5.1.length : Int) != 0 then
                       some (false)
                      else
                       k3 ()
                    else
                     k3 ()) (fun _ =>
                    (fun (k4 : Unit → Option (Bool)) =>
                      bif r11 == 0 then
                       bif r5.2 != 0 then
                        some (false)
                       else
                        optE (s62 x0.2) (fun r12 =>
                         optE (s26 (r5.1, r12)) (fun r13 =>
                          bif !r13 then
                           some (false)
                          else
                           k4 ())
                          (none))
                         (none)
                      else
                       k4 ()) (fun _ =>
                      optE (s45 x0.1) (fun r14 =>
                       (fun (k5 : Unit → Option (Bool)) =>
                         bif r14 != 0 then
                          bif r7.2 != r14 then
                           some (false)
                          else
                           bif r7.1 != 0 then
                            some (false)
                           else
                            k5 ()
                         else
                          k5 ()) (fun _ =>
                         (fun (k6 : Unit → Option (Bool)) =>
                           bif r14 == 0 then
                            bif r7.2 != 0 then
                             some (false)
                            else
                             optE (s63 x0.1) (fun r15 =>
                              bif r7.1 != r15 then
                               some (false)
                              else
                               k6 ())
                              (none)
                           else
                            k6 ()) (fun _ =>
                           bif (z.1 == 0) && ((z.2 == 0) && true) then
                            bif r8.2 == 11 then
                             some (r8.1 == 0)
                            else
                             some (false)
                           else
                            bif r8.2 == 0 then
                             optE (s64 z) (fun r16 =>
                              some (r8.1 == r16))
                              (none)
                            else
                             some (false))))
                       (none))))
                  (none))))
             (none))
            (none))
           (none))
          (none))
         (none))
        (none))
       (none))
     (none))
   (none)
theorem i11 : ItemOk Tryd.prog (.fn 11 [.d (.agg zP), .d zI, .d (.agg (.pair (.slice (.agg zP)) (.slice zI)))] [.d .bool] s11) := item_fnM md4 ext4 (U := 9) (n := 12) noSpecial mixed Gd4K21_ok (fun x => by kernel_rfl)
noncomputable def Gd4K22 : List Ev.Item := .fn 11 [.d (.agg zP), .d zI, .d (.agg (.pair (.slice (.agg zP)) (.slice zI)))] [.d .bool] s11 :: Gd4K21
theorem Gd4K22_ok : ∀ q ∈ Gd4K22, ItemOk Tryd.prog q := items_cons i11 Gd4K21_ok
end Go.Proofs.YthckjfbhdjjnkaaDoor
