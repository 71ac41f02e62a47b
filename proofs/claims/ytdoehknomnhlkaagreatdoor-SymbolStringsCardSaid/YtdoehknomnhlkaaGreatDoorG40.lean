import Derived.Test.YtdoehknomnhlkaaGreatDoorG4a
import Derived.Test.YtdoehknomnhlkaaGreatDoorGs0
set_option linter.unusedSimpArgs false
set_option maxRecDepth 100000
namespace Go.Proofs.YtdoehknomnhlkaaGreatDoor
open Go.Ev
noncomputable def G40K1 : List Ev.Item := .fn 193 [.d zI, .d zI, .d zI] [.d .bool] s193 :: Gs0K11
theorem G40K1_ok : ∀ q ∈ G40K1, ItemOk Tryz.prog q := items_cons i193 Gs0K11_ok
noncomputable def G40K2 : List Ev.Item := .fn 115 [.d zI, .d zI] [.d .bool] s115 :: G40K1
theorem G40K2_ok : ∀ q ∈ G40K2, ItemOk Tryz.prog q := items_cons i115 G40K1_ok
noncomputable def G40K3 : List Ev.Item := .fn 192 [.d .bool, .d zI] [.d zI] s192 :: G40K2
theorem G40K3_ok : ∀ q ∈ G40K3, ItemOk Tryz.prog q := items_cons i192 G40K2_ok
noncomputable def G40K4 : List Ev.Item := .fn 347 [.d zI] [.d zI] s347 :: G40K3
theorem G40K4_ok : ∀ q ∈ G40K4, ItemOk Tryz.prog q := items_cons i347 G40K3_ok
noncomputable def G40K5 : List Ev.Item := .fn 114 [.d zI] [.d .bool] s114 :: G40K4
theorem G40K5_ok : ∀ q ∈ G40K5, ItemOk Tryz.prog q := items_cons i114 G40K4_ok
noncomputable def G40K6 : List Ev.Item := .fn 197 [.d zI] [.d .bool] s197 :: G40K5
theorem G40K6_ok : ∀ q ∈ G40K6, ItemOk Tryz.prog q := items_cons i197 G40K5_ok
noncomputable def G40K7 : List Ev.Item := .fn 22 [] [.d .bool] (fun _ => some true) :: G40K6
theorem G40K7_ok : ∀ q ∈ G40K7, ItemOk Tryz.prog q := items_cons i22 G40K6_ok
noncomputable def s23 : List Int → Option (Bool) := fun l =>
 bif decide ((l.length : Int) ≤ 120) then
  some (true)
 else
  bif decide ((l.length : Int) > 600) then
   some (decide ((l.length : Int) ≤ 602))
  else
   some (false)
theorem i23 : ItemOk Tryz.prog (.fn 23 [.d (.slice zI)] [.d .bool] s23) := item_fnM md5 ext5 (U := 9) (n := 12) noSpecial mixed G40K7_ok (fun x => by kernel_rfl)
noncomputable def G40K8 : List Ev.Item := .fn 23 [.d (.slice zI)] [.d .bool] s23 :: G40K7
theorem G40K8_ok : ∀ q ∈ G40K8, ItemOk Tryz.prog q := items_cons i23 G40K7_ok
@[reducible] def T24_0 : Tmpl := ⟨28, [], [.own 3 24 5 (.int .u8), .val 10 (.slice zI), .val 11 zI, .val 12 zI], [], none⟩
@[reducible] def X24_0 : List (Ex × Tmpl) := [(.exit 0, ⟨28, [], [.own 3 24 5 (.int .u8)], [], none⟩)]
noncomputable def step24_0 : (List Int) × (List Int) × Int × Int → Option (((List Int) × (List Int) × Int × Int) ⊕ (List Int)) := fun (out, t10, t11, t12) =>
 bif decide (t12 < t11) then
  bif inBounds t12 t10.length then
   optE (s114 (t10.getD t12.toNat 0)) (fun r1 =>
    bif r1 then
     bif room 1 (out.length + 1) then
      some (.inl (out ++ [IntKind.u8.wrap (wr (48 + (t10.getD t12.toNat 0)))], t10, t11, wr (t12 + 1)))
     else
      none
    else
     bif room 1 (out.length + 1) then
      some (.inl (out ++ [63], t10, t11, wr (t12 + 1)))
     else
      none)
    (none)
  else
   none
 else
  some (.inr out)
theorem one24_0 : oneLoop Tryz.prog 24 0 = true := by kernel_rfl
theorem lp24_0 : ItemOk Tryz.prog (.loop 24 0 T24_0 X24_0 (loopVal step24_0)) := item_loopM md5 ext5 (U := 9) (n := 11) noSpecial mixed G40K8_ok one24_0 (fun x => by kernel_rfl)
noncomputable def G40K9 : List Ev.Item := .loop 24 0 T24_0 X24_0 (loopVal step24_0) :: G40K8
theorem G40K9_ok : ∀ q ∈ G40K9, ItemOk Tryz.prog q := items_cons lp24_0 G40K8_ok
noncomputable def s24 : List Int → Option (ByteArray) := fun l =>
 bif (decide (0 ≤ (l.length : Int))) && (room 1 (l.length : Int).toNat) then
  optE (loopVal step24_0 ([], l, (l.length : Int), 0)) (fun e1 =>
   some (bytesStr e1))
   (none)
 else
  none
theorem i24 : ItemOk Tryz.prog (.fn 24 [.d (.slice zI)] [.d .str] s24) := item_fnM md5 ext5 (U := 9) (n := 12) noSpecial mixed G40K9_ok (fun x => by kernel_rfl)
noncomputable def G40K10 : List Ev.Item := .fn 24 [.d (.slice zI)] [.d .str] s24 :: G40K9
theorem G40K10_ok : ∀ q ∈ G40K10, ItemOk Tryz.prog q := items_cons i24 G40K9_ok
@[reducible] def T26_0 : Tmpl := ⟨20, [], [.own 3 16 9 .str, .val 6 (.slice zI), .val 7 zI, .val 8 zI], [], none⟩
@[reducible] def X26_0 : List (Ex × Tmpl) := [(.exit 0, ⟨20, [], [.own 3 16 9 .str], [], none⟩)]
noncomputable def step26_0 : (List ByteArray) × (List Int) × Int × Int → Option (((List ByteArray) × (List Int) × Int × Int) ⊕ (List ByteArray)) := fun (w, t6, t7, t8) =>
 bif decide (t8 < t7) then
  bif inBounds t8 t6.length then
   optE (itoaF (t6.getD t8.toNat 0)) (fun r1 =>
    bif room 16 (w.length + 1) then
     some (.inl (w ++ [r1], t6, t7, wr (t8 + 1)))
    else
     none)
    (none)
  else
   none
 else
  some (.inr w)
theorem one26_0 : oneLoop Tryz.prog 26 0 = true := by kernel_rfl
theorem lp26_0 : ItemOk Tryz.prog (.loop 26 0 T26_0 X26_0 (loopVal step26_0)) := item_loopM md5 ext5 (U := 9) (n := 11) noSpecial mixed G40K10_ok one26_0 (fun x => by kernel_rfl)
noncomputable def G40K11 : List Ev.Item := .loop 26 0 T26_0 X26_0 (loopVal step26_0) :: G40K10
theorem G40K11_ok : ∀ q ∈ G40K11, ItemOk Tryz.prog q := items_cons lp26_0 G40K10_ok
noncomputable def s26 : List Int → Option (ByteArray) := fun l =>
 optE (loopVal step26_0 ([], l, (l.length : Int), 0)) (fun e1 =>
  optE (joinF (e1, (ByteArray.mk #[32]))) (fun r2 =>
   some (r2))
   (none))
  (none)
theorem i26 : ItemOk Tryz.prog (.fn 26 [.d (.slice zI)] [.d .str] s26) := item_fnM md5 ext5 (U := 9) (n := 12) noSpecial mixed G40K11_ok (fun x => by kernel_rfl)
noncomputable def G40K12 : List Ev.Item := .fn 26 [.d (.slice zI)] [.d .str] s26 :: G40K11
theorem G40K12_ok : ∀ q ∈ G40K12, ItemOk Tryz.prog q := items_cons i26 G40K11_ok
@[reducible] def T27_0 : Tmpl := ⟨31, [], [.own 4 28 3 zI, .val 11 (.slice (.int .u8)), .val 12 zI, .val 13 zI], [], none⟩
@[reducible] def X27_0 : List (Ex × Tmpl) := [(.ret, ⟨31, [], [.val 2 (.slice zI), .val 3 zI], [], none⟩), (.exit 0, ⟨31, [], [.own 4 28 3 zI], [], none⟩)]
noncomputable def step27_0 : (List Int) × (List Int) × Int × Int → Option (((List Int) × (List Int) × Int × Int) ⊕ (((List Int) × Int) ⊕ (List Int))) := fun (out, t11, t12, t13) =>
 bif decide (t13 < t12) then
  bif inBounds t13 t11.length then
   bif (t11.getD t13.toNat 0) != 48 then
    bif (t11.getD t13.toNat 0) != 49 then
     some (.inr (.inl ([], 7)))
    else
     bif room 8 (out.length + 1) then
      some (.inl (out ++ [wr (IntKind.u8.wrap ((t11.getD t13.toNat 0) - 48))], t11, t12, wr (t13 + 1)))
     else
      none
   else
    bif room 8 (out.length + 1) then
     some (.inl (out ++ [wr (IntKind.u8.wrap ((t11.getD t13.toNat 0) - 48))], t11, t12, wr (t13 + 1)))
    else
     none
  else
   none
 else
  some (.inr (.inr out))
theorem one27_0 : oneLoop Tryz.prog 27 0 = true := by kernel_rfl
theorem lp27_0 : ItemOk Tryz.prog (.loop 27 0 T27_0 X27_0 (loopVal step27_0)) := item_loopM md5 ext5 (U := 9) (n := 11) noSpecial mixed G40K12_ok one27_0 (fun x => by kernel_rfl)
noncomputable def G40K13 : List Ev.Item := .loop 27 0 T27_0 X27_0 (loopVal step27_0) :: G40K12
theorem G40K13_ok : ∀ q ∈ G40K13, ItemOk Tryz.prog q := items_cons lp27_0 G40K12_ok
noncomputable def s27 : ByteArray → Option ((List Int) × Int) := fun s =>
 bif decide ((s.size : Int) > 600) then
  some (([], 8))
 else
  bif decide (s.size ≤ 140737488355328) then
   optE (loopVal step27_0 ([], strBytes s, ((strBytes s).length : Int), 0)) (fun e1 =>
    sumE e1 (fun e2 =>
     some (e2)) (fun e3 =>
     some ((e3, 0))))
    (none)
  else
   none
theorem i27 : ItemOk Tryz.prog (.fn 27 [.d .str] [.d (.slice zI), .d zI] s27) := item_fnM md5 ext5 (U := 9) (n := 12) noSpecial mixed G40K13_ok (fun x => by kernel_rfl)
noncomputable def G40K14 : List Ev.Item := .fn 27 [.d .str] [.d (.slice zI), .d zI] s27 :: G40K13
theorem G40K14_ok : ∀ q ∈ G40K14, ItemOk Tryz.prog q := items_cons i27 G40K13_ok
@[reducible] def T190_0 : Tmpl := ⟨15, [], [.val 5 (.slice zI), .val 6 zI, .val 7 zI], [], none⟩
@[reducible] def X190_0 : List (Ex × Tmpl) := [(.ret, ⟨15, [], [.val 2 zI], [], none⟩), (.exit 0, ⟨15, [], [], [], none⟩)]
noncomputable def step190_0 : (List Int) × Int × Int → Option (((List Int) × Int × Int) ⊕ ((Int) ⊕ (Unit))) := fun (t5, t6, t7) =>
 bif decide (t7 < t6) then
  bif inBounds t7 t5.length then
   bif (t5.getD t7.toNat 0) != 0 then
    some (.inr (.inl (t5.getD t7.toNat 0)))
   else
    some (.inl (t5, t6, wr (t7 + 1)))
  else
   none
 else
  some (.inr (.inr ()))
theorem one190_0 : oneLoop Tryz.prog 190 0 = true := by kernel_rfl
theorem lp190_0 : ItemOk Tryz.prog (.loop 190 0 T190_0 X190_0 (loopVal step190_0)) := item_loopM md5 ext5 (U := 9) (n := 11) noSpecial mixed G40K14_ok one190_0 (fun x => by kernel_rfl)
noncomputable def G40K15 : List Ev.Item := .loop 190 0 T190_0 X190_0 (loopVal step190_0) :: G40K14
theorem G40K15_ok : ∀ q ∈ G40K15, ItemOk Tryz.prog q := items_cons lp190_0 G40K14_ok
noncomputable def s190 : List Int → Option (Int) := fun l =>
 optE (loopVal step190_0 (l, (l.length : Int), 0)) (fun e1 =>
  sumE e1 (fun e2 =>
   some (e2)) (fun _ =>
   some (0)))
  (none)
theorem i190 : ItemOk Tryz.prog (.fn 190 [.d (.slice zI)] [.d zI] s190) := item_fnM md5 ext5 (U := 9) (n := 12) noSpecial mixed G40K15_ok (fun x => by kernel_rfl)
noncomputable def G40K16 : List Ev.Item := .fn 190 [.d (.slice zI)] [.d zI] s190 :: G40K15
theorem G40K16_ok : ∀ q ∈ G40K16, ItemOk Tryz.prog q := items_cons i190 G40K15_ok
@[reducible] def T290_0 : Tmpl := ⟨19, [], [.val 0 (.slice zI), .val 1 (.clo 259 (.pair (.ptr (.clo 197 .unit)) .unit)), .val 7 zI, .val 8 zI], [], none⟩
@[reducible] def X290_0 : List (Ex × Tmpl) := [(.ret, ⟨19, [], [.val 4 zI], [], none⟩), (.exit 0, ⟨19, [], [], [], none⟩)]
noncomputable def step290_0 : (List Int) × (Unit × Unit) × Int × Int → Option (((List Int) × (Unit × Unit) × Int × Int) ⊕ ((Int) ⊕ (Unit))) := fun (s, f, t7, t8) =>
 bif decide (t8 < t7) then
  bif inBounds t8 s.length then
   optE (s197 (s.getD t8.toNat 0)) (fun r2 =>
    bif !r2 then
     some (.inr (.inl t8))
    else
     some (.inl (s, f, t7, wr (t8 + 1))))
    (none)
  else
   none
 else
  some (.inr (.inr ()))
theorem one290_0 : oneLoop Tryz.prog 290 0 = true := by kernel_rfl
theorem lp290_0 : ItemOk Tryz.prog (.loop 290 0 T290_0 X290_0 (loopVal step290_0)) := item_loopM md5 ext5 (U := 9) (n := 8) noSpecial mixed G40K16_ok one290_0 (fun x => by kernel_rfl)
noncomputable def G40K17 : List Ev.Item := .loop 290 0 T290_0 X290_0 (loopVal step290_0) :: G40K16
theorem G40K17_ok : ∀ q ∈ G40K17, ItemOk Tryz.prog q := items_cons lp290_0 G40K16_ok
noncomputable def s116 : List Int → Option (Int) := fun l =>
 optE (s192 (decide ((l.length : Int) ≤ 600), 8)) (fun r1 =>
  optE (loopVal step290_0 (l, ((), ()), (l.length : Int), 0)) (fun e2 =>
   sumE e2 (fun e3 =>
    optE (s192 (!(decide (e3 ≥ 0)), 2)) (fun r5 =>
     optE (s190 [r1, r5]) (fun r6 =>
      some (r6))
      (none))
     (none)) (fun _ =>
    optE (s192 (true, 2)) (fun r7 =>
     optE (s190 [r1, r7]) (fun r8 =>
      some (r8))
      (none))
     (none)))
   (none))
  (none)
theorem i116 : ItemOk Tryz.prog (.fn 116 [.d (.slice zI)] [.d zI] s116) := item_fnM md5 ext5 (U := 9) (n := 12) noSpecial mixed G40K17_ok (fun x => by kernel_rfl)
noncomputable def G40K18 : List Ev.Item := .fn 116 [.d (.slice zI)] [.d zI] s116 :: G40K17
theorem G40K18_ok : ∀ q ∈ G40K18, ItemOk Tryz.prog q := items_cons i116 G40K17_ok
@[reducible] def T28_0 : Tmpl := ⟨48, [], [.val 0 .str, .own 4 40 3 zI, .own 11 11 9 .str, .val 12 zI, .val 13 zI], [], none⟩
@[reducible] def X28_0 : List (Ex × Tmpl) := [(.exit 0, ⟨48, [], [.own 4 40 3 zI], [], none⟩), (.ret, ⟨48, [], [.val 2 (.slice zI), .val 3 zI], [], none⟩)]
noncomputable def step28_0 : ByteArray × (List Int) × (List ByteArray) × Int × Int → Option ((ByteArray × (List Int) × (List ByteArray) × Int × Int) ⊕ ((List Int) ⊕ ((List Int) × Int))) := fun (s, out, t11, t12, t13) =>
 bif decide (t13 < t12) then
  bif inBounds t13 t11.length then
   bif decide (s.data.toList = (ByteArray.mk #[]).data.toList) then
    some (.inr (.inl out))
   else
    optE (atoiF (t11.getD t13.toNat ByteArray.empty)) (fun r2 =>
     bif r2.2 then
      some (.inr (.inr ([], 7)))
     else
      optE (itoaF r2.1) (fun r3 =>
       bif !(decide (r3.data.toList = (t11.getD t13.toNat ByteArray.empty).data.toList)) then
        some (.inr (.inr ([], 7)))
       else
        optE (s115 (r2.1, 9)) (fun r4 =>
         bif !r4 then
          some (.inr (.inr ([], 7)))
         else
          bif room 8 (out.length + 1) then
           some (.inl (s, out ++ [r2.1], t11, t12, wr (t13 + 1)))
          else
           none)
         (none))
       (none))
     (none)
  else
   none
 else
  some (.inr (.inl out))
theorem one28_0 : oneLoop Tryz.prog 28 0 = true := by kernel_rfl
theorem lp28_0 : ItemOk Tryz.prog (.loop 28 0 T28_0 X28_0 (loopVal step28_0)) := item_loopM md5 ext5 (U := 9) (n := 11) noSpecial mixed G40K18_ok one28_0 (fun x => by kernel_rfl)
noncomputable def G40K19 : List Ev.Item := .loop 28 0 T28_0 X28_0 (loopVal step28_0) :: G40K18
theorem G40K19_ok : ∀ q ∈ G40K19, ItemOk Tryz.prog q := items_cons lp28_0 G40K18_ok
noncomputable def s28 : ByteArray → Option ((List Int) × Int) := fun s =>
 optE (splitF (s, (ByteArray.mk #[32]))) (fun r1 =>
  optE (loopVal step28_0 (s, [], r1, (r1.length : Int), 0)) (fun e2 =>
   sumE e2 (fun e3 =>
    optE (s116 e3) (fun r5 =>
     bif r5 != 0 then
      some (([], r5))
     else
      some ((e3, 0)))
     (none)) (fun e4 =>
    some (e4)))
   (none))
  (none)
theorem i28 : ItemOk Tryz.prog (.fn 28 [.d .str] [.d (.slice zI), .d zI] s28) := item_fnM md5 ext5 (U := 9) (n := 12) noSpecial mixed G40K19_ok (fun x => by kernel_rfl)
noncomputable def G40K20 : List Ev.Item := .fn 28 [.d .str] [.d (.slice zI), .d zI] s28 :: G40K19
theorem G40K20_ok : ∀ q ∈ G40K20, ItemOk Tryz.prog q := items_cons i28 G40K19_ok
@[reducible] def T29_0 : Tmpl := ⟨34, [], [.val 0 .str, .own 4 32 3 zI, .val 5 zI], [], none⟩
@[reducible] def X29_0 : List (Ex × Tmpl) := [(.ret, ⟨34, [], [.val 2 (.slice zI), .val 3 zI], [], none⟩), (.exit 0, ⟨34, [], [.own 4 32 3 zI], [], none⟩)]
noncomputable def step29_0 : ByteArray × (List Int) × Int → Option ((ByteArray × (List Int) × Int) ⊕ (((List Int) × Int) ⊕ (List Int))) := fun (s, out, i) =>
 bif decide (i < (s.size : Int)) then
  bif inBounds i s.size then
   bif ((s.data.toList.getD i.toNat 0).toNat : Int) != 48 then
    bif inBounds i s.size then
     bif ((s.data.toList.getD i.toNat 0).toNat : Int) != 49 then
      some (.inr (.inl ([], 7)))
     else
      bif inBounds i s.size then
       bif room 8 (out.length + 1) then
        some (.inl (s, out ++ [wr (IntKind.u8.wrap (((s.data.toList.getD i.toNat 0).toNat : Int) - 48))], wr (i + 1)))
       else
        none
      else
       none
    else
     none
   else
    bif inBounds i s.size then
     bif room 8 (out.length + 1) then
      some (.inl (s, out ++ [wr (IntKind.u8.wrap (((s.data.toList.getD i.toNat 0).toNat : Int) - 48))], wr (i + 1)))
     else
      none
    else
     none
  else
   none
 else
  some (.inr (.inr out))
theorem one29_0 : oneLoop Tryz.prog 29 0 = true := by kernel_rfl
theorem lp29_0 : ItemOk Tryz.prog (.loop 29 0 T29_0 X29_0 (loopVal step29_0)) := item_loopM md5 ext5 (U := 9) (n := 11) noSpecial mixed G40K20_ok one29_0 (fun x => by kernel_rfl)
noncomputable def G40K21 : List Ev.Item := .loop 29 0 T29_0 X29_0 (loopVal step29_0) :: G40K20
theorem G40K21_ok : ∀ q ∈ G40K21, ItemOk Tryz.prog q := items_cons lp29_0 G40K20_ok
noncomputable def s29 : ByteArray → Option ((List Int) × Int) := fun s =>
 bif decide ((s.size : Int) > 600) then
  some (([], 8))
 else
  optE (loopVal step29_0 (s, [], 0)) (fun e1 =>
   sumE e1 (fun e2 =>
    some (e2)) (fun e3 =>
    some ((e3, 0))))
   (none)
theorem i29 : ItemOk Tryz.prog (.fn 29 [.d .str] [.d (.slice zI), .d zI] s29) := item_fnM md5 ext5 (U := 9) (n := 12) noSpecial mixed G40K21_ok (fun x => by kernel_rfl)
noncomputable def G40K22 : List Ev.Item := .fn 29 [.d .str] [.d (.slice zI), .d zI] s29 :: G40K21
theorem G40K22_ok : ∀ q ∈ G40K22, ItemOk Tryz.prog q := items_cons i29 G40K21_ok
@[reducible] def T35_0 : Tmpl := ⟨19, [], [.val 0 (.slice zI), .val 3 zI], [], none⟩
@[reducible] def X35_0 : List (Ex × Tmpl) := [(.ret, ⟨19, [], [.val 2 zI], [], none⟩), (.exit 0, ⟨19, [], [], [], none⟩)]
noncomputable def step35_0 : (List Int) × Int → Option (((List Int) × Int) ⊕ ((Int) ⊕ (Unit))) := fun (l, i) =>
 bif decide (i < (l.length : Int)) then
  bif inBounds i l.length then
   optE (s51 (l.getD i.toNat 0, (-7), 7)) (fun r1 =>
    bif !r1 then
     some (.inr (.inl 2))
    else
     some (.inl (l, wr (i + 1))))
    (none)
  else
   none
 else
  some (.inr (.inr ()))
theorem one35_0 : oneLoop Tryz.prog 35 0 = true := by kernel_rfl
theorem lp35_0 : ItemOk Tryz.prog (.loop 35 0 T35_0 X35_0 (loopVal step35_0)) := item_loopM md5 ext5 (U := 9) (n := 11) noSpecial mixed G40K22_ok one35_0 (fun x => by kernel_rfl)
noncomputable def G40K23 : List Ev.Item := .loop 35 0 T35_0 X35_0 (loopVal step35_0) :: G40K22
theorem G40K23_ok : ∀ q ∈ G40K23, ItemOk Tryz.prog q := items_cons lp35_0 G40K22_ok
noncomputable def s35 : List Int → Option (Int) := fun l =>
 bif decide ((l.length : Int) > 600) then
  some (8)
 else
  optE (loopVal step35_0 (l, 0)) (fun e1 =>
   sumE e1 (fun e2 =>
    some (e2)) (fun _ =>
    some (0)))
   (none)
theorem i35 : ItemOk Tryz.prog (.fn 35 [.d (.slice zI)] [.d zI] s35) := item_fnM md5 ext5 (U := 9) (n := 12) noSpecial mixed G40K23_ok (fun x => by kernel_rfl)
noncomputable def G40K24 : List Ev.Item := .fn 35 [.d (.slice zI)] [.d zI] s35 :: G40K23
theorem G40K24_ok : ∀ q ∈ G40K24, ItemOk Tryz.prog q := items_cons i35 G40K23_ok
@[reducible] def T30_0 : Tmpl := ⟨40, [], [.own 4 33 3 zI, .own 5 13 9 .str, .val 6 zI], [], none⟩
@[reducible] def X30_0 : List (Ex × Tmpl) := [(.ret, ⟨40, [], [.val 2 (.slice zI), .val 3 zI], [], none⟩), (.exit 0, ⟨40, [], [.own 4 33 3 zI], [], none⟩)]
noncomputable def step30_0 : (List Int) × (List ByteArray) × Int → Option (((List Int) × (List ByteArray) × Int) ⊕ (((List Int) × Int) ⊕ (List Int))) := fun (out, w, i) =>
 bif decide (i < (w.length : Int)) then
  bif inBounds i w.length then
   optE (s95 (w.getD i.toNat ByteArray.empty, 1)) (fun r2 =>
    bif !r2.2 then
     some (.inr (.inl ([], 7)))
    else
     bif room 8 (out.length + 1) then
      some (.inl (out ++ [r2.1], w, wr (i + 1)))
     else
      none)
    (none)
  else
   none
 else
  some (.inr (.inr out))
theorem one30_0 : oneLoop Tryz.prog 30 0 = true := by kernel_rfl
theorem lp30_0 : ItemOk Tryz.prog (.loop 30 0 T30_0 X30_0 (loopVal step30_0)) := item_loopM md5 ext5 (U := 9) (n := 11) noSpecial mixed G40K24_ok one30_0 (fun x => by kernel_rfl)
noncomputable def G40K25 : List Ev.Item := .loop 30 0 T30_0 X30_0 (loopVal step30_0) :: G40K24
theorem G40K25_ok : ∀ q ∈ G40K25, ItemOk Tryz.prog q := items_cons lp30_0 G40K24_ok
noncomputable def s30 : ByteArray → Option ((List Int) × Int) := fun s =>
 bif decide (s.data.toList = (ByteArray.mk #[]).data.toList) then
  some (([], 0))
 else
  optE (s94 (s, 32)) (fun r1 =>
   optE (loopVal step30_0 ([], r1, 0)) (fun e2 =>
    sumE e2 (fun e3 =>
     some (e3)) (fun e4 =>
     optE (s35 e4) (fun r5 =>
      bif r5 != 0 then
       some (([], r5))
      else
       some ((e4, 0)))
      (none)))
    (none))
   (none)
theorem i30 : ItemOk Tryz.prog (.fn 30 [.d .str] [.d (.slice zI), .d zI] s30) := item_fnM md5 ext5 (U := 9) (n := 12) noSpecial mixed G40K25_ok (fun x => by kernel_rfl)
noncomputable def G40K26 : List Ev.Item := .fn 30 [.d .str] [.d (.slice zI), .d zI] s30 :: G40K25
theorem G40K26_ok : ∀ q ∈ G40K26, ItemOk Tryz.prog q := items_cons i30 G40K25_ok
@[reducible] def T31_0 : Tmpl := ⟨26, [], [.val 0 (.slice zI), .val 3 .str, .val 4 zI], [], none⟩
@[reducible] def X31_0 : List (Ex × Tmpl) := [(.exit 0, ⟨26, [], [.val 3 .str], [], none⟩)]
noncomputable def step31_0 : (List Int) × ByteArray × Int → Option (((List Int) × ByteArray × Int) ⊕ (ByteArray)) := fun (l, t, i) =>
 bif decide (i < (l.length : Int)) then
  bif inBounds i l.length then
   optE (s51 (l.getD i.toNat 0, 0, 1)) (fun r1 =>
    bif r1 then
     bif inBounds i l.length then
      optE (s96 (l.getD i.toNat 0)) (fun r2 =>
       bif decide (t.size + r2.size ≤ 9223372036854775807) then
        some (.inl (l, t ++ r2, wr (i + 1)))
       else
        none)
       (none)
     else
      none
    else
     bif decide (t.size + (ByteArray.mk #[63]).size ≤ 9223372036854775807) then
      some (.inl (l, t ++ (ByteArray.mk #[63]), wr (i + 1)))
     else
      none)
    (none)
  else
   none
 else
  some (.inr t)
theorem one31_0 : oneLoop Tryz.prog 31 0 = true := by kernel_rfl
theorem lp31_0 : ItemOk Tryz.prog (.loop 31 0 T31_0 X31_0 (loopVal step31_0)) := item_loopM md5 ext5 (U := 9) (n := 11) noSpecial mixed G40K26_ok one31_0 (fun x => by kernel_rfl)
noncomputable def G40K27 : List Ev.Item := .loop 31 0 T31_0 X31_0 (loopVal step31_0) :: G40K26
theorem G40K27_ok : ∀ q ∈ G40K27, ItemOk Tryz.prog q := items_cons lp31_0 G40K26_ok
noncomputable def s31 : List Int → Option (ByteArray) := fun l =>
 optE (loopVal step31_0 (l, (ByteArray.mk #[]), 0)) (fun e1 =>
  some (e1))
  (none)
theorem i31 : ItemOk Tryz.prog (.fn 31 [.d (.slice zI)] [.d .str] s31) := item_fnM md5 ext5 (U := 9) (n := 12) noSpecial mixed G40K27_ok (fun x => by kernel_rfl)
noncomputable def G40K28 : List Ev.Item := .fn 31 [.d (.slice zI)] [.d .str] s31 :: G40K27
theorem G40K28_ok : ∀ q ∈ G40K28, ItemOk Tryz.prog q := items_cons i31 G40K27_ok
@[reducible] def T32_0 : Tmpl := ⟨23, [], [.val 0 (.slice zI), .val 3 .str, .val 4 zI], [], none⟩
@[reducible] def X32_0 : List (Ex × Tmpl) := [(.exit 0, ⟨23, [], [.val 3 .str], [], none⟩)]
noncomputable def step32_0 : (List Int) × ByteArray × Int → Option (((List Int) × ByteArray × Int) ⊕ (ByteArray)) := fun (l, t, i) =>
 bif decide (i < (l.length : Int)) then
  bif decide (i > 0) then
   bif decide (t.size + (ByteArray.mk #[32]).size ≤ 9223372036854775807) then
    bif inBounds i l.length then
     optE (s96 (l.getD i.toNat 0)) (fun r1 =>
      bif decide ((t ++ (ByteArray.mk #[32])).size + r1.size ≤ 9223372036854775807) then
       some (.inl (l, (t ++ (ByteArray.mk #[32])) ++ r1, wr (i + 1)))
      else
       none)
      (none)
    else
     none
   else
    none
  else
   bif inBounds i l.length then
    optE (s96 (l.getD i.toNat 0)) (fun r2 =>
     bif decide (t.size + r2.size ≤ 9223372036854775807) then
      some (.inl (l, t ++ r2, wr (i + 1)))
     else
      none)
     (none)
   else
    none
 else
  some (.inr t)
theorem one32_0 : oneLoop Tryz.prog 32 0 = true := by kernel_rfl
theorem lp32_0 : ItemOk Tryz.prog (.loop 32 0 T32_0 X32_0 (loopVal step32_0)) := item_loopM md5 ext5 (U := 9) (n := 11) noSpecial mixed G40K28_ok one32_0 (fun x => by kernel_rfl)
noncomputable def G40K29 : List Ev.Item := .loop 32 0 T32_0 X32_0 (loopVal step32_0) :: G40K28
theorem G40K29_ok : ∀ q ∈ G40K29, ItemOk Tryz.prog q := items_cons lp32_0 G40K28_ok
noncomputable def s32 : List Int → Option (ByteArray) := fun l =>
 optE (loopVal step32_0 (l, (ByteArray.mk #[]), 0)) (fun e1 =>
  some (e1))
  (none)
theorem i32 : ItemOk Tryz.prog (.fn 32 [.d (.slice zI)] [.d .str] s32) := item_fnM md5 ext5 (U := 9) (n := 12) noSpecial mixed G40K29_ok (fun x => by kernel_rfl)
noncomputable def G40K30 : List Ev.Item := .fn 32 [.d (.slice zI)] [.d .str] s32 :: G40K29
theorem G40K30_ok : ∀ q ∈ G40K30, ItemOk Tryz.prog q := items_cons i32 G40K29_ok
@[reducible] def T34_0 : Tmpl := ⟨22, [], [.val 0 (.slice zI), .val 3 zI], [], none⟩
@[reducible] def X34_0 : List (Ex × Tmpl) := [(.ret, ⟨22, [], [.val 2 .bool], [], none⟩), (.exit 0, ⟨22, [], [], [], none⟩)]
noncomputable def step34_0 : (List Int) × Int → Option (((List Int) × Int) ⊕ ((Bool) ⊕ (Unit))) := fun (l, i) =>
 bif decide (i < (l.length : Int)) then
  bif inBounds i l.length then
   bif (l.getD i.toNat 0) != 0 then
    bif inBounds i l.length then
     bif (l.getD i.toNat 0) != 1 then
      some (.inr (.inl false))
     else
      some (.inl (l, wr (i + 1)))
    else
     none
   else
    some (.inl (l, wr (i + 1)))
  else
   none
 else
  some (.inr (.inr ()))
theorem one34_0 : oneLoop Tryz.prog 34 0 = true := by kernel_rfl
theorem lp34_0 : ItemOk Tryz.prog (.loop 34 0 T34_0 X34_0 (loopVal step34_0)) := item_loopM md5 ext5 (U := 9) (n := 11) noSpecial mixed G40K30_ok one34_0 (fun x => by kernel_rfl)
noncomputable def G40K31 : List Ev.Item := .loop 34 0 T34_0 X34_0 (loopVal step34_0) :: G40K30
theorem G40K31_ok : ∀ q ∈ G40K31, ItemOk Tryz.prog q := items_cons lp34_0 G40K30_ok
noncomputable def s34 : List Int → Option (Bool) := fun l =>
 optE (loopVal step34_0 (l, 0)) (fun e1 =>
  sumE e1 (fun e2 =>
   some (e2)) (fun _ =>
   some (true)))
  (none)
theorem i34 : ItemOk Tryz.prog (.fn 34 [.d (.slice zI)] [.d .bool] s34) := item_fnM md5 ext5 (U := 9) (n := 12) noSpecial mixed G40K31_ok (fun x => by kernel_rfl)
noncomputable def G40K32 : List Ev.Item := .fn 34 [.d (.slice zI)] [.d .bool] s34 :: G40K31
theorem G40K32_ok : ∀ q ∈ G40K32, ItemOk Tryz.prog q := items_cons i34 G40K31_ok
noncomputable def s5 : (List Int) × ByteArray → Option (Bool) := fun (l, s) =>
 bif !true then
  some (false)
 else
  optE (s23 l) (fun r1 =>
   bif !r1 then
    some (true)
   else
    (fun (k1 : Unit → Option (Bool)) =>
      bif decide ((s.size : Int) > 300) then
       bif decide ((s.size : Int) ≤ 600) then
        some (true)
       else
        k1 ()
      else
       k1 ()) (fun _ =>
      bif decide ((s.size : Int) > 602) then
       some (true)
      else
       optE (s25 l) (fun r2 =>
        optE (s24 r2) (fun r3 =>
         optE (s25 l) (fun r4 =>
          optE (s26 r4) (fun r5 =>
           optE (s27 s) (fun r6 =>
            optE (s28 s) (fun r7 =>
             optE (s29 s) (fun r8 =>
              optE (s30 s) (fun r9 =>
               optE (s31 l) (fun r10 =>
                bif !(decide (r3.data.toList = r10.data.toList)) then
                 some (false)
                else
                 optE (s32 l) (fun r11 =>
                  bif !(decide (r5.data.toList = r11.data.toList)) then
                   some (false)
                  else
                   bif r6.2 != r8.2 then
                    some (false)
                   else
                    optE (s33 (r6.1, r8.1)) (fun r12 =>
                     bif !r12 then
                      some (false)
                     else
                      bif r7.2 != r9.2 then
                       some (false)
                      else
                       optE (s33 (r7.1, r9.1)) (fun r13 =>
                        bif !r13 then
                         some (false)
                        else
                         optE (s34 l) (fun r14 =>
                          (fun (k2 : Unit → Option (Bool)) =>
                            bif r14 then
                             bif decide ((l.length : Int) ≤ 600) then
                              optE (s27 r3) (fun r15 =>
                               bif r15.2 != 0 then
                                some (false)
                               else
                                optE (s33 (r15.1, l)) (fun r16 =>
                                 bif !r16 then
                                  some (false)
                                 else
                                  k2 ())
                                 (none))
                               (none)
                             else
                              k2 ()
                            else
                             k2 ()) (fun _ =>
                            optE (s35 l) (fun r17 =>
                             bif r17 != 0 then
                              some (true)
                             else
                              optE (s28 r5) (fun r18 =>
                               bif r18.2 == 0 then
                                optE (s33 (r18.1, l)) (fun r19 =>
                                 some (r19))
                                 (none)
                               else
                                some (false))
                               (none))
                             (none)))
                          (none))
                        (none))
                     (none))
                  (none))
                (none))
               (none))
              (none))
             (none))
            (none))
           (none))
          (none))
         (none))
        (none)))
   (none)
theorem i5 : ItemOk Tryz.prog (.fn 5 [.d (.slice zI), .d .str] [.d .bool] s5) := item_fnM md5 ext5 (U := 9) (n := 12) noSpecial mixed G40K32_ok (fun x => by kernel_rfl)
noncomputable def G40K33 : List Ev.Item := .fn 5 [.d (.slice zI), .d .str] [.d .bool] s5 :: G40K32
theorem G40K33_ok : ∀ q ∈ G40K33, ItemOk Tryz.prog q := items_cons i5 G40K32_ok
end Go.Proofs.YtdoehknomnhlkaaGreatDoor
