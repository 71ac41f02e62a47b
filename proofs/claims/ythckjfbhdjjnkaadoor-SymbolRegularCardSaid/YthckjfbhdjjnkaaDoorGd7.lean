/- Printed by gen.py: specifications of functions. -/
import Derived.Test.YthckjfbhdjjnkaaDoorGd6
set_option linter.unusedSimpArgs false
set_option maxRecDepth 100000
namespace Go.Proofs.YthckjfbhdjjnkaaDoor
open Go.Ev
noncomputable def s16 : List Int → Option (Bool) := fun l =>
 some (decide ((l.length : Int) ≤ 34))
theorem i16 : ItemOk Tryd.prog (.fn 16 [.d (.slice zI)] [.d .bool] s16) := item_fnM md4 ext4 (U := 9) (n := 12) noSpecial mixed Gd4K21_ok (fun x => by kernel_rfl)
noncomputable def Gd7K1 : List Ev.Item := .fn 16 [.d (.slice zI)] [.d .bool] s16 :: Gd4K21
theorem Gd7K1_ok : ∀ q ∈ Gd7K1, ItemOk Tryd.prog q := items_cons i16 Gd4K21_ok
noncomputable def s19 : (List Int) × Int × Int × Int × Int × Int → Option ((List Int) × Int × Int × Int × Int × Int) := fun r0 =>
 optE (s22 r0.1) (fun r1 =>
  some ((r1, r0.2.1, r0.2.2)))
  (none)
theorem i19 : ItemOk Tryd.prog (.fn 19 [.d (.agg (.pair (.slice zI) (.pair zI zF)))] [.d (.agg (.pair (.slice zI) (.pair zI zF)))] s19) := item_fnM md4 ext4 (U := 9) (n := 12) noSpecial mixed Gd7K1_ok (fun x => by kernel_rfl)
noncomputable def Gd7K2 : List Ev.Item := .fn 19 [.d (.agg (.pair (.slice zI) (.pair zI zF)))] [.d (.agg (.pair (.slice zI) (.pair zI zF)))] s19 :: Gd7K1
theorem Gd7K2_ok : ∀ q ∈ Gd7K2, ItemOk Tryd.prog q := items_cons i19 Gd7K1_ok
@[reducible] def T145_0b : Tmpl := ⟨19, [], [.val 0 (.slice zI), .val 1 (.clo 135 (.pair (.ptr (.clo 117 .unit)) .unit)), .val 7 zI, .val 8 zI], [], none⟩
@[reducible] def X145_0b : List (Ex × Tmpl) := [(.ret, ⟨19, [], [.val 4 zI], [], none⟩), (.exit 0, ⟨19, [], [], [], none⟩)]
noncomputable def step145_0b : (List Int) × (Unit × Unit) × Int × Int → Option (((List Int) × (Unit × Unit) × Int × Int) ⊕ ((Int) ⊕ (Unit))) := fun (s, f, t7, t8) =>
 bif decide (t8 < t7) then
  bif inBounds t8 s.length then
   optE (s117 (s.getD t8.toNat 0)) (fun r3 =>
    bif !r3 then
     some (.inr (.inl t8))
    else
     some (.inl (s, f, t7, wr (t8 + 1))))
    (none)
  else
   none
 else
  some (.inr (.inr ()))
theorem one145_0b : oneLoop Tryd.prog 145 0 = true := by kernel_rfl
theorem lp145_0b : ItemOk Tryd.prog (.loop 145 0 T145_0b X145_0b (loopVal step145_0b)) := item_loopM md4 ext4 (U := 9) (n := 8) noSpecial mixed Gd7K2_ok one145_0b (fun x => by kernel_rfl)
noncomputable def Gd7K3 : List Ev.Item := .loop 145 0 T145_0b X145_0b (loopVal step145_0b) :: Gd7K2
theorem Gd7K3_ok : ∀ q ∈ Gd7K3, ItemOk Tryd.prog q := items_cons lp145_0b Gd7K2_ok
noncomputable def s81 : List Int → Option (Int) := fun marker =>
 optE (s82 (decide ((marker.length : Int) > 0), 10)) (fun r1 =>
  optE (s82 (decide ((marker.length : Int) ≤ 32), 8)) (fun r2 =>
   optE (loopVal step145_0b (marker, ((), ()), (marker.length : Int), 0)) (fun e3 =>
    sumE e3 (fun e4 =>
     optE (s82 (!(decide (e4 ≥ 0)), 2)) (fun r6 =>
      optE (s80 [r2, r6]) (fun r7 =>
       optE (s80 [r1, r7]) (fun r8 =>
        some (r8))
        (none))
       (none))
      (none)) (fun _ =>
     optE (s82 (true, 2)) (fun r9 =>
      optE (s80 [r2, r9]) (fun r10 =>
       optE (s80 [r1, r10]) (fun r11 =>
        some (r11))
        (none))
       (none))
      (none)))
    (none))
   (none))
  (none)
theorem i81 : ItemOk Tryd.prog (.fn 81 [.d (.slice zI)] [.d zI] s81) := item_fnM md4 ext4 (U := 9) (n := 12) noSpecial mixed Gd7K3_ok (fun x => by kernel_rfl)
noncomputable def Gd7K4 : List Ev.Item := .fn 81 [.d (.slice zI)] [.d zI] s81 :: Gd7K3
theorem Gd7K4_ok : ∀ q ∈ Gd7K4, ItemOk Tryd.prog q := items_cons i81 Gd7K3_ok
noncomputable def s18 : (List Int) × Int × Int × Int × Int × Int → Option (Int) := fun r0 =>
 optE (s79 (r0.2.1, 1, 200)) (fun r1 =>
  bif r1 then
   optE (s79 (r0.2.2.1, 0, 32)) (fun r2 =>
    bif r2 then
     optE (s79 (r0.2.2.2.1, 1, 5)) (fun r3 =>
      bif r3 then
       optE (s79 (r0.2.2.2.2.1, 0, 5)) (fun r4 =>
        bif r4 then
         optE (s79 (r0.2.2.2.2.2, 0, 3)) (fun r5 =>
          optE (s81 r0.1) (fun r6 =>
           optE (s82 (r5, 2)) (fun r7 =>
            optE (s82 (decide ((wr (2 * r0.2.2.1)) < (r0.1.length : Int)), 23)) (fun r8 =>
             optE (s82 (decide (r0.2.1 > (wr ((r0.1.length : Int) + r0.2.2.2.2.2))), 10)) (fun r9 =>
              optE (s80 [r6, r7, r8, r9]) (fun r10 =>
               some (r10))
               (none))
              (none))
             (none))
            (none))
           (none))
          (none)
        else
         optE (s81 r0.1) (fun r11 =>
          optE (s82 (false, 2)) (fun r12 =>
           optE (s82 (decide ((wr (2 * r0.2.2.1)) < (r0.1.length : Int)), 23)) (fun r13 =>
            optE (s82 (decide (r0.2.1 > (wr ((r0.1.length : Int) + r0.2.2.2.2.2))), 10)) (fun r14 =>
             optE (s80 [r11, r12, r13, r14]) (fun r15 =>
              some (r15))
              (none))
             (none))
            (none))
           (none))
          (none))
        (none)
      else
       optE (s81 r0.1) (fun r16 =>
        optE (s82 (false, 2)) (fun r17 =>
         optE (s82 (decide ((wr (2 * r0.2.2.1)) < (r0.1.length : Int)), 23)) (fun r18 =>
          optE (s82 (decide (r0.2.1 > (wr ((r0.1.length : Int) + r0.2.2.2.2.2))), 10)) (fun r19 =>
           optE (s80 [r16, r17, r18, r19]) (fun r20 =>
            some (r20))
            (none))
           (none))
          (none))
         (none))
        (none))
      (none)
    else
     optE (s81 r0.1) (fun r21 =>
      optE (s82 (false, 2)) (fun r22 =>
       optE (s82 (decide ((wr (2 * r0.2.2.1)) < (r0.1.length : Int)), 23)) (fun r23 =>
        optE (s82 (decide (r0.2.1 > (wr ((r0.1.length : Int) + r0.2.2.2.2.2))), 10)) (fun r24 =>
         optE (s80 [r21, r22, r23, r24]) (fun r25 =>
          some (r25))
          (none))
         (none))
        (none))
       (none))
      (none))
    (none)
  else
   optE (s81 r0.1) (fun r26 =>
    optE (s82 (false, 2)) (fun r27 =>
     optE (s82 (decide ((wr (2 * r0.2.2.1)) < (r0.1.length : Int)), 23)) (fun r28 =>
      optE (s82 (decide (r0.2.1 > (wr ((r0.1.length : Int) + r0.2.2.2.2.2))), 10)) (fun r29 =>
       optE (s80 [r26, r27, r28, r29]) (fun r30 =>
        some (r30))
        (none))
       (none))
      (none))
     (none))
    (none))
  (none)
theorem i18 : ItemOk Tryd.prog (.fn 18 [.d (.agg (.pair (.slice zI) (.pair zI zF)))] [.d zI] s18) := item_fnM md4 ext4 (U := 9) (n := 12) noSpecial mixed Gd7K4_ok (fun x => by kernel_rfl)
noncomputable def Gd7K5 : List Ev.Item := .fn 18 [.d (.agg (.pair (.slice zI) (.pair zI zF)))] [.d zI] s18 :: Gd7K4
theorem Gd7K5_ok : ∀ q ∈ Gd7K5, ItemOk Tryd.prog q := items_cons i18 Gd7K4_ok
@[reducible] def T25_0 : Tmpl := ⟨22, [], [.val 0 (.slice zI), .val 3 zI], [], none⟩
@[reducible] def X25_0 : List (Ex × Tmpl) := [(.ret, ⟨22, [], [.val 2 zI], [], none⟩), (.exit 0, ⟨22, [], [], [], none⟩)]
noncomputable def step25_0 : (List Int) × Int → Option (((List Int) × Int) ⊕ ((Int) ⊕ (Unit))) := fun (m, i) =>
 bif decide (i < (m.length : Int)) then
  bif inBounds i m.length then
   optE (s28 (m.getD i.toNat 0, 0, 1)) (fun r1 =>
    bif !r1 then
     some (.inr (.inl 2))
    else
     some (.inl (m, wr (i + 1))))
    (none)
  else
   none
 else
  some (.inr (.inr ()))
theorem one25_0 : oneLoop Tryd.prog 25 0 = true := by kernel_rfl
theorem lp25_0 : ItemOk Tryd.prog (.loop 25 0 T25_0 X25_0 (loopVal step25_0)) := item_loopM md4 ext4 (U := 9) (n := 11) noSpecial mixed Gd7K5_ok one25_0 (fun x => by kernel_rfl)
noncomputable def Gd7K6 : List Ev.Item := .loop 25 0 T25_0 X25_0 (loopVal step25_0) :: Gd7K5
theorem Gd7K6_ok : ∀ q ∈ Gd7K6, ItemOk Tryd.prog q := items_cons lp25_0 Gd7K5_ok
noncomputable def s25 : List Int → Option (Int) := fun m =>
 bif (m.length : Int) == 0 then
  some (10)
 else
  bif decide ((m.length : Int) > 32) then
   some (8)
  else
   optE (loopVal step25_0 (m, 0)) (fun e1 =>
    sumE e1 (fun e2 =>
     some (e2)) (fun _ =>
     some (0)))
    (none)
theorem i25 : ItemOk Tryd.prog (.fn 25 [.d (.slice zI)] [.d zI] s25) := item_fnM md4 ext4 (U := 9) (n := 12) noSpecial mixed Gd7K6_ok (fun x => by kernel_rfl)
noncomputable def Gd7K7 : List Ev.Item := .fn 25 [.d (.slice zI)] [.d zI] s25 :: Gd7K6
theorem Gd7K7_ok : ∀ q ∈ Gd7K7, ItemOk Tryd.prog q := items_cons i25 Gd7K6_ok
noncomputable def s20 : (List Int) × Int × Int × Int × Int × Int → Option (Int) := fun r0 =>
 optE (s25 r0.1) (fun r1 =>
  bif r1 != 0 then
   some (r1)
  else
   optE (s28 (r0.2.1, 1, 200)) (fun r2 =>
    bif !r2 then
     some (2)
    else
     optE (s28 (r0.2.2.1, 0, 32)) (fun r3 =>
      bif !r3 then
       some (2)
      else
       optE (s28 (r0.2.2.2.1, 1, 5)) (fun r4 =>
        bif !r4 then
         some (2)
        else
         optE (s28 (r0.2.2.2.2.1, 0, 5)) (fun r5 =>
          bif !r5 then
           some (2)
          else
           optE (s28 (r0.2.2.2.2.2, 0, 3)) (fun r6 =>
            bif !r6 then
             some (2)
            else
             bif decide ((wr (2 * r0.2.2.1)) ≥ (r0.1.length : Int)) then
              some (23)
             else
              bif decide (r0.2.1 < (wr ((wr ((r0.1.length : Int) + r0.2.2.2.2.2)) + 1))) then
               some (10)
              else
               some (0))
            (none))
          (none))
        (none))
      (none))
    (none))
  (none)
theorem i20 : ItemOk Tryd.prog (.fn 20 [.d (.agg (.pair (.slice zI) (.pair zI zF)))] [.d zI] s20) := item_fnM md4 ext4 (U := 9) (n := 12) noSpecial mixed Gd7K7_ok (fun x => by kernel_rfl)
noncomputable def Gd7K8 : List Ev.Item := .fn 20 [.d (.agg (.pair (.slice zI) (.pair zI zF)))] [.d zI] s20 :: Gd7K7
theorem Gd7K8_ok : ∀ q ∈ Gd7K8, ItemOk Tryd.prog q := items_cons i20 Gd7K7_ok
@[reducible] def T83_2 : Tmpl := ⟨37, [], [.val 0 (.slice zI), .own 3 35 3 zI, .val 4 zI, .val 5 zI, .val 16 (.slice zI), .val 17 zI, .val 18 zI], [], none⟩
@[reducible] def X83_2 : List (Ex × Tmpl) := [(.exit 2, ⟨37, [], [.val 0 (.slice zI), .own 3 35 3 zI, .val 4 zI, .val 5 zI], [], none⟩)]
noncomputable def step83_2 : (List Int) × (List Int) × Int × Int × (List Int) × Int × Int → Option (((List Int) × (List Int) × Int × Int × (List Int) × Int × Int) ⊕ ((List Int) × (List Int) × Int × Int)) := fun (marker, out, shift, n, t16, t17, t18) =>
 bif decide (t18 < t17) then
  bif inBounds t18 t16.length then
   bif inBounds t18 marker.length then
    some (.inl (marker, out, shift, wr (n + (xorI .i64 (t16.getD t18.toNat 0) (marker.getD t18.toNat 0))), t16, t17, wr (t18 + 1)))
   else
    none
  else
   none
 else
  some (.inr (marker, out, shift, n))
theorem one83_2 : oneLoop Tryd.prog 83 2 = true := by kernel_rfl
theorem lp83_2 : ItemOk Tryd.prog (.loop 83 2 T83_2 X83_2 (loopVal step83_2)) := item_loopM md4 ext4 (U := 9) (n := 11) noSpecial mixed Gd7K8_ok one83_2 (fun x => by kernel_rfl)
noncomputable def Gd7K9 : List Ev.Item := .loop 83 2 T83_2 X83_2 (loopVal step83_2) :: Gd7K8
theorem Gd7K9_ok : ∀ q ∈ Gd7K9, ItemOk Tryd.prog q := items_cons lp83_2 Gd7K8_ok
@[reducible] def T83_0 : Tmpl := ⟨37, [], [.val 0 (.slice zI), .own 3 35 3 zI, .val 4 zI], [], none⟩
@[reducible] def X83_0 : List (Ex × Tmpl) := [(.exit 0, ⟨37, [], [.own 3 35 3 zI], [], none⟩)]
noncomputable def step83_0 : (List Int) × (List Int) × Int → Option (((List Int) × (List Int) × Int) ⊕ (List Int)) := fun (marker, out, shift) =>
 bif decide (shift < (marker.length : Int)) then
  bif (decide (0 ≤ shift)) && (decide (shift ≤ (marker.length : Int))) then
   optE (loopVal step83_2 (marker, out, shift, 0, marker.drop shift.toNat, ((marker.drop shift.toNat).length : Int), 0)) (fun e1 =>
    bif room 8 (e1.2.1.length + 1) then
     some (.inl (e1.1, e1.2.1 ++ [e1.2.2.2], wr (e1.2.2.1 + 1)))
    else
     none)
    (none)
  else
   none
 else
  some (.inr out)
theorem one83_0 : oneLoop Tryd.prog 83 0 = true := by kernel_rfl
theorem lp83_0 : ItemOk Tryd.prog (.loop 83 0 T83_0 X83_0 (loopVal step83_0)) := item_loopM md4 ext4 (U := 9) (n := 11) noSpecial mixed Gd7K9_ok one83_0 (fun x => by kernel_rfl)
noncomputable def Gd7K10 : List Ev.Item := .loop 83 0 T83_0 X83_0 (loopVal step83_0) :: Gd7K9
theorem Gd7K10_ok : ∀ q ∈ Gd7K10, ItemOk Tryd.prog q := items_cons lp83_0 Gd7K9_ok
noncomputable def s83 : List Int → Option (List Int) := fun marker =>
 optE (loopVal step83_0 (marker, [], 1)) (fun e1 =>
  some (e1))
  (none)
theorem i83 : ItemOk Tryd.prog (.fn 83 [.d (.slice zI)] [.own 3 zI] s83) := item_fnM md4 ext4 (U := 9) (n := 12) noSpecial mixed Gd7K10_ok (fun x => by kernel_rfl)
noncomputable def Gd7K11 : List Ev.Item := .fn 83 [.d (.slice zI)] [.own 3 zI] s83 :: Gd7K10
theorem Gd7K11_ok : ∀ q ∈ Gd7K11, ItemOk Tryd.prog q := items_cons i83 Gd7K10_ok
noncomputable def s21 : List Int → Option ((List Int) × Int) := fun marker =>
 optE (s81 marker) (fun r1 =>
  bif r1 != 0 then
   some (([], r1))
  else
   optE (s83 marker) (fun r2 =>
    some ((r2, 0)))
    (none))
  (none)
theorem i21 : ItemOk Tryd.prog (.fn 21 [.d (.slice zI)] [.own 3 zI, .d zI] s21) := item_fnM md4 ext4 (U := 9) (n := 12) noSpecial mixed Gd7K11_ok (fun x => by kernel_rfl)
noncomputable def Gd7K12 : List Ev.Item := .fn 21 [.d (.slice zI)] [.own 3 zI, .d zI] s21 :: Gd7K11
theorem Gd7K12_ok : ∀ q ∈ Gd7K12, ItemOk Tryd.prog q := items_cons i21 Gd7K11_ok
@[reducible] def T118_0 : Tmpl := ⟨19, [(0, .mref 2900), (1, .ref 1900 0 0 0), (16004, .ref 1004 0 0 0), (16007, .ref 1007 0 0 0), (16057, .mref 2900), (48000002, .ref 1002 0 0 0), (48000003, .ref 1003 0 0 0), (48000007, .ref 1007 0 0 0)], [.val 3 zI, .cells 1900 [.own 1030 3 zI], .arrp 1004 zI 2 zP, .arrp 1007 zI 2 zP, .cells 1002 [.d (.slice zI)], .cells 1003 [.d zI]], [58], some (2900, .ready)⟩
@[reducible] def X118_0 : List (Ex × Tmpl) := [(.exit 0, ⟨19, [(16004, .ref 1004 0 0 0), (16007, .ref 1007 0 0 0), (16057, .mref 2900), (48000002, .ref 1002 0 0 0), (48000003, .ref 1003 0 0 0), (48000007, .ref 1007 0 0 0)], [.arrp 1004 zI 2 zP, .arrp 1007 zI 2 zP, .cells 1002 [.d (.slice zI)], .cells 1003 [.d zI]], [58], some (2900, .ready)⟩)]
noncomputable def Lp23_0 : LpI := lpOf Tryd.prog 23 0 false
noncomputable def step118_0 : Int × (List Int) × (Int × Int) × (Int × Int) × (List Int) × Int → Option (LpI × ((Int × (List Int) × (Int × Int) × (Int × Int) × (List Int) × Int) ⊕ ((Int × Int) × (Int × Int) × (List Int) × Int))) := fun (i, t1900, t1004, out, marker, errors) =>
 bif decide (i ≥ 0) then
  bif inBounds i t1900.length then
   bif decide ((t1900.getD i.toNat 0) ≤ (wr (2 * errors))) then
    bif decide ((wr ((wr ((marker.length : Int) - (wr (i + 1)))) - (t1900.getD i.toNat 0))) ≤ (wr (2 * errors))) then
     some (Lp23_0, .inl (wr (i - 1), t1900, t1004, (wr (i + 1), wr (i + 1)), marker, errors))
    else
     some (Lp23_0, .inl (wr (i - 1), t1900, t1004, (wr (i + 1), out.2), marker, errors))
   else
    bif decide ((wr ((wr ((marker.length : Int) - (wr (i + 1)))) - (t1900.getD i.toNat 0))) ≤ (wr (2 * errors))) then
     some (Lp23_0, .inl (wr (i - 1), t1900, t1004, (out.1, wr (i + 1)), marker, errors))
    else
     some (Lp23_0, .inl (wr (i - 1), t1900, t1004, out, marker, errors))
  else
   none
 else
  some (Lp23_0, .inr (t1004, out, marker, errors))
theorem one118_0 : oneLoop Tryd.prog 118 0 = true := by kernel_rfl
theorem lp118_0 : ItemOk Tryd.prog (.loopI 118 0 Lp23_0 T118_0 X118_0 (loopVal (strip Lp23_0 step118_0))) := item_loopI md4 ext4 (U := 9) (n := 10) noSpecial mixed Gd7K12_ok one118_0 (fun x => by kernel_rfl)
noncomputable def Gd7K13 : List Ev.Item := .loopI 118 0 Lp23_0 T118_0 X118_0 (loopVal (strip Lp23_0 step118_0)) :: Gd7K12
theorem Gd7K13_ok : ∀ q ∈ Gd7K13, ItemOk Tryd.prog q := items_cons lp118_0 Gd7K12_ok
noncomputable def s23 : (List Int) × Int → Option ((Int × Int) × Int) := fun (marker, errors) =>
 optE (s81 marker) (fun r1 =>
  optE (s79 (errors, 0, 32)) (fun r2 =>
   optE (s82 (r2, 2)) (fun r3 =>
    optE (s80 [r1, r3]) (fun r4 =>
     bif r4 != 0 then
      some (((0, 0), r4))
     else
      optE (s83 marker) (fun r5 =>
       optE (onlyAt Lp23_0 Lp23_0 <| loopVal (strip Lp23_0 step118_0) (wr ((r5.length : Int) - 1), r5, (0, 0), ((marker.length : Int), (marker.length : Int)), marker, errors)) (fun e6 =>
        some ((e6.2.1, 0)))
        (none))
       (none))
     (none))
    (none))
   (none))
  (none)
theorem i23 : ItemOk Tryd.prog (.fn 23 [.d (.slice zI), .d zI] [.d (.agg zP), .d zI] s23) := item_fnM md4 ext4 (U := 9) (n := 12) noSpecial mixed Gd7K13_ok (fun x => by kernel_rfl)
noncomputable def Gd7K14 : List Ev.Item := .fn 23 [.d (.slice zI), .d zI] [.d (.agg zP), .d zI] s23 :: Gd7K13
theorem Gd7K14_ok : ∀ q ∈ Gd7K14, ItemOk Tryd.prog q := items_cons i23 Gd7K13_ok
@[reducible] def T86_0 : Tmpl := ⟨42, [(6, .ref 6 0 0 0), (7, .ref 7 0 0 0)], [.val 1 (.slice zI), .val 2 zI, .val 11 (.slice zI), .val 12 zI, .val 13 zI, .arrp 6 zI 2 zP, .arrp 7 zI 2 zP], [], none⟩
@[reducible] def X86_0 : List (Ex × Tmpl) := [(.exit 0, ⟨42, [(6, .ref 6 0 0 0), (7, .ref 7 0 0 0)], [.arrp 6 zI 2 zP, .arrp 7 zI 2 zP], [], none⟩)]
noncomputable def step86_0 : (List Int) × Int × (List Int) × Int × Int × (Int × Int) × (Int × Int) → Option (((List Int) × Int × (List Int) × Int × Int × (Int × Int) × (Int × Int)) ⊕ ((Int × Int) × (Int × Int))) := fun (soft, at0, t11, t12, t13, t6, out) =>
 bif decide (t13 < t12) then
  bif inBounds t13 t11.length then
   bif inBounds (wr (at0 + t13)) soft.length then
    optE (s107 (soft.getD (wr (at0 + t13)).toNat 0)) (fun r1 =>
     bif r1 != (t11.getD t13.toNat 0) then
      bif r1 != (wr (1 - (t11.getD t13.toNat 0))) then
       some (.inl (soft, at0, t11, t12, wr (t13 + 1), t6, (wr (out.1 + 1), wr (out.2 + 1))))
      else
       some (.inl (soft, at0, t11, t12, wr (t13 + 1), t6, (wr (out.1 + 1), out.2)))
     else
      bif r1 != (wr (1 - (t11.getD t13.toNat 0))) then
       some (.inl (soft, at0, t11, t12, wr (t13 + 1), t6, (out.1, wr (out.2 + 1))))
      else
       some (.inl (soft, at0, t11, t12, wr (t13 + 1), t6, out)))
     (none)
   else
    none
  else
   none
 else
  some (.inr (t6, out))
theorem one86_0 : oneLoop Tryd.prog 86 0 = true := by kernel_rfl
theorem lp86_0 : ItemOk Tryd.prog (.loop 86 0 T86_0 X86_0 (loopVal step86_0)) := item_loopM md4 ext4 (U := 9) (n := 11) noSpecial mixed Gd7K14_ok one86_0 (fun x => by kernel_rfl)
noncomputable def Gd7K15 : List Ev.Item := .loop 86 0 T86_0 X86_0 (loopVal step86_0) :: Gd7K14
theorem Gd7K15_ok : ∀ q ∈ Gd7K15, ItemOk Tryd.prog q := items_cons lp86_0 Gd7K14_ok
noncomputable def s86 : (List Int) × (List Int) × Int → Option (Int × Int) := fun (marker, soft, at0) =>
 optE (loopVal step86_0 (soft, at0, marker, (marker.length : Int), 0, (0, 0), (0, 0))) (fun e1 =>
  some (e1.2))
  (none)
theorem i86 : ItemOk Tryd.prog (.fn 86 [.d (.slice zI), .d (.slice zI), .d zI] [.d (.agg zP)] s86) := item_fnM md4 ext4 (U := 9) (n := 12) noSpecial mixed Gd7K15_ok (fun x => by kernel_rfl)
noncomputable def Gd7K16 : List Ev.Item := .fn 86 [.d (.slice zI), .d (.slice zI), .d zI] [.d (.agg zP)] s86 :: Gd7K15
theorem Gd7K16_ok : ∀ q ∈ Gd7K16, ItemOk Tryd.prog q := items_cons i86 Gd7K15_ok
noncomputable def s24 : (List Int) × (List Int) × Int → Option ((Int × Int) × Int) := fun (marker, soft, at0) =>
 optE (s81 marker) (fun r1 =>
  optE (s85 soft) (fun r2 =>
   optE (s79 (at0, 0, wr ((soft.length : Int) - (marker.length : Int)))) (fun r3 =>
    optE (s82 (r3, 6)) (fun r4 =>
     optE (s80 [r1, r2, r4]) (fun r5 =>
      bif r5 != 0 then
       some (((0, 0), r5))
      else
       optE (s86 (marker, soft, at0)) (fun r6 =>
        some ((r6, 0)))
        (none))
      (none))
     (none))
    (none))
   (none))
  (none)
theorem i24 : ItemOk Tryd.prog (.fn 24 [.d (.slice zI), .d (.slice zI), .d zI] [.d (.agg zP), .d zI] s24) := item_fnM md4 ext4 (U := 9) (n := 12) noSpecial mixed Gd7K16_ok (fun x => by kernel_rfl)
noncomputable def Gd7K17 : List Ev.Item := .fn 24 [.d (.slice zI), .d (.slice zI), .d zI] [.d (.agg zP), .d zI] s24 :: Gd7K16
theorem Gd7K17_ok : ∀ q ∈ Gd7K17, ItemOk Tryd.prog q := items_cons i24 Gd7K16_ok
@[reducible] def T27_2 : Tmpl := ⟨38, [], [.val 0 (.slice zI), .own 3 36 3 zI, .val 4 zI, .val 5 zI, .val 6 zI], [], none⟩
@[reducible] def X27_2 : List (Ex × Tmpl) := [(.exit 2, ⟨38, [], [.val 0 (.slice zI), .own 3 36 3 zI, .val 4 zI, .val 5 zI], [], none⟩)]
noncomputable def step27_2 : (List Int) × (List Int) × Int × Int × Int → Option (((List Int) × (List Int) × Int × Int × Int) ⊕ ((List Int) × (List Int) × Int × Int)) := fun (m, out, s, n, i) =>
 bif decide (i < (m.length : Int)) then
  bif inBounds i m.length then
   bif inBounds (wr (i - s)) m.length then
    bif (m.getD i.toNat 0) != (m.getD (wr (i - s)).toNat 0) then
     some (.inl (m, out, s, wr (n + 1), wr (i + 1)))
    else
     some (.inl (m, out, s, n, wr (i + 1)))
   else
    none
  else
   none
 else
  some (.inr (m, out, s, n))
theorem one27_2 : oneLoop Tryd.prog 27 2 = true := by kernel_rfl
theorem lp27_2 : ItemOk Tryd.prog (.loop 27 2 T27_2 X27_2 (loopVal step27_2)) := item_loopM md4 ext4 (U := 9) (n := 11) noSpecial mixed Gd7K17_ok one27_2 (fun x => by kernel_rfl)
noncomputable def Gd7K18 : List Ev.Item := .loop 27 2 T27_2 X27_2 (loopVal step27_2) :: Gd7K17
theorem Gd7K18_ok : ∀ q ∈ Gd7K18, ItemOk Tryd.prog q := items_cons lp27_2 Gd7K17_ok
@[reducible] def T27_0 : Tmpl := ⟨38, [], [.val 0 (.slice zI), .own 3 36 3 zI, .val 4 zI], [], none⟩
@[reducible] def X27_0 : List (Ex × Tmpl) := [(.exit 0, ⟨38, [], [.own 3 36 3 zI], [], none⟩)]
noncomputable def step27_0 : (List Int) × (List Int) × Int → Option (((List Int) × (List Int) × Int) ⊕ (List Int)) := fun (m, out, s) =>
 bif decide (s < (m.length : Int)) then
  optE (loopVal step27_2 (m, out, s, 0, s)) (fun e1 =>
   bif room 8 (e1.2.1.length + 1) then
    some (.inl (e1.1, e1.2.1 ++ [e1.2.2.2], wr (e1.2.2.1 + 1)))
   else
    none)
   (none)
 else
  some (.inr out)
theorem one27_0 : oneLoop Tryd.prog 27 0 = true := by kernel_rfl
theorem lp27_0 : ItemOk Tryd.prog (.loop 27 0 T27_0 X27_0 (loopVal step27_0)) := item_loopM md4 ext4 (U := 9) (n := 11) noSpecial mixed Gd7K18_ok one27_0 (fun x => by kernel_rfl)
noncomputable def Gd7K19 : List Ev.Item := .loop 27 0 T27_0 X27_0 (loopVal step27_0) :: Gd7K18
theorem Gd7K19_ok : ∀ q ∈ Gd7K19, ItemOk Tryd.prog q := items_cons lp27_0 Gd7K18_ok
noncomputable def s27 : List Int → Option (List Int) := fun m =>
 optE (loopVal step27_0 (m, [], 1)) (fun e1 =>
  some (e1))
  (none)
theorem i27 : ItemOk Tryd.prog (.fn 27 [.d (.slice zI)] [.own 3 zI] s27) := item_fnM md4 ext4 (U := 9) (n := 12) noSpecial mixed Gd7K19_ok (fun x => by kernel_rfl)
noncomputable def Gd7K20 : List Ev.Item := .fn 27 [.d (.slice zI)] [.own 3 zI] s27 :: Gd7K19
theorem Gd7K20_ok : ∀ q ∈ Gd7K20, ItemOk Tryd.prog q := items_cons i27 Gd7K19_ok
@[reducible] def T29_0 : Tmpl := ⟨49, [(4, .ref 4 0 0 0), (5, .ref 5 0 0 0)], [.val 0 (.slice zI), .val 1 zI, .own 6 15 3 zI, .val 7 zI, .arrp 4 zI 2 zP, .arrp 5 zI 2 zP], [], none⟩
@[reducible] def X29_0 : List (Ex × Tmpl) := [(.exit 0, ⟨49, [(4, .ref 4 0 0 0), (5, .ref 5 0 0 0)], [.arrp 4 zI 2 zP, .arrp 5 zI 2 zP], [], none⟩)]
noncomputable def step29_0 : (List Int) × Int × (List Int) × Int × (Int × Int) × (Int × Int) → Option (((List Int) × Int × (List Int) × Int × (Int × Int) × (Int × Int)) ⊕ ((Int × Int) × (Int × Int))) := fun (m, errors, all0, i, t4, out) =>
 bif decide (i ≥ 0) then
  bif inBounds i all0.length then
   bif decide ((all0.getD i.toNat 0) ≤ (wr (2 * errors))) then
    bif inBounds i all0.length then
     bif decide ((wr ((wr ((m.length : Int) - (wr (i + 1)))) - (all0.getD i.toNat 0))) ≤ (wr (2 * errors))) then
      some (.inl (m, errors, all0, wr (i - 1), t4, (wr (i + 1), wr (i + 1))))
     else
      some (.inl (m, errors, all0, wr (i - 1), t4, (wr (i + 1), out.2)))
    else
     none
   else
    bif inBounds i all0.length then
     bif decide ((wr ((wr ((m.length : Int) - (wr (i + 1)))) - (all0.getD i.toNat 0))) ≤ (wr (2 * errors))) then
      some (.inl (m, errors, all0, wr (i - 1), t4, (out.1, wr (i + 1))))
     else
      some (.inl (m, errors, all0, wr (i - 1), t4, out))
    else
     none
  else
   none
 else
  some (.inr (t4, out))
theorem one29_0 : oneLoop Tryd.prog 29 0 = true := by kernel_rfl
theorem lp29_0 : ItemOk Tryd.prog (.loop 29 0 T29_0 X29_0 (loopVal step29_0)) := item_loopM md4 ext4 (U := 9) (n := 11) noSpecial mixed Gd7K20_ok one29_0 (fun x => by kernel_rfl)
noncomputable def Gd7K21 : List Ev.Item := .loop 29 0 T29_0 X29_0 (loopVal step29_0) :: Gd7K20
theorem Gd7K21_ok : ∀ q ∈ Gd7K21, ItemOk Tryd.prog q := items_cons lp29_0 Gd7K20_ok
noncomputable def s29 : (List Int) × Int → Option (Int × Int) := fun (m, errors) =>
 optE (s27 m) (fun r1 =>
  optE (loopVal step29_0 (m, errors, r1, wr ((r1.length : Int) - 1), (0, 0), ((m.length : Int), (m.length : Int)))) (fun e2 =>
   some (e2.2))
   (none))
  (none)
theorem i29 : ItemOk Tryd.prog (.fn 29 [.d (.slice zI), .d zI] [.d (.agg zP)] s29) := item_fnM md4 ext4 (U := 9) (n := 12) noSpecial mixed Gd7K21_ok (fun x => by kernel_rfl)
noncomputable def Gd7K22 : List Ev.Item := .fn 29 [.d (.slice zI), .d zI] [.d (.agg zP)] s29 :: Gd7K21
theorem Gd7K22_ok : ∀ q ∈ Gd7K22, ItemOk Tryd.prog q := items_cons i29 Gd7K21_ok
@[reducible] def T31_0 : Tmpl := ⟨45, [(6, .ref 6 0 0 0), (7, .ref 7 0 0 0)], [.val 0 (.slice zI), .val 1 (.slice zI), .val 2 zI, .val 8 zI, .arrp 6 zI 2 zP, .arrp 7 zI 2 zP], [], none⟩
@[reducible] def X31_0 : List (Ex × Tmpl) := [(.exit 0, ⟨45, [(6, .ref 6 0 0 0), (7, .ref 7 0 0 0)], [.arrp 6 zI 2 zP, .arrp 7 zI 2 zP], [], none⟩)]
noncomputable def step31_0 : (List Int) × (List Int) × Int × Int × (Int × Int) × (Int × Int) → Option (((List Int) × (List Int) × Int × Int × (Int × Int) × (Int × Int)) ⊕ ((Int × Int) × (Int × Int))) := fun (m, l, at0, i, t6, out) =>
 bif decide (i < (m.length : Int)) then
  bif inBounds (wr (at0 + i)) l.length then
   optE (s87 (l.getD (wr (at0 + i)).toNat 0)) (fun r1 =>
    bif inBounds i m.length then
     bif r1 != (m.getD i.toNat 0) then
      bif inBounds i m.length then
       bif r1 != (wr (1 - (m.getD i.toNat 0))) then
        some (.inl (m, l, at0, wr (i + 1), t6, (wr (out.1 + 1), wr (out.2 + 1))))
       else
        some (.inl (m, l, at0, wr (i + 1), t6, (wr (out.1 + 1), out.2)))
      else
       none
     else
      bif inBounds i m.length then
       bif r1 != (wr (1 - (m.getD i.toNat 0))) then
        some (.inl (m, l, at0, wr (i + 1), t6, (out.1, wr (out.2 + 1))))
       else
        some (.inl (m, l, at0, wr (i + 1), t6, out))
      else
       none
    else
     none)
    (none)
  else
   none
 else
  some (.inr (t6, out))
theorem one31_0 : oneLoop Tryd.prog 31 0 = true := by kernel_rfl
theorem lp31_0 : ItemOk Tryd.prog (.loop 31 0 T31_0 X31_0 (loopVal step31_0)) := item_loopM md4 ext4 (U := 9) (n := 11) noSpecial mixed Gd7K22_ok one31_0 (fun x => by kernel_rfl)
noncomputable def Gd7K23 : List Ev.Item := .loop 31 0 T31_0 X31_0 (loopVal step31_0) :: Gd7K22
theorem Gd7K23_ok : ∀ q ∈ Gd7K23, ItemOk Tryd.prog q := items_cons lp31_0 Gd7K22_ok
noncomputable def s31 : (List Int) × (List Int) × Int → Option (Int × Int) := fun (m, l, at0) =>
 optE (loopVal step31_0 (m, l, at0, 0, (0, 0), (0, 0))) (fun e1 =>
  some (e1.2))
  (none)
theorem i31 : ItemOk Tryd.prog (.fn 31 [.d (.slice zI), .d (.slice zI), .d zI] [.d (.agg zP)] s31) := item_fnM md4 ext4 (U := 9) (n := 12) noSpecial mixed Gd7K23_ok (fun x => by kernel_rfl)
noncomputable def Gd7K24 : List Ev.Item := .fn 31 [.d (.slice zI), .d (.slice zI), .d zI] [.d (.agg zP)] s31 :: Gd7K23
theorem Gd7K24_ok : ∀ q ∈ Gd7K24, ItemOk Tryd.prog q := items_cons i31 Gd7K23_ok
noncomputable def s3 : ((List Int) × Int × Int × Int × Int × Int) × (List Int) × (Int × Int) → Option (Bool) := fun (r0, soft, x0) =>
 bif !true then
  some (false)
 else
  optE (s16 r0.1) (fun r1 =>
   bif !r1 then
    some (true)
   else
    optE (s17 soft) (fun r2 =>
     bif !r2 then
      some (true)
     else
      optE (s19 r0) (fun r3 =>
       optE (s18 r3) (fun r4 =>
        optE (s20 r0) (fun r5 =>
         bif r4 != r5 then
          some (false)
         else
          optE (s22 r0.1) (fun r6 =>
           optE (s21 r6) (fun r7 =>
            optE (s22 r0.1) (fun r8 =>
             optE (s23 (r8, x0.1)) (fun r9 =>
              optE (s22 r0.1) (fun r10 =>
               optE (s22 soft) (fun r11 =>
                optE (s24 (r10, r11, x0.2)) (fun r12 =>
                 optE (s25 r0.1) (fun r13 =>
                  bif r13 != 0 then
                   bif r7.2 == r13 then
                    bif r9.2 == r13 then
                     bif r12.2 == r13 then
                      bif (r7.1.length : Int) == 0 then
                       bif (r9.1.1 == 0) && ((r9.1.2 == 0) && true) then
                        some ((r12.1.1 == 0) && ((r12.1.2 == 0) && true))
                       else
                        some (false)
                      else
                       some (false)
                     else
                      some (false)
                    else
                     some (false)
                   else
                    some (false)
                  else
                   bif r7.2 != 0 then
                    some (false)
                   else
                    optE (s27 r0.1) (fun r14 =>
                     optE (s26 (r7.1, r14)) (fun r15 =>
                      bif !r15 then
                       some (false)
                      else
                       optE (s28 (x0.1, 0, 32)) (fun r16 =>
                        (fun (k1 : Unit → Option (Bool)) =>
                          bif !r16 then
                           bif r9.2 != 2 then
                            some (false)
                           else
                            bif !((r9.1.1 == 0) && ((r9.1.2 == 0) && true)) then
                             some (false)
                            else
                             k1 ()
                          else
                           k1 ()) (fun _ =>
                          optE (s28 (x0.1, 0, 32)) (fun r17 =>
                           (fun (k2 : Unit → Option (Bool)) =>
                             bif r17 then
                              bif r9.2 != 0 then
                               some (false)
                              else
                               optE (s29 (r0.1, x0.1)) (fun r18 =>
                                bif !((r9.1.1 == r18.1) && ((r9.1.2 == r18.2) && true)) then
                                 some (false)
                                else
                                 k2 ())
                                (none)
                             else
                              k2 ()) (fun _ =>
                             optE (s30 soft) (fun r19 =>
                              (fun (k3 : Unit → Option (Bool)) =>
                                bif r19 == 0 then
                                 optE (s28 (x0.2, 0, wr ((soft.length : Int) - (r0.1.length : Int)))) (fun r20 =>
                                  bif !r20 then
                                   bif r12.2 == 6 then
                                    some ((r12.1.1 == 0) && ((r12.1.2 == 0) && true))
                                   else
                                    some (false)
                                  else
                                   k3 ())
                                  (none)
                                else
                                 k3 ()) (fun _ =>
                                bif r19 != 0 then
                                 bif r12.2 == r19 then
                                  some ((r12.1.1 == 0) && ((r12.1.2 == 0) && true))
                                 else
                                  some (false)
                                else
                                 bif r12.2 == 0 then
                                  optE (s31 (r0.1, soft, x0.2)) (fun r21 =>
                                   some ((r12.1.1 == r21.1) && ((r12.1.2 == r21.2) && true)))
                                   (none)
                                 else
                                  some (false)))
                              (none)))
                           (none)))
                        (none))
                      (none))
                     (none))
                  (none))
                 (none))
                (none))
               (none))
              (none))
             (none))
            (none))
           (none))
         (none))
        (none))
       (none))
     (none))
   (none)
theorem i3 : ItemOk Tryd.prog (.fn 3 [.d (.agg (.pair (.slice zI) (.pair zI zF))), .d (.slice zI), .d (.agg zP)] [.d .bool] s3) := item_fnM md4 ext4 (U := 9) (n := 12) noSpecial mixed Gd7K24_ok (fun x => by kernel_rfl)
noncomputable def Gd7K25 : List Ev.Item := .fn 3 [.d (.agg (.pair (.slice zI) (.pair zI zF))), .d (.slice zI), .d (.agg zP)] [.d .bool] s3 :: Gd7K24
theorem Gd7K25_ok : ∀ q ∈ Gd7K25, ItemOk Tryd.prog q := items_cons i3 Gd7K24_ok
end Go.Proofs.YthckjfbhdjjnkaaDoor
