/- Printed by gen.py: specifications of functions. -/
import Derived.Test.YthckjfbhdjjnkaaGp4
import Derived.Test.YthckjfbhdjjnkaaClone4
set_option linter.unusedSimpArgs false
set_option maxRecDepth 100000
namespace Go.Proofs.Ythckjfbhdjjnkaa
open Go.Ev
@[reducible] def T101_0 : Tmpl := ⟨19, [], [.val 0 (.slice zI), .val 1 (.clo 95 (.pair (.ptr (.clo 94 .unit)) .unit)), .val 7 zI, .val 8 zI], [], none⟩
@[reducible] def X101_0 : List (Ex × Tmpl) := [(.ret, ⟨19, [], [.val 4 zI], [], none⟩), (.exit 0, ⟨19, [], [], [], none⟩)]
noncomputable def step101_0 : (List Int) × (Unit × Unit) × Int × Int → Option (((List Int) × (Unit × Unit) × Int × Int) ⊕ ((Int) ⊕ (Unit))) := fun (s, f, t7, t8) =>
 bif decide (t8 < t7) then
  bif inBounds t8 s.length then
   optE (s94 (s.getD t8.toNat 0)) (fun r3 =>
    bif !r3 then
     some (.inr (.inl t8))
    else
     some (.inl (s, f, t7, wr (t8 + 1))))
    (none)
  else
   none
 else
  some (.inr (.inr ()))
theorem one101_0 : oneLoop Try.prog 101 0 = true := by kernel_rfl
theorem lp101_0 : ItemOk Try.prog (.loop 101 0 T101_0 X101_0 (loopVal step101_0)) := item_loopM md4 ext4 (U := 9) (n := 8) noSpecial mixed Gp4K14_ok one101_0 (fun x => by kernel_rfl)
noncomputable def Gp5K1 : List Ev.Item := .loop 101 0 T101_0 X101_0 (loopVal step101_0) :: Gp4K14
theorem Gp5K1_ok : ∀ q ∈ Gp5K1, ItemOk Try.prog q := items_cons lp101_0 Gp4K14_ok
noncomputable def s86 : List Int → Option (Int) := fun marker =>
 optE (s39 (decide ((marker.length : Int) > 0), 10)) (fun r1 =>
  optE (s39 (decide ((marker.length : Int) ≤ 32), 8)) (fun r2 =>
   optE (loopVal step101_0 (marker, ((), ()), (marker.length : Int), 0)) (fun e3 =>
    sumE e3 (fun e4 =>
     optE (s39 (!(decide (e4 ≥ 0)), 2)) (fun r6 =>
      optE (s37 [r2, r6]) (fun r7 =>
       optE (s37 [r1, r7]) (fun r8 =>
        some (r8))
        (none))
       (none))
      (none)) (fun _ =>
     optE (s39 (true, 2)) (fun r9 =>
      optE (s37 [r2, r9]) (fun r10 =>
       optE (s37 [r1, r10]) (fun r11 =>
        some (r11))
        (none))
       (none))
      (none)))
    (none))
   (none))
  (none)
theorem i86 : ItemOk Try.prog (.fn 86 [.d (.slice zI)] [.d zI] s86) := item_fnM md4 ext4 (U := 9) (n := 12) noSpecial mixed Gp5K1_ok (fun x => by kernel_rfl)
noncomputable def Gp5K2 : List Ev.Item := .fn 86 [.d (.slice zI)] [.d zI] s86 :: Gp5K1
theorem Gp5K2_ok : ∀ q ∈ Gp5K2, ItemOk Try.prog q := items_cons i86 Gp5K1_ok
noncomputable def s76 : (List Int) × Int × Int × Int × Int × Int → Option (Int) := fun r0 =>
 optE (s40 (r0.2.1, 1, 200)) (fun r1 =>
  bif r1 then
   optE (s40 (r0.2.2.1, 0, 32)) (fun r2 =>
    bif r2 then
     optE (s40 (r0.2.2.2.1, 1, 5)) (fun r3 =>
      bif r3 then
       optE (s40 (r0.2.2.2.2.1, 0, 5)) (fun r4 =>
        bif r4 then
         optE (s40 (r0.2.2.2.2.2, 0, 3)) (fun r5 =>
          optE (s86 r0.1) (fun r6 =>
           optE (s39 (r5, 2)) (fun r7 =>
            optE (s39 (decide ((wr (2 * r0.2.2.1)) < (r0.1.length : Int)), 23)) (fun r8 =>
             optE (s39 (decide (r0.2.1 > (wr ((r0.1.length : Int) + r0.2.2.2.2.2))), 10)) (fun r9 =>
              optE (s37 [r6, r7, r8, r9]) (fun r10 =>
               some (r10))
               (none))
              (none))
             (none))
            (none))
           (none))
          (none)
        else
         optE (s86 r0.1) (fun r11 =>
          optE (s39 (false, 2)) (fun r12 =>
           optE (s39 (decide ((wr (2 * r0.2.2.1)) < (r0.1.length : Int)), 23)) (fun r13 =>
            optE (s39 (decide (r0.2.1 > (wr ((r0.1.length : Int) + r0.2.2.2.2.2))), 10)) (fun r14 =>
             optE (s37 [r11, r12, r13, r14]) (fun r15 =>
              some (r15))
              (none))
             (none))
            (none))
           (none))
          (none))
        (none)
      else
       optE (s86 r0.1) (fun r16 =>
        optE (s39 (false, 2)) (fun r17 =>
         optE (s39 (decide ((wr (2 * r0.2.2.1)) < (r0.1.length : Int)), 23)) (fun r18 =>
          optE (s39 (decide (r0.2.1 > (wr ((r0.1.length : Int) + r0.2.2.2.2.2))), 10)) (fun r19 =>
           optE (s37 [r16, r17, r18, r19]) (fun r20 =>
            some (r20))
            (none))
           (none))
          (none))
         (none))
        (none))
      (none)
    else
     optE (s86 r0.1) (fun r21 =>
      optE (s39 (false, 2)) (fun r22 =>
       optE (s39 (decide ((wr (2 * r0.2.2.1)) < (r0.1.length : Int)), 23)) (fun r23 =>
        optE (s39 (decide (r0.2.1 > (wr ((r0.1.length : Int) + r0.2.2.2.2.2))), 10)) (fun r24 =>
         optE (s37 [r21, r22, r23, r24]) (fun r25 =>
          some (r25))
          (none))
         (none))
        (none))
       (none))
      (none))
    (none)
  else
   optE (s86 r0.1) (fun r26 =>
    optE (s39 (false, 2)) (fun r27 =>
     optE (s39 (decide ((wr (2 * r0.2.2.1)) < (r0.1.length : Int)), 23)) (fun r28 =>
      optE (s39 (decide (r0.2.1 > (wr ((r0.1.length : Int) + r0.2.2.2.2.2))), 10)) (fun r29 =>
       optE (s37 [r26, r27, r28, r29]) (fun r30 =>
        some (r30))
        (none))
       (none))
      (none))
     (none))
    (none))
  (none)
theorem i76 : ItemOk Try.prog (.fn 76 [.d (.agg (.pair (.slice zI) (.pair zI zF)))] [.d zI] s76) := item_fnM md4 ext4 (U := 9) (n := 12) noSpecial mixed Gp5K2_ok (fun x => by kernel_rfl)
noncomputable def Gp5K3 : List Ev.Item := .fn 76 [.d (.agg (.pair (.slice zI) (.pair zI zF)))] [.d zI] s76 :: Gp5K2
theorem Gp5K3_ok : ∀ q ∈ Gp5K3, ItemOk Try.prog q := items_cons i76 Gp5K2_ok
noncomputable def s7 : Int × Int × Int → Option (Bool) := fun (n, lo, hi) =>
 bif decide (lo ≤ n) then
  some (decide (n ≤ hi))
 else
  some (false)
theorem i7 : ItemOk Try.prog (.fn 7 [.d zI, .d zI, .d zI] [.d .bool] s7) := item_fnM md4 ext4 (U := 9) (n := 12) noSpecial mixed Gp5K3_ok (fun x => by kernel_rfl)
noncomputable def Gp5K4 : List Ev.Item := .fn 7 [.d zI, .d zI, .d zI] [.d .bool] s7 :: Gp5K3
theorem Gp5K4_ok : ∀ q ∈ Gp5K4, ItemOk Try.prog q := items_cons i7 Gp5K3_ok
@[reducible] def T30_0 : Tmpl := ⟨22, [], [.val 0 (.slice zI), .val 3 zI], [], none⟩
@[reducible] def X30_0 : List (Ex × Tmpl) := [(.ret, ⟨22, [], [.val 2 zI], [], none⟩), (.exit 0, ⟨22, [], [], [], none⟩)]
noncomputable def step30_0 : (List Int) × Int → Option (((List Int) × Int) ⊕ ((Int) ⊕ (Unit))) := fun (m, i) =>
 bif decide (i < (m.length : Int)) then
  bif inBounds i m.length then
   optE (s7 (m.getD i.toNat 0, 0, 1)) (fun r1 =>
    bif !r1 then
     some (.inr (.inl 2))
    else
     some (.inl (m, wr (i + 1))))
    (none)
  else
   none
 else
  some (.inr (.inr ()))
theorem one30_0 : oneLoop Try.prog 30 0 = true := by kernel_rfl
theorem lp30_0 : ItemOk Try.prog (.loop 30 0 T30_0 X30_0 (loopVal step30_0)) := item_loopM md4 ext4 (U := 9) (n := 11) noSpecial mixed Gp5K4_ok one30_0 (fun x => by kernel_rfl)
noncomputable def Gp5K5 : List Ev.Item := .loop 30 0 T30_0 X30_0 (loopVal step30_0) :: Gp5K4
theorem Gp5K5_ok : ∀ q ∈ Gp5K5, ItemOk Try.prog q := items_cons lp30_0 Gp5K4_ok
noncomputable def s30 : List Int → Option (Int) := fun m =>
 bif (m.length : Int) == 0 then
  some (10)
 else
  bif decide ((m.length : Int) > 32) then
   some (8)
  else
   optE (loopVal step30_0 (m, 0)) (fun e1 =>
    sumE e1 (fun e2 =>
     some (e2)) (fun _ =>
     some (0)))
    (none)
theorem i30 : ItemOk Try.prog (.fn 30 [.d (.slice zI)] [.d zI] s30) := item_fnM md4 ext4 (U := 9) (n := 12) noSpecial mixed Gp5K5_ok (fun x => by kernel_rfl)
noncomputable def Gp5K6 : List Ev.Item := .fn 30 [.d (.slice zI)] [.d zI] s30 :: Gp5K5
theorem Gp5K6_ok : ∀ q ∈ Gp5K6, ItemOk Try.prog q := items_cons i30 Gp5K5_ok
noncomputable def s5 : (List Int) × Int × Int × Int × Int × Int → Option (Int) := fun r0 =>
 optE (s30 r0.1) (fun r1 =>
  bif r1 != 0 then
   some (r1)
  else
   optE (s7 (r0.2.1, 1, 200)) (fun r2 =>
    bif !r2 then
     some (2)
    else
     optE (s7 (r0.2.2.1, 0, 32)) (fun r3 =>
      bif !r3 then
       some (2)
      else
       optE (s7 (r0.2.2.2.1, 1, 5)) (fun r4 =>
        bif !r4 then
         some (2)
        else
         optE (s7 (r0.2.2.2.2.1, 0, 5)) (fun r5 =>
          bif !r5 then
           some (2)
          else
           optE (s7 (r0.2.2.2.2.2, 0, 3)) (fun r6 =>
            bif !r6 then
             some (2)
            else
             bif decide ((wr (2 * r0.2.2.1)) ≥ (r0.1.length : Int)) then
              some (23)
             else
              bif decide (r0.2.1 < (wr ((wr ((r0.1.length : Int) + r0.2.2.2.2.2)) + 1))) then
               some (10)
              else
               some (0))
            (none))
          (none))
        (none))
      (none))
    (none))
  (none)
theorem i5 : ItemOk Try.prog (.fn 5 [.d (.agg (.pair (.slice zI) (.pair zI zF)))] [.d zI] s5) := item_fnM md4 ext4 (U := 9) (n := 12) noSpecial mixed Gp5K6_ok (fun x => by kernel_rfl)
noncomputable def Gp5K7 : List Ev.Item := .fn 5 [.d (.agg (.pair (.slice zI) (.pair zI zF)))] [.d zI] s5 :: Gp5K6
theorem Gp5K7_ok : ∀ q ∈ Gp5K7, ItemOk Try.prog q := items_cons i5 Gp5K6_ok
@[reducible] def T6_0 : Tmpl := ⟨22, [], [.val 0 (.slice zI), .val 3 zI], [], none⟩
@[reducible] def X6_0 : List (Ex × Tmpl) := [(.ret, ⟨22, [], [.val 2 .bool], [], none⟩), (.exit 0, ⟨22, [], [], [], none⟩)]
noncomputable def step6_0 : (List Int) × Int → Option (((List Int) × Int) ⊕ ((Bool) ⊕ (Unit))) := fun (l, i) =>
 bif decide (i < (l.length : Int)) then
  bif inBounds i l.length then
   bif (l.getD i.toNat 0) != 0 then
    bif inBounds i l.length then
     bif (l.getD i.toNat 0) != 1 then
      some (.inr (.inl false))
     else
      some (.inl (l, wr (i + 1)))
    else
     none
   else
    some (.inl (l, wr (i + 1)))
  else
   none
 else
  some (.inr (.inr ()))
theorem one6_0 : oneLoop Try.prog 6 0 = true := by kernel_rfl
theorem lp6_0 : ItemOk Try.prog (.loop 6 0 T6_0 X6_0 (loopVal step6_0)) := item_loopM md4 ext4 (U := 9) (n := 11) noSpecial mixed Gp5K7_ok one6_0 (fun x => by kernel_rfl)
noncomputable def Gp5K8 : List Ev.Item := .loop 6 0 T6_0 X6_0 (loopVal step6_0) :: Gp5K7
theorem Gp5K8_ok : ∀ q ∈ Gp5K8, ItemOk Try.prog q := items_cons lp6_0 Gp5K7_ok
noncomputable def s6 : List Int → Option (Bool) := fun l =>
 optE (loopVal step6_0 (l, 0)) (fun e1 =>
  sumE e1 (fun e2 =>
   some (e2)) (fun _ =>
   some (true)))
  (none)
theorem i6 : ItemOk Try.prog (.fn 6 [.d (.slice zI)] [.d .bool] s6) := item_fnM md4 ext4 (U := 9) (n := 12) noSpecial mixed Gp5K8_ok (fun x => by kernel_rfl)
noncomputable def Gp5K9 : List Ev.Item := .fn 6 [.d (.slice zI)] [.d .bool] s6 :: Gp5K8
theorem Gp5K9_ok : ∀ q ∈ Gp5K9, ItemOk Try.prog q := items_cons i6 Gp5K8_ok
noncomputable def s20 : List Int → Option (List Int) := fun l =>
 bif room 8 (0 + l.length) then
  some (l)
 else
  none
theorem i20 : ItemOk Try.prog (.fn 20 [.d (.slice zI)] [.own 3 zI] s20) := item_fnM md4 ext4 (U := 9) (n := 12) noSpecial mixed Gp5K9_ok (fun x => by kernel_rfl)
noncomputable def Gp5K10 : List Ev.Item := .fn 20 [.d (.slice zI)] [.own 3 zI] s20 :: Gp5K9
theorem Gp5K10_ok : ∀ q ∈ Gp5K10, ItemOk Try.prog q := items_cons i20 Gp5K9_ok
noncomputable def s19 : (List Int) × Int × Int × Int × Int × Int → Option ((List Int) × Int × Int × Int × Int × Int) := fun r0 =>
 optE (s20 r0.1) (fun r1 =>
  some ((r1, r0.2.1, r0.2.2)))
  (none)
theorem i19 : ItemOk Try.prog (.fn 19 [.d (.agg (.pair (.slice zI) (.pair zI zF)))] [.d (.agg (.pair (.slice zI) (.pair zI zF)))] s19) := item_fnM md4 ext4 (U := 9) (n := 12) noSpecial mixed Gp5K10_ok (fun x => by kernel_rfl)
noncomputable def Gp5K11 : List Ev.Item := .fn 19 [.d (.agg (.pair (.slice zI) (.pair zI zF)))] [.d (.agg (.pair (.slice zI) (.pair zI zF)))] s19 :: Gp5K10
theorem Gp5K11_ok : ∀ q ∈ Gp5K11, ItemOk Try.prog q := items_cons i19 Gp5K10_ok
@[reducible] def T101_0a : Tmpl := ⟨19, [], [.val 0 (.slice zI), .val 1 (.clo 95 (.pair (.ptr (.clo 88 .unit)) .unit)), .val 7 zI, .val 8 zI], [], none⟩
@[reducible] def X101_0a : List (Ex × Tmpl) := [(.ret, ⟨19, [], [.val 4 zI], [], none⟩), (.exit 0, ⟨19, [], [], [], none⟩)]
noncomputable def step101_0a : (List Int) × (Unit × Unit) × Int × Int → Option (((List Int) × (Unit × Unit) × Int × Int) ⊕ ((Int) ⊕ (Unit))) := fun (s, f, t7, t8) =>
 bif decide (t8 < t7) then
  bif inBounds t8 s.length then
   optE (s88 (s.getD t8.toNat 0)) (fun r2 =>
    bif !r2 then
     some (.inr (.inl t8))
    else
     some (.inl (s, f, t7, wr (t8 + 1))))
    (none)
  else
   none
 else
  some (.inr (.inr ()))
theorem one101_0a : oneLoop Try.prog 101 0 = true := by kernel_rfl
theorem lp101_0a : ItemOk Try.prog (.loop 101 0 T101_0a X101_0a (loopVal step101_0a)) := item_loopM md4 ext4 (U := 9) (n := 8) noSpecial mixed Gp5K11_ok one101_0a (fun x => by kernel_rfl)
noncomputable def Gp5K12 : List Ev.Item := .loop 101 0 T101_0a X101_0a (loopVal step101_0a) :: Gp5K11
theorem Gp5K12_ok : ∀ q ∈ Gp5K12, ItemOk Try.prog q := items_cons lp101_0a Gp5K11_ok
noncomputable def s77 : List Int → Option (Int) := fun l =>
 optE (s39 (decide ((l.length : Int) ≤ 600), 8)) (fun r1 =>
  optE (loopVal step101_0a (l, ((), ()), (l.length : Int), 0)) (fun e2 =>
   sumE e2 (fun e3 =>
    optE (s39 (!(decide (e3 ≥ 0)), 2)) (fun r5 =>
     optE (s37 [r1, r5]) (fun r6 =>
      some (r6))
      (none))
     (none)) (fun _ =>
    optE (s39 (true, 2)) (fun r7 =>
     optE (s37 [r1, r7]) (fun r8 =>
      some (r8))
      (none))
     (none)))
   (none))
  (none)
theorem i77 : ItemOk Try.prog (.fn 77 [.d (.slice zI)] [.d zI] s77) := item_fnM md4 ext4 (U := 9) (n := 12) noSpecial mixed Gp5K12_ok (fun x => by kernel_rfl)
noncomputable def Gp5K13 : List Ev.Item := .fn 77 [.d (.slice zI)] [.d zI] s77 :: Gp5K12
theorem Gp5K13_ok : ∀ q ∈ Gp5K13, ItemOk Try.prog q := items_cons i77 Gp5K12_ok
@[reducible] def T90_0 : Tmpl := ⟨42, [(6, .ref 6 0 0 0), (7, .ref 7 0 0 0)], [.val 1 (.slice zI), .val 2 zI, .val 11 (.slice zI), .val 12 zI, .val 13 zI, .arrp 6 zI 2 zP, .arrp 7 zI 2 zP], [], none⟩
@[reducible] def X90_0 : List (Ex × Tmpl) := [(.exit 0, ⟨42, [(6, .ref 6 0 0 0), (7, .ref 7 0 0 0)], [.arrp 6 zI 2 zP, .arrp 7 zI 2 zP], [], none⟩)]
noncomputable def step90_0 : (List Int) × Int × (List Int) × Int × Int × (Int × Int) × (Int × Int) → Option (((List Int) × Int × (List Int) × Int × Int × (Int × Int) × (Int × Int)) ⊕ ((Int × Int) × (Int × Int))) := fun (soft, at0, t11, t12, t13, t6, out) =>
 bif decide (t13 < t12) then
  bif inBounds t13 t11.length then
   bif inBounds (wr (at0 + t13)) soft.length then
    optE (s97 (soft.getD (wr (at0 + t13)).toNat 0)) (fun r1 =>
     bif r1 != (t11.getD t13.toNat 0) then
      bif r1 != (wr (1 - (t11.getD t13.toNat 0))) then
       some (.inl (soft, at0, t11, t12, wr (t13 + 1), t6, (wr (out.1 + 1), wr (out.2 + 1))))
      else
       some (.inl (soft, at0, t11, t12, wr (t13 + 1), t6, (wr (out.1 + 1), out.2)))
     else
      bif r1 != (wr (1 - (t11.getD t13.toNat 0))) then
       some (.inl (soft, at0, t11, t12, wr (t13 + 1), t6, (out.1, wr (out.2 + 1))))
      else
       some (.inl (soft, at0, t11, t12, wr (t13 + 1), t6, out)))
     (none)
   else
    none
  else
   none
 else
  some (.inr (t6, out))
theorem one90_0 : oneLoop Try.prog 90 0 = true := by kernel_rfl
theorem lp90_0 : ItemOk Try.prog (.loop 90 0 T90_0 X90_0 (loopVal step90_0)) := item_loopM md4 ext4 (U := 9) (n := 11) noSpecial mixed Gp5K13_ok one90_0 (fun x => by kernel_rfl)
noncomputable def Gp5K14 : List Ev.Item := .loop 90 0 T90_0 X90_0 (loopVal step90_0) :: Gp5K13
theorem Gp5K14_ok : ∀ q ∈ Gp5K14, ItemOk Try.prog q := items_cons lp90_0 Gp5K13_ok
noncomputable def s90 : (List Int) × (List Int) × Int → Option (Int × Int) := fun (marker, soft, at0) =>
 optE (loopVal step90_0 (soft, at0, marker, (marker.length : Int), 0, (0, 0), (0, 0))) (fun e1 =>
  some (e1.2))
  (none)
theorem i90 : ItemOk Try.prog (.fn 90 [.d (.slice zI), .d (.slice zI), .d zI] [.d (.agg zP)] s90) := item_fnM md4 ext4 (U := 9) (n := 12) noSpecial mixed Gp5K14_ok (fun x => by kernel_rfl)
noncomputable def Gp5K15 : List Ev.Item := .fn 90 [.d (.slice zI), .d (.slice zI), .d zI] [.d (.agg zP)] s90 :: Gp5K14
theorem Gp5K15_ok : ∀ q ∈ Gp5K15, ItemOk Try.prog q := items_cons i90 Gp5K14_ok
noncomputable def s102 : ((List Int) × Int × Int × Int × Int × Int × (List Int) × (List (Int × Int × Bool × Int × Int)) × Int × Int × Int × Int × Bool) × Int → Option (Int) := fun (r0, at0) =>
 optE (s90 (r0.1, r0.2.2.2.2.2.2.1, at0)) (fun r1 =>
  bif r0.2.2.2.2.2.2.2.2.2.2.2.2 then
   some (r1.2)
  else
   some (r1.1))
  (none)
theorem i102 : ItemOk Try.prog (.fn 102 [.tgt (.pair (.slice zI) (.pair zI (.pair zI (.pair zI (.pair zI (.pair zI (.pair (.slice zI) (.pair (.slice (.agg (.pair zI (.pair zI (.pair .bool zP))))) (.pair zI (.pair zI (.pair zI (.pair zI .bool)))))))))))), .d zI] [.d zI] s102) := item_fnM md4 ext4 (U := 9) (n := 12) noSpecial mixed Gp5K15_ok (fun x => by kernel_rfl)
noncomputable def Gp5K16 : List Ev.Item := .fn 102 [.tgt (.pair (.slice zI) (.pair zI (.pair zI (.pair zI (.pair zI (.pair zI (.pair (.slice zI) (.pair (.slice (.agg (.pair zI (.pair zI (.pair .bool zP))))) (.pair zI (.pair zI (.pair zI (.pair zI .bool)))))))))))), .d zI] [.d zI] s102 :: Gp5K15
theorem Gp5K16_ok : ∀ q ∈ Gp5K16, ItemOk Try.prog q := items_cons i102 Gp5K15_ok
@[reducible] def T44_0 : Tmpl := ⟨24, [(6, .nilptr)], [], [21], none⟩
@[reducible] def X44_0 : List (Ex × Tmpl) := [(.exit 0, ⟨24, [(6, .nilptr)], [], [21], none⟩)]
noncomputable def step44_0_0 : Unit → Option ((Nat × (Unit)) ⊕ (Unit)) := fun (_) =>
 none
noncomputable def step44_0_1 : Unit → Option ((Nat × (Unit)) ⊕ (Unit)) := fun (_) =>
 none
noncomputable def step44_0_2 : Unit → Option ((Nat × (Unit)) ⊕ (Unit)) := fun (_) =>
 none
noncomputable def step44_0_3 : Unit → Option ((Nat × (Unit)) ⊕ (Unit)) := fun (_) =>
 some (.inr ())
@[reducible] def C44_0 : List (List (Nat × LV)) := [[(8, .fn 61)], [(8, .fn 92)], [(8, .fn 91)], [(8, .nilfn)]]
noncomputable def S44_0 : List (T44_0.D → Option ((Nat × T44_0.D) ⊕ ExT X44_0)) := [step44_0_0, step44_0_1, step44_0_2, step44_0_3]
theorem one44_0 : oneLoop Try.prog 44 0 = true := by kernel_rfl
theorem r44_0_0 : RoundF Try.prog md4 Gp5K16 44 0 9 10 T44_0 C44_0 X44_0 [(8, .fn 61)] step44_0_0 := fun x => by kernel_rfl
theorem r44_0_1 : RoundF Try.prog md4 Gp5K16 44 0 9 10 T44_0 C44_0 X44_0 [(8, .fn 92)] step44_0_1 := fun x => by kernel_rfl
theorem r44_0_2 : RoundF Try.prog md4 Gp5K16 44 0 9 10 T44_0 C44_0 X44_0 [(8, .fn 91)] step44_0_2 := fun x => by kernel_rfl
theorem r44_0_3 : RoundF Try.prog md4 Gp5K16 44 0 9 10 T44_0 C44_0 X44_0 [(8, .nilfn)] step44_0_3 := fun x => by kernel_rfl
theorem lp44_0 : ItemOk Try.prog (.loop 44 0 (fam T44_0 [(8, .fn 61)]) X44_0 (fun x => loopVal (stepF S44_0) (0, x))) := item_loopF md4 ext4 (U := 9) (n := 10) noSpecial mixed Gp5K16_ok one44_0 (AllF.cons r44_0_0 (AllF.cons r44_0_1 (AllF.cons r44_0_2 (AllF.cons r44_0_3 AllF.nil)))) 0 _ rfl
noncomputable def Gp5K17 : List Ev.Item := .loop 44 0 (fam T44_0 [(8, .fn 61)]) X44_0 (fun x => loopVal (stepF S44_0) (0, x)) :: Gp5K16
theorem Gp5K17_ok : ∀ q ∈ Gp5K17, ItemOk Try.prog q := items_cons lp44_0 Gp5K16_ok
@[reducible] def T89_0 : Tmpl := ⟨66, [(0, .mref 2901), (2, .ref 1900 0 0 0), (16002, .ref 1002 0 0 0), (16039, .mref 2901), (32006, .ref 2900 0 0 0), (48016001, .ref 1001 0 0 0), (48016002, .ref 1002 0 0 0)], [.val 4 zI, .cells 1900 [.rf 2900 0 0 0], .cells 1002 [.nf], .cells 2900 [.d (.slice zI), .d zI, .d zI, .d zI, .d zI, .d zI, .d (.slice zI), .own 2903 88 (.agg (.pair zI (.pair zI (.pair .bool zP)))), .d zI, .d zI, .d zI, .d zI, .d .bool], .cells 1001 [.rf 2900 0 0 0]], [40, 24, 21], some (2901, .ready)⟩
@[reducible] def X89_0 : List (Ex × Tmpl) := [(.ret, ⟨66, [(16002, .ref 1002 0 0 0), (16039, .mref 2901), (32006, .ref 2900 0 0 0), (48016001, .ref 1001 0 0 0), (48016002, .ref 1002 0 0 0)], [.cells 1002 [.fc 91], .cells 2900 [.d (.slice zI), .d zI, .d zI, .d zI, .d zI, .d zI, .d (.slice zI), .own 900 88 (.agg (.pair zI (.pair zI (.pair .bool zP)))), .d zI, .d zI, .d zI, .d zI, .d .bool], .cells 1001 [.rf 2900 0 0 0]], [40, 24, 21], some (2901, .done none)⟩), (.ret, ⟨66, [(16002, .ref 1002 0 0 0), (16039, .mref 2901), (32006, .ref 2900 0 0 0), (48016001, .ref 1001 0 0 0), (48016002, .ref 1002 0 0 0)], [.cells 1002 [.fc 92], .cells 2900 [.d (.slice zI), .d zI, .d zI, .d zI, .d zI, .d zI, .d (.slice zI), .own 900 88 (.agg (.pair zI (.pair zI (.pair .bool zP)))), .d zI, .d zI, .d zI, .d zI, .d .bool], .cells 1001 [.rf 2900 0 0 0]], [40, 24, 21], some (2901, .done none)⟩), (.exit 0, ⟨66, [(16002, .ref 1002 0 0 0), (16039, .mref 2901), (32006, .ref 2900 0 0 0), (48016001, .ref 1001 0 0 0), (48016002, .ref 1002 0 0 0)], [.cells 1002 [.nf], .cells 2900 [.d (.slice zI), .d zI, .d zI, .d zI, .d zI, .d zI, .d (.slice zI), .own 2903 88 (.agg (.pair zI (.pair zI (.pair .bool zP)))), .d zI, .d zI, .d zI, .d zI, .d .bool], .cells 1001 [.rf 2900 0 0 0]], [40, 24, 21], some (2901, .ready)⟩)]
noncomputable def Lp61_0 : LpI := lpOf Try.prog 61 0 false
noncomputable def step89_0 : Int × Unit × Unit × ((List Int) × Int × Int × Int × Int × Int × (List Int) × (List (Int × Int × Bool × Int × Int)) × Int × Int × Int × Int × Bool) × Unit → Option (LpI × ((Int × Unit × Unit × ((List Int) × Int × Int × Int × Int × Int × (List Int) × (List (Int × Int × Bool × Int × Int)) × Int × Int × Int × Int × Bool) × Unit) ⊕ ((Unit × ((List Int) × Int × Int × Int × Int × Int × (List Int) × (List (Int × Int × Bool × Int × Int)) × Int × Int × Int × Int × Bool) × Unit) ⊕ (Unit × ((List Int) × Int × Int × Int × Int × Int × (List Int) × (List (Int × Int × Bool × Int × Int)) × Int × Int × Int × Int × Bool) × Unit) ⊕ (Unit × ((List Int) × Int × Int × Int × Int × Int × (List Int) × (List (Int × Int × Bool × Int × Int)) × Int × Int × Int × Int × Bool) × Unit)))) := fun (at0, _, _, r0, _) =>
 bif decide ((wr (at0 + (r0.1.length : Int))) ≤ (r0.2.2.2.2.2.2.1.length : Int)) then
  optE (s90 (r0.1, r0.2.2.2.2.2.2.1, at0)) (fun r6 =>
   bif decide (r6.1 > r0.2.2.1) then
    bif decide (r6.2 ≤ r0.2.2.1) then
     bif room 40 (r0.2.2.2.2.2.2.2.1.length + 1) then
      bif decide (1 ≥ r0.2.2.2.1) then
       some (Lp61_0, .inr (.inl ((), (r0.1, r0.2.1, r0.2.2.1, r0.2.2.2.1, r0.2.2.2.2.1, r0.2.2.2.2.2.1, r0.2.2.2.2.2.2.1, r0.2.2.2.2.2.2.2.1 ++ [(0, at0, true, r6.2, 0)], r0.2.2.2.2.2.2.2.2.1, at0, 1, 0, true), ())))
      else
       some (Lp61_0, .inr (.inr (.inl ((), (r0.1, r0.2.1, r0.2.2.1, r0.2.2.2.1, r0.2.2.2.2.1, r0.2.2.2.2.2.1, r0.2.2.2.2.2.2.1, r0.2.2.2.2.2.2.2.1 ++ [(0, at0, true, r6.2, 0)], r0.2.2.2.2.2.2.2.2.1, at0, 1, 0, true), ()))))
     else
      none
    else
     some (Lp61_0, .inl (wr (at0 + 1), (), (), r0, ()))
   else
    bif decide (r6.1 ≤ r0.2.2.1) then
     bif room 40 (r0.2.2.2.2.2.2.2.1.length + 1) then
      bif decide (1 ≥ r0.2.2.2.1) then
       some (Lp61_0, .inr (.inl ((), (r0.1, r0.2.1, r0.2.2.1, r0.2.2.2.1, r0.2.2.2.2.1, r0.2.2.2.2.2.1, r0.2.2.2.2.2.2.1, r0.2.2.2.2.2.2.2.1 ++ [(0, at0, false, r6.1, 0)], r0.2.2.2.2.2.2.2.2.1, at0, 1, 0, false), ())))
      else
       some (Lp61_0, .inr (.inr (.inl ((), (r0.1, r0.2.1, r0.2.2.1, r0.2.2.2.1, r0.2.2.2.2.1, r0.2.2.2.2.2.1, r0.2.2.2.2.2.2.1, r0.2.2.2.2.2.2.2.1 ++ [(0, at0, false, r6.1, 0)], r0.2.2.2.2.2.2.2.2.1, at0, 1, 0, false), ()))))
     else
      none
    else
     some (Lp61_0, .inl (wr (at0 + 1), (), (), r0, ())))
   (none)
 else
  some (Lp61_0, .inr (.inr (.inr ((), r0, ()))))
theorem one89_0 : oneLoop Try.prog 89 0 = true := by kernel_rfl
theorem lp89_0 : ItemOk Try.prog (.loopI 89 0 Lp61_0 T89_0 X89_0 (loopVal (strip Lp61_0 step89_0))) := item_loopI md4 ext4 (U := 9) (n := 8) noSpecial mixed Gp5K17_ok one89_0 (fun x => by kernel_rfl)
noncomputable def Gp5K18 : List Ev.Item := .loopI 89 0 Lp61_0 T89_0 X89_0 (loopVal (strip Lp61_0 step89_0)) :: Gp5K17
theorem Gp5K18_ok : ∀ q ∈ Gp5K18, ItemOk Try.prog q := items_cons lp89_0 Gp5K17_ok
@[reducible] def T98_0 : Tmpl := ⟨85, [(0, .ref 2900 0 0 0), (16000, .ref 2900 0 0 0), (32006, .ref 2900 0 0 0)], [.val 1 zI, .val 6 zI, .val 45 zI, .val 46 zI, .cells 2900 [.d (.slice zI), .d zI, .d zI, .d zI, .d zI, .d zI, .d (.slice zI), .own 2903 88 (.agg (.pair zI (.pair zI (.pair .bool zP)))), .d zI, .d zI, .d zI, .d zI, .d .bool]], [32, 24, 21], none⟩
@[reducible] def X98_0 : List (Ex × Tmpl) := [(.ret, ⟨85, [(16000, .ref 2900 0 0 0), (32006, .ref 2900 0 0 0)], [.val 4 .bool, .val 5 .bool, .cells 2900 [.d (.slice zI), .d zI, .d zI, .d zI, .d zI, .d zI, .d (.slice zI), .own 900 88 (.agg (.pair zI (.pair zI (.pair .bool zP)))), .d zI, .d zI, .d zI, .d zI, .d .bool]], [32, 24, 21], none⟩), (.exit 0, ⟨85, [(16000, .ref 2900 0 0 0), (32006, .ref 2900 0 0 0)], [.cells 2900 [.d (.slice zI), .d zI, .d zI, .d zI, .d zI, .d zI, .d (.slice zI), .own 2903 88 (.agg (.pair zI (.pair zI (.pair .bool zP)))), .d zI, .d zI, .d zI, .d zI, .d .bool]], [32, 24, 21], none⟩)]
noncomputable def step98_0 : Int × Int × Int × Int × ((List Int) × Int × Int × Int × Int × Int × (List Int) × (List (Int × Int × Bool × Int × Int)) × Int × Int × Int × Int × Bool) → Option ((Int × Int × Int × Int × ((List Int) × Int × Int × Int × Int × Int × (List Int) × (List (Int × Int × Bool × Int × Int)) × Int × Int × Int × Int × Bool)) ⊕ ((Bool × Bool × ((List Int) × Int × Int × Int × Int × Int × (List Int) × (List (Int × Int × Bool × Int × Int)) × Int × Int × Int × Int × Bool)) ⊕ (((List Int) × Int × Int × Int × Int × Int × (List Int) × (List (Int × Int × Bool × Int × Int)) × Int × Int × Int × Int × Bool)))) := fun (kind, next, t45, t46, r0) =>
 bif decide (t46 < t45) then
  optE (s102 (r0, wr (next + (wr (-t46))))) (fun r14 =>
   bif decide (r14 ≤ r0.2.2.1) then
    optE (s102 (r0, wr (next + (wr (-t46))))) (fun r15 =>
     bif room 40 (r0.2.2.2.2.2.2.2.1.length + 1) then
      some (.inr (.inl (true, true, (r0.1, r0.2.1, r0.2.2.1, r0.2.2.2.1, r0.2.2.2.2.1, r0.2.2.2.2.2.1, r0.2.2.2.2.2.2.1, r0.2.2.2.2.2.2.2.1 ++ [(kind, wr (next + (wr (-t46))), r0.2.2.2.2.2.2.2.2.2.2.2.2, r15, wr (-t46))], r0.2.2.2.2.2.2.2.2.1, wr (next + (wr (-t46))), r0.2.2.2.2.2.2.2.2.2.2.1, 0, r0.2.2.2.2.2.2.2.2.2.2.2.2))))
     else
      none)
     (none)
   else
    optE (s102 (r0, wr (next + t46))) (fun r16 =>
     bif decide (r16 ≤ r0.2.2.1) then
      optE (s102 (r0, wr (next + t46))) (fun r17 =>
       bif room 40 (r0.2.2.2.2.2.2.2.1.length + 1) then
        some (.inr (.inl (true, true, (r0.1, r0.2.1, r0.2.2.1, r0.2.2.2.1, r0.2.2.2.2.1, r0.2.2.2.2.2.1, r0.2.2.2.2.2.2.1, r0.2.2.2.2.2.2.2.1 ++ [(kind, wr (next + t46), r0.2.2.2.2.2.2.2.2.2.2.2.2, r17, t46)], r0.2.2.2.2.2.2.2.2.1, wr (next + t46), r0.2.2.2.2.2.2.2.2.2.2.1, 0, r0.2.2.2.2.2.2.2.2.2.2.2.2))))
       else
        none)
       (none)
     else
      some (.inl (kind, next, t45, wr (t46 + 1), r0)))
     (none))
   (none)
 else
  some (.inr (.inr r0))
theorem one98_0 : oneLoop Try.prog 98 0 = true := by kernel_rfl
theorem lp98_0 : ItemOk Try.prog (.loop 98 0 T98_0 X98_0 (loopVal step98_0)) := item_loopM md4 ext4 (U := 9) (n := 8) noSpecial mixed Gp5K18_ok one98_0 (fun x => by kernel_rfl)
noncomputable def Gp5K19 : List Ev.Item := .loop 98 0 T98_0 X98_0 (loopVal step98_0) :: Gp5K18
theorem Gp5K19_ok : ∀ q ∈ Gp5K19, ItemOk Try.prog q := items_cons lp98_0 Gp5K18_ok
@[reducible] def T98_0a : Tmpl := ⟨85, [(0, .ref 2900 0 0 0), (16000, .ref 2900 0 0 0), (32006, .ref 2900 0 0 0)], [.val 1 zI, .val 6 zI, .val 45 zI, .val 46 zI, .cells 2900 [.d (.slice zI), .d zI, .d zI, .d zI, .d zI, .d zI, .d (.slice zI), .own 2903 88 (.agg (.pair zI (.pair zI (.pair .bool zP)))), .d zI, .d zI, .d zI, .d zI, .d .bool]], [53, 24, 21], none⟩
@[reducible] def X98_0a : List (Ex × Tmpl) := [(.ret, ⟨85, [(16000, .ref 2900 0 0 0), (32006, .ref 2900 0 0 0)], [.val 4 .bool, .val 5 .bool, .cells 2900 [.d (.slice zI), .d zI, .d zI, .d zI, .d zI, .d zI, .d (.slice zI), .own 900 88 (.agg (.pair zI (.pair zI (.pair .bool zP)))), .d zI, .d zI, .d zI, .d zI, .d .bool]], [53, 24, 21], none⟩), (.exit 0, ⟨85, [(16000, .ref 2900 0 0 0), (32006, .ref 2900 0 0 0)], [.cells 2900 [.d (.slice zI), .d zI, .d zI, .d zI, .d zI, .d zI, .d (.slice zI), .own 2903 88 (.agg (.pair zI (.pair zI (.pair .bool zP)))), .d zI, .d zI, .d zI, .d zI, .d .bool]], [53, 24, 21], none⟩)]
noncomputable def step98_0a : Int × Int × Int × Int × ((List Int) × Int × Int × Int × Int × Int × (List Int) × (List (Int × Int × Bool × Int × Int)) × Int × Int × Int × Int × Bool) → Option ((Int × Int × Int × Int × ((List Int) × Int × Int × Int × Int × Int × (List Int) × (List (Int × Int × Bool × Int × Int)) × Int × Int × Int × Int × Bool)) ⊕ ((Bool × Bool × ((List Int) × Int × Int × Int × Int × Int × (List Int) × (List (Int × Int × Bool × Int × Int)) × Int × Int × Int × Int × Bool)) ⊕ (((List Int) × Int × Int × Int × Int × Int × (List Int) × (List (Int × Int × Bool × Int × Int)) × Int × Int × Int × Int × Bool)))) := fun (kind, next, t45, t46, r0) =>
 bif decide (t46 < t45) then
  optE (s102 (r0, wr (next + (wr (-t46))))) (fun r19 =>
   bif decide (r19 ≤ r0.2.2.1) then
    optE (s102 (r0, wr (next + (wr (-t46))))) (fun r20 =>
     bif room 40 (r0.2.2.2.2.2.2.2.1.length + 1) then
      some (.inr (.inl (true, true, (r0.1, r0.2.1, r0.2.2.1, r0.2.2.2.1, r0.2.2.2.2.1, r0.2.2.2.2.2.1, r0.2.2.2.2.2.2.1, r0.2.2.2.2.2.2.2.1 ++ [(kind, wr (next + (wr (-t46))), r0.2.2.2.2.2.2.2.2.2.2.2.2, r20, wr (-t46))], r0.2.2.2.2.2.2.2.2.1, wr (next + (wr (-t46))), r0.2.2.2.2.2.2.2.2.2.2.1, 0, r0.2.2.2.2.2.2.2.2.2.2.2.2))))
     else
      none)
     (none)
   else
    optE (s102 (r0, wr (next + t46))) (fun r21 =>
     bif decide (r21 ≤ r0.2.2.1) then
      optE (s102 (r0, wr (next + t46))) (fun r22 =>
       bif room 40 (r0.2.2.2.2.2.2.2.1.length + 1) then
        some (.inr (.inl (true, true, (r0.1, r0.2.1, r0.2.2.1, r0.2.2.2.1, r0.2.2.2.2.1, r0.2.2.2.2.2.1, r0.2.2.2.2.2.2.1, r0.2.2.2.2.2.2.2.1 ++ [(kind, wr (next + t46), r0.2.2.2.2.2.2.2.2.2.2.2.2, r22, t46)], r0.2.2.2.2.2.2.2.2.1, wr (next + t46), r0.2.2.2.2.2.2.2.2.2.2.1, 0, r0.2.2.2.2.2.2.2.2.2.2.2.2))))
       else
        none)
       (none)
     else
      some (.inl (kind, next, t45, wr (t46 + 1), r0)))
     (none))
   (none)
 else
  some (.inr (.inr r0))
theorem one98_0a : oneLoop Try.prog 98 0 = true := by kernel_rfl
theorem lp98_0a : ItemOk Try.prog (.loop 98 0 T98_0a X98_0a (loopVal step98_0a)) := item_loopM md4 ext4 (U := 9) (n := 8) noSpecial mixed Gp5K19_ok one98_0a (fun x => by kernel_rfl)
noncomputable def Gp5K20 : List Ev.Item := .loop 98 0 T98_0a X98_0a (loopVal step98_0a) :: Gp5K19
theorem Gp5K20_ok : ∀ q ∈ Gp5K20, ItemOk Try.prog q := items_cons lp98_0a Gp5K19_ok
@[reducible] def T44_0a : Tmpl := ⟨24, [(6, .ref 900 0 0 0)], [.cells 900 [.d (.slice zI), .d zI, .d zI, .d zI, .d zI, .d zI, .d (.slice zI), .own 903 88 (.agg (.pair zI (.pair zI (.pair .bool zP)))), .d zI, .d zI, .d zI, .d zI, .d .bool]], [21], none⟩
@[reducible] def X44_0a : List (Ex × Tmpl) := [(.exit 0, ⟨24, [(6, .ref 900 0 0 0)], [.cells 900 [.d (.slice zI), .d zI, .d zI, .d zI, .d zI, .d zI, .d (.slice zI), .own 903 88 (.agg (.pair zI (.pair zI (.pair .bool zP)))), .d zI, .d zI, .d zI, .d zI, .d .bool]], [21], none⟩)]
noncomputable def step44_0a_0 : ((List Int) × Int × Int × Int × Int × Int × (List Int) × (List (Int × Int × Bool × Int × Int)) × Int × Int × Int × Int × Bool) → Option ((Nat × (((List Int) × Int × Int × Int × Int × Int × (List Int) × (List (Int × Int × Bool × Int × Int)) × Int × Int × Int × Int × Bool))) ⊕ (((List Int) × Int × Int × Int × Int × Int × (List Int) × (List (Int × Int × Bool × Int × Int)) × Int × Int × Int × Int × Bool))) := fun (r0) =>
 optE (onlyAt Lp61_0 Lp61_0 <| loopVal (strip Lp61_0 step89_0) (r0.2.2.2.2.2.2.2.2.1, (), (), r0, ())) (fun e5 =>
  sumE e5 (fun e6 =>
   some (.inl (2, e6.2.1))) (fun e7 =>
   sumE e7 (fun e8 =>
    some (.inl (1, e8.2.1))) (fun e9 =>
    some (.inl (3, e9.2.1)))))
  (none)
noncomputable def step44_0a_1 : ((List Int) × Int × Int × Int × Int × Int × (List Int) × (List (Int × Int × Bool × Int × Int)) × Int × Int × Int × Int × Bool) → Option ((Nat × (((List Int) × Int × Int × Int × Int × Int × (List Int) × (List (Int × Int × Bool × Int × Int)) × Int × Int × Int × Int × Bool))) ⊕ (((List Int) × Int × Int × Int × Int × Int × (List Int) × (List (Int × Int × Bool × Int × Int)) × Int × Int × Int × Int × Bool))) := fun (r0) =>
 bif decide ((wr ((wr ((wr (r0.2.2.2.2.2.2.2.2.2.1 + r0.2.1)) + r0.2.2.2.2.2.1)) + (r0.1.length : Int))) > (r0.2.2.2.2.2.2.1.length : Int)) then
  some (.inl (3, r0))
 else
  optE (loopVal step98_0 (1, wr (r0.2.2.2.2.2.2.2.2.2.1 + r0.2.1), wr (r0.2.2.2.2.2.1 + 1), 0, r0)) (fun e5 =>
   sumE e5 (fun e6 =>
    bif !e6.2.1 then
     some (.inl (3, e6.2.2))
    else
     bif !e6.1 then
      optE (s102 (e6.2.2, wr (e6.2.2.2.2.2.2.2.2.2.2.2.1 + e6.2.2.2.1))) (fun r8 =>
       bif room 40 (e6.2.2.2.2.2.2.2.2.2.1.length + 1) then
        some (.inl (0, (e6.2.2.1, e6.2.2.2.1, e6.2.2.2.2.1, e6.2.2.2.2.2.1, e6.2.2.2.2.2.2.1, e6.2.2.2.2.2.2.2.1, e6.2.2.2.2.2.2.2.2.1, e6.2.2.2.2.2.2.2.2.2.1 ++ [(4, wr (e6.2.2.2.2.2.2.2.2.2.2.2.1 + e6.2.2.2.1), e6.2.2.2.2.2.2.2.2.2.2.2.2.2.2, r8, 0)], wr (e6.2.2.2.2.2.2.2.2.2.2.2.1 + 1), e6.2.2.2.2.2.2.2.2.2.2.2.1, e6.2.2.2.2.2.2.2.2.2.2.2.2.1, e6.2.2.2.2.2.2.2.2.2.2.2.2.2.1, e6.2.2.2.2.2.2.2.2.2.2.2.2.2.2)))
       else
        none)
       (none)
     else
      bif decide ((wr (e6.2.2.2.2.2.2.2.2.2.2.2.2.1 + 1)) ≥ e6.2.2.2.2.2.1) then
       some (.inl (2, (e6.2.2.1, e6.2.2.2.1, e6.2.2.2.2.1, e6.2.2.2.2.2.1, e6.2.2.2.2.2.2.1, e6.2.2.2.2.2.2.2.1, e6.2.2.2.2.2.2.2.2.1, e6.2.2.2.2.2.2.2.2.2.1, e6.2.2.2.2.2.2.2.2.2.2.1, e6.2.2.2.2.2.2.2.2.2.2.2.1, wr (e6.2.2.2.2.2.2.2.2.2.2.2.2.1 + 1), e6.2.2.2.2.2.2.2.2.2.2.2.2.2.1, e6.2.2.2.2.2.2.2.2.2.2.2.2.2.2)))
      else
       some (.inl (1, (e6.2.2.1, e6.2.2.2.1, e6.2.2.2.2.1, e6.2.2.2.2.2.1, e6.2.2.2.2.2.2.1, e6.2.2.2.2.2.2.2.1, e6.2.2.2.2.2.2.2.2.1, e6.2.2.2.2.2.2.2.2.2.1, e6.2.2.2.2.2.2.2.2.2.2.1, e6.2.2.2.2.2.2.2.2.2.2.2.1, wr (e6.2.2.2.2.2.2.2.2.2.2.2.2.1 + 1), e6.2.2.2.2.2.2.2.2.2.2.2.2.2.1, e6.2.2.2.2.2.2.2.2.2.2.2.2.2.2)))) (fun e7 =>
    optE (s102 (e7, wr (e7.2.2.2.2.2.2.2.2.2.1 + e7.2.1))) (fun r9 =>
     bif room 40 (e7.2.2.2.2.2.2.2.1.length + 1) then
      some (.inl (0, (e7.1, e7.2.1, e7.2.2.1, e7.2.2.2.1, e7.2.2.2.2.1, e7.2.2.2.2.2.1, e7.2.2.2.2.2.2.1, e7.2.2.2.2.2.2.2.1 ++ [(4, wr (e7.2.2.2.2.2.2.2.2.2.1 + e7.2.1), e7.2.2.2.2.2.2.2.2.2.2.2.2, r9, 0)], wr (e7.2.2.2.2.2.2.2.2.2.1 + 1), e7.2.2.2.2.2.2.2.2.2.1, e7.2.2.2.2.2.2.2.2.2.2.1, e7.2.2.2.2.2.2.2.2.2.2.2.1, e7.2.2.2.2.2.2.2.2.2.2.2.2)))
     else
      none)
     (none)))
   (none)
noncomputable def step44_0a_2 : ((List Int) × Int × Int × Int × Int × Int × (List Int) × (List (Int × Int × Bool × Int × Int)) × Int × Int × Int × Int × Bool) → Option ((Nat × (((List Int) × Int × Int × Int × Int × Int × (List Int) × (List (Int × Int × Bool × Int × Int)) × Int × Int × Int × Int × Bool))) ⊕ (((List Int) × Int × Int × Int × Int × Int × (List Int) × (List (Int × Int × Bool × Int × Int)) × Int × Int × Int × Int × Bool))) := fun (r0) =>
 bif decide ((wr ((wr ((wr (r0.2.2.2.2.2.2.2.2.2.1 + r0.2.1)) + r0.2.2.2.2.2.1)) + (r0.1.length : Int))) > (r0.2.2.2.2.2.2.1.length : Int)) then
  some (.inl (3, r0))
 else
  optE (loopVal step98_0a (2, wr (r0.2.2.2.2.2.2.2.2.2.1 + r0.2.1), wr (r0.2.2.2.2.2.1 + 1), 0, r0)) (fun e5 =>
   sumE e5 (fun e6 =>
    bif !e6.2.1 then
     some (.inl (3, e6.2.2))
    else
     bif e6.1 then
      some (.inl (2, e6.2.2))
     else
      bif decide ((wr (e6.2.2.2.2.2.2.2.2.2.2.2.2.2.1 + 1)) > e6.2.2.2.2.2.2.1) then
       optE (s102 ((e6.2.2.1, e6.2.2.2.1, e6.2.2.2.2.1, e6.2.2.2.2.2.1, e6.2.2.2.2.2.2.1, e6.2.2.2.2.2.2.2.1, e6.2.2.2.2.2.2.2.2.1, e6.2.2.2.2.2.2.2.2.2.1, e6.2.2.2.2.2.2.2.2.2.2.1, e6.2.2.2.2.2.2.2.2.2.2.2.1, e6.2.2.2.2.2.2.2.2.2.2.2.2.1, wr (e6.2.2.2.2.2.2.2.2.2.2.2.2.2.1 + 1), e6.2.2.2.2.2.2.2.2.2.2.2.2.2.2), wr (e6.2.2.2.2.2.2.2.2.2.2.2.1 + e6.2.2.2.1))) (fun r8 =>
        bif room 40 (e6.2.2.2.2.2.2.2.2.2.1.length + 1) then
         some (.inl (0, (e6.2.2.1, e6.2.2.2.1, e6.2.2.2.2.1, e6.2.2.2.2.2.1, e6.2.2.2.2.2.2.1, e6.2.2.2.2.2.2.2.1, e6.2.2.2.2.2.2.2.2.1, e6.2.2.2.2.2.2.2.2.2.1 ++ [(4, wr (e6.2.2.2.2.2.2.2.2.2.2.2.1 + e6.2.2.2.1), e6.2.2.2.2.2.2.2.2.2.2.2.2.2.2, r8, 0)], wr (e6.2.2.2.2.2.2.2.2.2.2.2.1 + e6.2.2.2.1), e6.2.2.2.2.2.2.2.2.2.2.2.1, e6.2.2.2.2.2.2.2.2.2.2.2.2.1, wr (e6.2.2.2.2.2.2.2.2.2.2.2.2.2.1 + 1), e6.2.2.2.2.2.2.2.2.2.2.2.2.2.2)))
        else
         none)
        (none)
      else
       optE (s102 ((e6.2.2.1, e6.2.2.2.1, e6.2.2.2.2.1, e6.2.2.2.2.2.1, e6.2.2.2.2.2.2.1, e6.2.2.2.2.2.2.2.1, e6.2.2.2.2.2.2.2.2.1, e6.2.2.2.2.2.2.2.2.2.1, e6.2.2.2.2.2.2.2.2.2.2.1, e6.2.2.2.2.2.2.2.2.2.2.2.1, e6.2.2.2.2.2.2.2.2.2.2.2.2.1, wr (e6.2.2.2.2.2.2.2.2.2.2.2.2.2.1 + 1), e6.2.2.2.2.2.2.2.2.2.2.2.2.2.2), wr (e6.2.2.2.2.2.2.2.2.2.2.2.1 + e6.2.2.2.1))) (fun r9 =>
        bif room 40 (e6.2.2.2.2.2.2.2.2.2.1.length + 1) then
         some (.inl (2, (e6.2.2.1, e6.2.2.2.1, e6.2.2.2.2.1, e6.2.2.2.2.2.1, e6.2.2.2.2.2.2.1, e6.2.2.2.2.2.2.2.1, e6.2.2.2.2.2.2.2.2.1, e6.2.2.2.2.2.2.2.2.2.1 ++ [(3, wr (e6.2.2.2.2.2.2.2.2.2.2.2.1 + e6.2.2.2.1), e6.2.2.2.2.2.2.2.2.2.2.2.2.2.2, r9, 0)], e6.2.2.2.2.2.2.2.2.2.2.1, wr (e6.2.2.2.2.2.2.2.2.2.2.2.1 + e6.2.2.2.1), e6.2.2.2.2.2.2.2.2.2.2.2.2.1, wr (e6.2.2.2.2.2.2.2.2.2.2.2.2.2.1 + 1), e6.2.2.2.2.2.2.2.2.2.2.2.2.2.2)))
        else
         none)
        (none)) (fun e7 =>
    bif decide ((wr (e7.2.2.2.2.2.2.2.2.2.2.2.1 + 1)) > e7.2.2.2.2.1) then
     optE (s102 ((e7.1, e7.2.1, e7.2.2.1, e7.2.2.2.1, e7.2.2.2.2.1, e7.2.2.2.2.2.1, e7.2.2.2.2.2.2.1, e7.2.2.2.2.2.2.2.1, e7.2.2.2.2.2.2.2.2.1, e7.2.2.2.2.2.2.2.2.2.1, e7.2.2.2.2.2.2.2.2.2.2.1, wr (e7.2.2.2.2.2.2.2.2.2.2.2.1 + 1), e7.2.2.2.2.2.2.2.2.2.2.2.2), wr (e7.2.2.2.2.2.2.2.2.2.1 + e7.2.1))) (fun r10 =>
      bif room 40 (e7.2.2.2.2.2.2.2.1.length + 1) then
       some (.inl (0, (e7.1, e7.2.1, e7.2.2.1, e7.2.2.2.1, e7.2.2.2.2.1, e7.2.2.2.2.2.1, e7.2.2.2.2.2.2.1, e7.2.2.2.2.2.2.2.1 ++ [(4, wr (e7.2.2.2.2.2.2.2.2.2.1 + e7.2.1), e7.2.2.2.2.2.2.2.2.2.2.2.2, r10, 0)], wr (e7.2.2.2.2.2.2.2.2.2.1 + e7.2.1), e7.2.2.2.2.2.2.2.2.2.1, e7.2.2.2.2.2.2.2.2.2.2.1, wr (e7.2.2.2.2.2.2.2.2.2.2.2.1 + 1), e7.2.2.2.2.2.2.2.2.2.2.2.2)))
      else
       none)
      (none)
    else
     optE (s102 ((e7.1, e7.2.1, e7.2.2.1, e7.2.2.2.1, e7.2.2.2.2.1, e7.2.2.2.2.2.1, e7.2.2.2.2.2.2.1, e7.2.2.2.2.2.2.2.1, e7.2.2.2.2.2.2.2.2.1, e7.2.2.2.2.2.2.2.2.2.1, e7.2.2.2.2.2.2.2.2.2.2.1, wr (e7.2.2.2.2.2.2.2.2.2.2.2.1 + 1), e7.2.2.2.2.2.2.2.2.2.2.2.2), wr (e7.2.2.2.2.2.2.2.2.2.1 + e7.2.1))) (fun r11 =>
      bif room 40 (e7.2.2.2.2.2.2.2.1.length + 1) then
       some (.inl (2, (e7.1, e7.2.1, e7.2.2.1, e7.2.2.2.1, e7.2.2.2.2.1, e7.2.2.2.2.2.1, e7.2.2.2.2.2.2.1, e7.2.2.2.2.2.2.2.1 ++ [(3, wr (e7.2.2.2.2.2.2.2.2.2.1 + e7.2.1), e7.2.2.2.2.2.2.2.2.2.2.2.2, r11, 0)], e7.2.2.2.2.2.2.2.2.1, wr (e7.2.2.2.2.2.2.2.2.2.1 + e7.2.1), e7.2.2.2.2.2.2.2.2.2.2.1, wr (e7.2.2.2.2.2.2.2.2.2.2.2.1 + 1), e7.2.2.2.2.2.2.2.2.2.2.2.2)))
      else
       none)
      (none)))
   (none)
noncomputable def step44_0a_3 : ((List Int) × Int × Int × Int × Int × Int × (List Int) × (List (Int × Int × Bool × Int × Int)) × Int × Int × Int × Int × Bool) → Option ((Nat × (((List Int) × Int × Int × Int × Int × Int × (List Int) × (List (Int × Int × Bool × Int × Int)) × Int × Int × Int × Int × Bool))) ⊕ (((List Int) × Int × Int × Int × Int × Int × (List Int) × (List (Int × Int × Bool × Int × Int)) × Int × Int × Int × Int × Bool))) := fun (r0) =>
 some (.inr r0)
@[reducible] def C44_0a : List (List (Nat × LV)) := [[(8, .fn 61)], [(8, .fn 92)], [(8, .fn 91)], [(8, .nilfn)]]
noncomputable def S44_0a : List (T44_0a.D → Option ((Nat × T44_0a.D) ⊕ ExT X44_0a)) := [step44_0a_0, step44_0a_1, step44_0a_2, step44_0a_3]
theorem one44_0a : oneLoop Try.prog 44 0 = true := by kernel_rfl
theorem r44_0a_0 : RoundF Try.prog md4 Gp5K20 44 0 9 10 T44_0a C44_0a X44_0a [(8, .fn 61)] step44_0a_0 := fun x => by kernel_rfl
theorem r44_0a_1 : RoundF Try.prog md4 Gp5K20 44 0 9 10 T44_0a C44_0a X44_0a [(8, .fn 92)] step44_0a_1 := fun x => by kernel_rfl
theorem r44_0a_2 : RoundF Try.prog md4 Gp5K20 44 0 9 10 T44_0a C44_0a X44_0a [(8, .fn 91)] step44_0a_2 := fun x => by kernel_rfl
theorem r44_0a_3 : RoundF Try.prog md4 Gp5K20 44 0 9 10 T44_0a C44_0a X44_0a [(8, .nilfn)] step44_0a_3 := fun x => by kernel_rfl
theorem lp44_0a : ItemOk Try.prog (.loop 44 0 (fam T44_0a [(8, .fn 61)]) X44_0a (fun x => loopVal (stepF S44_0a) (0, x))) := item_loopF md4 ext4 (U := 9) (n := 10) noSpecial mixed Gp5K20_ok one44_0a (AllF.cons r44_0a_0 (AllF.cons r44_0a_1 (AllF.cons r44_0a_2 (AllF.cons r44_0a_3 AllF.nil)))) 0 _ rfl
noncomputable def Gp5K21 : List Ev.Item := .loop 44 0 (fam T44_0a [(8, .fn 61)]) X44_0a (fun x => loopVal (stepF S44_0a) (0, x)) :: Gp5K20
theorem Gp5K21_ok : ∀ q ∈ Gp5K21, ItemOk Try.prog q := items_cons lp44_0a Gp5K20_ok
noncomputable def s18 : ((List Int) × Int × Int × Int × Int × Int) × (List Int) → Option ((List (Int × Int × Bool × Int × Int)) × Int) := fun (r0, soft) =>
 optE (s76 r0) (fun r1 =>
  optE (s77 soft) (fun r2 =>
   optE (s37 [r1, r2]) (fun r3 =>
    bif r3 != 0 then
     bif r3 != 0 then
      bif r3 != 0 then
       some (([], r3))
      else
       none
     else
      optE ((fun x => loopVal (stepF S44_0) (0, x)) ()) (fun _ =>
       none)
       (none)
    else
     optE ((fun x => loopVal (stepF S44_0a) (0, x)) (r0.1, r0.2.1, r0.2.2.1, r0.2.2.2.1, r0.2.2.2.2.1, r0.2.2.2.2.2, soft, [], 0, 0, 0, 0, false)) (fun e5 =>
      some ((e5.2.2.2.2.2.2.2.1, 0)))
      (none))
    (none))
   (none))
  (none)
theorem i18 : ItemOk Try.prog (.fn 18 [.d (.agg (.pair (.slice zI) (.pair zI zF))), .d (.slice zI)] [.own 88 (.agg (.pair zI (.pair zI (.pair .bool zP)))), .d zI] s18) := item_fnM md4 ext4 (U := 9) (n := 12) noSpecial mixed Gp5K21_ok (fun x => by kernel_rfl)
noncomputable def Gp5K22 : List Ev.Item := .fn 18 [.d (.agg (.pair (.slice zI) (.pair zI zF))), .d (.slice zI)] [.own 88 (.agg (.pair zI (.pair zI (.pair .bool zP)))), .d zI] s18 :: Gp5K21
theorem Gp5K22_ok : ∀ q ∈ Gp5K22, ItemOk Try.prog q := items_cons i18 Gp5K21_ok
noncomputable def Gp5K23 : List Ev.Item := .fn 45 [.d (.slice zI)] [.own 3 zI] cloneF :: Gp5K22
theorem Gp5K23_ok : ∀ q ∈ Gp5K23, ItemOk Try.prog q := items_cons clone_ok Gp5K22_ok
@[reducible] def T44_0b : Tmpl := ⟨24, [(6, .nilptr), (16002, .ref 1002 0 0 0)], [.val 16001 (.slice zI), .cells 1002 [.d (.pair (.slice zI) (.pair zI zF))]], [96], none⟩
@[reducible] def X44_0b : List (Ex × Tmpl) := [(.exit 0, ⟨24, [(6, .nilptr), (16002, .ref 1002 0 0 0)], [.val 16001 (.slice zI), .cells 1002 [.d (.pair (.slice zI) (.pair zI zF))]], [96], none⟩)]
noncomputable def step44_0b_0 : (List Int) × ((List Int) × Int × Int × Int × Int × Int) → Option ((Nat × ((List Int) × ((List Int) × Int × Int × Int × Int × Int))) ⊕ ((List Int) × ((List Int) × Int × Int × Int × Int × Int))) := fun (_, _) =>
 none
noncomputable def step44_0b_1 : (List Int) × ((List Int) × Int × Int × Int × Int × Int) → Option ((Nat × ((List Int) × ((List Int) × Int × Int × Int × Int × Int))) ⊕ ((List Int) × ((List Int) × Int × Int × Int × Int × Int))) := fun (_, _) =>
 none
noncomputable def step44_0b_2 : (List Int) × ((List Int) × Int × Int × Int × Int × Int) → Option ((Nat × ((List Int) × ((List Int) × Int × Int × Int × Int × Int))) ⊕ ((List Int) × ((List Int) × Int × Int × Int × Int × Int))) := fun (_, _) =>
 none
noncomputable def step44_0b_3 : (List Int) × ((List Int) × Int × Int × Int × Int × Int) → Option ((Nat × ((List Int) × ((List Int) × Int × Int × Int × Int × Int))) ⊕ ((List Int) × ((List Int) × Int × Int × Int × Int × Int))) := fun (soft, r0) =>
 some (.inr (soft, r0))
@[reducible] def C44_0b : List (List (Nat × LV)) := [[(8, .fn 61)], [(8, .fn 92)], [(8, .fn 91)], [(8, .nilfn)]]
noncomputable def S44_0b : List (T44_0b.D → Option ((Nat × T44_0b.D) ⊕ ExT X44_0b)) := [step44_0b_0, step44_0b_1, step44_0b_2, step44_0b_3]
theorem one44_0b : oneLoop Try.prog 44 0 = true := by kernel_rfl
theorem r44_0b_0 : RoundF Try.prog md4 Gp5K23 44 0 9 10 T44_0b C44_0b X44_0b [(8, .fn 61)] step44_0b_0 := fun x => by kernel_rfl
theorem r44_0b_1 : RoundF Try.prog md4 Gp5K23 44 0 9 10 T44_0b C44_0b X44_0b [(8, .fn 92)] step44_0b_1 := fun x => by kernel_rfl
theorem r44_0b_2 : RoundF Try.prog md4 Gp5K23 44 0 9 10 T44_0b C44_0b X44_0b [(8, .fn 91)] step44_0b_2 := fun x => by kernel_rfl
theorem r44_0b_3 : RoundF Try.prog md4 Gp5K23 44 0 9 10 T44_0b C44_0b X44_0b [(8, .nilfn)] step44_0b_3 := fun x => by kernel_rfl
theorem lp44_0b : ItemOk Try.prog (.loop 44 0 (fam T44_0b [(8, .fn 61)]) X44_0b (fun x => loopVal (stepF S44_0b) (0, x))) := item_loopF md4 ext4 (U := 9) (n := 10) noSpecial mixed Gp5K23_ok one44_0b (AllF.cons r44_0b_0 (AllF.cons r44_0b_1 (AllF.cons r44_0b_2 (AllF.cons r44_0b_3 AllF.nil)))) 0 _ rfl
noncomputable def Gp5K24 : List Ev.Item := .loop 44 0 (fam T44_0b [(8, .fn 61)]) X44_0b (fun x => loopVal (stepF S44_0b) (0, x)) :: Gp5K23
theorem Gp5K24_ok : ∀ q ∈ Gp5K24, ItemOk Try.prog q := items_cons lp44_0b Gp5K23_ok
@[reducible] def T89_0a : Tmpl := ⟨66, [(0, .mref 2901), (2, .ref 1900 0 0 0), (16002, .ref 1002 0 0 0), (16039, .mref 2901), (32006, .ref 2900 0 0 0), (48002, .ref 3002 0 0 0), (48016001, .ref 1001 0 0 0), (48016002, .ref 1002 0 0 0)], [.val 4 zI, .val 48001 (.slice zI), .cells 1900 [.rf 2900 0 0 0], .cells 1002 [.nf], .cells 2900 [.d (.slice zI), .d zI, .d zI, .d zI, .d zI, .d zI, .d (.slice zI), .own 2903 88 (.agg (.pair zI (.pair zI (.pair .bool zP)))), .d zI, .d zI, .d zI, .d zI, .d .bool], .cells 3002 [.d (.pair (.slice zI) (.pair zI zF))], .cells 1001 [.rf 2900 0 0 0]], [40, 24, 96], some (2901, .ready)⟩
@[reducible] def X89_0a : List (Ex × Tmpl) := [(.ret, ⟨66, [(16002, .ref 1002 0 0 0), (16039, .mref 2901), (32006, .ref 2900 0 0 0), (48002, .ref 3002 0 0 0), (48016001, .ref 1001 0 0 0), (48016002, .ref 1002 0 0 0)], [.val 48001 (.slice zI), .cells 1002 [.fc 91], .cells 2900 [.d (.slice zI), .d zI, .d zI, .d zI, .d zI, .d zI, .d (.slice zI), .own 900 88 (.agg (.pair zI (.pair zI (.pair .bool zP)))), .d zI, .d zI, .d zI, .d zI, .d .bool], .cells 3002 [.d (.pair (.slice zI) (.pair zI zF))], .cells 1001 [.rf 2900 0 0 0]], [40, 24, 96], some (2901, .done none)⟩), (.ret, ⟨66, [(16002, .ref 1002 0 0 0), (16039, .mref 2901), (32006, .ref 2900 0 0 0), (48002, .ref 3002 0 0 0), (48016001, .ref 1001 0 0 0), (48016002, .ref 1002 0 0 0)], [.val 48001 (.slice zI), .cells 1002 [.fc 92], .cells 2900 [.d (.slice zI), .d zI, .d zI, .d zI, .d zI, .d zI, .d (.slice zI), .own 900 88 (.agg (.pair zI (.pair zI (.pair .bool zP)))), .d zI, .d zI, .d zI, .d zI, .d .bool], .cells 3002 [.d (.pair (.slice zI) (.pair zI zF))], .cells 1001 [.rf 2900 0 0 0]], [40, 24, 96], some (2901, .done none)⟩), (.exit 0, ⟨66, [(16002, .ref 1002 0 0 0), (16039, .mref 2901), (32006, .ref 2900 0 0 0), (48002, .ref 3002 0 0 0), (48016001, .ref 1001 0 0 0), (48016002, .ref 1002 0 0 0)], [.val 48001 (.slice zI), .cells 1002 [.nf], .cells 2900 [.d (.slice zI), .d zI, .d zI, .d zI, .d zI, .d zI, .d (.slice zI), .own 2903 88 (.agg (.pair zI (.pair zI (.pair .bool zP)))), .d zI, .d zI, .d zI, .d zI, .d .bool], .cells 3002 [.d (.pair (.slice zI) (.pair zI zF))], .cells 1001 [.rf 2900 0 0 0]], [40, 24, 96], some (2901, .ready)⟩)]
noncomputable def step89_0a : Int × (List Int) × Unit × Unit × ((List Int) × Int × Int × Int × Int × Int × (List Int) × (List (Int × Int × Bool × Int × Int)) × Int × Int × Int × Int × Bool) × ((List Int) × Int × Int × Int × Int × Int) × Unit → Option (LpI × ((Int × (List Int) × Unit × Unit × ((List Int) × Int × Int × Int × Int × Int × (List Int) × (List (Int × Int × Bool × Int × Int)) × Int × Int × Int × Int × Bool) × ((List Int) × Int × Int × Int × Int × Int) × Unit) ⊕ (((List Int) × Unit × ((List Int) × Int × Int × Int × Int × Int × (List Int) × (List (Int × Int × Bool × Int × Int)) × Int × Int × Int × Int × Bool) × ((List Int) × Int × Int × Int × Int × Int) × Unit) ⊕ ((List Int) × Unit × ((List Int) × Int × Int × Int × Int × Int × (List Int) × (List (Int × Int × Bool × Int × Int)) × Int × Int × Int × Int × Bool) × ((List Int) × Int × Int × Int × Int × Int) × Unit) ⊕ ((List Int) × Unit × ((List Int) × Int × Int × Int × Int × Int × (List Int) × (List (Int × Int × Bool × Int × Int)) × Int × Int × Int × Int × Bool) × ((List Int) × Int × Int × Int × Int × Int) × Unit)))) := fun (at0, soft, _, _, r0, r0', _) =>
 bif decide ((wr (at0 + (r0.1.length : Int))) ≤ (r0.2.2.2.2.2.2.1.length : Int)) then
  optE (s90 (r0.1, r0.2.2.2.2.2.2.1, at0)) (fun r6 =>
   bif decide (r6.1 > r0.2.2.1) then
    bif decide (r6.2 ≤ r0.2.2.1) then
     bif room 40 (r0.2.2.2.2.2.2.2.1.length + 1) then
      bif decide (1 ≥ r0.2.2.2.1) then
       some (Lp61_0, .inr (.inl (soft, (), (r0.1, r0.2.1, r0.2.2.1, r0.2.2.2.1, r0.2.2.2.2.1, r0.2.2.2.2.2.1, r0.2.2.2.2.2.2.1, r0.2.2.2.2.2.2.2.1 ++ [(0, at0, true, r6.2, 0)], r0.2.2.2.2.2.2.2.2.1, at0, 1, 0, true), r0', ())))
      else
       some (Lp61_0, .inr (.inr (.inl (soft, (), (r0.1, r0.2.1, r0.2.2.1, r0.2.2.2.1, r0.2.2.2.2.1, r0.2.2.2.2.2.1, r0.2.2.2.2.2.2.1, r0.2.2.2.2.2.2.2.1 ++ [(0, at0, true, r6.2, 0)], r0.2.2.2.2.2.2.2.2.1, at0, 1, 0, true), r0', ()))))
     else
      none
    else
     some (Lp61_0, .inl (wr (at0 + 1), soft, (), (), r0, r0', ()))
   else
    bif decide (r6.1 ≤ r0.2.2.1) then
     bif room 40 (r0.2.2.2.2.2.2.2.1.length + 1) then
      bif decide (1 ≥ r0.2.2.2.1) then
       some (Lp61_0, .inr (.inl (soft, (), (r0.1, r0.2.1, r0.2.2.1, r0.2.2.2.1, r0.2.2.2.2.1, r0.2.2.2.2.2.1, r0.2.2.2.2.2.2.1, r0.2.2.2.2.2.2.2.1 ++ [(0, at0, false, r6.1, 0)], r0.2.2.2.2.2.2.2.2.1, at0, 1, 0, false), r0', ())))
      else
       some (Lp61_0, .inr (.inr (.inl (soft, (), (r0.1, r0.2.1, r0.2.2.1, r0.2.2.2.1, r0.2.2.2.2.1, r0.2.2.2.2.2.1, r0.2.2.2.2.2.2.1, r0.2.2.2.2.2.2.2.1 ++ [(0, at0, false, r6.1, 0)], r0.2.2.2.2.2.2.2.2.1, at0, 1, 0, false), r0', ()))))
     else
      none
    else
     some (Lp61_0, .inl (wr (at0 + 1), soft, (), (), r0, r0', ())))
   (none)
 else
  some (Lp61_0, .inr (.inr (.inr (soft, (), r0, r0', ()))))
theorem one89_0a : oneLoop Try.prog 89 0 = true := by kernel_rfl
theorem lp89_0a : ItemOk Try.prog (.loopI 89 0 Lp61_0 T89_0a X89_0a (loopVal (strip Lp61_0 step89_0a))) := item_loopI md4 ext4 (U := 9) (n := 8) noSpecial mixed Gp5K24_ok one89_0a (fun x => by kernel_rfl)
noncomputable def Gp5K25 : List Ev.Item := .loopI 89 0 Lp61_0 T89_0a X89_0a (loopVal (strip Lp61_0 step89_0a)) :: Gp5K24
theorem Gp5K25_ok : ∀ q ∈ Gp5K25, ItemOk Try.prog q := items_cons lp89_0a Gp5K24_ok
@[reducible] def T98_0b : Tmpl := ⟨85, [(0, .ref 2900 0 0 0), (16000, .ref 2900 0 0 0), (32006, .ref 2900 0 0 0), (48002, .ref 3002 0 0 0)], [.val 1 zI, .val 6 zI, .val 45 zI, .val 46 zI, .val 48001 (.slice zI), .cells 2900 [.d (.slice zI), .d zI, .d zI, .d zI, .d zI, .d zI, .d (.slice zI), .own 2903 88 (.agg (.pair zI (.pair zI (.pair .bool zP)))), .d zI, .d zI, .d zI, .d zI, .d .bool], .cells 3002 [.d (.pair (.slice zI) (.pair zI zF))]], [32, 24, 96], none⟩
@[reducible] def X98_0b : List (Ex × Tmpl) := [(.ret, ⟨85, [(16000, .ref 2900 0 0 0), (32006, .ref 2900 0 0 0), (48002, .ref 3002 0 0 0)], [.val 4 .bool, .val 5 .bool, .val 48001 (.slice zI), .cells 2900 [.d (.slice zI), .d zI, .d zI, .d zI, .d zI, .d zI, .d (.slice zI), .own 900 88 (.agg (.pair zI (.pair zI (.pair .bool zP)))), .d zI, .d zI, .d zI, .d zI, .d .bool], .cells 3002 [.d (.pair (.slice zI) (.pair zI zF))]], [32, 24, 96], none⟩), (.exit 0, ⟨85, [(16000, .ref 2900 0 0 0), (32006, .ref 2900 0 0 0), (48002, .ref 3002 0 0 0)], [.val 48001 (.slice zI), .cells 2900 [.d (.slice zI), .d zI, .d zI, .d zI, .d zI, .d zI, .d (.slice zI), .own 2903 88 (.agg (.pair zI (.pair zI (.pair .bool zP)))), .d zI, .d zI, .d zI, .d zI, .d .bool], .cells 3002 [.d (.pair (.slice zI) (.pair zI zF))]], [32, 24, 96], none⟩)]
noncomputable def step98_0b : Int × Int × Int × Int × (List Int) × ((List Int) × Int × Int × Int × Int × Int × (List Int) × (List (Int × Int × Bool × Int × Int)) × Int × Int × Int × Int × Bool) × ((List Int) × Int × Int × Int × Int × Int) → Option ((Int × Int × Int × Int × (List Int) × ((List Int) × Int × Int × Int × Int × Int × (List Int) × (List (Int × Int × Bool × Int × Int)) × Int × Int × Int × Int × Bool) × ((List Int) × Int × Int × Int × Int × Int)) ⊕ ((Bool × Bool × (List Int) × ((List Int) × Int × Int × Int × Int × Int × (List Int) × (List (Int × Int × Bool × Int × Int)) × Int × Int × Int × Int × Bool) × ((List Int) × Int × Int × Int × Int × Int)) ⊕ ((List Int) × ((List Int) × Int × Int × Int × Int × Int × (List Int) × (List (Int × Int × Bool × Int × Int)) × Int × Int × Int × Int × Bool) × ((List Int) × Int × Int × Int × Int × Int)))) := fun (kind, next, t45, t46, soft, r0, r0') =>
 bif decide (t46 < t45) then
  optE (s102 (r0, wr (next + (wr (-t46))))) (fun r14 =>
   bif decide (r14 ≤ r0.2.2.1) then
    optE (s102 (r0, wr (next + (wr (-t46))))) (fun r15 =>
     bif room 40 (r0.2.2.2.2.2.2.2.1.length + 1) then
      some (.inr (.inl (true, true, soft, (r0.1, r0.2.1, r0.2.2.1, r0.2.2.2.1, r0.2.2.2.2.1, r0.2.2.2.2.2.1, r0.2.2.2.2.2.2.1, r0.2.2.2.2.2.2.2.1 ++ [(kind, wr (next + (wr (-t46))), r0.2.2.2.2.2.2.2.2.2.2.2.2, r15, wr (-t46))], r0.2.2.2.2.2.2.2.2.1, wr (next + (wr (-t46))), r0.2.2.2.2.2.2.2.2.2.2.1, 0, r0.2.2.2.2.2.2.2.2.2.2.2.2), r0')))
     else
      none)
     (none)
   else
    optE (s102 (r0, wr (next + t46))) (fun r16 =>
     bif decide (r16 ≤ r0.2.2.1) then
      optE (s102 (r0, wr (next + t46))) (fun r17 =>
       bif room 40 (r0.2.2.2.2.2.2.2.1.length + 1) then
        some (.inr (.inl (true, true, soft, (r0.1, r0.2.1, r0.2.2.1, r0.2.2.2.1, r0.2.2.2.2.1, r0.2.2.2.2.2.1, r0.2.2.2.2.2.2.1, r0.2.2.2.2.2.2.2.1 ++ [(kind, wr (next + t46), r0.2.2.2.2.2.2.2.2.2.2.2.2, r17, t46)], r0.2.2.2.2.2.2.2.2.1, wr (next + t46), r0.2.2.2.2.2.2.2.2.2.2.1, 0, r0.2.2.2.2.2.2.2.2.2.2.2.2), r0')))
       else
        none)
       (none)
     else
      some (.inl (kind, next, t45, wr (t46 + 1), soft, r0, r0')))
     (none))
   (none)
 else
  some (.inr (.inr (soft, r0, r0')))
theorem one98_0b : oneLoop Try.prog 98 0 = true := by kernel_rfl
theorem lp98_0b : ItemOk Try.prog (.loop 98 0 T98_0b X98_0b (loopVal step98_0b)) := item_loopM md4 ext4 (U := 9) (n := 8) noSpecial mixed Gp5K25_ok one98_0b (fun x => by kernel_rfl)
noncomputable def Gp5K26 : List Ev.Item := .loop 98 0 T98_0b X98_0b (loopVal step98_0b) :: Gp5K25
theorem Gp5K26_ok : ∀ q ∈ Gp5K26, ItemOk Try.prog q := items_cons lp98_0b Gp5K25_ok
@[reducible] def T98_0c : Tmpl := ⟨85, [(0, .ref 2900 0 0 0), (16000, .ref 2900 0 0 0), (32006, .ref 2900 0 0 0), (48002, .ref 3002 0 0 0)], [.val 1 zI, .val 6 zI, .val 45 zI, .val 46 zI, .val 48001 (.slice zI), .cells 2900 [.d (.slice zI), .d zI, .d zI, .d zI, .d zI, .d zI, .d (.slice zI), .own 2903 88 (.agg (.pair zI (.pair zI (.pair .bool zP)))), .d zI, .d zI, .d zI, .d zI, .d .bool], .cells 3002 [.d (.pair (.slice zI) (.pair zI zF))]], [53, 24, 96], none⟩
@[reducible] def X98_0c : List (Ex × Tmpl) := [(.ret, ⟨85, [(16000, .ref 2900 0 0 0), (32006, .ref 2900 0 0 0), (48002, .ref 3002 0 0 0)], [.val 4 .bool, .val 5 .bool, .val 48001 (.slice zI), .cells 2900 [.d (.slice zI), .d zI, .d zI, .d zI, .d zI, .d zI, .d (.slice zI), .own 900 88 (.agg (.pair zI (.pair zI (.pair .bool zP)))), .d zI, .d zI, .d zI, .d zI, .d .bool], .cells 3002 [.d (.pair (.slice zI) (.pair zI zF))]], [53, 24, 96], none⟩), (.exit 0, ⟨85, [(16000, .ref 2900 0 0 0), (32006, .ref 2900 0 0 0), (48002, .ref 3002 0 0 0)], [.val 48001 (.slice zI), .cells 2900 [.d (.slice zI), .d zI, .d zI, .d zI, .d zI, .d zI, .d (.slice zI), .own 2903 88 (.agg (.pair zI (.pair zI (.pair .bool zP)))), .d zI, .d zI, .d zI, .d zI, .d .bool], .cells 3002 [.d (.pair (.slice zI) (.pair zI zF))]], [53, 24, 96], none⟩)]
noncomputable def step98_0c : Int × Int × Int × Int × (List Int) × ((List Int) × Int × Int × Int × Int × Int × (List Int) × (List (Int × Int × Bool × Int × Int)) × Int × Int × Int × Int × Bool) × ((List Int) × Int × Int × Int × Int × Int) → Option ((Int × Int × Int × Int × (List Int) × ((List Int) × Int × Int × Int × Int × Int × (List Int) × (List (Int × Int × Bool × Int × Int)) × Int × Int × Int × Int × Bool) × ((List Int) × Int × Int × Int × Int × Int)) ⊕ ((Bool × Bool × (List Int) × ((List Int) × Int × Int × Int × Int × Int × (List Int) × (List (Int × Int × Bool × Int × Int)) × Int × Int × Int × Int × Bool) × ((List Int) × Int × Int × Int × Int × Int)) ⊕ ((List Int) × ((List Int) × Int × Int × Int × Int × Int × (List Int) × (List (Int × Int × Bool × Int × Int)) × Int × Int × Int × Int × Bool) × ((List Int) × Int × Int × Int × Int × Int)))) := fun (kind, next, t45, t46, soft, r0, r0') =>
 bif decide (t46 < t45) then
  optE (s102 (r0, wr (next + (wr (-t46))))) (fun r19 =>
   bif decide (r19 ≤ r0.2.2.1) then
    optE (s102 (r0, wr (next + (wr (-t46))))) (fun r20 =>
     bif room 40 (r0.2.2.2.2.2.2.2.1.length + 1) then
      some (.inr (.inl (true, true, soft, (r0.1, r0.2.1, r0.2.2.1, r0.2.2.2.1, r0.2.2.2.2.1, r0.2.2.2.2.2.1, r0.2.2.2.2.2.2.1, r0.2.2.2.2.2.2.2.1 ++ [(kind, wr (next + (wr (-t46))), r0.2.2.2.2.2.2.2.2.2.2.2.2, r20, wr (-t46))], r0.2.2.2.2.2.2.2.2.1, wr (next + (wr (-t46))), r0.2.2.2.2.2.2.2.2.2.2.1, 0, r0.2.2.2.2.2.2.2.2.2.2.2.2), r0')))
     else
      none)
     (none)
   else
    optE (s102 (r0, wr (next + t46))) (fun r21 =>
     bif decide (r21 ≤ r0.2.2.1) then
      optE (s102 (r0, wr (next + t46))) (fun r22 =>
       bif room 40 (r0.2.2.2.2.2.2.2.1.length + 1) then
        some (.inr (.inl (true, true, soft, (r0.1, r0.2.1, r0.2.2.1, r0.2.2.2.1, r0.2.2.2.2.1, r0.2.2.2.2.2.1, r0.2.2.2.2.2.2.1, r0.2.2.2.2.2.2.2.1 ++ [(kind, wr (next + t46), r0.2.2.2.2.2.2.2.2.2.2.2.2, r22, t46)], r0.2.2.2.2.2.2.2.2.1, wr (next + t46), r0.2.2.2.2.2.2.2.2.2.2.1, 0, r0.2.2.2.2.2.2.2.2.2.2.2.2), r0')))
       else
        none)
       (none)
     else
      some (.inl (kind, next, t45, wr (t46 + 1), soft, r0, r0')))
     (none))
   (none)
 else
  some (.inr (.inr (soft, r0, r0')))
theorem one98_0c : oneLoop Try.prog 98 0 = true := by kernel_rfl
theorem lp98_0c : ItemOk Try.prog (.loop 98 0 T98_0c X98_0c (loopVal step98_0c)) := item_loopM md4 ext4 (U := 9) (n := 8) noSpecial mixed Gp5K26_ok one98_0c (fun x => by kernel_rfl)
noncomputable def Gp5K27 : List Ev.Item := .loop 98 0 T98_0c X98_0c (loopVal step98_0c) :: Gp5K26
theorem Gp5K27_ok : ∀ q ∈ Gp5K27, ItemOk Try.prog q := items_cons lp98_0c Gp5K26_ok
@[reducible] def T44_0c : Tmpl := ⟨24, [(6, .ref 900 0 0 0), (16002, .ref 1002 0 0 0)], [.val 16001 (.slice zI), .cells 900 [.d (.slice zI), .d zI, .d zI, .d zI, .d zI, .d zI, .d (.slice zI), .own 903 88 (.agg (.pair zI (.pair zI (.pair .bool zP)))), .d zI, .d zI, .d zI, .d zI, .d .bool], .cells 1002 [.d (.pair (.slice zI) (.pair zI zF))]], [96], none⟩
@[reducible] def X44_0c : List (Ex × Tmpl) := [(.exit 0, ⟨24, [(6, .ref 900 0 0 0), (16002, .ref 1002 0 0 0)], [.val 16001 (.slice zI), .cells 900 [.d (.slice zI), .d zI, .d zI, .d zI, .d zI, .d zI, .d (.slice zI), .own 903 88 (.agg (.pair zI (.pair zI (.pair .bool zP)))), .d zI, .d zI, .d zI, .d zI, .d .bool], .cells 1002 [.d (.pair (.slice zI) (.pair zI zF))]], [96], none⟩)]
noncomputable def step44_0c_0 : (List Int) × ((List Int) × Int × Int × Int × Int × Int × (List Int) × (List (Int × Int × Bool × Int × Int)) × Int × Int × Int × Int × Bool) × ((List Int) × Int × Int × Int × Int × Int) → Option ((Nat × ((List Int) × ((List Int) × Int × Int × Int × Int × Int × (List Int) × (List (Int × Int × Bool × Int × Int)) × Int × Int × Int × Int × Bool) × ((List Int) × Int × Int × Int × Int × Int))) ⊕ ((List Int) × ((List Int) × Int × Int × Int × Int × Int × (List Int) × (List (Int × Int × Bool × Int × Int)) × Int × Int × Int × Int × Bool) × ((List Int) × Int × Int × Int × Int × Int))) := fun (soft, r0, r0') =>
 optE (onlyAt Lp61_0 Lp61_0 <| loopVal (strip Lp61_0 step89_0a) (r0.2.2.2.2.2.2.2.2.1, soft, (), (), r0, r0', ())) (fun e5 =>
  sumE e5 (fun e6 =>
   some (.inl (2, (e6.1, e6.2.2.1, e6.2.2.2.1)))) (fun e7 =>
   sumE e7 (fun e8 =>
    some (.inl (1, (e8.1, e8.2.2.1, e8.2.2.2.1)))) (fun e9 =>
    some (.inl (3, (e9.1, e9.2.2.1, e9.2.2.2.1))))))
  (none)
noncomputable def step44_0c_1 : (List Int) × ((List Int) × Int × Int × Int × Int × Int × (List Int) × (List (Int × Int × Bool × Int × Int)) × Int × Int × Int × Int × Bool) × ((List Int) × Int × Int × Int × Int × Int) → Option ((Nat × ((List Int) × ((List Int) × Int × Int × Int × Int × Int × (List Int) × (List (Int × Int × Bool × Int × Int)) × Int × Int × Int × Int × Bool) × ((List Int) × Int × Int × Int × Int × Int))) ⊕ ((List Int) × ((List Int) × Int × Int × Int × Int × Int × (List Int) × (List (Int × Int × Bool × Int × Int)) × Int × Int × Int × Int × Bool) × ((List Int) × Int × Int × Int × Int × Int))) := fun (soft, r0, r0') =>
 bif decide ((wr ((wr ((wr (r0.2.2.2.2.2.2.2.2.2.1 + r0.2.1)) + r0.2.2.2.2.2.1)) + (r0.1.length : Int))) > (r0.2.2.2.2.2.2.1.length : Int)) then
  some (.inl (3, (soft, r0, r0')))
 else
  optE (loopVal step98_0b (1, wr (r0.2.2.2.2.2.2.2.2.2.1 + r0.2.1), wr (r0.2.2.2.2.2.1 + 1), 0, soft, r0, r0')) (fun e5 =>
   sumE e5 (fun e6 =>
    bif !e6.2.1 then
     some (.inl (3, e6.2.2))
    else
     bif !e6.1 then
      optE (s102 (e6.2.2.2.1, wr (e6.2.2.2.1.2.2.2.2.2.2.2.2.2.1 + e6.2.2.2.1.2.1))) (fun r8 =>
       bif room 40 (e6.2.2.2.1.2.2.2.2.2.2.2.1.length + 1) then
        some (.inl (0, (e6.2.2.1, (e6.2.2.2.1.1, e6.2.2.2.1.2.1, e6.2.2.2.1.2.2.1, e6.2.2.2.1.2.2.2.1, e6.2.2.2.1.2.2.2.2.1, e6.2.2.2.1.2.2.2.2.2.1, e6.2.2.2.1.2.2.2.2.2.2.1, e6.2.2.2.1.2.2.2.2.2.2.2.1 ++ [(4, wr (e6.2.2.2.1.2.2.2.2.2.2.2.2.2.1 + e6.2.2.2.1.2.1), e6.2.2.2.1.2.2.2.2.2.2.2.2.2.2.2.2, r8, 0)], wr (e6.2.2.2.1.2.2.2.2.2.2.2.2.2.1 + 1), e6.2.2.2.1.2.2.2.2.2.2.2.2.2.1, e6.2.2.2.1.2.2.2.2.2.2.2.2.2.2.1, e6.2.2.2.1.2.2.2.2.2.2.2.2.2.2.2.1, e6.2.2.2.1.2.2.2.2.2.2.2.2.2.2.2.2), e6.2.2.2.2)))
       else
        none)
       (none)
     else
      bif decide ((wr (e6.2.2.2.1.2.2.2.2.2.2.2.2.2.2.1 + 1)) ≥ e6.2.2.2.1.2.2.2.1) then
       some (.inl (2, (e6.2.2.1, (e6.2.2.2.1.1, e6.2.2.2.1.2.1, e6.2.2.2.1.2.2.1, e6.2.2.2.1.2.2.2.1, e6.2.2.2.1.2.2.2.2.1, e6.2.2.2.1.2.2.2.2.2.1, e6.2.2.2.1.2.2.2.2.2.2.1, e6.2.2.2.1.2.2.2.2.2.2.2.1, e6.2.2.2.1.2.2.2.2.2.2.2.2.1, e6.2.2.2.1.2.2.2.2.2.2.2.2.2.1, wr (e6.2.2.2.1.2.2.2.2.2.2.2.2.2.2.1 + 1), e6.2.2.2.1.2.2.2.2.2.2.2.2.2.2.2.1, e6.2.2.2.1.2.2.2.2.2.2.2.2.2.2.2.2), e6.2.2.2.2)))
      else
       some (.inl (1, (e6.2.2.1, (e6.2.2.2.1.1, e6.2.2.2.1.2.1, e6.2.2.2.1.2.2.1, e6.2.2.2.1.2.2.2.1, e6.2.2.2.1.2.2.2.2.1, e6.2.2.2.1.2.2.2.2.2.1, e6.2.2.2.1.2.2.2.2.2.2.1, e6.2.2.2.1.2.2.2.2.2.2.2.1, e6.2.2.2.1.2.2.2.2.2.2.2.2.1, e6.2.2.2.1.2.2.2.2.2.2.2.2.2.1, wr (e6.2.2.2.1.2.2.2.2.2.2.2.2.2.2.1 + 1), e6.2.2.2.1.2.2.2.2.2.2.2.2.2.2.2.1, e6.2.2.2.1.2.2.2.2.2.2.2.2.2.2.2.2), e6.2.2.2.2)))) (fun e7 =>
    optE (s102 (e7.2.1, wr (e7.2.1.2.2.2.2.2.2.2.2.2.1 + e7.2.1.2.1))) (fun r9 =>
     bif room 40 (e7.2.1.2.2.2.2.2.2.2.1.length + 1) then
      some (.inl (0, (e7.1, (e7.2.1.1, e7.2.1.2.1, e7.2.1.2.2.1, e7.2.1.2.2.2.1, e7.2.1.2.2.2.2.1, e7.2.1.2.2.2.2.2.1, e7.2.1.2.2.2.2.2.2.1, e7.2.1.2.2.2.2.2.2.2.1 ++ [(4, wr (e7.2.1.2.2.2.2.2.2.2.2.2.1 + e7.2.1.2.1), e7.2.1.2.2.2.2.2.2.2.2.2.2.2.2, r9, 0)], wr (e7.2.1.2.2.2.2.2.2.2.2.2.1 + 1), e7.2.1.2.2.2.2.2.2.2.2.2.1, e7.2.1.2.2.2.2.2.2.2.2.2.2.1, e7.2.1.2.2.2.2.2.2.2.2.2.2.2.1, e7.2.1.2.2.2.2.2.2.2.2.2.2.2.2), e7.2.2)))
     else
      none)
     (none)))
   (none)
noncomputable def step44_0c_2 : (List Int) × ((List Int) × Int × Int × Int × Int × Int × (List Int) × (List (Int × Int × Bool × Int × Int)) × Int × Int × Int × Int × Bool) × ((List Int) × Int × Int × Int × Int × Int) → Option ((Nat × ((List Int) × ((List Int) × Int × Int × Int × Int × Int × (List Int) × (List (Int × Int × Bool × Int × Int)) × Int × Int × Int × Int × Bool) × ((List Int) × Int × Int × Int × Int × Int))) ⊕ ((List Int) × ((List Int) × Int × Int × Int × Int × Int × (List Int) × (List (Int × Int × Bool × Int × Int)) × Int × Int × Int × Int × Bool) × ((List Int) × Int × Int × Int × Int × Int))) := fun (soft, r0, r0') =>
 bif decide ((wr ((wr ((wr (r0.2.2.2.2.2.2.2.2.2.1 + r0.2.1)) + r0.2.2.2.2.2.1)) + (r0.1.length : Int))) > (r0.2.2.2.2.2.2.1.length : Int)) then
  some (.inl (3, (soft, r0, r0')))
 else
  optE (loopVal step98_0c (2, wr (r0.2.2.2.2.2.2.2.2.2.1 + r0.2.1), wr (r0.2.2.2.2.2.1 + 1), 0, soft, r0, r0')) (fun e5 =>
   sumE e5 (fun e6 =>
    bif !e6.2.1 then
     some (.inl (3, e6.2.2))
    else
     bif e6.1 then
      some (.inl (2, e6.2.2))
     else
      bif decide ((wr (e6.2.2.2.1.2.2.2.2.2.2.2.2.2.2.2.1 + 1)) > e6.2.2.2.1.2.2.2.2.1) then
       optE (s102 ((e6.2.2.2.1.1, e6.2.2.2.1.2.1, e6.2.2.2.1.2.2.1, e6.2.2.2.1.2.2.2.1, e6.2.2.2.1.2.2.2.2.1, e6.2.2.2.1.2.2.2.2.2.1, e6.2.2.2.1.2.2.2.2.2.2.1, e6.2.2.2.1.2.2.2.2.2.2.2.1, e6.2.2.2.1.2.2.2.2.2.2.2.2.1, e6.2.2.2.1.2.2.2.2.2.2.2.2.2.1, e6.2.2.2.1.2.2.2.2.2.2.2.2.2.2.1, wr (e6.2.2.2.1.2.2.2.2.2.2.2.2.2.2.2.1 + 1), e6.2.2.2.1.2.2.2.2.2.2.2.2.2.2.2.2), wr (e6.2.2.2.1.2.2.2.2.2.2.2.2.2.1 + e6.2.2.2.1.2.1))) (fun r8 =>
        bif room 40 (e6.2.2.2.1.2.2.2.2.2.2.2.1.length + 1) then
         some (.inl (0, (e6.2.2.1, (e6.2.2.2.1.1, e6.2.2.2.1.2.1, e6.2.2.2.1.2.2.1, e6.2.2.2.1.2.2.2.1, e6.2.2.2.1.2.2.2.2.1, e6.2.2.2.1.2.2.2.2.2.1, e6.2.2.2.1.2.2.2.2.2.2.1, e6.2.2.2.1.2.2.2.2.2.2.2.1 ++ [(4, wr (e6.2.2.2.1.2.2.2.2.2.2.2.2.2.1 + e6.2.2.2.1.2.1), e6.2.2.2.1.2.2.2.2.2.2.2.2.2.2.2.2, r8, 0)], wr (e6.2.2.2.1.2.2.2.2.2.2.2.2.2.1 + e6.2.2.2.1.2.1), e6.2.2.2.1.2.2.2.2.2.2.2.2.2.1, e6.2.2.2.1.2.2.2.2.2.2.2.2.2.2.1, wr (e6.2.2.2.1.2.2.2.2.2.2.2.2.2.2.2.1 + 1), e6.2.2.2.1.2.2.2.2.2.2.2.2.2.2.2.2), e6.2.2.2.2)))
        else
         none)
        (none)
      else
       optE (s102 ((e6.2.2.2.1.1, e6.2.2.2.1.2.1, e6.2.2.2.1.2.2.1, e6.2.2.2.1.2.2.2.1, e6.2.2.2.1.2.2.2.2.1, e6.2.2.2.1.2.2.2.2.2.1, e6.2.2.2.1.2.2.2.2.2.2.1, e6.2.2.2.1.2.2.2.2.2.2.2.1, e6.2.2.2.1.2.2.2.2.2.2.2.2.1, e6.2.2.2.1.2.2.2.2.2.2.2.2.2.1, e6.2.2.2.1.2.2.2.2.2.2.2.2.2.2.1, wr (e6.2.2.2.1.2.2.2.2.2.2.2.2.2.2.2.1 + 1), e6.2.2.2.1.2.2.2.2.2.2.2.2.2.2.2.2), wr (e6.2.2.2.1.2.2.2.2.2.2.2.2.2.1 + e6.2.2.2.1.2.1))) (fun r9 =>
        bif room 40 (e6.2.2.2.1.2.2.2.2.2.2.2.1.length + 1) then
         some (.inl (2, (e6.2.2.1, (e6.2.2.2.1.1, e6.2.2.2.1.2.1, e6.2.2.2.1.2.2.1, e6.2.2.2.1.2.2.2.1, e6.2.2.2.1.2.2.2.2.1, e6.2.2.2.1.2.2.2.2.2.1, e6.2.2.2.1.2.2.2.2.2.2.1, e6.2.2.2.1.2.2.2.2.2.2.2.1 ++ [(3, wr (e6.2.2.2.1.2.2.2.2.2.2.2.2.2.1 + e6.2.2.2.1.2.1), e6.2.2.2.1.2.2.2.2.2.2.2.2.2.2.2.2, r9, 0)], e6.2.2.2.1.2.2.2.2.2.2.2.2.1, wr (e6.2.2.2.1.2.2.2.2.2.2.2.2.2.1 + e6.2.2.2.1.2.1), e6.2.2.2.1.2.2.2.2.2.2.2.2.2.2.1, wr (e6.2.2.2.1.2.2.2.2.2.2.2.2.2.2.2.1 + 1), e6.2.2.2.1.2.2.2.2.2.2.2.2.2.2.2.2), e6.2.2.2.2)))
        else
         none)
        (none)) (fun e7 =>
    bif decide ((wr (e7.2.1.2.2.2.2.2.2.2.2.2.2.2.1 + 1)) > e7.2.1.2.2.2.2.1) then
     optE (s102 ((e7.2.1.1, e7.2.1.2.1, e7.2.1.2.2.1, e7.2.1.2.2.2.1, e7.2.1.2.2.2.2.1, e7.2.1.2.2.2.2.2.1, e7.2.1.2.2.2.2.2.2.1, e7.2.1.2.2.2.2.2.2.2.1, e7.2.1.2.2.2.2.2.2.2.2.1, e7.2.1.2.2.2.2.2.2.2.2.2.1, e7.2.1.2.2.2.2.2.2.2.2.2.2.1, wr (e7.2.1.2.2.2.2.2.2.2.2.2.2.2.1 + 1), e7.2.1.2.2.2.2.2.2.2.2.2.2.2.2), wr (e7.2.1.2.2.2.2.2.2.2.2.2.1 + e7.2.1.2.1))) (fun r10 =>
      bif room 40 (e7.2.1.2.2.2.2.2.2.2.1.length + 1) then
       some (.inl (0, (e7.1, (e7.2.1.1, e7.2.1.2.1, e7.2.1.2.2.1, e7.2.1.2.2.2.1, e7.2.1.2.2.2.2.1, e7.2.1.2.2.2.2.2.1, e7.2.1.2.2.2.2.2.2.1, e7.2.1.2.2.2.2.2.2.2.1 ++ [(4, wr (e7.2.1.2.2.2.2.2.2.2.2.2.1 + e7.2.1.2.1), e7.2.1.2.2.2.2.2.2.2.2.2.2.2.2, r10, 0)], wr (e7.2.1.2.2.2.2.2.2.2.2.2.1 + e7.2.1.2.1), e7.2.1.2.2.2.2.2.2.2.2.2.1, e7.2.1.2.2.2.2.2.2.2.2.2.2.1, wr (e7.2.1.2.2.2.2.2.2.2.2.2.2.2.1 + 1), e7.2.1.2.2.2.2.2.2.2.2.2.2.2.2), e7.2.2)))
      else
       none)
      (none)
    else
     optE (s102 ((e7.2.1.1, e7.2.1.2.1, e7.2.1.2.2.1, e7.2.1.2.2.2.1, e7.2.1.2.2.2.2.1, e7.2.1.2.2.2.2.2.1, e7.2.1.2.2.2.2.2.2.1, e7.2.1.2.2.2.2.2.2.2.1, e7.2.1.2.2.2.2.2.2.2.2.1, e7.2.1.2.2.2.2.2.2.2.2.2.1, e7.2.1.2.2.2.2.2.2.2.2.2.2.1, wr (e7.2.1.2.2.2.2.2.2.2.2.2.2.2.1 + 1), e7.2.1.2.2.2.2.2.2.2.2.2.2.2.2), wr (e7.2.1.2.2.2.2.2.2.2.2.2.1 + e7.2.1.2.1))) (fun r11 =>
      bif room 40 (e7.2.1.2.2.2.2.2.2.2.1.length + 1) then
       some (.inl (2, (e7.1, (e7.2.1.1, e7.2.1.2.1, e7.2.1.2.2.1, e7.2.1.2.2.2.1, e7.2.1.2.2.2.2.1, e7.2.1.2.2.2.2.2.1, e7.2.1.2.2.2.2.2.2.1, e7.2.1.2.2.2.2.2.2.2.1 ++ [(3, wr (e7.2.1.2.2.2.2.2.2.2.2.2.1 + e7.2.1.2.1), e7.2.1.2.2.2.2.2.2.2.2.2.2.2.2, r11, 0)], e7.2.1.2.2.2.2.2.2.2.2.1, wr (e7.2.1.2.2.2.2.2.2.2.2.2.1 + e7.2.1.2.1), e7.2.1.2.2.2.2.2.2.2.2.2.2.1, wr (e7.2.1.2.2.2.2.2.2.2.2.2.2.2.1 + 1), e7.2.1.2.2.2.2.2.2.2.2.2.2.2.2), e7.2.2)))
      else
       none)
      (none)))
   (none)
noncomputable def step44_0c_3 : (List Int) × ((List Int) × Int × Int × Int × Int × Int × (List Int) × (List (Int × Int × Bool × Int × Int)) × Int × Int × Int × Int × Bool) × ((List Int) × Int × Int × Int × Int × Int) → Option ((Nat × ((List Int) × ((List Int) × Int × Int × Int × Int × Int × (List Int) × (List (Int × Int × Bool × Int × Int)) × Int × Int × Int × Int × Bool) × ((List Int) × Int × Int × Int × Int × Int))) ⊕ ((List Int) × ((List Int) × Int × Int × Int × Int × Int × (List Int) × (List (Int × Int × Bool × Int × Int)) × Int × Int × Int × Int × Bool) × ((List Int) × Int × Int × Int × Int × Int))) := fun (soft, r0, r0') =>
 some (.inr (soft, r0, r0'))
@[reducible] def C44_0c : List (List (Nat × LV)) := [[(8, .fn 61)], [(8, .fn 92)], [(8, .fn 91)], [(8, .nilfn)]]
noncomputable def S44_0c : List (T44_0c.D → Option ((Nat × T44_0c.D) ⊕ ExT X44_0c)) := [step44_0c_0, step44_0c_1, step44_0c_2, step44_0c_3]
theorem one44_0c : oneLoop Try.prog 44 0 = true := by kernel_rfl
theorem r44_0c_0 : RoundF Try.prog md4 Gp5K27 44 0 9 10 T44_0c C44_0c X44_0c [(8, .fn 61)] step44_0c_0 := fun x => by kernel_rfl
theorem r44_0c_1 : RoundF Try.prog md4 Gp5K27 44 0 9 10 T44_0c C44_0c X44_0c [(8, .fn 92)] step44_0c_1 := fun x => by kernel_rfl
theorem r44_0c_2 : RoundF Try.prog md4 Gp5K27 44 0 9 10 T44_0c C44_0c X44_0c [(8, .fn 91)] step44_0c_2 := fun x => by kernel_rfl
theorem r44_0c_3 : RoundF Try.prog md4 Gp5K27 44 0 9 10 T44_0c C44_0c X44_0c [(8, .nilfn)] step44_0c_3 := fun x => by kernel_rfl
theorem lp44_0c : ItemOk Try.prog (.loop 44 0 (fam T44_0c [(8, .fn 61)]) X44_0c (fun x => loopVal (stepF S44_0c) (0, x))) := item_loopF md4 ext4 (U := 9) (n := 10) noSpecial mixed Gp5K27_ok one44_0c (AllF.cons r44_0c_0 (AllF.cons r44_0c_1 (AllF.cons r44_0c_2 (AllF.cons r44_0c_3 AllF.nil)))) 0 _ rfl
noncomputable def Gp5K28 : List Ev.Item := .loop 44 0 (fam T44_0c [(8, .fn 61)]) X44_0c (fun x => loopVal (stepF S44_0c) (0, x)) :: Gp5K27
theorem Gp5K28_ok : ∀ q ∈ Gp5K28, ItemOk Try.prog q := items_cons lp44_0c Gp5K27_ok
@[reducible] def T21_2 : Tmpl := ⟨96, [(2, .ref 2 0 0 0), (6, .ref 900 0 0 0), (12, .ref 12 0 0 0)], [.val 1 (.slice zI), .own 8 93 90 (.agg (.pair zI (.pair .bool (.pair zI (.slice zI))))), .own 26 901 88 (.agg (.pair zI (.pair zI (.pair .bool zP)))), .val 27 zI, .val 28 zI, .val 75 zI, .val 76 zI, .cells 2 [.d (.pair (.slice zI) (.pair zI zF))], .cells 900 [.d (.slice zI), .d zI, .d zI, .d zI, .d zI, .d zI, .d (.slice zI), .own 901 88 (.agg (.pair zI (.pair zI (.pair .bool zP)))), .d zI, .d zI, .d zI, .d zI, .d .bool], .cells 12 [.d zI, .d .bool, .d zI, .own 69 3 zI]], [], none⟩
@[reducible] def X21_2 : List (Ex × Tmpl) := [(.exit 2, ⟨96, [(2, .ref 2 0 0 0), (6, .ref 900 0 0 0), (12, .ref 12 0 0 0)], [.val 1 (.slice zI), .own 8 93 90 (.agg (.pair zI (.pair .bool (.pair zI (.slice zI))))), .own 26 901 88 (.agg (.pair zI (.pair zI (.pair .bool zP)))), .val 27 zI, .val 28 zI, .cells 2 [.d (.pair (.slice zI) (.pair zI zF))], .cells 900 [.d (.slice zI), .d zI, .d zI, .d zI, .d zI, .d zI, .d (.slice zI), .own 901 88 (.agg (.pair zI (.pair zI (.pair .bool zP)))), .d zI, .d zI, .d zI, .d zI, .d .bool], .cells 12 [.d zI, .d .bool, .d zI, .own 69 3 zI]], [], none⟩)]
noncomputable def step21_2 : (List Int) × (List (Int × Bool × Int × List Int)) × (List (Int × Int × Bool × Int × Int)) × Int × Int × Int × Int × ((List Int) × Int × Int × Int × Int × Int) × ((List Int) × Int × Int × Int × Int × Int × (List Int) × (List (Int × Int × Bool × Int × Int)) × Int × Int × Int × Int × Bool) × (Int × Bool × Int × (List Int)) → Option (((List Int) × (List (Int × Bool × Int × List Int)) × (List (Int × Int × Bool × Int × Int)) × Int × Int × Int × Int × ((List Int) × Int × Int × Int × Int × Int) × ((List Int) × Int × Int × Int × Int × Int × (List Int) × (List (Int × Int × Bool × Int × Int)) × Int × Int × Int × Int × Bool) × (Int × Bool × Int × (List Int))) ⊕ ((List Int) × (List (Int × Bool × Int × List Int)) × (List (Int × Int × Bool × Int × Int)) × Int × Int × ((List Int) × Int × Int × Int × Int × Int) × ((List Int) × Int × Int × Int × Int × Int × (List Int) × (List (Int × Int × Bool × Int × Int)) × Int × Int × Int × Int × Bool) × (Int × Bool × Int × (List Int)))) := fun (soft, out, _, t27, t28, t75, t76, r0, x0, f) =>
 bif decide (t76 < t75) then
  bif inBounds t76 f.2.2.2.length then
   bif inBounds t76 f.2.2.2.length then
    some (.inl (soft, out, x0.2.2.2.2.2.2.2.1, t27, t28, t75, wr (t76 + 1), r0, x0, (f.1, f.2.1, f.2.2.1, f.2.2.2.set t76.toNat (wr (-(f.2.2.2.getD t76.toNat 0))))))
   else
    none
  else
   none
 else
  some (.inr (soft, out, x0.2.2.2.2.2.2.2.1, t27, t28, r0, x0, f))
theorem one21_2 : oneLoop Try.prog 21 2 = true := by kernel_rfl
theorem lp21_2 : ItemOk Try.prog (.loop 21 2 T21_2 X21_2 (loopVal step21_2)) := item_loopM md4 ext4 (U := 9) (n := 11) noSpecial mixed Gp5K28_ok one21_2 (fun x => by kernel_rfl)
noncomputable def Gp5K29 : List Ev.Item := .loop 21 2 T21_2 X21_2 (loopVal step21_2) :: Gp5K28
theorem Gp5K29_ok : ∀ q ∈ Gp5K29, ItemOk Try.prog q := items_cons lp21_2 Gp5K28_ok
@[reducible] def T21_0 : Tmpl := ⟨96, [(2, .ref 2 0 0 0), (6, .ref 900 0 0 0)], [.val 1 (.slice zI), .own 8 93 90 (.agg (.pair zI (.pair .bool (.pair zI (.slice zI))))), .own 26 901 88 (.agg (.pair zI (.pair zI (.pair .bool zP)))), .val 27 zI, .val 28 zI, .cells 2 [.d (.pair (.slice zI) (.pair zI zF))], .cells 900 [.d (.slice zI), .d zI, .d zI, .d zI, .d zI, .d zI, .d (.slice zI), .own 901 88 (.agg (.pair zI (.pair zI (.pair .bool zP)))), .d zI, .d zI, .d zI, .d zI, .d .bool]], [], none⟩
@[reducible] def X21_0 : List (Ex × Tmpl) := [(.exit 0, ⟨96, [], [.own 8 93 90 (.agg (.pair zI (.pair .bool (.pair zI (.slice zI)))))], [], none⟩)]
noncomputable def step21_0 : (List Int) × (List (Int × Bool × Int × List Int)) × (List (Int × Int × Bool × Int × Int)) × Int × Int × ((List Int) × Int × Int × Int × Int × Int) × ((List Int) × Int × Int × Int × Int × Int × (List Int) × (List (Int × Int × Bool × Int × Int)) × Int × Int × Int × Int × Bool) → Option (((List Int) × (List (Int × Bool × Int × List Int)) × (List (Int × Int × Bool × Int × Int)) × Int × Int × ((List Int) × Int × Int × Int × Int × Int) × ((List Int) × Int × Int × Int × Int × Int × (List Int) × (List (Int × Int × Bool × Int × Int)) × Int × Int × Int × Int × Bool)) ⊕ (List (Int × Bool × Int × List Int))) := fun (soft, out, _, t27, t28, r0, x0) =>
 bif decide (t28 < t27) then
  bif inBounds t28 x0.2.2.2.2.2.2.2.1.length then
   bif t28 == 0 then
    some (.inl (soft, out, x0.2.2.2.2.2.2.2.1, t27, wr (t28 + 1), r0, x0))
   else
    bif (x0.2.2.2.2.2.2.2.1.getD t28.toNat (0, 0, false, 0, 0)).1 == 0 then
     some (.inl (soft, out, x0.2.2.2.2.2.2.2.1, t27, wr (t28 + 1), r0, x0))
    else
     bif (x0.2.2.2.2.2.2.2.1.getD t28.toNat (0, 0, false, 0, 0)).1 == 4 then
      some (.inl (soft, out, x0.2.2.2.2.2.2.2.1, t27, wr (t28 + 1), r0, x0))
     else
      bif inBounds (wr (t28 - 1)) x0.2.2.2.2.2.2.2.1.length then
       bif (decide (0 ≤ (wr ((x0.2.2.2.2.2.2.2.1.getD (wr (t28 - 1)).toNat (0, 0, false, 0, 0)).2.1 + (r0.1.length : Int))))) && ((decide ((wr ((x0.2.2.2.2.2.2.2.1.getD (wr (t28 - 1)).toNat (0, 0, false, 0, 0)).2.1 + (r0.1.length : Int))) ≤ (x0.2.2.2.2.2.2.2.1.getD t28.toNat (0, 0, false, 0, 0)).2.1)) && (decide ((x0.2.2.2.2.2.2.2.1.getD t28.toNat (0, 0, false, 0, 0)).2.1 ≤ (soft.length : Int)))) then
        optE (cloneF ((soft.take (x0.2.2.2.2.2.2.2.1.getD t28.toNat (0, 0, false, 0, 0)).2.1.toNat).drop (wr ((x0.2.2.2.2.2.2.2.1.getD (wr (t28 - 1)).toNat (0, 0, false, 0, 0)).2.1 + (r0.1.length : Int))).toNat)) (fun r8 =>
         bif (x0.2.2.2.2.2.2.2.1.getD (wr (t28 - 1)).toNat (0, 0, false, 0, 0)).2.2.1 then
          optE (loopVal step21_2 (soft, out, x0.2.2.2.2.2.2.2.1, t27, t28, (r8.length : Int), 0, r0, x0, ((x0.2.2.2.2.2.2.2.1.getD (wr (t28 - 1)).toNat (0, 0, false, 0, 0)).2.1, (x0.2.2.2.2.2.2.2.1.getD (wr (t28 - 1)).toNat (0, 0, false, 0, 0)).2.2.1, (x0.2.2.2.2.2.2.2.1.getD t28.toNat (0, 0, false, 0, 0)).2.2.2.2, r8))) (fun e9 =>
           bif room 48 (e9.2.1.length + 1) then
            some (.inl (e9.1, e9.2.1 ++ [e9.2.2.2.2.2.2.2], e9.2.2.2.2.2.2.1.2.2.2.2.2.2.2.1, e9.2.2.2.1, wr (e9.2.2.2.2.1 + 1), e9.2.2.2.2.2.1, e9.2.2.2.2.2.2.1))
           else
            none)
           (none)
         else
          bif room 48 (out.length + 1) then
           some (.inl (soft, out ++ [((x0.2.2.2.2.2.2.2.1.getD (wr (t28 - 1)).toNat (0, 0, false, 0, 0)).2.1, (x0.2.2.2.2.2.2.2.1.getD (wr (t28 - 1)).toNat (0, 0, false, 0, 0)).2.2.1, (x0.2.2.2.2.2.2.2.1.getD t28.toNat (0, 0, false, 0, 0)).2.2.2.2, r8)], x0.2.2.2.2.2.2.2.1, t27, wr (t28 + 1), r0, x0))
          else
           none)
         (none)
       else
        none
      else
       none
  else
   none
 else
  some (.inr out)
theorem one21_0 : oneLoop Try.prog 21 0 = true := by kernel_rfl
theorem lp21_0 : ItemOk Try.prog (.loop 21 0 T21_0 X21_0 (loopVal step21_0)) := item_loopM md4 ext4 (U := 9) (n := 11) noSpecial mixed Gp5K29_ok one21_0 (fun x => by kernel_rfl)
noncomputable def Gp5K30 : List Ev.Item := .loop 21 0 T21_0 X21_0 (loopVal step21_0) :: Gp5K29
theorem Gp5K30_ok : ∀ q ∈ Gp5K30, ItemOk Try.prog q := items_cons lp21_0 Gp5K29_ok
noncomputable def s21 : ((List Int) × Int × Int × Int × Int × Int) × (List Int) → Option ((List (Int × Bool × Int × List Int)) × Int) := fun (r0, soft) =>
 optE (s76 r0) (fun r1 =>
  optE (s77 soft) (fun r2 =>
   optE (s37 [r1, r2]) (fun r3 =>
    bif r3 != 0 then
     bif r3 != 0 then
      bif r3 != 0 then
       some (([], r3))
      else
       none
     else
      optE ((fun x => loopVal (stepF S44_0b) (0, x)) (soft, r0)) (fun _ =>
       none)
       (none)
    else
     optE ((fun x => loopVal (stepF S44_0c) (0, x)) (soft, (r0.1, r0.2.1, r0.2.2.1, r0.2.2.2.1, r0.2.2.2.2.1, r0.2.2.2.2.2, soft, [], 0, 0, 0, 0, false), r0)) (fun e5 =>
      optE (loopVal step21_0 (e5.1, [], e5.2.1.2.2.2.2.2.2.2.1, (e5.2.1.2.2.2.2.2.2.2.1.length : Int), 0, e5.2.2, e5.2.1)) (fun e6 =>
       some ((e6, 0)))
       (none))
      (none))
    (none))
   (none))
  (none)
theorem i21 : ItemOk Try.prog (.fn 21 [.d (.agg (.pair (.slice zI) (.pair zI zF))), .d (.slice zI)] [.own 90 (.agg (.pair zI (.pair .bool (.pair zI (.slice zI))))), .d zI] s21) := item_fnM md4 ext4 (U := 9) (n := 12) noSpecial mixed Gp5K30_ok (fun x => by kernel_rfl)
noncomputable def Gp5K31 : List Ev.Item := .fn 21 [.d (.agg (.pair (.slice zI) (.pair zI zF))), .d (.slice zI)] [.own 90 (.agg (.pair zI (.pair .bool (.pair zI (.slice zI))))), .d zI] s21 :: Gp5K30
theorem Gp5K31_ok : ∀ q ∈ Gp5K31, ItemOk Try.prog q := items_cons i21 Gp5K30_ok
end Go.Proofs.Ythckjfbhdjjnkaa
