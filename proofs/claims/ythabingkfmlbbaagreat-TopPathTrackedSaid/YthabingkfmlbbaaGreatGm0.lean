/- Printed by gen.py: specifications of functions. -/
import Derived.Test.YthabingkfmlbbaaGreatGma
set_option linter.unusedSimpArgs false
set_option maxRecDepth 100000
namespace Go.Proofs.YthabingkfmlbbaaGreat
open Go.Ev
noncomputable def Gm0K1 : List Ev.Item := .fn 48 [.d zI, .d zI, .d zI] [.d .bool] s48 :: ([] : List Ev.Item)
theorem Gm0K1_ok : ∀ q ∈ Gm0K1, ItemOk Tryz.prog q := items_cons i48 items_nil
noncomputable def Gm0K2 : List Ev.Item := .fn 57 [.d (.agg (.pair (.slice (.agg zF)) zI))] [.d zI] s57 :: Gm0K1
theorem Gm0K2_ok : ∀ q ∈ Gm0K2, ItemOk Tryz.prog q := items_cons i57 Gm0K1_ok
noncomputable def Gm0K3 : List Ev.Item := .fn 47 [.d .bool, .d zI] [.d zI] s47 :: Gm0K2
theorem Gm0K3_ok : ∀ q ∈ Gm0K3, ItemOk Tryz.prog q := items_cons i47 Gm0K2_ok
noncomputable def Gm0K4 : List Ev.Item := .fn 95 [.d zI, .d zI] [.d .bool] s95 :: Gm0K3
theorem Gm0K4_ok : ∀ q ∈ Gm0K4, ItemOk Tryz.prog q := items_cons i95 Gm0K3_ok
noncomputable def Gm0K5 : List Ev.Item := .fn 59 [.d (.agg (.pair zI zP))] [.d (.agg (.pair zI zP))] s59 :: Gm0K4
theorem Gm0K5_ok : ∀ q ∈ Gm0K5, ItemOk Tryz.prog q := items_cons i59 Gm0K4_ok
noncomputable def Gm0K6 : List Ev.Item := .fn 102 [.d (.int .u64), .d (.int .u64)] [.d (.int .u64), .d (.int .u64)] s102 :: Gm0K5
theorem Gm0K6_ok : ∀ q ∈ Gm0K6, ItemOk Tryz.prog q := items_cons i102 Gm0K5_ok
noncomputable def Gm0K7 : List Ev.Item := .fn 79 [.d zI] [.d (.agg (.pair (.int .u64) (.int .u64)))] s79 :: Gm0K6
theorem Gm0K7_ok : ∀ q ∈ Gm0K7, ItemOk Tryz.prog q := items_cons i79 Gm0K6_ok
noncomputable def Gm0K8 : List Ev.Item := .fn 60 [.d (.agg (.pair zI zP)), .d (.agg (.pair zI zP))] [.d (.agg (.pair zI zP))] s60 :: Gm0K7
theorem Gm0K8_ok : ∀ q ∈ Gm0K8, ItemOk Tryz.prog q := items_cons i60 Gm0K7_ok
noncomputable def Gm0K9 : List Ev.Item := .fn 89 [.d (.agg (.pair zI zP)), .d (.agg (.pair zI zP))] [.d zI] s89 :: Gm0K8
theorem Gm0K9_ok : ∀ q ∈ Gm0K9, ItemOk Tryz.prog q := items_cons i89 Gm0K8_ok
noncomputable def Gm0K10 : List Ev.Item := .fn 78 [.d (.agg (.pair (.int .u64) (.int .u64))), .d (.agg (.pair (.int .u64) (.int .u64)))] [.d .bool] s78 :: Gm0K9
theorem Gm0K10_ok : ∀ q ∈ Gm0K10, ItemOk Tryz.prog q := items_cons i78 Gm0K9_ok
noncomputable def Gm0K11 : List Ev.Item := .fn 107 [.d (.agg (.pair (.int .u64) (.int .u64))), .d (.agg (.pair (.int .u64) (.int .u64)))] [.d (.agg (.pair (.int .u64) (.int .u64)))] s107 :: Gm0K10
theorem Gm0K11_ok : ∀ q ∈ Gm0K11, ItemOk Tryz.prog q := items_cons i107 Gm0K10_ok
noncomputable def Gm0K12 : List Ev.Item := .fn 4 [] [.d .bool] (fun _ => some true) :: Gm0K11
theorem Gm0K12_ok : ∀ q ∈ Gm0K12, ItemOk Tryz.prog q := items_cons i4 Gm0K11_ok
@[reducible] def T46_0 : Tmpl := ⟨15, [], [.val 5 (.slice zI), .val 6 zI, .val 7 zI], [], none⟩
@[reducible] def X46_0 : List (Ex × Tmpl) := [(.ret, ⟨15, [], [.val 2 zI], [], none⟩), (.exit 0, ⟨15, [], [], [], none⟩)]
noncomputable def step46_0 : (List Int) × Int × Int → Option (((List Int) × Int × Int) ⊕ ((Int) ⊕ (Unit))) := fun (t5, t6, t7) =>
 bif decide (t7 < t6) then
  bif inBounds t7 t5.length then
   bif (t5.getD t7.toNat 0) != 0 then
    some (.inr (.inl (t5.getD t7.toNat 0)))
   else
    some (.inl (t5, t6, wr (t7 + 1)))
  else
   none
 else
  some (.inr (.inr ()))
theorem one46_0 : oneLoop Tryz.prog 46 0 = true := by kernel_rfl
theorem lp46_0 : ItemOk Tryz.prog (.loop 46 0 T46_0 X46_0 (loopVal step46_0)) := item_loopM md5 ext5 (U := 9) (n := 11) noSpecial mixed Gm0K12_ok one46_0 (fun x => by kernel_rfl)
noncomputable def Gm0K13 : List Ev.Item := .loop 46 0 T46_0 X46_0 (loopVal step46_0) :: Gm0K12
theorem Gm0K13_ok : ∀ q ∈ Gm0K13, ItemOk Tryz.prog q := items_cons lp46_0 Gm0K12_ok
noncomputable def s46 : List Int → Option (Int) := fun l =>
 optE (loopVal step46_0 (l, (l.length : Int), 0)) (fun e1 =>
  sumE e1 (fun e2 =>
   some (e2)) (fun _ =>
   some (0)))
  (none)
theorem i46 : ItemOk Tryz.prog (.fn 46 [.d (.slice zI)] [.d zI] s46) := item_fnM md5 ext5 (U := 9) (n := 12) noSpecial mixed Gm0K13_ok (fun x => by kernel_rfl)
noncomputable def Gm0K14 : List Ev.Item := .fn 46 [.d (.slice zI)] [.d zI] s46 :: Gm0K13
theorem Gm0K14_ok : ∀ q ∈ Gm0K14, ItemOk Tryz.prog q := items_cons i46 Gm0K13_ok
noncomputable def s71 : Int × (Int × Int) × Int × Int → Option (Int) := fun d =>
 optE (s48 (d.1, 1, 3600)) (fun r1 =>
  bif r1 then
   optE (s95 (d.2.1.1, 20000)) (fun r2 =>
    bif r2 then
     optE (s95 (d.2.1.2, 20000)) (fun r3 =>
      bif r3 then
       optE (s48 (d.2.2.2, 0, 40000)) (fun r4 =>
        optE (s47 (r4, 2)) (fun r5 =>
         optE (s47 (decide (d.2.1.1 ≤ d.2.1.2), 9)) (fun r6 =>
          optE (s48 (d.2.2.1, d.2.1.1, d.2.1.2)) (fun r7 =>
           optE (s47 (r7, 2)) (fun r8 =>
            optE (s46 [r5, r6, r8]) (fun r9 =>
             some (r9))
             (none))
            (none))
           (none))
          (none))
         (none))
        (none)
      else
       optE (s47 (false, 2)) (fun r10 =>
        optE (s47 (decide (d.2.1.1 ≤ d.2.1.2), 9)) (fun r11 =>
         optE (s48 (d.2.2.1, d.2.1.1, d.2.1.2)) (fun r12 =>
          optE (s47 (r12, 2)) (fun r13 =>
           optE (s46 [r10, r11, r13]) (fun r14 =>
            some (r14))
            (none))
           (none))
          (none))
         (none))
        (none))
      (none)
    else
     optE (s47 (false, 2)) (fun r15 =>
      optE (s47 (decide (d.2.1.1 ≤ d.2.1.2), 9)) (fun r16 =>
       optE (s48 (d.2.2.1, d.2.1.1, d.2.1.2)) (fun r17 =>
        optE (s47 (r17, 2)) (fun r18 =>
         optE (s46 [r15, r16, r18]) (fun r19 =>
          some (r19))
          (none))
         (none))
        (none))
       (none))
      (none))
    (none)
  else
   optE (s47 (false, 2)) (fun r20 =>
    optE (s47 (decide (d.2.1.1 ≤ d.2.1.2), 9)) (fun r21 =>
     optE (s48 (d.2.2.1, d.2.1.1, d.2.1.2)) (fun r22 =>
      optE (s47 (r22, 2)) (fun r23 =>
       optE (s46 [r20, r21, r23]) (fun r24 =>
        some (r24))
        (none))
       (none))
      (none))
     (none))
    (none))
  (none)
theorem i71 : ItemOk Tryz.prog (.fn 71 [.d (.agg (.pair zI (.pair zP zP)))] [.d zI] s71) := item_fnM md5 ext5 (U := 9) (n := 12) noSpecial mixed Gm0K14_ok (fun x => by kernel_rfl)
noncomputable def Gm0K15 : List Ev.Item := .fn 71 [.d (.agg (.pair zI (.pair zP zP)))] [.d zI] s71 :: Gm0K14
theorem Gm0K15_ok : ∀ q ∈ Gm0K15, ItemOk Tryz.prog q := items_cons i71 Gm0K14_ok
@[reducible] def T96_0 : Tmpl := ⟨19, [], [.val 0 (.slice zI), .val 1 (.clo 73 (.pair (.ptr (.pair zI zF)) .unit)), .val 7 zI, .val 8 zI], [], none⟩
@[reducible] def X96_0 : List (Ex × Tmpl) := [(.ret, ⟨19, [], [.val 4 zI], [], none⟩), (.exit 0, ⟨19, [], [], [], none⟩)]
noncomputable def step96_0 : (List Int) × ((Int × Int × Int × Int × Int) × Unit) × Int × Int → Option (((List Int) × ((Int × Int × Int × Int × Int) × Unit) × Int × Int) ⊕ ((Int) ⊕ (Unit))) := fun (s, f, t7, t8) =>
 bif decide (t8 < t7) then
  bif inBounds t8 s.length then
   optE (s48 (s.getD t8.toNat 0, 0, wr (f.1.1 - 1))) (fun r4 =>
    bif !r4 then
     some (.inr (.inl t8))
    else
     some (.inl (s, f, t7, wr (t8 + 1))))
    (none)
  else
   none
 else
  some (.inr (.inr ()))
theorem one96_0 : oneLoop Tryz.prog 96 0 = true := by kernel_rfl
theorem lp96_0 : ItemOk Tryz.prog (.loop 96 0 T96_0 X96_0 (loopVal step96_0)) := item_loopM md5 ext5 (U := 9) (n := 9) noSpecial mixed Gm0K15_ok one96_0 (fun x => by kernel_rfl)
noncomputable def Gm0K16 : List Ev.Item := .loop 96 0 T96_0 X96_0 (loopVal step96_0) :: Gm0K15
theorem Gm0K16_ok : ∀ q ∈ Gm0K16, ItemOk Tryz.prog q := items_cons lp96_0 Gm0K15_ok
noncomputable def s40 : (Int × (Int × Int) × Int × Int) × (List Int) → Option (Int) := fun (d, targets) =>
 optE (s71 d) (fun r1 =>
  optE (s47 (decide ((targets.length : Int) ≤ 40), 8)) (fun r2 =>
   optE (s46 [r1, r2]) (fun r3 =>
    bif r3 != 0 then
     some (r3)
    else
     optE (loopVal step96_0 (targets, ((d.1, d.2.1.1, d.2.1.2, d.2.2.1, d.2.2.2), ()), (targets.length : Int), 0)) (fun e4 =>
      sumE e4 (fun e5 =>
       optE (s47 (!(decide (e5 ≥ 0)), 2)) (fun r7 =>
        some (r7))
        (none)) (fun _ =>
       optE (s47 (true, 2)) (fun r8 =>
        some (r8))
        (none)))
      (none))
    (none))
   (none))
  (none)
theorem i40 : ItemOk Tryz.prog (.fn 40 [.d (.agg (.pair zI (.pair zP zP))), .d (.slice zI)] [.d zI] s40) := item_fnM md5 ext5 (U := 9) (n := 12) noSpecial mixed Gm0K16_ok (fun x => by kernel_rfl)
noncomputable def Gm0K17 : List Ev.Item := .fn 40 [.d (.agg (.pair zI (.pair zP zP))), .d (.slice zI)] [.d zI] s40 :: Gm0K16
theorem Gm0K17_ok : ∀ q ∈ Gm0K17, ItemOk Tryz.prog q := items_cons i40 Gm0K16_ok
@[reducible] def T19_0 : Tmpl := ⟨81, [(3, .ref 3 0 0 0)], [.val 1 (.slice zI), .val 9 zI, .val 10 zI, .val 31 (.slice zI), .val 32 zI, .val 33 zI, .cells 3 [.d (.pair zI (.pair zP zP))]], [], none⟩
@[reducible] def X19_0 : List (Ex × Tmpl) := [(.ret, ⟨81, [], [.val 6 zI, .val 7 zI], [], none⟩), (.exit 0, ⟨81, [], [.val 9 zI], [], none⟩)]
noncomputable def step19_0 : (List Int) × Int × Int × (List Int) × Int × Int × (Int × (Int × Int) × Int × Int) → Option (((List Int) × Int × Int × (List Int) × Int × Int × (Int × (Int × Int) × Int × Int)) ⊕ ((Int × Int) ⊕ (Int))) := fun (targets, travel, now, t31, t32, t33, d) =>
 bif decide (t33 < t32) then
  bif inBounds t33 t31.length then
   optE (s48 (t31.getD t33.toNat 0, d.2.1.1, d.2.1.2)) (fun r4 =>
    bif !r4 then
     some (.inr (.inl (0, 23)))
    else
     bif inBounds t33 targets.length then
      bif !(d.1 == 0) then
       optE (s47 ((Int.tmod (wr ((t31.getD t33.toNat 0) - (targets.getD t33.toNat 0))) d.1) == 0, 13)) (fun r5 =>
        optE (s47 (decide ((mx (wr ((t31.getD t33.toNat 0) - now)) (wr (now - (t31.getD t33.toNat 0)))) ≤ d.2.2.2), 24)) (fun r6 =>
         optE (s46 [r5, r6]) (fun r7 =>
          bif r7 != 0 then
           some (.inr (.inl (0, r7)))
          else
           some (.inl (targets, wr (travel + (mx (wr ((t31.getD t33.toNat 0) - now)) (wr (now - (t31.getD t33.toNat 0))))), t31.getD t33.toNat 0, t31, t32, wr (t33 + 1), d)))
          (none))
         (none))
        (none)
      else
       none
     else
      none)
    (none)
  else
   none
 else
  some (.inr (.inr travel))
theorem one19_0 : oneLoop Tryz.prog 19 0 = true := by kernel_rfl
theorem lp19_0 : ItemOk Tryz.prog (.loop 19 0 T19_0 X19_0 (loopVal step19_0)) := item_loopM md5 ext5 (U := 9) (n := 11) noSpecial mixed Gm0K17_ok one19_0 (fun x => by kernel_rfl)
noncomputable def Gm0K18 : List Ev.Item := .loop 19 0 T19_0 X19_0 (loopVal step19_0) :: Gm0K17
theorem Gm0K18_ok : ∀ q ∈ Gm0K18, ItemOk Tryz.prog q := items_cons lp19_0 Gm0K17_ok
noncomputable def s19 : (Int × (Int × Int) × Int × Int) × (List Int) × (List Int) → Option (Int × Int) := fun (d, targets, positions) =>
 optE (s40 (d, targets)) (fun r1 =>
  optE (s47 ((positions.length : Int) == (targets.length : Int), 10)) (fun r2 =>
   optE (s46 [r1, r2]) (fun r3 =>
    bif r3 != 0 then
     some ((0, r3))
    else
     optE (loopVal step19_0 (targets, 0, d.2.2.1, positions, (positions.length : Int), 0, d)) (fun e4 =>
      sumE e4 (fun e5 =>
       some (e5)) (fun e6 =>
       some ((e6, 0))))
      (none))
    (none))
   (none))
  (none)
theorem i19 : ItemOk Tryz.prog (.fn 19 [.d (.agg (.pair zI (.pair zP zP))), .d (.slice zI), .d (.slice zI)] [.d zI, .d zI] s19) := item_fnM md5 ext5 (U := 9) (n := 12) noSpecial mixed Gm0K18_ok (fun x => by kernel_rfl)
noncomputable def Gm0K19 : List Ev.Item := .fn 19 [.d (.agg (.pair zI (.pair zP zP))), .d (.slice zI), .d (.slice zI)] [.d zI, .d zI] s19 :: Gm0K18
theorem Gm0K19_ok : ∀ q ∈ Gm0K19, ItemOk Tryz.prog q := items_cons i19 Gm0K18_ok
noncomputable def s27 : Int × Int × Int → Option (Bool) := fun (n, lo, hi) =>
 bif decide (lo ≤ n) then
  some (decide (n ≤ hi))
 else
  some (false)
theorem i27 : ItemOk Tryz.prog (.fn 27 [.d zI, .d zI, .d zI] [.d .bool] s27) := item_fnM md5 ext5 (U := 9) (n := 12) noSpecial mixed Gm0K19_ok (fun x => by kernel_rfl)
noncomputable def Gm0K20 : List Ev.Item := .fn 27 [.d zI, .d zI, .d zI] [.d .bool] s27 :: Gm0K19
theorem Gm0K20_ok : ∀ q ∈ Gm0K20, ItemOk Tryz.prog q := items_cons i27 Gm0K19_ok
noncomputable def s7 : Int × (Int × Int) × Int × Int → Option (Int) := fun d =>
 optE (s27 (d.1, 1, 3600)) (fun r1 =>
  bif !r1 then
   some (2)
  else
   optE (s27 (d.2.1.1, (-20000), 20000)) (fun r2 =>
    bif !r2 then
     some (2)
    else
     optE (s27 (d.2.1.2, (-20000), 20000)) (fun r3 =>
      bif !r3 then
       some (2)
      else
       optE (s27 (d.2.2.2, 0, 40000)) (fun r4 =>
        bif !r4 then
         some (2)
        else
         bif decide (d.2.1.1 > d.2.1.2) then
          some (9)
         else
          optE (s27 (d.2.2.1, d.2.1.1, d.2.1.2)) (fun r5 =>
           bif !r5 then
            some (2)
           else
            some (0))
           (none))
        (none))
      (none))
    (none))
  (none)
theorem i7 : ItemOk Tryz.prog (.fn 7 [.d (.agg (.pair zI (.pair zP zP)))] [.d zI] s7) := item_fnM md5 ext5 (U := 9) (n := 12) noSpecial mixed Gm0K20_ok (fun x => by kernel_rfl)
noncomputable def Gm0K21 : List Ev.Item := .fn 7 [.d (.agg (.pair zI (.pair zP zP)))] [.d zI] s7 :: Gm0K20
theorem Gm0K21_ok : ∀ q ∈ Gm0K21, ItemOk Tryz.prog q := items_cons i7 Gm0K20_ok
noncomputable def s17 : List Int → Option (List Int) := fun l =>
 bif room 8 (0 + l.length) then
  some (l)
 else
  none
theorem i17 : ItemOk Tryz.prog (.fn 17 [.d (.slice zI)] [.own 3 zI] s17) := item_fnM md5 ext5 (U := 9) (n := 12) noSpecial mixed Gm0K21_ok (fun x => by kernel_rfl)
noncomputable def Gm0K22 : List Ev.Item := .fn 17 [.d (.slice zI)] [.own 3 zI] s17 :: Gm0K21
theorem Gm0K22_ok : ∀ q ∈ Gm0K22, ItemOk Tryz.prog q := items_cons i17 Gm0K21_ok
end Go.Proofs.YthabingkfmlbbaaGreat
