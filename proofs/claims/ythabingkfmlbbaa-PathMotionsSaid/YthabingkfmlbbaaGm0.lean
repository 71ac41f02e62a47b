/- Printed by gen.py: specifications of functions. -/
import Derived.Test.YthabingkfmlbbaaGma
set_option linter.unusedSimpArgs false
set_option maxRecDepth 100000
namespace Go.Proofs.Ythabingkfmlbbaa
open Go.Ev
noncomputable def Gm0K1 : List Ev.Item := .fn 24 [.d zI, .d zI, .d zI] [.d .bool] s24 :: ([] : List Ev.Item)
theorem Gm0K1_ok : ∀ q ∈ Gm0K1, ItemOk Try.prog q := items_cons i24 items_nil
noncomputable def Gm0K2 : List Ev.Item := .fn 49 [.d (.agg (.pair (.slice (.agg zF)) zI))] [.d zI] s49 :: Gm0K1
theorem Gm0K2_ok : ∀ q ∈ Gm0K2, ItemOk Try.prog q := items_cons i49 Gm0K1_ok
noncomputable def Gm0K3 : List Ev.Item := .fn 27 [.d .bool, .d zI] [.d zI] s27 :: Gm0K2
theorem Gm0K3_ok : ∀ q ∈ Gm0K3, ItemOk Try.prog q := items_cons i27 Gm0K2_ok
noncomputable def Gm0K4 : List Ev.Item := .fn 25 [.d zI, .d zI] [.d .bool] s25 :: Gm0K3
theorem Gm0K4_ok : ∀ q ∈ Gm0K4, ItemOk Try.prog q := items_cons i25 Gm0K3_ok
noncomputable def Gm0K5 : List Ev.Item := .fn 69 [.d (.agg (.pair zI zP))] [.d (.agg (.pair zI zP))] s69 :: Gm0K4
theorem Gm0K5_ok : ∀ q ∈ Gm0K5, ItemOk Try.prog q := items_cons i69 Gm0K4_ok
noncomputable def Gm0K6 : List Ev.Item := .fn 74 [.d (.int .u64), .d (.int .u64)] [.d (.int .u64), .d (.int .u64)] s74 :: Gm0K5
theorem Gm0K6_ok : ∀ q ∈ Gm0K6, ItemOk Try.prog q := items_cons i74 Gm0K5_ok
noncomputable def Gm0K7 : List Ev.Item := .fn 55 [.d zI] [.d (.agg (.pair (.int .u64) (.int .u64)))] s55 :: Gm0K6
theorem Gm0K7_ok : ∀ q ∈ Gm0K7, ItemOk Try.prog q := items_cons i55 Gm0K6_ok
noncomputable def Gm0K8 : List Ev.Item := .fn 70 [.d (.agg (.pair zI zP)), .d (.agg (.pair zI zP))] [.d (.agg (.pair zI zP))] s70 :: Gm0K7
theorem Gm0K8_ok : ∀ q ∈ Gm0K8, ItemOk Try.prog q := items_cons i70 Gm0K7_ok
noncomputable def Gm0K9 : List Ev.Item := .fn 78 [.d (.agg (.pair zI zP)), .d (.agg (.pair zI zP))] [.d zI] s78 :: Gm0K8
theorem Gm0K9_ok : ∀ q ∈ Gm0K9, ItemOk Try.prog q := items_cons i78 Gm0K8_ok
noncomputable def Gm0K10 : List Ev.Item := .fn 54 [.d (.agg (.pair (.int .u64) (.int .u64))), .d (.agg (.pair (.int .u64) (.int .u64)))] [.d .bool] s54 :: Gm0K9
theorem Gm0K10_ok : ∀ q ∈ Gm0K10, ItemOk Try.prog q := items_cons i54 Gm0K9_ok
noncomputable def Gm0K11 : List Ev.Item := .fn 79 [.d (.agg (.pair (.int .u64) (.int .u64))), .d (.agg (.pair (.int .u64) (.int .u64)))] [.d (.agg (.pair (.int .u64) (.int .u64)))] s79 :: Gm0K10
theorem Gm0K11_ok : ∀ q ∈ Gm0K11, ItemOk Try.prog q := items_cons i79 Gm0K10_ok
noncomputable def Gm0K12 : List Ev.Item := .fn 5 [] [.d .bool] (fun _ => some true) :: Gm0K11
theorem Gm0K12_ok : ∀ q ∈ Gm0K12, ItemOk Try.prog q := items_cons i5 Gm0K11_ok
@[reducible] def T26_0 : Tmpl := ⟨15, [], [.val 5 (.slice zI), .val 6 zI, .val 7 zI], [], none⟩
@[reducible] def X26_0 : List (Ex × Tmpl) := [(.ret, ⟨15, [], [.val 2 zI], [], none⟩), (.exit 0, ⟨15, [], [], [], none⟩)]
noncomputable def step26_0 : (List Int) × Int × Int → Option (((List Int) × Int × Int) ⊕ ((Int) ⊕ (Unit))) := fun (t5, t6, t7) =>
 bif decide (t7 < t6) then
  bif inBounds t7 t5.length then
   bif (t5.getD t7.toNat 0) != 0 then
    some (.inr (.inl (t5.getD t7.toNat 0)))
   else
    some (.inl (t5, t6, wr (t7 + 1)))
  else
   none
 else
  some (.inr (.inr ()))
theorem one26_0 : oneLoop Try.prog 26 0 = true := by kernel_rfl
theorem lp26_0 : ItemOk Try.prog (.loop 26 0 T26_0 X26_0 (loopVal step26_0)) := item_loopM md5 ext5 (U := 9) (n := 11) noSpecial mixed Gm0K12_ok one26_0 (fun x => by kernel_rfl)
noncomputable def Gm0K13 : List Ev.Item := .loop 26 0 T26_0 X26_0 (loopVal step26_0) :: Gm0K12
theorem Gm0K13_ok : ∀ q ∈ Gm0K13, ItemOk Try.prog q := items_cons lp26_0 Gm0K12_ok
noncomputable def s26 : List Int → Option (Int) := fun l =>
 optE (loopVal step26_0 (l, (l.length : Int), 0)) (fun e1 =>
  sumE e1 (fun e2 =>
   some (e2)) (fun _ =>
   some (0)))
  (none)
theorem i26 : ItemOk Try.prog (.fn 26 [.d (.slice zI)] [.d zI] s26) := item_fnM md5 ext5 (U := 9) (n := 12) noSpecial mixed Gm0K13_ok (fun x => by kernel_rfl)
noncomputable def Gm0K14 : List Ev.Item := .fn 26 [.d (.slice zI)] [.d zI] s26 :: Gm0K13
theorem Gm0K14_ok : ∀ q ∈ Gm0K14, ItemOk Try.prog q := items_cons i26 Gm0K13_ok
noncomputable def s7 : Int × (Int × Int) × Int × Int → Option (Int) := fun d =>
 optE (s24 (d.1, 1, 3600)) (fun r1 =>
  bif r1 then
   optE (s25 (d.2.1.1, 20000)) (fun r2 =>
    bif r2 then
     optE (s25 (d.2.1.2, 20000)) (fun r3 =>
      bif r3 then
       optE (s24 (d.2.2.2, 0, 40000)) (fun r4 =>
        optE (s27 (r4, 2)) (fun r5 =>
         optE (s27 (decide (d.2.1.1 ≤ d.2.1.2), 9)) (fun r6 =>
          optE (s24 (d.2.2.1, d.2.1.1, d.2.1.2)) (fun r7 =>
           optE (s27 (r7, 2)) (fun r8 =>
            optE (s26 [r5, r6, r8]) (fun r9 =>
             some (r9))
             (none))
            (none))
           (none))
          (none))
         (none))
        (none)
      else
       optE (s27 (false, 2)) (fun r10 =>
        optE (s27 (decide (d.2.1.1 ≤ d.2.1.2), 9)) (fun r11 =>
         optE (s24 (d.2.2.1, d.2.1.1, d.2.1.2)) (fun r12 =>
          optE (s27 (r12, 2)) (fun r13 =>
           optE (s26 [r10, r11, r13]) (fun r14 =>
            some (r14))
            (none))
           (none))
          (none))
         (none))
        (none))
      (none)
    else
     optE (s27 (false, 2)) (fun r15 =>
      optE (s27 (decide (d.2.1.1 ≤ d.2.1.2), 9)) (fun r16 =>
       optE (s24 (d.2.2.1, d.2.1.1, d.2.1.2)) (fun r17 =>
        optE (s27 (r17, 2)) (fun r18 =>
         optE (s26 [r15, r16, r18]) (fun r19 =>
          some (r19))
          (none))
         (none))
        (none))
       (none))
      (none))
    (none)
  else
   optE (s27 (false, 2)) (fun r20 =>
    optE (s27 (decide (d.2.1.1 ≤ d.2.1.2), 9)) (fun r21 =>
     optE (s24 (d.2.2.1, d.2.1.1, d.2.1.2)) (fun r22 =>
      optE (s27 (r22, 2)) (fun r23 =>
       optE (s26 [r20, r21, r23]) (fun r24 =>
        some (r24))
        (none))
       (none))
      (none))
     (none))
    (none))
  (none)
theorem i7 : ItemOk Try.prog (.fn 7 [.d (.agg (.pair zI (.pair zP zP)))] [.d zI] s7) := item_fnM md5 ext5 (U := 9) (n := 12) noSpecial mixed Gm0K14_ok (fun x => by kernel_rfl)
noncomputable def Gm0K15 : List Ev.Item := .fn 7 [.d (.agg (.pair zI (.pair zP zP)))] [.d zI] s7 :: Gm0K14
theorem Gm0K15_ok : ∀ q ∈ Gm0K15, ItemOk Try.prog q := items_cons i7 Gm0K14_ok
@[reducible] def T61_0 : Tmpl := ⟨19, [], [.val 0 (.slice zI), .val 1 (.clo 42 (.pair (.ptr (.pair zI zF)) .unit)), .val 7 zI, .val 8 zI], [], none⟩
@[reducible] def X61_0 : List (Ex × Tmpl) := [(.ret, ⟨19, [], [.val 4 zI], [], none⟩), (.exit 0, ⟨19, [], [], [], none⟩)]
noncomputable def step61_0 : (List Int) × ((Int × Int × Int × Int × Int) × Unit) × Int × Int → Option (((List Int) × ((Int × Int × Int × Int × Int) × Unit) × Int × Int) ⊕ ((Int) ⊕ (Unit))) := fun (s, f, t7, t8) =>
 bif decide (t8 < t7) then
  bif inBounds t8 s.length then
   optE (s24 (s.getD t8.toNat 0, 0, wr (f.1.1 - 1))) (fun r4 =>
    bif !r4 then
     some (.inr (.inl t8))
    else
     some (.inl (s, f, t7, wr (t8 + 1))))
    (none)
  else
   none
 else
  some (.inr (.inr ()))
theorem one61_0 : oneLoop Try.prog 61 0 = true := by kernel_rfl
theorem lp61_0 : ItemOk Try.prog (.loop 61 0 T61_0 X61_0 (loopVal step61_0)) := item_loopM md5 ext5 (U := 9) (n := 9) noSpecial mixed Gm0K15_ok one61_0 (fun x => by kernel_rfl)
noncomputable def Gm0K16 : List Ev.Item := .loop 61 0 T61_0 X61_0 (loopVal step61_0) :: Gm0K15
theorem Gm0K16_ok : ∀ q ∈ Gm0K16, ItemOk Try.prog q := items_cons lp61_0 Gm0K15_ok
noncomputable def s28 : (Int × (Int × Int) × Int × Int) × (List Int) → Option (Int) := fun (d, targets) =>
 optE (s7 d) (fun r1 =>
  optE (s27 (decide ((targets.length : Int) ≤ 40), 8)) (fun r2 =>
   optE (s26 [r1, r2]) (fun r3 =>
    bif r3 != 0 then
     some (r3)
    else
     optE (loopVal step61_0 (targets, ((d.1, d.2.1.1, d.2.1.2, d.2.2.1, d.2.2.2), ()), (targets.length : Int), 0)) (fun e4 =>
      sumE e4 (fun e5 =>
       optE (s27 (!(decide (e5 ≥ 0)), 2)) (fun r7 =>
        some (r7))
        (none)) (fun _ =>
       optE (s27 (true, 2)) (fun r8 =>
        some (r8))
        (none)))
      (none))
    (none))
   (none))
  (none)
theorem i28 : ItemOk Try.prog (.fn 28 [.d (.agg (.pair zI (.pair zP zP))), .d (.slice zI)] [.d zI] s28) := item_fnM md5 ext5 (U := 9) (n := 12) noSpecial mixed Gm0K16_ok (fun x => by kernel_rfl)
noncomputable def Gm0K17 : List Ev.Item := .fn 28 [.d (.agg (.pair zI (.pair zP zP))), .d (.slice zI)] [.d zI] s28 :: Gm0K16
theorem Gm0K17_ok : ∀ q ∈ Gm0K17, ItemOk Try.prog q := items_cons i28 Gm0K16_ok
noncomputable def s18 : Int × Int × Int → Option (Bool) := fun (n, lo, hi) =>
 bif decide (lo ≤ n) then
  some (decide (n ≤ hi))
 else
  some (false)
theorem i18 : ItemOk Try.prog (.fn 18 [.d zI, .d zI, .d zI] [.d .bool] s18) := item_fnM md5 ext5 (U := 9) (n := 12) noSpecial mixed Gm0K17_ok (fun x => by kernel_rfl)
noncomputable def Gm0K20 : List Ev.Item := .fn 18 [.d zI, .d zI, .d zI] [.d .bool] s18 :: Gm0K17
theorem Gm0K20_ok : ∀ q ∈ Gm0K20, ItemOk Try.prog q := items_cons i18 Gm0K17_ok
noncomputable def s11 : Int × (Int × Int) × Int × Int → Option (Int) := fun d =>
 optE (s18 (d.1, 1, 3600)) (fun r1 =>
  bif !r1 then
   some (2)
  else
   optE (s18 (d.2.1.1, (-20000), 20000)) (fun r2 =>
    bif !r2 then
     some (2)
    else
     optE (s18 (d.2.1.2, (-20000), 20000)) (fun r3 =>
      bif !r3 then
       some (2)
      else
       optE (s18 (d.2.2.2, 0, 40000)) (fun r4 =>
        bif !r4 then
         some (2)
        else
         bif decide (d.2.1.1 > d.2.1.2) then
          some (9)
         else
          optE (s18 (d.2.2.1, d.2.1.1, d.2.1.2)) (fun r5 =>
           bif !r5 then
            some (2)
           else
            some (0))
           (none))
        (none))
      (none))
    (none))
  (none)
theorem i11 : ItemOk Try.prog (.fn 11 [.d (.agg (.pair zI (.pair zP zP)))] [.d zI] s11) := item_fnM md5 ext5 (U := 9) (n := 12) noSpecial mixed Gm0K20_ok (fun x => by kernel_rfl)
noncomputable def Gm0K21 : List Ev.Item := .fn 11 [.d (.agg (.pair zI (.pair zP zP)))] [.d zI] s11 :: Gm0K20
theorem Gm0K21_ok : ∀ q ∈ Gm0K21, ItemOk Try.prog q := items_cons i11 Gm0K20_ok
@[reducible] def T12_0 : Tmpl := ⟨24, [(2, .ref 2 0 0 0)], [.val 1 (.slice zI), .val 5 zI, .cells 2 [.d (.pair zI (.pair zP zP))]], [], none⟩
@[reducible] def X12_0 : List (Ex × Tmpl) := [(.ret, ⟨24, [], [.val 4 zI], [], none⟩), (.exit 0, ⟨24, [], [], [], none⟩)]
noncomputable def step12_0 : (List Int) × Int × (Int × (Int × Int) × Int × Int) → Option (((List Int) × Int × (Int × (Int × Int) × Int × Int)) ⊕ ((Int) ⊕ (Unit))) := fun (targets, i, d) =>
 bif decide (i < (targets.length : Int)) then
  bif inBounds i targets.length then
   optE (s18 (targets.getD i.toNat 0, 0, wr (d.1 - 1))) (fun r1 =>
    bif !r1 then
     some (.inr (.inl 2))
    else
     some (.inl (targets, wr (i + 1), d)))
    (none)
  else
   none
 else
  some (.inr (.inr ()))
theorem one12_0 : oneLoop Try.prog 12 0 = true := by kernel_rfl
theorem lp12_0 : ItemOk Try.prog (.loop 12 0 T12_0 X12_0 (loopVal step12_0)) := item_loopM md5 ext5 (U := 9) (n := 11) noSpecial mixed Gm0K21_ok one12_0 (fun x => by kernel_rfl)
noncomputable def Gm0K22 : List Ev.Item := .loop 12 0 T12_0 X12_0 (loopVal step12_0) :: Gm0K21
theorem Gm0K22_ok : ∀ q ∈ Gm0K22, ItemOk Try.prog q := items_cons lp12_0 Gm0K21_ok
noncomputable def s12 : (Int × (Int × Int) × Int × Int) × (List Int) → Option (Int) := fun (d, targets) =>
 bif decide ((targets.length : Int) > 40) then
  some (8)
 else
  optE (loopVal step12_0 (targets, 0, d)) (fun e1 =>
   sumE e1 (fun e2 =>
    some (e2)) (fun _ =>
    some (0)))
   (none)
theorem i12 : ItemOk Try.prog (.fn 12 [.d (.agg (.pair zI (.pair zP zP))), .d (.slice zI)] [.d zI] s12) := item_fnM md5 ext5 (U := 9) (n := 12) noSpecial mixed Gm0K22_ok (fun x => by kernel_rfl)
noncomputable def Gm0K23 : List Ev.Item := .fn 12 [.d (.agg (.pair zI (.pair zP zP))), .d (.slice zI)] [.d zI] s12 :: Gm0K22
theorem Gm0K23_ok : ∀ q ∈ Gm0K23, ItemOk Try.prog q := items_cons i12 Gm0K22_ok
noncomputable def s9 : List Int → Option (List Int) := fun l =>
 bif room 8 (0 + l.length) then
  some (l)
 else
  none
theorem i9 : ItemOk Try.prog (.fn 9 [.d (.slice zI)] [.own 3 zI] s9) := item_fnM md5 ext5 (U := 9) (n := 12) noSpecial mixed Gm0K23_ok (fun x => by kernel_rfl)
noncomputable def Gm0K24 : List Ev.Item := .fn 9 [.d (.slice zI)] [.own 3 zI] s9 :: Gm0K23
theorem Gm0K24_ok : ∀ q ∈ Gm0K24, ItemOk Try.prog q := items_cons i9 Gm0K23_ok
end Go.Proofs.Ythabingkfmlbbaa
