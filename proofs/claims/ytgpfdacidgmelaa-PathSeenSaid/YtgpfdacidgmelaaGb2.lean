/- Printed by gen.py: specifications of functions. -/
import Derived.Test.YtgpfdacidgmelaaGb1
set_option linter.unusedSimpArgs false
set_option maxRecDepth 100000
namespace Go.Proofs.Ytgpfdacidgmelaa
open Go.Ev

/-! cassegrain cassegrainbase.CopyInts -/
noncomputable def s13 : List Int → Option (List Int) := fun l =>
  bif room 8 (0 + l.length) then
    some (l)
  else
    none
theorem i13 : ItemOk Try.prog (.fn 13 [.d (.slice (.int .i64))] [.own 3 (.int .i64)] s13) := item_fnM md1 ext1 (U := 9) (n := 4) noSpecial mixed Gb1K44_ok (fun x => by kernel_rfl)
noncomputable def Gb2K1 : List Ev.Item := .fn 13 [.d (.slice (.int .i64))] [.own 3 (.int .i64)] s13 :: Gb1K44
theorem Gb2K1_ok : ∀ q ∈ Gb2K1, ItemOk Try.prog q := items_cons i13 Gb1K44_ok

/-! cassegrain path.CheckDrive -/
noncomputable def s11 : Int × (Int × Int) × Int × Int → Option (Int) := fun d =>
  optE (s44 (d.1, 1, 3600)) (fun r1 =>
    bif r1 then
      optE (s45 (d.2.1.1, 20000)) (fun r2 =>
        bif r2 then
          optE (s45 (d.2.1.2, 20000)) (fun r3 =>
            bif r3 then
              optE (s44 (d.2.2.2, 0, 40000)) (fun r4 =>
                optE (s47 (r4, 2)) (fun r5 =>
                  optE (s47 (decide (d.2.1.1 ≤ d.2.1.2), 9)) (fun r6 =>
                    optE (s44 (d.2.2.1, d.2.1.1, d.2.1.2)) (fun r7 =>
                      optE (s47 (r7, 2)) (fun r8 =>
                        optE (s46 [r5, r6, r8]) (fun r9 =>
                          some (r9))
                          (none))
                        (none))
                      (none))
                    (none))
                  (none))
                (none)
            else
              optE (s47 (false, 2)) (fun r10 =>
                optE (s47 (decide (d.2.1.1 ≤ d.2.1.2), 9)) (fun r11 =>
                  optE (s44 (d.2.2.1, d.2.1.1, d.2.1.2)) (fun r12 =>
                    optE (s47 (r12, 2)) (fun r13 =>
                      optE (s46 [r10, r11, r13]) (fun r14 =>
                        some (r14))
                        (none))
                      (none))
                    (none))
                  (none))
                (none))
            (none)
        else
          optE (s47 (false, 2)) (fun r15 =>
            optE (s47 (decide (d.2.1.1 ≤ d.2.1.2), 9)) (fun r16 =>
              optE (s44 (d.2.2.1, d.2.1.1, d.2.1.2)) (fun r17 =>
                optE (s47 (r17, 2)) (fun r18 =>
                  optE (s46 [r15, r16, r18]) (fun r19 =>
                    some (r19))
                    (none))
                  (none))
                (none))
              (none))
            (none))
        (none)
    else
      optE (s47 (false, 2)) (fun r20 =>
        optE (s47 (decide (d.2.1.1 ≤ d.2.1.2), 9)) (fun r21 =>
          optE (s44 (d.2.2.1, d.2.1.1, d.2.1.2)) (fun r22 =>
            optE (s47 (r22, 2)) (fun r23 =>
              optE (s46 [r20, r21, r23]) (fun r24 =>
                some (r24))
                (none))
              (none))
            (none))
          (none))
        (none))
    (none)
theorem i11 : ItemOk Try.prog (.fn 11 [.d (.agg (.pair (.int .i64) (.pair (.pair (.int .i64) (.int .i64)) (.pair (.int .i64) (.int .i64)))))] [.d (.int .i64)] s11) := item_fnM md1 ext1 (U := 9) (n := 4) noSpecial mixed Gb2K1_ok (fun x => by kernel_rfl)
noncomputable def Gb2K2 : List Ev.Item := .fn 11 [.d (.agg (.pair (.int .i64) (.pair (.pair (.int .i64) (.int .i64)) (.pair (.int .i64) (.int .i64)))))] [.d (.int .i64)] s11 :: Gb2K1
theorem Gb2K2_ok : ∀ q ∈ Gb2K2, ItemOk Try.prog q := items_cons i11 Gb2K1_ok

/-! cassegrain path.targetsErr -/
@[reducible] def T109_0 : Tmpl := ⟨19, [], [.val 0 (.slice (.int .i64)), .val 1 (.clo 77 (.pair (.ptr (.pair (.int .i64) (.pair (.int .i64) (.pair (.int .i64) (.pair (.int .i64) (.int .i64)))))) .unit)), .val 7 (.int .i64), .val 8 (.int .i64)]⟩
@[reducible] def X109_0 : List (Ex × Tmpl) := [(.ret, ⟨19, [], [.val 4 (.int .i64)]⟩), (.exit 0, ⟨19, [], []⟩)]
/-- data: s, f, t7, t8; ends: ret: t4; exit 0:  -/
noncomputable def step109_0 : (List Int) × ((Int × Int × Int × Int × Int) × Unit) × Int × Int → Option (((List Int) × ((Int × Int × Int × Int × Int) × Unit) × Int × Int) ⊕ ((Int) ⊕ (Unit))) := fun (s, f, t7, t8) =>
  bif decide (t8 < t7) then
    bif inBounds t8 s.length then
      optE (s44 (s.getD t8.toNat 0, 0, wr (f.1.1 - 1))) (fun r4 =>
        bif !r4 then
          some (.inr (.inl t8))
        else
          some (.inl (s, f, t7, wr (t8 + 1))))
        (none)
    else
      none
  else
    some (.inr (.inr ()))
theorem one109_0 : oneLoop Try.prog 109 0 = true := by kernel_rfl
theorem lp109_0 : ItemOk Try.prog (.loop 109 0 T109_0 X109_0 (loopVal step109_0)) := item_loopM md1 ext1 (U := 9) (n := 1) noSpecial mixed Gb2K2_ok one109_0 (fun x => by kernel_rfl)
noncomputable def Gb2K3 : List Ev.Item := .loop 109 0 T109_0 X109_0 (loopVal step109_0) :: Gb2K2
theorem Gb2K3_ok : ∀ q ∈ Gb2K3, ItemOk Try.prog q := items_cons lp109_0 Gb2K2_ok
noncomputable def s48 : (Int × (Int × Int) × Int × Int) × (List Int) → Option (Int) := fun (d, targets) =>
  optE (s11 d) (fun r1 =>
    optE (s47 (decide ((targets.length : Int) ≤ 40), 8)) (fun r2 =>
      optE (s46 [r1, r2]) (fun r3 =>
        bif r3 != 0 then
          some (r3)
        else
          optE (loopVal step109_0 (targets, ((d.1, d.2.1.1, d.2.1.2, d.2.2.1, d.2.2.2), ()), (targets.length : Int), 0)) (fun e4 =>
            sumE e4 (fun e5 =>
              optE (s47 (!(decide (e5 ≥ 0)), 2)) (fun r7 =>
                some (r7))
                (none)) (fun _ =>
              optE (s47 (true, 2)) (fun r8 =>
                some (r8))
                (none)))
            (none))
        (none))
      (none))
    (none)
theorem i48 : ItemOk Try.prog (.fn 48 [.d (.agg (.pair (.int .i64) (.pair (.pair (.int .i64) (.int .i64)) (.pair (.int .i64) (.int .i64))))), .d (.slice (.int .i64))] [.d (.int .i64)] s48) := item_fnM md1 ext1 (U := 9) (n := 4) noSpecial mixed Gb2K3_ok (fun x => by kernel_rfl)
noncomputable def Gb2K4 : List Ev.Item := .fn 48 [.d (.agg (.pair (.int .i64) (.pair (.pair (.int .i64) (.int .i64)) (.pair (.int .i64) (.int .i64))))), .d (.slice (.int .i64))] [.d (.int .i64)] s48 :: Gb2K3
theorem Gb2K4_ok : ∀ q ∈ Gb2K4, ItemOk Try.prog q := items_cons i48 Gb2K3_ok

/-! cassegrain path.CheckPointing -/
@[reducible] def T20_0 : Tmpl := ⟨81, [(3, .ref 3 0 0 0)], [.val 1 (.slice (.int .i64)), .val 9 (.int .i64), .val 10 (.int .i64), .val 31 (.slice (.int .i64)), .val 32 (.int .i64), .val 33 (.int .i64), .cells 3 [.d (.pair (.int .i64) (.pair (.pair (.int .i64) (.int .i64)) (.pair (.int .i64) (.int .i64))))]]⟩
@[reducible] def X20_0 : List (Ex × Tmpl) := [(.ret, ⟨81, [], [.val 6 (.int .i64), .val 7 (.int .i64)]⟩), (.exit 0, ⟨81, [], [.val 9 (.int .i64)]⟩)]
/-- data: t1, t9, t10, t31, t32, t33, t3; ends: ret: t6, t7; exit 0: t9 -/
noncomputable def step20_0 : (List Int) × Int × Int × (List Int) × Int × Int × (Int × (Int × Int) × Int × Int) → Option (((List Int) × Int × Int × (List Int) × Int × Int × (Int × (Int × Int) × Int × Int)) ⊕ ((Int × Int) ⊕ (Int))) := fun (t1, t9, t10, t31, t32, t33, t3) =>
  bif decide (t33 < t32) then
    bif inBounds t33 t31.length then
      optE (s44 (t31.getD t33.toNat 0, t3.2.1.1, t3.2.1.2)) (fun r4 =>
        bif !r4 then
          some (.inr (.inl (0, 23)))
        else
          bif inBounds t33 t1.length then
            bif !(t3.1 == 0) then
              optE (s47 ((Int.tmod (wr ((t31.getD t33.toNat 0) - (t1.getD t33.toNat 0))) t3.1) == 0, 13)) (fun r5 =>
                optE (s47 (decide ((mx (wr ((t31.getD t33.toNat 0) - t10)) (wr (t10 - (t31.getD t33.toNat 0)))) ≤ t3.2.2.2), 24)) (fun r6 =>
                  optE (s46 [r5, r6]) (fun r7 =>
                    bif r7 != 0 then
                      some (.inr (.inl (0, r7)))
                    else
                      some (.inl (t1, wr (t9 + (mx (wr ((t31.getD t33.toNat 0) - t10)) (wr (t10 - (t31.getD t33.toNat 0))))), t31.getD t33.toNat 0, t31, t32, wr (t33 + 1), t3)))
                    (none))
                  (none))
                (none)
            else
              none
          else
            none)
        (none)
    else
      none
  else
    some (.inr (.inr t9))
theorem one20_0 : oneLoop Try.prog 20 0 = true := by kernel_rfl
theorem lp20_0 : ItemOk Try.prog (.loop 20 0 T20_0 X20_0 (loopVal step20_0)) := item_loopM md1 ext1 (U := 9) (n := 3) noSpecial mixed Gb2K4_ok one20_0 (fun x => by kernel_rfl)
noncomputable def Gb2K5 : List Ev.Item := .loop 20 0 T20_0 X20_0 (loopVal step20_0) :: Gb2K4
theorem Gb2K5_ok : ∀ q ∈ Gb2K5, ItemOk Try.prog q := items_cons lp20_0 Gb2K4_ok
noncomputable def s20 : (Int × (Int × Int) × Int × Int) × (List Int) × (List Int) → Option (Int × Int) := fun (a0, a1, a2) =>
  optE (s48 (a0, a1)) (fun r1 =>
    optE (s47 ((a2.length : Int) == (a1.length : Int), 10)) (fun r2 =>
      optE (s46 [r1, r2]) (fun r3 =>
        bif r3 != 0 then
          some ((0, r3))
        else
          optE (loopVal step20_0 (a1, 0, a0.2.2.1, a2, (a2.length : Int), 0, a0)) (fun e4 =>
            sumE e4 (fun e5 =>
              some (e5)) (fun e6 =>
              some ((e6, 0))))
            (none))
        (none))
      (none))
    (none)
theorem i20 : ItemOk Try.prog (.fn 20 [.d (.agg (.pair (.int .i64) (.pair (.pair (.int .i64) (.int .i64)) (.pair (.int .i64) (.int .i64))))), .d (.slice (.int .i64)), .d (.slice (.int .i64))] [.d (.int .i64), .d (.int .i64)] s20) := item_fnM md1 ext1 (U := 9) (n := 4) noSpecial mixed Gb2K5_ok (fun x => by kernel_rfl)
noncomputable def Gb2K6 : List Ev.Item := .fn 20 [.d (.agg (.pair (.int .i64) (.pair (.pair (.int .i64) (.int .i64)) (.pair (.int .i64) (.int .i64))))), .d (.slice (.int .i64)), .d (.slice (.int .i64))] [.d (.int .i64), .d (.int .i64)] s20 :: Gb2K5
theorem Gb2K6_ok : ∀ q ∈ Gb2K6, ItemOk Try.prog q := items_cons i20 Gb2K5_ok

/-! cassegrain cassegrainref01.DriveErr -/
noncomputable def s15 : Int × (Int × Int) × Int × Int → Option (Int) := fun d =>
  optE (s33 (d.1, 1, 3600)) (fun r1 =>
    bif !r1 then
      some (2)
    else
      optE (s33 (d.2.1.1, (-20000), 20000)) (fun r2 =>
        bif !r2 then
          some (2)
        else
          optE (s33 (d.2.1.2, (-20000), 20000)) (fun r3 =>
            bif !r3 then
              some (2)
            else
              optE (s33 (d.2.2.2, 0, 40000)) (fun r4 =>
                bif !r4 then
                  some (2)
                else
                  bif decide (d.2.1.1 > d.2.1.2) then
                    some (9)
                  else
                    optE (s33 (d.2.2.1, d.2.1.1, d.2.1.2)) (fun r5 =>
                      bif !r5 then
                        some (2)
                      else
                        some (0))
                      (none))
                (none))
            (none))
        (none))
    (none)
theorem i15 : ItemOk Try.prog (.fn 15 [.d (.agg (.pair (.int .i64) (.pair (.pair (.int .i64) (.int .i64)) (.pair (.int .i64) (.int .i64)))))] [.d (.int .i64)] s15) := item_fnM md1 ext1 (U := 9) (n := 4) noSpecial mixed Gb2K6_ok (fun x => by kernel_rfl)
noncomputable def Gb2K7 : List Ev.Item := .fn 15 [.d (.agg (.pair (.int .i64) (.pair (.pair (.int .i64) (.int .i64)) (.pair (.int .i64) (.int .i64)))))] [.d (.int .i64)] s15 :: Gb2K6
theorem Gb2K7_ok : ∀ q ∈ Gb2K7, ItemOk Try.prog q := items_cons i15 Gb2K6_ok

/-! cassegrain cassegrainref01.TargetsErr -/
@[reducible] def T16_0 : Tmpl := ⟨24, [(2, .ref 2 0 0 0)], [.val 1 (.slice (.int .i64)), .val 5 (.int .i64), .cells 2 [.d (.pair (.int .i64) (.pair (.pair (.int .i64) (.int .i64)) (.pair (.int .i64) (.int .i64))))]]⟩
@[reducible] def X16_0 : List (Ex × Tmpl) := [(.ret, ⟨24, [], [.val 4 (.int .i64)]⟩), (.exit 0, ⟨24, [], []⟩)]
/-- data: targets, i, d; ends: ret: t4; exit 0:  -/
noncomputable def step16_0 : (List Int) × Int × (Int × (Int × Int) × Int × Int) → Option (((List Int) × Int × (Int × (Int × Int) × Int × Int)) ⊕ ((Int) ⊕ (Unit))) := fun (targets, i, d) =>
  bif decide (i < (targets.length : Int)) then
    bif inBounds i targets.length then
      optE (s33 (targets.getD i.toNat 0, 0, wr (d.1 - 1))) (fun r1 =>
        bif !r1 then
          some (.inr (.inl 2))
        else
          some (.inl (targets, wr (i + 1), d)))
        (none)
    else
      none
  else
    some (.inr (.inr ()))
theorem one16_0 : oneLoop Try.prog 16 0 = true := by kernel_rfl
theorem lp16_0 : ItemOk Try.prog (.loop 16 0 T16_0 X16_0 (loopVal step16_0)) := item_loopM md1 ext1 (U := 9) (n := 3) noSpecial mixed Gb2K7_ok one16_0 (fun x => by kernel_rfl)
noncomputable def Gb2K8 : List Ev.Item := .loop 16 0 T16_0 X16_0 (loopVal step16_0) :: Gb2K7
theorem Gb2K8_ok : ∀ q ∈ Gb2K8, ItemOk Try.prog q := items_cons lp16_0 Gb2K7_ok
noncomputable def s16 : (Int × (Int × Int) × Int × Int) × (List Int) → Option (Int) := fun (d, targets) =>
  bif decide ((targets.length : Int) > 40) then
    some (8)
  else
    optE (loopVal step16_0 (targets, 0, d)) (fun e1 =>
      sumE e1 (fun e2 =>
        some (e2)) (fun _ =>
        some (0)))
      (none)
theorem i16 : ItemOk Try.prog (.fn 16 [.d (.agg (.pair (.int .i64) (.pair (.pair (.int .i64) (.int .i64)) (.pair (.int .i64) (.int .i64))))), .d (.slice (.int .i64))] [.d (.int .i64)] s16) := item_fnM md1 ext1 (U := 9) (n := 4) noSpecial mixed Gb2K8_ok (fun x => by kernel_rfl)
noncomputable def Gb2K9 : List Ev.Item := .fn 16 [.d (.agg (.pair (.int .i64) (.pair (.pair (.int .i64) (.int .i64)) (.pair (.int .i64) (.int .i64))))), .d (.slice (.int .i64))] [.d (.int .i64)] s16 :: Gb2K8
theorem Gb2K9_ok : ∀ q ∈ Gb2K9, ItemOk Try.prog q := items_cons i16 Gb2K8_ok

/-! cassegrain cassegrainbase.Mod -/
noncomputable def s56 : Int × Int → Option (Int) := fun (n, by0) =>
  bif !(by0 == 0) then
    bif decide ((Int.tmod n by0) < 0) then
      some (wr ((Int.tmod n by0) + by0))
    else
      some (Int.tmod n by0)
  else
    none
theorem i56 : ItemOk Try.prog (.fn 56 [.d (.int .i64), .d (.int .i64)] [.d (.int .i64)] s56) := item_fnM md1 ext1 (U := 9) (n := 4) noSpecial mixed Gb2K9_ok (fun x => by kernel_rfl)
noncomputable def Gb2K10 : List Ev.Item := .fn 56 [.d (.int .i64), .d (.int .i64)] [.d (.int .i64)] s56 :: Gb2K9
theorem Gb2K10_ok : ∀ q ∈ Gb2K10, ItemOk Try.prog q := items_cons i56 Gb2K9_ok

/-! cassegrain cassegrainbase.Size -/
noncomputable def s57 : Int → Option (Int) := fun n =>
  some (mx n (wr (-n)))
theorem i57 : ItemOk Try.prog (.fn 57 [.d (.int .i64)] [.d (.int .i64)] s57) := item_fnM md1 ext1 (U := 9) (n := 4) noSpecial mixed Gb2K10_ok (fun x => by kernel_rfl)
noncomputable def Gb2K11 : List Ev.Item := .fn 57 [.d (.int .i64)] [.d (.int .i64)] s57 :: Gb2K10
theorem Gb2K11_ok : ∀ q ∈ Gb2K11, ItemOk Try.prog q := items_cons i57 Gb2K10_ok

/-! cassegrain cassegrainref01.CheckPointing -/
@[reducible] def T21_0 : Tmpl := ⟨73, [(3, .ref 3 0 0 0)], [.val 1 (.slice (.int .i64)), .val 2 (.slice (.int .i64)), .val 8 (.int .i64), .val 9 (.int .i64), .val 10 (.int .i64), .cells 3 [.d (.pair (.int .i64) (.pair (.pair (.int .i64) (.int .i64)) (.pair (.int .i64) (.int .i64))))]]⟩
@[reducible] def X21_0 : List (Ex × Tmpl) := [(.ret, ⟨73, [], [.val 6 (.int .i64), .val 7 (.int .i64)]⟩), (.exit 0, ⟨73, [], [.val 9 (.int .i64)]⟩)]
/-- data: t1, t2, t8, t9, t10, t3; ends: ret: t6, t7; exit 0: t9 -/
noncomputable def step21_0 : (List Int) × (List Int) × Int × Int × Int × (Int × (Int × Int) × Int × Int) → Option (((List Int) × (List Int) × Int × Int × Int × (Int × (Int × Int) × Int × Int)) ⊕ ((Int × Int) ⊕ (Int))) := fun (t1, t2, t8, t9, t10, t3) =>
  bif decide (t10 < (t2.length : Int)) then
    bif inBounds t10 t2.length then
      optE (s33 (t2.getD t10.toNat 0, t3.2.1.1, t3.2.1.2)) (fun r1 =>
        bif !r1 then
          some (.inr (.inl (0, 23)))
        else
          bif inBounds t10 t2.length then
            bif inBounds t10 t1.length then
              optE (s56 (wr ((t2.getD t10.toNat 0) - (t1.getD t10.toNat 0)), t3.1)) (fun r2 =>
                bif r2 != 0 then
                  some (.inr (.inl (0, 13)))
                else
                  bif inBounds t10 t2.length then
                    optE (s57 (wr ((t2.getD t10.toNat 0) - t8))) (fun r3 =>
                      bif decide (r3 > t3.2.2.2) then
                        some (.inr (.inl (0, 24)))
                      else
                        bif inBounds t10 t2.length then
                          optE (s57 (wr ((t2.getD t10.toNat 0) - t8))) (fun r4 =>
                            bif inBounds t10 t2.length then
                              some (.inl (t1, t2, t2.getD t10.toNat 0, wr (t9 + r4), wr (t10 + 1), t3))
                            else
                              none)
                            (none)
                        else
                          none)
                      (none)
                  else
                    none)
                (none)
            else
              none
          else
            none)
        (none)
    else
      none
  else
    some (.inr (.inr t9))
theorem one21_0 : oneLoop Try.prog 21 0 = true := by kernel_rfl
theorem lp21_0 : ItemOk Try.prog (.loop 21 0 T21_0 X21_0 (loopVal step21_0)) := item_loopM md1 ext1 (U := 9) (n := 3) noSpecial mixed Gb2K11_ok one21_0 (fun x => by kernel_rfl)
noncomputable def Gb2K12 : List Ev.Item := .loop 21 0 T21_0 X21_0 (loopVal step21_0) :: Gb2K11
theorem Gb2K12_ok : ∀ q ∈ Gb2K12, ItemOk Try.prog q := items_cons lp21_0 Gb2K11_ok
noncomputable def s21 : (Int × (Int × Int) × Int × Int) × (List Int) × (List Int) → Option (Int × Int) := fun (a0, a1, a2) =>
  bif (a2.length : Int) != (a1.length : Int) then
    some ((0, 10))
  else
    optE (loopVal step21_0 (a1, a2, a0.2.2.1, 0, 0, a0)) (fun e1 =>
      sumE e1 (fun e2 =>
        some (e2)) (fun e3 =>
        some ((e3, 0))))
      (none)
theorem i21 : ItemOk Try.prog (.fn 21 [.d (.agg (.pair (.int .i64) (.pair (.pair (.int .i64) (.int .i64)) (.pair (.int .i64) (.int .i64))))), .d (.slice (.int .i64)), .d (.slice (.int .i64))] [.d (.int .i64), .d (.int .i64)] s21) := item_fnM md1 ext1 (U := 9) (n := 4) noSpecial mixed Gb2K12_ok (fun x => by kernel_rfl)
noncomputable def Gb2K13 : List Ev.Item := .fn 21 [.d (.agg (.pair (.int .i64) (.pair (.pair (.int .i64) (.int .i64)) (.pair (.int .i64) (.int .i64))))), .d (.slice (.int .i64)), .d (.slice (.int .i64))] [.d (.int .i64), .d (.int .i64)] s21 :: Gb2K12
theorem Gb2K13_ok : ∀ q ∈ Gb2K13, ItemOk Try.prog q := items_cons i21 Gb2K12_ok

/-! cassegrain cassegrainlaw01.PathPointing -/
noncomputable def s4 : (Int × (Int × Int) × Int × Int) × (List Int) × (List Int) → Option (Bool) := fun (d, targets, positions) =>
  bif !true then
    some (false)
  else
    bif decide ((targets.length : Int) > 20) then
      bif decide ((targets.length : Int) ≤ 40) then
        some (true)
      else
        bif decide ((targets.length : Int) > 42) then
          some (true)
        else
          bif decide ((positions.length : Int) > 22) then
            some (true)
          else
            optE (s13 targets) (fun r1 =>
              optE (s13 positions) (fun r2 =>
                optE (s20 (d, r1, r2)) (fun r3 =>
                  optE (s15 d) (fun r4 =>
                    bif r4 == 0 then
                      optE (s16 (d, targets)) (fun r5 =>
                        bif r5 == 0 then
                          optE (s21 (d, targets, positions)) (fun r6 =>
                            bif r3.2 == r6.2 then
                              some (r3.1 == r6.1)
                            else
                              some (false))
                            (none)
                        else
                          bif r3.2 == r5 then
                            some (r3.1 == 0)
                          else
                            some (false))
                        (none)
                    else
                      bif r4 == 0 then
                        optE (s21 (d, targets, positions)) (fun r7 =>
                          bif r3.2 == r7.2 then
                            some (r3.1 == r7.1)
                          else
                            some (false))
                          (none)
                      else
                        bif r3.2 == r4 then
                          some (r3.1 == 0)
                        else
                          some (false))
                    (none))
                  (none))
                (none))
              (none)
    else
      bif decide ((targets.length : Int) > 42) then
        some (true)
      else
        bif decide ((positions.length : Int) > 22) then
          some (true)
        else
          optE (s13 targets) (fun r8 =>
            optE (s13 positions) (fun r9 =>
              optE (s20 (d, r8, r9)) (fun r10 =>
                optE (s15 d) (fun r11 =>
                  bif r11 == 0 then
                    optE (s16 (d, targets)) (fun r12 =>
                      bif r12 == 0 then
                        optE (s21 (d, targets, positions)) (fun r13 =>
                          bif r10.2 == r13.2 then
                            some (r10.1 == r13.1)
                          else
                            some (false))
                          (none)
                      else
                        bif r10.2 == r12 then
                          some (r10.1 == 0)
                        else
                          some (false))
                      (none)
                  else
                    bif r11 == 0 then
                      optE (s21 (d, targets, positions)) (fun r14 =>
                        bif r10.2 == r14.2 then
                          some (r10.1 == r14.1)
                        else
                          some (false))
                        (none)
                    else
                      bif r10.2 == r11 then
                        some (r10.1 == 0)
                      else
                        some (false))
                  (none))
                (none))
              (none))
            (none)
theorem i4 : ItemOk Try.prog (.fn 4 [.d (.agg (.pair (.int .i64) (.pair (.pair (.int .i64) (.int .i64)) (.pair (.int .i64) (.int .i64))))), .d (.slice (.int .i64)), .d (.slice (.int .i64))] [.d .bool] s4) := item_fnM md1 ext1 (U := 9) (n := 4) noSpecial mixed Gb2K13_ok (fun x => by kernel_rfl)
noncomputable def Gb2K14 : List Ev.Item := .fn 4 [.d (.agg (.pair (.int .i64) (.pair (.pair (.int .i64) (.int .i64)) (.pair (.int .i64) (.int .i64))))), .d (.slice (.int .i64)), .d (.slice (.int .i64))] [.d .bool] s4 :: Gb2K13
theorem Gb2K14_ok : ∀ q ∈ Gb2K14, ItemOk Try.prog q := items_cons i4 Gb2K13_ok
end Go.Proofs.Ytgpfdacidgmelaa
