/- Printed by gen.py: specifications of functions. -/
import Derived.Test.YtgpfdacidgmelaaGreatGb1
set_option linter.unusedSimpArgs false
set_option maxRecDepth 100000
namespace Go.Proofs.YtgpfdacidgmelaaGreat
open Go.Ev

/-! (cassegrain path.wide).less -/
noncomputable def s104 : (Int × Int) × (Int × Int) → Option (Bool) := fun (w, o) =>
  bif decide (w.1 < o.1) then
    some (true)
  else
    bif w.1 == o.1 then
      some (decide (w.2 < o.2))
    else
      some (false)
theorem i104 : ItemOk Tryz.prog (.fn 104 [.d (.agg (.pair (.int .u64) (.int .u64))), .d (.agg (.pair (.int .u64) (.int .u64)))] [.d .bool] s104) := item_fnM md1 ext1 (U := 9) (n := 4) noSpecial mixed Gb1K80_ok (fun x => by kernel_rfl)
noncomputable def Gb2K1 : List Ev.Item := .fn 104 [.d (.agg (.pair (.int .u64) (.int .u64))), .d (.agg (.pair (.int .u64) (.int .u64)))] [.d .bool] s104 :: Gb1K80
theorem Gb2K1_ok : ∀ q ∈ Gb2K1, ItemOk Tryz.prog q := items_cons i104 Gb1K80_ok

/-! cassegrain path.missing -/
noncomputable def s71 : ((List (Int × Int × Int × Int)) × Int) × Int × ((List (Int × Int × Int × Int)) × Int) × Int → Option (Bool) := fun (a, s, b, r0) =>
  optE (s63 (a, s, b, r0)) (fun r1 =>
    optE (s105 (wr ((wr (r0 - s)) * r1.1.2))) (fun r2 =>
      optE (s101 r1) (fun r3 =>
        optE (s104 (r2, r3)) (fun r4 =>
          some (r4))
          (none))
        (none))
      (none))
    (none)
theorem i71 : ItemOk Tryz.prog (.fn 71 [.d (.agg (.pair (.slice (.agg (.pair (.int .i64) (.pair (.int .i64) (.pair (.int .i64) (.int .i64)))))) (.int .i64))), .d (.int .i64), .d (.agg (.pair (.slice (.agg (.pair (.int .i64) (.pair (.int .i64) (.pair (.int .i64) (.int .i64)))))) (.int .i64))), .d (.int .i64)] [.d .bool] s71) := item_fnM md1 ext1 (U := 9) (n := 4) noSpecial mixed Gb2K1_ok (fun x => by kernel_rfl)
noncomputable def Gb2K2 : List Ev.Item := .fn 71 [.d (.agg (.pair (.slice (.agg (.pair (.int .i64) (.pair (.int .i64) (.pair (.int .i64) (.int .i64)))))) (.int .i64))), .d (.int .i64), .d (.agg (.pair (.slice (.agg (.pair (.int .i64) (.pair (.int .i64) (.pair (.int .i64) (.int .i64)))))) (.int .i64))), .d (.int .i64)] [.d .bool] s71 :: Gb2K1
theorem Gb2K2_ok : ∀ q ∈ Gb2K2, ItemOk Tryz.prog q := items_cons i71 Gb2K1_ok

/-! cassegrain path.arrived -/
noncomputable def s72 : ((List (Int × Int × Int × Int)) × Int) × Int × ((List (Int × Int × Int × Int)) × Int) × Int → Option (Bool) := fun (a, s, b, r0) =>
  optE (s63 (a, s, b, r0)) (fun r1 =>
    optE (s105 (wr ((wr (r0 - s)) * r1.1.2))) (fun r2 =>
      optE (s102 r1) (fun r3 =>
        optE (s104 (r2, r3)) (fun r4 =>
          some (!r4))
          (none))
        (none))
      (none))
    (none)
theorem i72 : ItemOk Tryz.prog (.fn 72 [.d (.agg (.pair (.slice (.agg (.pair (.int .i64) (.pair (.int .i64) (.pair (.int .i64) (.int .i64)))))) (.int .i64))), .d (.int .i64), .d (.agg (.pair (.slice (.agg (.pair (.int .i64) (.pair (.int .i64) (.pair (.int .i64) (.int .i64)))))) (.int .i64))), .d (.int .i64)] [.d .bool] s72) := item_fnM md1 ext1 (U := 9) (n := 4) noSpecial mixed Gb2K2_ok (fun x => by kernel_rfl)
noncomputable def Gb2K3 : List Ev.Item := .fn 72 [.d (.agg (.pair (.slice (.agg (.pair (.int .i64) (.pair (.int .i64) (.pair (.int .i64) (.int .i64)))))) (.int .i64))), .d (.int .i64), .d (.agg (.pair (.slice (.agg (.pair (.int .i64) (.pair (.int .i64) (.pair (.int .i64) (.int .i64)))))) (.int .i64))), .d (.int .i64)] [.d .bool] s72 :: Gb2K2
theorem Gb2K3_ok : ∀ q ∈ Gb2K3, ItemOk Tryz.prog q := items_cons i72 Gb2K2_ok

/-! cassegrain path.CheckReceived -/
noncomputable def s20 : ((List (Int × Int × Int × Int)) × Int) × ((List (Int × Int × Int × Int)) × Int) × (Int × Int × Int) → Option (Int) := fun (a0, a1, a2) =>
  optE (s61 [a0, a1]) (fun r1 =>
    bif r1 != 0 then
      some (r1)
    else
      optE (s62 (a2.1, [a0, a1])) (fun r2 =>
        optE (s62 (a2.2.1, [a0, a1])) (fun r3 =>
          optE (s62 (a2.2.2, [a0, a1])) (fun r4 =>
            bif decide (a2.1 ≤ a2.2.1) then
              optE (s66 (decide (a2.2.1 ≤ a2.2.2), 9)) (fun r5 =>
                optE (s65 [r2, r3, r4, r5]) (fun r6 =>
                  bif r6 != 0 then
                    some (r6)
                  else
                    bif a2.2.1 == a2.1 then
                      optE (s72 (a0, a2.1, a1, a2.2.2)) (fun r7 =>
                        optE (s66 (r7, 19)) (fun r8 =>
                          some (r8))
                          (none))
                        (none)
                    else
                      optE (s71 (a0, a2.1, a1, a2.2.1)) (fun r9 =>
                        bif r9 then
                          optE (s72 (a0, a2.1, a1, a2.2.2)) (fun r10 =>
                            optE (s66 (r10, 19)) (fun r11 =>
                              some (r11))
                              (none))
                            (none)
                        else
                          optE (s66 (false, 19)) (fun r12 =>
                            some (r12))
                            (none))
                        (none))
                  (none))
                (none)
            else
              optE (s66 (false, 9)) (fun r13 =>
                optE (s65 [r2, r3, r4, r13]) (fun r14 =>
                  bif r14 != 0 then
                    some (r14)
                  else
                    bif a2.2.1 == a2.1 then
                      optE (s72 (a0, a2.1, a1, a2.2.2)) (fun r15 =>
                        optE (s66 (r15, 19)) (fun r16 =>
                          some (r16))
                          (none))
                        (none)
                    else
                      optE (s71 (a0, a2.1, a1, a2.2.1)) (fun r17 =>
                        bif r17 then
                          optE (s72 (a0, a2.1, a1, a2.2.2)) (fun r18 =>
                            optE (s66 (r18, 19)) (fun r19 =>
                              some (r19))
                              (none))
                            (none)
                        else
                          optE (s66 (false, 19)) (fun r20 =>
                            some (r20))
                            (none))
                        (none))
                  (none))
                (none))
            (none))
          (none))
        (none))
    (none)
theorem i20 : ItemOk Tryz.prog (.fn 20 [.d (.agg (.pair (.slice (.agg (.pair (.int .i64) (.pair (.int .i64) (.pair (.int .i64) (.int .i64)))))) (.int .i64))), .d (.agg (.pair (.slice (.agg (.pair (.int .i64) (.pair (.int .i64) (.pair (.int .i64) (.int .i64)))))) (.int .i64))), .d (.agg (.pair (.int .i64) (.pair (.int .i64) (.int .i64))))] [.d (.int .i64)] s20) := item_fnM md1 ext1 (U := 9) (n := 4) noSpecial mixed Gb2K3_ok (fun x => by kernel_rfl)
noncomputable def Gb2K4 : List Ev.Item := .fn 20 [.d (.agg (.pair (.slice (.agg (.pair (.int .i64) (.pair (.int .i64) (.pair (.int .i64) (.int .i64)))))) (.int .i64))), .d (.agg (.pair (.slice (.agg (.pair (.int .i64) (.pair (.int .i64) (.pair (.int .i64) (.int .i64)))))) (.int .i64))), .d (.agg (.pair (.int .i64) (.pair (.int .i64) (.int .i64))))] [.d (.int .i64)] s20 :: Gb2K3
theorem Gb2K4_ok : ∀ q ∈ Gb2K4, ItemOk Tryz.prog q := items_cons i20 Gb2K3_ok

/-! cassegrain cassegrainref01.Away -/
noncomputable def s31 : ((List (Int × Int × Int × Int)) × Int) × ((List (Int × Int × Int × Int)) × Int) × Int × Int → Option (Bool) := fun (a, b, s, r0) =>
  optE (s69 (a, b, s, r0)) (fun r1 =>
    optE (s78 (wr ((wr (r0 - s)) * r1.2.2))) (fun r2 =>
      optE (s77 (r2, r1.1)) (fun r3 =>
        some (decide (r3 < 0)))
        (none))
      (none))
    (none)
theorem i31 : ItemOk Tryz.prog (.fn 31 [.d (.agg (.pair (.slice (.agg (.pair (.int .i64) (.pair (.int .i64) (.pair (.int .i64) (.int .i64)))))) (.int .i64))), .d (.agg (.pair (.slice (.agg (.pair (.int .i64) (.pair (.int .i64) (.pair (.int .i64) (.int .i64)))))) (.int .i64))), .d (.int .i64), .d (.int .i64)] [.d .bool] s31) := item_fnM md1 ext1 (U := 9) (n := 4) noSpecial mixed Gb2K4_ok (fun x => by kernel_rfl)
noncomputable def Gb2K5 : List Ev.Item := .fn 31 [.d (.agg (.pair (.slice (.agg (.pair (.int .i64) (.pair (.int .i64) (.pair (.int .i64) (.int .i64)))))) (.int .i64))), .d (.agg (.pair (.slice (.agg (.pair (.int .i64) (.pair (.int .i64) (.pair (.int .i64) (.int .i64)))))) (.int .i64))), .d (.int .i64), .d (.int .i64)] [.d .bool] s31 :: Gb2K4
theorem Gb2K5_ok : ∀ q ∈ Gb2K5, ItemOk Tryz.prog q := items_cons i31 Gb2K4_ok

/-! cassegrain cassegrainref01.Arrived -/
noncomputable def s30 : ((List (Int × Int × Int × Int)) × Int) × ((List (Int × Int × Int × Int)) × Int) × Int × Int → Option (Bool) := fun (a, b, s, r0) =>
  optE (s69 (a, b, s, r0)) (fun r1 =>
    optE (s78 (wr ((wr (r0 - s)) * r1.2.2))) (fun r2 =>
      optE (s77 (r2, r1.2.1)) (fun r3 =>
        some (decide (r3 ≥ 0)))
        (none))
      (none))
    (none)
theorem i30 : ItemOk Tryz.prog (.fn 30 [.d (.agg (.pair (.slice (.agg (.pair (.int .i64) (.pair (.int .i64) (.pair (.int .i64) (.int .i64)))))) (.int .i64))), .d (.agg (.pair (.slice (.agg (.pair (.int .i64) (.pair (.int .i64) (.pair (.int .i64) (.int .i64)))))) (.int .i64))), .d (.int .i64), .d (.int .i64)] [.d .bool] s30) := item_fnM md1 ext1 (U := 9) (n := 4) noSpecial mixed Gb2K5_ok (fun x => by kernel_rfl)
noncomputable def Gb2K6 : List Ev.Item := .fn 30 [.d (.agg (.pair (.slice (.agg (.pair (.int .i64) (.pair (.int .i64) (.pair (.int .i64) (.int .i64)))))) (.int .i64))), .d (.agg (.pair (.slice (.agg (.pair (.int .i64) (.pair (.int .i64) (.pair (.int .i64) (.int .i64)))))) (.int .i64))), .d (.int .i64), .d (.int .i64)] [.d .bool] s30 :: Gb2K5
theorem Gb2K6_ok : ∀ q ∈ Gb2K6, ItemOk Tryz.prog q := items_cons i30 Gb2K5_ok

/-! cassegrain cassegrainref01.SignalErr -/
@[reducible] def T21_0 : Tmpl := ⟨76, [(3, .ref 3 0 0 0), (4, .ref 4 0 0 0), (5, .ref 5 0 0 0)], [.own 7 18 3 (.int .i64), .val 8 (.int .i64), .cells 3 [.d (.pair (.slice (.agg (.pair (.int .i64) (.pair (.int .i64) (.pair (.int .i64) (.int .i64)))))) (.int .i64))], .cells 4 [.d (.pair (.slice (.agg (.pair (.int .i64) (.pair (.int .i64) (.pair (.int .i64) (.int .i64)))))) (.int .i64))], .cells 5 [.d (.pair (.int .i64) (.pair (.int .i64) (.int .i64)))]]⟩
@[reducible] def X21_0 : List (Ex × Tmpl) := [(.ret, ⟨76, [], [.val 6 (.int .i64)]⟩), (.exit 0, ⟨76, [(3, .ref 3 0 0 0), (4, .ref 4 0 0 0), (5, .ref 5 0 0 0)], [.cells 3 [.d (.pair (.slice (.agg (.pair (.int .i64) (.pair (.int .i64) (.pair (.int .i64) (.int .i64)))))) (.int .i64))], .cells 4 [.d (.pair (.slice (.agg (.pair (.int .i64) (.pair (.int .i64) (.pair (.int .i64) (.int .i64)))))) (.int .i64))], .cells 5 [.d (.pair (.int .i64) (.pair (.int .i64) (.int .i64)))]]⟩)]
/-- data: t7, t8, t3, t4, t5; ends: ret: t6; exit 0: t3, t4, t5 -/
noncomputable def step21_0 : (List Int) × Int × ((List (Int × Int × Int × Int)) × Int) × ((List (Int × Int × Int × Int)) × Int) × (Int × Int × Int) → Option (((List Int) × Int × ((List (Int × Int × Int × Int)) × Int) × ((List (Int × Int × Int × Int)) × Int) × (Int × Int × Int)) ⊕ ((Int) ⊕ (((List (Int × Int × Int × Int)) × Int) × ((List (Int × Int × Int × Int)) × Int) × (Int × Int × Int)))) := fun (t7, t8, t3, t4, t5) =>
  bif decide (t8 < 3) then
    bif inBounds t8 t7.length then
      optE (s17 (t3, t4, t7.getD t8.toNat 0)) (fun r1 =>
        bif r1 != 0 then
          some (.inr (.inl r1))
        else
          some (.inl (t7, wr (t8 + 1), t3, t4, t5)))
        (none)
    else
      none
  else
    some (.inr (.inr (t3, t4, t5)))
theorem one21_0 : oneLoop Tryz.prog 21 0 = true := by kernel_rfl
theorem lp21_0 : ItemOk Tryz.prog (.loop 21 0 T21_0 X21_0 (loopVal step21_0)) := item_loopM md1 ext1 (U := 9) (n := 3) noSpecial mixed Gb2K6_ok one21_0 (fun x => by kernel_rfl)
noncomputable def Gb2K7 : List Ev.Item := .loop 21 0 T21_0 X21_0 (loopVal step21_0) :: Gb2K6
theorem Gb2K7_ok : ∀ q ∈ Gb2K7, ItemOk Tryz.prog q := items_cons lp21_0 Gb2K6_ok
noncomputable def s21 : ((List (Int × Int × Int × Int)) × Int) × ((List (Int × Int × Int × Int)) × Int) × (Int × Int × Int) → Option (Int) := fun (a0, a1, a2) =>
  optE (loopVal step21_0 ([a2.1, a2.2.1, a2.2.2], 0, a0, a1, a2)) (fun e1 =>
    sumE e1 (fun e2 =>
      some (e2)) (fun e3 =>
      bif decide (e3.2.2.2.1 < e3.2.2.1) then
        some (9)
      else
        bif decide (e3.2.2.2.2 < e3.2.2.2.1) then
          some (9)
        else
          bif e3.2.2.2.1 != e3.2.2.1 then
            optE (s31 (e3.1, e3.2.1, e3.2.2.1, e3.2.2.2.1)) (fun r4 =>
              bif !r4 then
                some (19)
              else
                optE (s30 (e3.1, e3.2.1, e3.2.2.1, e3.2.2.2.2)) (fun r5 =>
                  bif !r5 then
                    some (19)
                  else
                    some (0))
                  (none))
              (none)
          else
            optE (s30 (e3.1, e3.2.1, e3.2.2.1, e3.2.2.2.2)) (fun r6 =>
              bif !r6 then
                some (19)
              else
                some (0))
              (none)))
    (none)
theorem i21 : ItemOk Tryz.prog (.fn 21 [.d (.agg (.pair (.slice (.agg (.pair (.int .i64) (.pair (.int .i64) (.pair (.int .i64) (.int .i64)))))) (.int .i64))), .d (.agg (.pair (.slice (.agg (.pair (.int .i64) (.pair (.int .i64) (.pair (.int .i64) (.int .i64)))))) (.int .i64))), .d (.agg (.pair (.int .i64) (.pair (.int .i64) (.int .i64))))] [.d (.int .i64)] s21) := item_fnM md1 ext1 (U := 9) (n := 4) noSpecial mixed Gb2K7_ok (fun x => by kernel_rfl)
noncomputable def Gb2K8 : List Ev.Item := .fn 21 [.d (.agg (.pair (.slice (.agg (.pair (.int .i64) (.pair (.int .i64) (.pair (.int .i64) (.int .i64)))))) (.int .i64))), .d (.agg (.pair (.slice (.agg (.pair (.int .i64) (.pair (.int .i64) (.pair (.int .i64) (.int .i64)))))) (.int .i64))), .d (.agg (.pair (.int .i64) (.pair (.int .i64) (.int .i64))))] [.d (.int .i64)] s21 :: Gb2K7
theorem Gb2K8_ok : ∀ q ∈ Gb2K8, ItemOk Tryz.prog q := items_cons i21 Gb2K7_ok

/-! cassegrain cassegrainlaw01.PathSignals -/
noncomputable def s4 : ((List (Int × Int × Int × Int)) × Int) × ((List (Int × Int × Int × Int)) × Int) × (Int × Int × Int) → Option (Bool) := fun (a, b, x0) =>
  bif !true then
    some (false)
  else
    optE (s12 (a, b)) (fun r1 =>
      bif !r1 then
        some (true)
      else
        optE (s14 a) (fun r2 =>
          optE (s14 b) (fun r3 =>
            optE (s20 (r2, r3, x0)) (fun r4 =>
              optE (s16 (a, b)) (fun r5 =>
                bif r5 == 0 then
                  optE (s21 (a, b, x0)) (fun r6 =>
                    some (r4 == r6))
                    (none)
                else
                  some (r4 == r5))
                (none))
              (none))
            (none))
          (none))
      (none)
theorem i4 : ItemOk Tryz.prog (.fn 4 [.d (.agg (.pair (.slice (.agg (.pair (.int .i64) (.pair (.int .i64) (.pair (.int .i64) (.int .i64)))))) (.int .i64))), .d (.agg (.pair (.slice (.agg (.pair (.int .i64) (.pair (.int .i64) (.pair (.int .i64) (.int .i64)))))) (.int .i64))), .d (.agg (.pair (.int .i64) (.pair (.int .i64) (.int .i64))))] [.d .bool] s4) := item_fnM md1 ext1 (U := 9) (n := 4) noSpecial mixed Gb2K8_ok (fun x => by kernel_rfl)
noncomputable def Gb2K9 : List Ev.Item := .fn 4 [.d (.agg (.pair (.slice (.agg (.pair (.int .i64) (.pair (.int .i64) (.pair (.int .i64) (.int .i64)))))) (.int .i64))), .d (.agg (.pair (.slice (.agg (.pair (.int .i64) (.pair (.int .i64) (.pair (.int .i64) (.int .i64)))))) (.int .i64))), .d (.agg (.pair (.int .i64) (.pair (.int .i64) (.int .i64))))] [.d .bool] s4 :: Gb2K8
theorem Gb2K9_ok : ∀ q ∈ Gb2K9, ItemOk Tryz.prog q := items_cons i4 Gb2K8_ok
end Go.Proofs.YtgpfdacidgmelaaGreat
