/- Printed by gen.py: specifications of functions. -/
import Derived.Test.YtinkhmfciealkaaGa16
set_option linter.unusedSimpArgs false
set_option maxRecDepth 100000
namespace Go.Proofs.Ytinkhmfciealkaa
open Go.Ev

/-! cassegrain cassegraintop.sampleShown -/
theorem i85 : ItemOk Try.prog (.fn 85 [] [.d .bool] (fun _ => some true)) := item_fn (U := 64) (n := 12) noSpecial mixed items_nil (fun x => by kernel_rfl)
noncomputable def Ga17K1 : List Ev.Item := .fn 85 [] [.d .bool] (fun _ => some true) :: Ga16K1
theorem Ga17K1_ok : ∀ q ∈ Ga17K1, ItemOk Try.prog q := items_cons i85 Ga16K1_ok

/-! cassegrain cassegraintop.TopSampleTone -/
@[reducible] def T16_0 : Tmpl := ⟨154, [(3, .ref 3 0 0 0)], [.val 1 (.int .i64), .val 2 (.int .i64), .own 7 46 23 (.agg (.pair (.int .i64) (.int .i64))), .val 8 (.int .i64), .cells 3 [.d (.pair (.int .i64) (.int .i64))]]⟩
@[reducible] def X16_0 : List (Ex × Tmpl) := [(.exit 0, ⟨154, [(3, .ref 3 0 0 0)], [.val 1 (.int .i64), .val 2 (.int .i64), .own 7 46 23 (.agg (.pair (.int .i64) (.int .i64))), .cells 3 [.d (.pair (.int .i64) (.int .i64))]]⟩)]
/-- data: t1, t2, t7, t8, t3; ends: exit 0: t1, t2, t7, t3 -/
noncomputable def step16_0 : Int × Int × (List (Int × Int)) × Int × (Int × Int) → Option ((Int × Int × (List (Int × Int)) × Int × (Int × Int)) ⊕ (Int × Int × (List (Int × Int)) × (Int × Int))) := fun (t1, t2, t7, t8, t3) =>
  bif decide (t8 < (wr (4 * t2))) then
    bif room 16 (t7.length + 1) then
      some (.inl (t1, t2, t7 ++ [t3], wr (t8 + 1), t3))
    else
      none
  else
    some (.inr (t1, t2, t7, t3))
theorem one16_0 : oneLoop Try.prog 16 0 = true := by kernel_rfl
theorem lp16_0 : ItemOk Try.prog (.loop 16 0 T16_0 X16_0 (loopVal step16_0)) := item_loop (U := 9) (n := 3) noSpecial mixed Ga17K1_ok one16_0 (fun x => by kernel_rfl)
noncomputable def Ga17K2 : List Ev.Item := .loop 16 0 T16_0 X16_0 (loopVal step16_0) :: Ga17K1
theorem Ga17K2_ok : ∀ q ∈ Ga17K2, ItemOk Try.prog q := items_cons lp16_0 Ga17K1_ok
@[reducible] def T16_4 : Tmpl := ⟨154, [(17, .ref 17 0 0 0)], [.own 10 53 23 (.agg (.pair (.int .i64) (.int .i64))), .own 19 116 23 (.agg (.pair (.int .i64) (.int .i64))), .val 21 (.int .i64), .cells 17 [.d (.pair (.int .i64) (.int .i64))]]⟩
@[reducible] def X16_4 : List (Ex × Tmpl) := [(.ret, ⟨154, [], [.val 6 .bool]⟩), (.exit 4, ⟨154, [], []⟩)]
/-- data: t10, t19, t21, t17; ends: ret: t6; exit 4:  -/
noncomputable def step16_4 : (List (Int × Int)) × (List (Int × Int)) × Int × (Int × Int) → Option (((List (Int × Int)) × (List (Int × Int)) × Int × (Int × Int)) ⊕ ((Bool) ⊕ (Unit))) := fun (t10, t19, t21, t17) =>
  bif decide (t21 < (t19.length : Int)) then
    bif inBounds t21 t19.length then
      bif inBounds t21 t10.length then
        bif !(((t19.getD t21.toNat (0, 0)).1 == (gmulW t17 (t10.getD t21.toNat (0, 0))).1) && (((t19.getD t21.toNat (0, 0)).2 == (gmulW t17 (t10.getD t21.toNat (0, 0))).2) && true)) then
          some (.inr (.inl false))
        else
          some (.inl (t10, t19, wr (t21 + 1), t17))
      else
        none
    else
      none
  else
    some (.inr (.inr ()))
theorem one16_4 : oneLoop Try.prog 16 4 = true := by kernel_rfl
theorem lp16_4 : ItemOk Try.prog (.loop 16 4 T16_4 X16_4 (loopVal step16_4)) := item_loop (U := 9) (n := 3) noSpecial mixed Ga17K2_ok one16_4 (fun x => by kernel_rfl)
noncomputable def Ga17K3 : List Ev.Item := .loop 16 4 T16_4 X16_4 (loopVal step16_4) :: Ga17K2
theorem Ga17K3_ok : ∀ q ∈ Ga17K3, ItemOk Try.prog q := items_cons lp16_4 Ga17K2_ok
noncomputable def s16 : (Int × Int) × Int × Int → Option (Bool) := fun (a0, a1, a2) =>
  bif !true then
    some (false)
  else
    bif (gErr 2000 a0) != 0 then
      some (true)
    else
      bif (unl (win a1 0 3) 2) != 0 then
        some (true)
      else
        bif !(win a2 3 15) then
          some (true)
        else
          optE (loopVal step16_0 (a1, a2, [], 0, a0)) (fun e1 =>
            optE (p78 ((0, wr (e1.1 * 1024), 0), e1.2.2.1)) (fun r2 =>
              bif r2.2 != 0 then
                some (false)
              else
                bif (r2.1.length : Int) != (wr (4 * e1.2.1)) then
                  some (false)
                else
                  bif (smpE r2.1) != 0 then
                    some (false)
                  else
                    optE (p45 r2.1) (fun r3 =>
                      optE (p51 r3) (fun r4 =>
                        bif r4.2 != 0 then
                          some (false)
                        else
                          bif 0 == e1.1 then
                            bif !((r4.1.1.1 == (wr ((wr (4 * e1.2.1)) * e1.2.2.2.1))) && ((r4.1.1.2 == (wr ((wr (4 * e1.2.1)) * e1.2.2.2.2))) && true)) then
                              some (false)
                            else
                              bif 1 == e1.1 then
                                bif !((r4.1.2.1.1 == (wr ((wr (4 * e1.2.1)) * e1.2.2.2.1))) && ((r4.1.2.1.2 == (wr ((wr (4 * e1.2.1)) * e1.2.2.2.2))) && true)) then
                                  some (false)
                                else
                                  bif 2 == e1.1 then
                                    bif !((r4.1.2.2.1.1 == (wr ((wr (4 * e1.2.1)) * e1.2.2.2.1))) && ((r4.1.2.2.1.2 == (wr ((wr (4 * e1.2.1)) * e1.2.2.2.2))) && true)) then
                                      some (false)
                                    else
                                      bif 3 == e1.1 then
                                        bif !((r4.1.2.2.2.1 == (wr ((wr (4 * e1.2.1)) * e1.2.2.2.1))) && ((r4.1.2.2.2.2 == (wr ((wr (4 * e1.2.1)) * e1.2.2.2.2))) && true)) then
                                          some (false)
                                        else
                                          optE (p34 ([3, (-1), 2, 5], 1)) (fun r5 =>
                                            optE (p35 (r5, e1.1)) (fun r6 =>
                                              optE (p34 ([3, (-1), 2, 5], 1)) (fun r7 =>
                                                optE (p45 r2.1) (fun r8 =>
                                                  optE (p57 (r7, r8)) (fun r9 =>
                                                    bif r6.2 != 0 then
                                                      some (false)
                                                    else
                                                      bif r9.2 != 0 then
                                                        some (false)
                                                      else
                                                        bif (r9.1.length : Int) != (r2.1.length : Int) then
                                                          some (false)
                                                        else
                                                          bif (gErr 100 r6.1) != 0 then
                                                            some (false)
                                                          else
                                                            optE (loopVal step16_4 (r2.1, r9.1, 3, r6.1)) (fun e10 =>
                                                              sumE e10 (fun e11 =>
                                                                some (e11)) (fun _ =>
                                                                some (true)))
                                                              (none))
                                                    (none))
                                                  (none))
                                                (none))
                                              (none))
                                            (none)
                                      else
                                        bif !((r4.1.2.2.2.1 == 0) && ((r4.1.2.2.2.2 == 0) && true)) then
                                          some (false)
                                        else
                                          optE (p34 ([3, (-1), 2, 5], 1)) (fun r13 =>
                                            optE (p35 (r13, e1.1)) (fun r14 =>
                                              optE (p34 ([3, (-1), 2, 5], 1)) (fun r15 =>
                                                optE (p45 r2.1) (fun r16 =>
                                                  optE (p57 (r15, r16)) (fun r17 =>
                                                    bif r14.2 != 0 then
                                                      some (false)
                                                    else
                                                      bif r17.2 != 0 then
                                                        some (false)
                                                      else
                                                        bif (r17.1.length : Int) != (r2.1.length : Int) then
                                                          some (false)
                                                        else
                                                          bif (gErr 100 r14.1) != 0 then
                                                            some (false)
                                                          else
                                                            optE (loopVal step16_4 (r2.1, r17.1, 3, r14.1)) (fun e18 =>
                                                              sumE e18 (fun e19 =>
                                                                some (e19)) (fun _ =>
                                                                some (true)))
                                                              (none))
                                                    (none))
                                                  (none))
                                                (none))
                                              (none))
                                            (none)
                                  else
                                    bif !((r4.1.2.2.1.1 == 0) && ((r4.1.2.2.1.2 == 0) && true)) then
                                      some (false)
                                    else
                                      bif 3 == e1.1 then
                                        bif !((r4.1.2.2.2.1 == (wr ((wr (4 * e1.2.1)) * e1.2.2.2.1))) && ((r4.1.2.2.2.2 == (wr ((wr (4 * e1.2.1)) * e1.2.2.2.2))) && true)) then
                                          some (false)
                                        else
                                          optE (p34 ([3, (-1), 2, 5], 1)) (fun r21 =>
                                            optE (p35 (r21, e1.1)) (fun r22 =>
                                              optE (p34 ([3, (-1), 2, 5], 1)) (fun r23 =>
                                                optE (p45 r2.1) (fun r24 =>
                                                  optE (p57 (r23, r24)) (fun r25 =>
                                                    bif r22.2 != 0 then
                                                      some (false)
                                                    else
                                                      bif r25.2 != 0 then
                                                        some (false)
                                                      else
                                                        bif (r25.1.length : Int) != (r2.1.length : Int) then
                                                          some (false)
                                                        else
                                                          bif (gErr 100 r22.1) != 0 then
                                                            some (false)
                                                          else
                                                            optE (loopVal step16_4 (r2.1, r25.1, 3, r22.1)) (fun e26 =>
                                                              sumE e26 (fun e27 =>
                                                                some (e27)) (fun _ =>
                                                                some (true)))
                                                              (none))
                                                    (none))
                                                  (none))
                                                (none))
                                              (none))
                                            (none)
                                      else
                                        bif !((r4.1.2.2.2.1 == 0) && ((r4.1.2.2.2.2 == 0) && true)) then
                                          some (false)
                                        else
                                          optE (p34 ([3, (-1), 2, 5], 1)) (fun r29 =>
                                            optE (p35 (r29, e1.1)) (fun r30 =>
                                              optE (p34 ([3, (-1), 2, 5], 1)) (fun r31 =>
                                                optE (p45 r2.1) (fun r32 =>
                                                  optE (p57 (r31, r32)) (fun r33 =>
                                                    bif r30.2 != 0 then
                                                      some (false)
                                                    else
                                                      bif r33.2 != 0 then
                                                        some (false)
                                                      else
                                                        bif (r33.1.length : Int) != (r2.1.length : Int) then
                                                          some (false)
                                                        else
                                                          bif (gErr 100 r30.1) != 0 then
                                                            some (false)
                                                          else
                                                            optE (loopVal step16_4 (r2.1, r33.1, 3, r30.1)) (fun e34 =>
                                                              sumE e34 (fun e35 =>
                                                                some (e35)) (fun _ =>
                                                                some (true)))
                                                              (none))
                                                    (none))
                                                  (none))
                                                (none))
                                              (none))
                                            (none)
                              else
                                bif !((r4.1.2.1.1 == 0) && ((r4.1.2.1.2 == 0) && true)) then
                                  some (false)
                                else
                                  bif 2 == e1.1 then
                                    bif !((r4.1.2.2.1.1 == (wr ((wr (4 * e1.2.1)) * e1.2.2.2.1))) && ((r4.1.2.2.1.2 == (wr ((wr (4 * e1.2.1)) * e1.2.2.2.2))) && true)) then
                                      some (false)
                                    else
                                      bif 3 == e1.1 then
                                        bif !((r4.1.2.2.2.1 == (wr ((wr (4 * e1.2.1)) * e1.2.2.2.1))) && ((r4.1.2.2.2.2 == (wr ((wr (4 * e1.2.1)) * e1.2.2.2.2))) && true)) then
                                          some (false)
                                        else
                                          optE (p34 ([3, (-1), 2, 5], 1)) (fun r37 =>
                                            optE (p35 (r37, e1.1)) (fun r38 =>
                                              optE (p34 ([3, (-1), 2, 5], 1)) (fun r39 =>
                                                optE (p45 r2.1) (fun r40 =>
                                                  optE (p57 (r39, r40)) (fun r41 =>
                                                    bif r38.2 != 0 then
                                                      some (false)
                                                    else
                                                      bif r41.2 != 0 then
                                                        some (false)
                                                      else
                                                        bif (r41.1.length : Int) != (r2.1.length : Int) then
                                                          some (false)
                                                        else
                                                          bif (gErr 100 r38.1) != 0 then
                                                            some (false)
                                                          else
                                                            optE (loopVal step16_4 (r2.1, r41.1, 3, r38.1)) (fun e42 =>
                                                              sumE e42 (fun e43 =>
                                                                some (e43)) (fun _ =>
                                                                some (true)))
                                                              (none))
                                                    (none))
                                                  (none))
                                                (none))
                                              (none))
                                            (none)
                                      else
                                        bif !((r4.1.2.2.2.1 == 0) && ((r4.1.2.2.2.2 == 0) && true)) then
                                          some (false)
                                        else
                                          optE (p34 ([3, (-1), 2, 5], 1)) (fun r45 =>
                                            optE (p35 (r45, e1.1)) (fun r46 =>
                                              optE (p34 ([3, (-1), 2, 5], 1)) (fun r47 =>
                                                optE (p45 r2.1) (fun r48 =>
                                                  optE (p57 (r47, r48)) (fun r49 =>
                                                    bif r46.2 != 0 then
                                                      some (false)
                                                    else
                                                      bif r49.2 != 0 then
                                                        some (false)
                                                      else
                                                        bif (r49.1.length : Int) != (r2.1.length : Int) then
                                                          some (false)
                                                        else
                                                          bif (gErr 100 r46.1) != 0 then
                                                            some (false)
                                                          else
                                                            optE (loopVal step16_4 (r2.1, r49.1, 3, r46.1)) (fun e50 =>
                                                              sumE e50 (fun e51 =>
                                                                some (e51)) (fun _ =>
                                                                some (true)))
                                                              (none))
                                                    (none))
                                                  (none))
                                                (none))
                                              (none))
                                            (none)
                                  else
                                    bif !((r4.1.2.2.1.1 == 0) && ((r4.1.2.2.1.2 == 0) && true)) then
                                      some (false)
                                    else
                                      bif 3 == e1.1 then
                                        bif !((r4.1.2.2.2.1 == (wr ((wr (4 * e1.2.1)) * e1.2.2.2.1))) && ((r4.1.2.2.2.2 == (wr ((wr (4 * e1.2.1)) * e1.2.2.2.2))) && true)) then
                                          some (false)
                                        else
                                          optE (p34 ([3, (-1), 2, 5], 1)) (fun r53 =>
                                            optE (p35 (r53, e1.1)) (fun r54 =>
                                              optE (p34 ([3, (-1), 2, 5], 1)) (fun r55 =>
                                                optE (p45 r2.1) (fun r56 =>
                                                  optE (p57 (r55, r56)) (fun r57 =>
                                                    bif r54.2 != 0 then
                                                      some (false)
                                                    else
                                                      bif r57.2 != 0 then
                                                        some (false)
                                                      else
                                                        bif (r57.1.length : Int) != (r2.1.length : Int) then
                                                          some (false)
                                                        else
                                                          bif (gErr 100 r54.1) != 0 then
                                                            some (false)
                                                          else
                                                            optE (loopVal step16_4 (r2.1, r57.1, 3, r54.1)) (fun e58 =>
                                                              sumE e58 (fun e59 =>
                                                                some (e59)) (fun _ =>
                                                                some (true)))
                                                              (none))
                                                    (none))
                                                  (none))
                                                (none))
                                              (none))
                                            (none)
                                      else
                                        bif !((r4.1.2.2.2.1 == 0) && ((r4.1.2.2.2.2 == 0) && true)) then
                                          some (false)
                                        else
                                          optE (p34 ([3, (-1), 2, 5], 1)) (fun r61 =>
                                            optE (p35 (r61, e1.1)) (fun r62 =>
                                              optE (p34 ([3, (-1), 2, 5], 1)) (fun r63 =>
                                                optE (p45 r2.1) (fun r64 =>
                                                  optE (p57 (r63, r64)) (fun r65 =>
                                                    bif r62.2 != 0 then
                                                      some (false)
                                                    else
                                                      bif r65.2 != 0 then
                                                        some (false)
                                                      else
                                                        bif (r65.1.length : Int) != (r2.1.length : Int) then
                                                          some (false)
                                                        else
                                                          bif (gErr 100 r62.1) != 0 then
                                                            some (false)
                                                          else
                                                            optE (loopVal step16_4 (r2.1, r65.1, 3, r62.1)) (fun e66 =>
                                                              sumE e66 (fun e67 =>
                                                                some (e67)) (fun _ =>
                                                                some (true)))
                                                              (none))
                                                    (none))
                                                  (none))
                                                (none))
                                              (none))
                                            (none)
                          else
                            bif !((r4.1.1.1 == 0) && ((r4.1.1.2 == 0) && true)) then
                              some (false)
                            else
                              bif 1 == e1.1 then
                                bif !((r4.1.2.1.1 == (wr ((wr (4 * e1.2.1)) * e1.2.2.2.1))) && ((r4.1.2.1.2 == (wr ((wr (4 * e1.2.1)) * e1.2.2.2.2))) && true)) then
                                  some (false)
                                else
                                  bif 2 == e1.1 then
                                    bif !((r4.1.2.2.1.1 == (wr ((wr (4 * e1.2.1)) * e1.2.2.2.1))) && ((r4.1.2.2.1.2 == (wr ((wr (4 * e1.2.1)) * e1.2.2.2.2))) && true)) then
                                      some (false)
                                    else
                                      bif 3 == e1.1 then
                                        bif !((r4.1.2.2.2.1 == (wr ((wr (4 * e1.2.1)) * e1.2.2.2.1))) && ((r4.1.2.2.2.2 == (wr ((wr (4 * e1.2.1)) * e1.2.2.2.2))) && true)) then
                                          some (false)
                                        else
                                          optE (p34 ([3, (-1), 2, 5], 1)) (fun r69 =>
                                            optE (p35 (r69, e1.1)) (fun r70 =>
                                              optE (p34 ([3, (-1), 2, 5], 1)) (fun r71 =>
                                                optE (p45 r2.1) (fun r72 =>
                                                  optE (p57 (r71, r72)) (fun r73 =>
                                                    bif r70.2 != 0 then
                                                      some (false)
                                                    else
                                                      bif r73.2 != 0 then
                                                        some (false)
                                                      else
                                                        bif (r73.1.length : Int) != (r2.1.length : Int) then
                                                          some (false)
                                                        else
                                                          bif (gErr 100 r70.1) != 0 then
                                                            some (false)
                                                          else
                                                            optE (loopVal step16_4 (r2.1, r73.1, 3, r70.1)) (fun e74 =>
                                                              sumE e74 (fun e75 =>
                                                                some (e75)) (fun _ =>
                                                                some (true)))
                                                              (none))
                                                    (none))
                                                  (none))
                                                (none))
                                              (none))
                                            (none)
                                      else
                                        bif !((r4.1.2.2.2.1 == 0) && ((r4.1.2.2.2.2 == 0) && true)) then
                                          some (false)
                                        else
                                          optE (p34 ([3, (-1), 2, 5], 1)) (fun r77 =>
                                            optE (p35 (r77, e1.1)) (fun r78 =>
                                              optE (p34 ([3, (-1), 2, 5], 1)) (fun r79 =>
                                                optE (p45 r2.1) (fun r80 =>
                                                  optE (p57 (r79, r80)) (fun r81 =>
                                                    bif r78.2 != 0 then
                                                      some (false)
                                                    else
                                                      bif r81.2 != 0 then
                                                        some (false)
                                                      else
                                                        bif (r81.1.length : Int) != (r2.1.length : Int) then
                                                          some (false)
                                                        else
                                                          bif (gErr 100 r78.1) != 0 then
                                                            some (false)
                                                          else
                                                            optE (loopVal step16_4 (r2.1, r81.1, 3, r78.1)) (fun e82 =>
                                                              sumE e82 (fun e83 =>
                                                                some (e83)) (fun _ =>
                                                                some (true)))
                                                              (none))
                                                    (none))
                                                  (none))
                                                (none))
                                              (none))
                                            (none)
                                  else
                                    bif !((r4.1.2.2.1.1 == 0) && ((r4.1.2.2.1.2 == 0) && true)) then
                                      some (false)
                                    else
                                      bif 3 == e1.1 then
                                        bif !((r4.1.2.2.2.1 == (wr ((wr (4 * e1.2.1)) * e1.2.2.2.1))) && ((r4.1.2.2.2.2 == (wr ((wr (4 * e1.2.1)) * e1.2.2.2.2))) && true)) then
                                          some (false)
                                        else
                                          optE (p34 ([3, (-1), 2, 5], 1)) (fun r85 =>
                                            optE (p35 (r85, e1.1)) (fun r86 =>
                                              optE (p34 ([3, (-1), 2, 5], 1)) (fun r87 =>
                                                optE (p45 r2.1) (fun r88 =>
                                                  optE (p57 (r87, r88)) (fun r89 =>
                                                    bif r86.2 != 0 then
                                                      some (false)
                                                    else
                                                      bif r89.2 != 0 then
                                                        some (false)
                                                      else
                                                        bif (r89.1.length : Int) != (r2.1.length : Int) then
                                                          some (false)
                                                        else
                                                          bif (gErr 100 r86.1) != 0 then
                                                            some (false)
                                                          else
                                                            optE (loopVal step16_4 (r2.1, r89.1, 3, r86.1)) (fun e90 =>
                                                              sumE e90 (fun e91 =>
                                                                some (e91)) (fun _ =>
                                                                some (true)))
                                                              (none))
                                                    (none))
                                                  (none))
                                                (none))
                                              (none))
                                            (none)
                                      else
                                        bif !((r4.1.2.2.2.1 == 0) && ((r4.1.2.2.2.2 == 0) && true)) then
                                          some (false)
                                        else
                                          optE (p34 ([3, (-1), 2, 5], 1)) (fun r93 =>
                                            optE (p35 (r93, e1.1)) (fun r94 =>
                                              optE (p34 ([3, (-1), 2, 5], 1)) (fun r95 =>
                                                optE (p45 r2.1) (fun r96 =>
                                                  optE (p57 (r95, r96)) (fun r97 =>
                                                    bif r94.2 != 0 then
                                                      some (false)
                                                    else
                                                      bif r97.2 != 0 then
                                                        some (false)
                                                      else
                                                        bif (r97.1.length : Int) != (r2.1.length : Int) then
                                                          some (false)
                                                        else
                                                          bif (gErr 100 r94.1) != 0 then
                                                            some (false)
                                                          else
                                                            optE (loopVal step16_4 (r2.1, r97.1, 3, r94.1)) (fun e98 =>
                                                              sumE e98 (fun e99 =>
                                                                some (e99)) (fun _ =>
                                                                some (true)))
                                                              (none))
                                                    (none))
                                                  (none))
                                                (none))
                                              (none))
                                            (none)
                              else
                                bif !((r4.1.2.1.1 == 0) && ((r4.1.2.1.2 == 0) && true)) then
                                  some (false)
                                else
                                  bif 2 == e1.1 then
                                    bif !((r4.1.2.2.1.1 == (wr ((wr (4 * e1.2.1)) * e1.2.2.2.1))) && ((r4.1.2.2.1.2 == (wr ((wr (4 * e1.2.1)) * e1.2.2.2.2))) && true)) then
                                      some (false)
                                    else
                                      bif 3 == e1.1 then
                                        bif !((r4.1.2.2.2.1 == (wr ((wr (4 * e1.2.1)) * e1.2.2.2.1))) && ((r4.1.2.2.2.2 == (wr ((wr (4 * e1.2.1)) * e1.2.2.2.2))) && true)) then
                                          some (false)
                                        else
                                          optE (p34 ([3, (-1), 2, 5], 1)) (fun r101 =>
                                            optE (p35 (r101, e1.1)) (fun r102 =>
                                              optE (p34 ([3, (-1), 2, 5], 1)) (fun r103 =>
                                                optE (p45 r2.1) (fun r104 =>
                                                  optE (p57 (r103, r104)) (fun r105 =>
                                                    bif r102.2 != 0 then
                                                      some (false)
                                                    else
                                                      bif r105.2 != 0 then
                                                        some (false)
                                                      else
                                                        bif (r105.1.length : Int) != (r2.1.length : Int) then
                                                          some (false)
                                                        else
                                                          bif (gErr 100 r102.1) != 0 then
                                                            some (false)
                                                          else
                                                            optE (loopVal step16_4 (r2.1, r105.1, 3, r102.1)) (fun e106 =>
                                                              sumE e106 (fun e107 =>
                                                                some (e107)) (fun _ =>
                                                                some (true)))
                                                              (none))
                                                    (none))
                                                  (none))
                                                (none))
                                              (none))
                                            (none)
                                      else
                                        bif !((r4.1.2.2.2.1 == 0) && ((r4.1.2.2.2.2 == 0) && true)) then
                                          some (false)
                                        else
                                          optE (p34 ([3, (-1), 2, 5], 1)) (fun r109 =>
                                            optE (p35 (r109, e1.1)) (fun r110 =>
                                              optE (p34 ([3, (-1), 2, 5], 1)) (fun r111 =>
                                                optE (p45 r2.1) (fun r112 =>
                                                  optE (p57 (r111, r112)) (fun r113 =>
                                                    bif r110.2 != 0 then
                                                      some (false)
                                                    else
                                                      bif r113.2 != 0 then
                                                        some (false)
                                                      else
                                                        bif (r113.1.length : Int) != (r2.1.length : Int) then
                                                          some (false)
                                                        else
                                                          bif (gErr 100 r110.1) != 0 then
                                                            some (false)
                                                          else
                                                            optE (loopVal step16_4 (r2.1, r113.1, 3, r110.1)) (fun e114 =>
                                                              sumE e114 (fun e115 =>
                                                                some (e115)) (fun _ =>
                                                                some (true)))
                                                              (none))
                                                    (none))
                                                  (none))
                                                (none))
                                              (none))
                                            (none)
                                  else
                                    bif !((r4.1.2.2.1.1 == 0) && ((r4.1.2.2.1.2 == 0) && true)) then
                                      some (false)
                                    else
                                      bif 3 == e1.1 then
                                        bif !((r4.1.2.2.2.1 == (wr ((wr (4 * e1.2.1)) * e1.2.2.2.1))) && ((r4.1.2.2.2.2 == (wr ((wr (4 * e1.2.1)) * e1.2.2.2.2))) && true)) then
                                          some (false)
                                        else
                                          optE (p34 ([3, (-1), 2, 5], 1)) (fun r117 =>
                                            optE (p35 (r117, e1.1)) (fun r118 =>
                                              optE (p34 ([3, (-1), 2, 5], 1)) (fun r119 =>
                                                optE (p45 r2.1) (fun r120 =>
                                                  optE (p57 (r119, r120)) (fun r121 =>
                                                    bif r118.2 != 0 then
                                                      some (false)
                                                    else
                                                      bif r121.2 != 0 then
                                                        some (false)
                                                      else
                                                        bif (r121.1.length : Int) != (r2.1.length : Int) then
                                                          some (false)
                                                        else
                                                          bif (gErr 100 r118.1) != 0 then
                                                            some (false)
                                                          else
                                                            optE (loopVal step16_4 (r2.1, r121.1, 3, r118.1)) (fun e122 =>
                                                              sumE e122 (fun e123 =>
                                                                some (e123)) (fun _ =>
                                                                some (true)))
                                                              (none))
                                                    (none))
                                                  (none))
                                                (none))
                                              (none))
                                            (none)
                                      else
                                        bif !((r4.1.2.2.2.1 == 0) && ((r4.1.2.2.2.2 == 0) && true)) then
                                          some (false)
                                        else
                                          optE (p34 ([3, (-1), 2, 5], 1)) (fun r125 =>
                                            optE (p35 (r125, e1.1)) (fun r126 =>
                                              optE (p34 ([3, (-1), 2, 5], 1)) (fun r127 =>
                                                optE (p45 r2.1) (fun r128 =>
                                                  optE (p57 (r127, r128)) (fun r129 =>
                                                    bif r126.2 != 0 then
                                                      some (false)
                                                    else
                                                      bif r129.2 != 0 then
                                                        some (false)
                                                      else
                                                        bif (r129.1.length : Int) != (r2.1.length : Int) then
                                                          some (false)
                                                        else
                                                          bif (gErr 100 r126.1) != 0 then
                                                            some (false)
                                                          else
                                                            optE (loopVal step16_4 (r2.1, r129.1, 3, r126.1)) (fun e130 =>
                                                              sumE e130 (fun e131 =>
                                                                some (e131)) (fun _ =>
                                                                some (true)))
                                                              (none))
                                                    (none))
                                                  (none))
                                                (none))
                                              (none))
                                            (none))
                        (none))
                      (none))
              (none))
            (none)
theorem i16 : ItemOk Try.prog (.fn 16 [.d (.agg (.pair (.int .i64) (.int .i64))), .d (.int .i64), .d (.int .i64)] [.d .bool] s16) := item_fn (U := 9) (n := 4) noSpecial mixed Ga17K3_ok (fun x => by kernel_rfl)
noncomputable def Ga17K4 : List Ev.Item := .fn 16 [.d (.agg (.pair (.int .i64) (.int .i64))), .d (.int .i64), .d (.int .i64)] [.d .bool] s16 :: Ga17K3
theorem Ga17K4_ok : ∀ q ∈ Ga17K4, ItemOk Try.prog q := items_cons i16 Ga17K3_ok
end Go.Proofs.Ytinkhmfciealkaa
