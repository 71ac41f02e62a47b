/- Printed by gen.py: specifications of functions. -/
import Derived.Test.YtinkhmfciealkaaGa14
set_option linter.unusedSimpArgs false
set_option maxRecDepth 100000
namespace Go.Proofs.Ytinkhmfciealkaa
open Go.Ev

/-! cassegrain cassegrainlaw02.SampleLinear -/
@[reducible] def T13_0 : Tmpl := ⟨213, [(3, .ref 3 0 0 0), (4, .ref 4 0 0 0), (11, .ref 11 0 0 0)], [.val 2 (.slice (.agg (.pair (.int .i64) (.int .i64)))), .own 7 53 23 (.agg (.pair (.int .i64) (.int .i64))), .val 15 (.int .i64), .cells 3 [.d (.pair (.slice (.int .i64)) (.int .i64))], .cells 4 [.d (.pair (.slice (.int .i64)) (.int .i64))], .cells 11 [.d (.pair (.slice (.int .i64)) (.int .i64))]]⟩
@[reducible] def X13_0 : List (Ex × Tmpl) := [(.ret, ⟨213, [], [.val 6 .bool]⟩), (.exit 0, ⟨213, [(4, .ref 4 0 0 0), (11, .ref 11 0 0 0)], [.val 2 (.slice (.agg (.pair (.int .i64) (.int .i64)))), .own 7 53 23 (.agg (.pair (.int .i64) (.int .i64))), .cells 4 [.d (.pair (.slice (.int .i64)) (.int .i64))], .cells 11 [.d (.pair (.slice (.int .i64)) (.int .i64))]]⟩)]
/-- data: t2, t7, t15, t3, t4, t11; ends: ret: t6; exit 0: t2, t7, t4, t11 -/
noncomputable def step13_0 : (List (Int × Int)) × (List (Int × Int)) × Int × ((List Int) × Int) × ((List Int) × Int) × ((List Int) × Int) → Option (((List (Int × Int)) × (List (Int × Int)) × Int × ((List Int) × Int) × ((List Int) × Int) × ((List Int) × Int)) ⊕ ((Bool) ⊕ ((List (Int × Int)) × (List (Int × Int)) × ((List Int) × Int) × ((List Int) × Int)))) := fun (t2, t7, t15, t3, t4, t11) =>
  bif decide (t15 < 4) then
    optE (p34 t3) (fun r14 =>
      optE (p35 (r14, t15)) (fun r15 =>
        optE (p34 t4) (fun r16 =>
          optE (p35 (r16, t15)) (fun r17 =>
            optE (p34 t11) (fun r18 =>
              optE (p35 (r18, t15)) (fun r19 =>
                bif r15.2 != 0 then
                  some (.inr (.inl false))
                else
                  bif r17.2 != 0 then
                    some (.inr (.inl false))
                  else
                    bif r19.2 != 0 then
                      some (.inr (.inl false))
                    else
                      bif (gErr 1000 r15.1) != 0 then
                        some (.inr (.inl false))
                      else
                        bif (gErr 1000 r17.1) != 0 then
                          some (.inr (.inl false))
                        else
                          bif !((r19.1.1 == (gmulW r15.1 r17.1).1) && ((r19.1.2 == (gmulW r15.1 r17.1).2) && true)) then
                            some (.inr (.inl false))
                          else
                            some (.inl (t2, t7, wr (t15 + 1), t3, t4, t11)))
                (none))
              (none))
            (none))
          (none))
        (none))
      (none)
  else
    some (.inr (.inr (t2, t7, t4, t11)))
theorem one13_0 : oneLoop Try.prog 13 0 = true := by kernel_rfl
theorem lp13_0 : ItemOk Try.prog (.loop 13 0 T13_0 X13_0 (loopVal step13_0)) := item_loop (U := 9) (n := 3) noSpecial mixed Ga14K1_ok one13_0 (fun x => by kernel_rfl)
noncomputable def Ga15K1 : List Ev.Item := .loop 13 0 T13_0 X13_0 (loopVal step13_0) :: Ga14K1
theorem Ga15K1_ok : ∀ q ∈ Ga15K1, ItemOk Try.prog q := items_cons lp13_0 Ga14K1_ok
noncomputable def s13 : ((List Int) × Int) × ((List Int) × Int) × (List (Int × Int)) → Option (Bool) := fun (a0, a1, a2) =>
  bif !true then
    some (false)
  else
    bif decide ((a2.length : Int) > 30) then
      some (true)
    else
      bif (filtE (a0.1, 1)) != 0 then
        some (true)
      else
        bif (filtE (a1.1, 1)) != 0 then
          some (true)
        else
          bif (smpE a2) != 0 then
            some (true)
          else
            optE (p34 (a0.1, 1)) (fun r1 =>
              optE (p45 a2) (fun r2 =>
                optE (p57 (r1, r2)) (fun r3 =>
                  optE (p34 (a0.1, 1)) (fun r4 =>
                    bif room 16 (1 + a2.length) then
                      optE (p57 (r4, [(0, 0)] ++ a2)) (fun r5 =>
                        bif r3.2 != 0 then
                          some (false)
                        else
                          bif r5.2 != 0 then
                            some (false)
                          else
                            bif (r3.1.length : Int) != (a2.length : Int) then
                              some (false)
                            else
                              bif (r5.1.length : Int) != (wr ((a2.length : Int) + 1)) then
                                some (false)
                              else
                                bif inBounds 0 r5.1.length then
                                  bif !(((r5.1.getD 0 (0, 0)).1 == 0) && (((r5.1.getD 0 (0, 0)).2 == 0) && true)) then
                                    some (false)
                                  else
                                    bif decide (1 ≤ (r5.1.length : Int)) then
                                      optE (same60 (r5.1.drop 1, r3.1)) (fun r6 =>
                                        bif !r6 then
                                          some (false)
                                        else
                                          optE (p34 (a0.1, 1)) (fun r7 =>
                                            optE (p34 (a1.1, 1)) (fun r8 =>
                                              optE (p33 (r7, r8)) (fun r9 =>
                                                optE (p34 (a1.1, 1)) (fun r10 =>
                                                  optE (p34 (a0.1, 1)) (fun r11 =>
                                                    optE (p33 (r10, r11)) (fun r12 =>
                                                      bif r9.2 != r12.2 then
                                                        some (false)
                                                      else
                                                        optE (p37 (r9.1, r12.1)) (fun r13 =>
                                                          bif !r13 then
                                                            some (false)
                                                          else
                                                            bif r9.2 != 0 then
                                                              some (r9.2 == 8)
                                                            else
                                                              bif (filtE r9.1) != 0 then
                                                                some (false)
                                                              else
                                                                optE (loopVal step13_0 (a2, r3.1, 0, (a0.1, 1), (a1.1, 1), r9.1)) (fun e14 =>
                                                                  sumE e14 (fun e15 =>
                                                                    some (e15)) (fun e16 =>
                                                                    optE (p34 e16.2.2.2) (fun r17 =>
                                                                      optE (p45 e16.1) (fun r18 =>
                                                                        optE (p57 (r17, r18)) (fun r19 =>
                                                                          bif r19.2 != 0 then
                                                                            some (false)
                                                                          else
                                                                            bif (smpE e16.2.1) != 0 then
                                                                              some (true)
                                                                            else
                                                                              optE (p34 e16.2.2.1) (fun r20 =>
                                                                                optE (p45 e16.2.1) (fun r21 =>
                                                                                  optE (p57 (r20, r21)) (fun r22 =>
                                                                                    bif r22.2 == 0 then
                                                                                      optE (same60 (r19.1, r22.1)) (fun r23 =>
                                                                                        some (r23))
                                                                                        (none)
                                                                                    else
                                                                                      some (false))
                                                                                    (none))
                                                                                  (none))
                                                                                (none))
                                                                          (none))
                                                                        (none))
                                                                      (none)))
                                                                  (none))
                                                          (none))
                                                      (none))
                                                    (none))
                                                  (none))
                                                (none))
                                              (none))
                                            (none))
                                        (none)
                                    else
                                      none
                                else
                                  none)
                        (none)
                    else
                      none)
                    (none))
                  (none))
                (none))
              (none)
theorem i13 : ItemOk Try.prog (.fn 13 [.d (.agg (.pair (.slice (.int .i64)) (.int .i64))), .d (.agg (.pair (.slice (.int .i64)) (.int .i64))), .d (.slice (.agg (.pair (.int .i64) (.int .i64))))] [.d .bool] s13) := item_fn (U := 9) (n := 4) noSpecial mixed Ga15K1_ok (fun x => by kernel_rfl)
noncomputable def Ga15K2 : List Ev.Item := .fn 13 [.d (.agg (.pair (.slice (.int .i64)) (.int .i64))), .d (.agg (.pair (.slice (.int .i64)) (.int .i64))), .d (.slice (.agg (.pair (.int .i64) (.int .i64))))] [.d .bool] s13 :: Ga15K1
theorem Ga15K2_ok : ∀ q ∈ Ga15K2, ItemOk Try.prog q := items_cons i13 Ga15K1_ok
end Go.Proofs.Ytinkhmfciealkaa
