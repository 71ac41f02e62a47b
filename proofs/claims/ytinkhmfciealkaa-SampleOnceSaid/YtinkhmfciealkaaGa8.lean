/- Printed by gen.py: specifications of functions. -/
import Derived.Test.YtinkhmfciealkaaGa7
set_option linter.unusedSimpArgs false
set_option maxRecDepth 100000
namespace Go.Proofs.Ytinkhmfciealkaa
open Go.Ev

/-! cassegrain cassegrainlaw02.SampleComposed -/
noncomputable def s5 : ((List Int) × Int) × ((List Int) × Int) × Int → Option (Bool) := fun (a0, a1, a2) =>
  bif !true then
    some (false)
  else
    bif decide ((a0.1.length : Int) > 10) then
      some (true)
    else
      bif decide ((a1.1.length : Int) > 10) then
        some (true)
      else
        optE (p34 a0) (fun r1 =>
          optE (p34 a1) (fun r2 =>
            optE (p33 (r1, r2)) (fun r3 =>
              optE (p34 a0) (fun r4 =>
                optE (p35 (r4, a2)) (fun r5 =>
                  bif (filtE a0) != 0 then
                    bif r3.2 == (filtE a0) then
                      bif r5.2 == (filtE a0) then
                        optE (p37 (r3.1, ([], 0))) (fun r6 =>
                          bif r6 then
                            some ((r5.1.1 == 0) && ((r5.1.2 == 0) && true))
                          else
                            some (false))
                          (none)
                      else
                        some (false)
                    else
                      some (false)
                  else
                    bif (unl (win a2 0 3) 2) != 0 then
                      bif r5.2 != (unl (win a2 0 3) 2) then
                        some (false)
                      else
                        bif !((r5.1.1 == 0) && ((r5.1.2 == 0) && true)) then
                          some (false)
                        else
                          bif (unl (win a2 0 3) 2) == 0 then
                            bif r5.2 != 0 then
                              some (false)
                            else
                              optE (p39 (a0, a2)) (fun r7 =>
                                bif !((r5.1.1 == r7.1) && ((r5.1.2 == r7.2) && true)) then
                                  some (false)
                                else
                                  bif (filtE a1) != 0 then
                                    bif r3.2 == (filtE a1) then
                                      optE (p37 (r3.1, ([], 0))) (fun r8 =>
                                        some (r8))
                                        (none)
                                    else
                                      some (false)
                                  else
                                    optE (p40 (a0, a1)) (fun r9 =>
                                      bif (filtE r9) != 0 then
                                        bif r3.2 == 8 then
                                          optE (p37 (r3.1, ([], 0))) (fun r10 =>
                                            some (r10))
                                            (none)
                                        else
                                          some (false)
                                      else
                                        bif r3.2 == 0 then
                                          optE (p37 (r3.1, r9)) (fun r11 =>
                                            some (r11))
                                            (none)
                                        else
                                          some (false))
                                      (none))
                                (none)
                          else
                            bif (filtE a1) != 0 then
                              bif r3.2 == (filtE a1) then
                                optE (p37 (r3.1, ([], 0))) (fun r12 =>
                                  some (r12))
                                  (none)
                              else
                                some (false)
                            else
                              optE (p40 (a0, a1)) (fun r13 =>
                                bif (filtE r13) != 0 then
                                  bif r3.2 == 8 then
                                    optE (p37 (r3.1, ([], 0))) (fun r14 =>
                                      some (r14))
                                      (none)
                                  else
                                    some (false)
                                else
                                  bif r3.2 == 0 then
                                    optE (p37 (r3.1, r13)) (fun r15 =>
                                      some (r15))
                                      (none)
                                  else
                                    some (false))
                                (none)
                    else
                      bif (unl (win a2 0 3) 2) == 0 then
                        bif r5.2 != 0 then
                          some (false)
                        else
                          optE (p39 (a0, a2)) (fun r16 =>
                            bif !((r5.1.1 == r16.1) && ((r5.1.2 == r16.2) && true)) then
                              some (false)
                            else
                              bif (filtE a1) != 0 then
                                bif r3.2 == (filtE a1) then
                                  optE (p37 (r3.1, ([], 0))) (fun r17 =>
                                    some (r17))
                                    (none)
                                else
                                  some (false)
                              else
                                optE (p40 (a0, a1)) (fun r18 =>
                                  bif (filtE r18) != 0 then
                                    bif r3.2 == 8 then
                                      optE (p37 (r3.1, ([], 0))) (fun r19 =>
                                        some (r19))
                                        (none)
                                    else
                                      some (false)
                                  else
                                    bif r3.2 == 0 then
                                      optE (p37 (r3.1, r18)) (fun r20 =>
                                        some (r20))
                                        (none)
                                    else
                                      some (false))
                                  (none))
                            (none)
                      else
                        bif (filtE a1) != 0 then
                          bif r3.2 == (filtE a1) then
                            optE (p37 (r3.1, ([], 0))) (fun r21 =>
                              some (r21))
                              (none)
                          else
                            some (false)
                        else
                          optE (p40 (a0, a1)) (fun r22 =>
                            bif (filtE r22) != 0 then
                              bif r3.2 == 8 then
                                optE (p37 (r3.1, ([], 0))) (fun r23 =>
                                  some (r23))
                                  (none)
                              else
                                some (false)
                            else
                              bif r3.2 == 0 then
                                optE (p37 (r3.1, r22)) (fun r24 =>
                                  some (r24))
                                  (none)
                              else
                                some (false))
                            (none))
                  (none))
                (none))
              (none))
            (none))
          (none)
theorem i5 : ItemOk Try.prog (.fn 5 [.d (.agg (.pair (.slice (.int .i64)) (.int .i64))), .d (.agg (.pair (.slice (.int .i64)) (.int .i64))), .d (.int .i64)] [.d .bool] s5) := item_fn (U := 9) (n := 4) noSpecial mixed Ga7K6_ok (fun x => by kernel_rfl)
noncomputable def Ga8K1 : List Ev.Item := .fn 5 [.d (.agg (.pair (.slice (.int .i64)) (.int .i64))), .d (.agg (.pair (.slice (.int .i64)) (.int .i64))), .d (.int .i64)] [.d .bool] s5 :: Ga7K6
theorem Ga8K1_ok : ∀ q ∈ Ga8K1, ItemOk Try.prog q := items_cons i5 Ga7K6_ok
end Go.Proofs.Ytinkhmfciealkaa
