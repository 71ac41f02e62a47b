/- Printed by gen.py: specifications of functions. -/
import Derived.Test.YtinkhmfciealkaaGa4
set_option linter.unusedSimpArgs false
set_option maxRecDepth 100000
namespace Go.Proofs.Ytinkhmfciealkaa
open Go.Ev

/-! cassegrain cassegrainlaw02.SampleMixes -/
noncomputable def s14 : (Int × Int × Int) × (List (Int × Int)) → Option (Bool) := fun (a0, a1) =>
  bif !true then
    some (false)
  else
    bif !(shortB a1) then
      some (true)
    else
      optE (p45 a1) (fun r1 =>
        optE (p44 (a0, r1)) (fun r2 =>
          optE (p45 a1) (fun r3 =>
            optE (p78 (a0, r3)) (fun r4 =>
              optE (p45 a1) (fun r5 =>
                optE (p81 r5) (fun r6 =>
                  optE (p45 a1) (fun r7 =>
                    optE (p79 r7) (fun r8 =>
                      bif (smpE a1) != 0 then
                        bif r6.2 != (smpE a1) then
                          some (false)
                        else
                          bif (r6.1.length : Int) != 0 then
                            some (false)
                          else
                            bif r8.2 != (smpE a1) then
                              some (false)
                            else
                              bif r8.1 != 0 then
                                some (false)
                              else
                                bif (smpE a1) == 0 then
                                  bif r6.2 != 0 then
                                    some (false)
                                  else
                                    optE (p82 a1) (fun r9 =>
                                      optE (same29 (r6.1, r9)) (fun r10 =>
                                        bif !r10 then
                                          some (false)
                                        else
                                          bif r8.2 != 0 then
                                            some (false)
                                          else
                                            optE (p83 a1) (fun r11 =>
                                              bif r8.1 != r11 then
                                                some (false)
                                              else
                                                bif (progE a0) != 0 then
                                                  bif (progE a0) != 0 then
                                                    bif r2.2 == (progE a0) then
                                                      bif r4.2 == (progE a0) then
                                                        bif (r2.1.length : Int) == 0 then
                                                          some ((r4.1.length : Int) == 0)
                                                        else
                                                          some (false)
                                                      else
                                                        some (false)
                                                    else
                                                      some (false)
                                                  else
                                                    bif r2.2 == 0 then
                                                      optE (p84 (a0, a1, (-1))) (fun r12 =>
                                                        optE (same60 (r2.1, r12)) (fun r13 =>
                                                          bif r13 then
                                                            bif r4.2 == 0 then
                                                              optE (p84 (a0, a1, 1)) (fun r14 =>
                                                                optE (same60 (r4.1, r14)) (fun r15 =>
                                                                  some (r15))
                                                                  (none))
                                                                (none)
                                                            else
                                                              some (false)
                                                          else
                                                            some (false))
                                                          (none))
                                                        (none)
                                                    else
                                                      some (false)
                                                else
                                                  bif (smpE a1) != 0 then
                                                    bif r2.2 == (smpE a1) then
                                                      bif r4.2 == (smpE a1) then
                                                        bif (r2.1.length : Int) == 0 then
                                                          some ((r4.1.length : Int) == 0)
                                                        else
                                                          some (false)
                                                      else
                                                        some (false)
                                                    else
                                                      some (false)
                                                  else
                                                    bif r2.2 == 0 then
                                                      optE (p84 (a0, a1, (-1))) (fun r16 =>
                                                        optE (same60 (r2.1, r16)) (fun r17 =>
                                                          bif r17 then
                                                            bif r4.2 == 0 then
                                                              optE (p84 (a0, a1, 1)) (fun r18 =>
                                                                optE (same60 (r4.1, r18)) (fun r19 =>
                                                                  some (r19))
                                                                  (none))
                                                                (none)
                                                            else
                                                              some (false)
                                                          else
                                                            some (false))
                                                          (none))
                                                        (none)
                                                    else
                                                      some (false))
                                              (none))
                                        (none))
                                      (none)
                                else
                                  bif (progE a0) != 0 then
                                    bif (progE a0) != 0 then
                                      bif r2.2 == (progE a0) then
                                        bif r4.2 == (progE a0) then
                                          bif (r2.1.length : Int) == 0 then
                                            some ((r4.1.length : Int) == 0)
                                          else
                                            some (false)
                                        else
                                          some (false)
                                      else
                                        some (false)
                                    else
                                      bif r2.2 == 0 then
                                        optE (p84 (a0, a1, (-1))) (fun r20 =>
                                          optE (same60 (r2.1, r20)) (fun r21 =>
                                            bif r21 then
                                              bif r4.2 == 0 then
                                                optE (p84 (a0, a1, 1)) (fun r22 =>
                                                  optE (same60 (r4.1, r22)) (fun r23 =>
                                                    some (r23))
                                                    (none))
                                                  (none)
                                              else
                                                some (false)
                                            else
                                              some (false))
                                            (none))
                                          (none)
                                      else
                                        some (false)
                                  else
                                    bif (smpE a1) != 0 then
                                      bif r2.2 == (smpE a1) then
                                        bif r4.2 == (smpE a1) then
                                          bif (r2.1.length : Int) == 0 then
                                            some ((r4.1.length : Int) == 0)
                                          else
                                            some (false)
                                        else
                                          some (false)
                                      else
                                        some (false)
                                    else
                                      bif r2.2 == 0 then
                                        optE (p84 (a0, a1, (-1))) (fun r24 =>
                                          optE (same60 (r2.1, r24)) (fun r25 =>
                                            bif r25 then
                                              bif r4.2 == 0 then
                                                optE (p84 (a0, a1, 1)) (fun r26 =>
                                                  optE (same60 (r4.1, r26)) (fun r27 =>
                                                    some (r27))
                                                    (none))
                                                  (none)
                                              else
                                                some (false)
                                            else
                                              some (false))
                                            (none))
                                          (none)
                                      else
                                        some (false)
                      else
                        bif (smpE a1) == 0 then
                          bif r6.2 != 0 then
                            some (false)
                          else
                            optE (p82 a1) (fun r28 =>
                              optE (same29 (r6.1, r28)) (fun r29 =>
                                bif !r29 then
                                  some (false)
                                else
                                  bif r8.2 != 0 then
                                    some (false)
                                  else
                                    optE (p83 a1) (fun r30 =>
                                      bif r8.1 != r30 then
                                        some (false)
                                      else
                                        bif (progE a0) != 0 then
                                          bif (progE a0) != 0 then
                                            bif r2.2 == (progE a0) then
                                              bif r4.2 == (progE a0) then
                                                bif (r2.1.length : Int) == 0 then
                                                  some ((r4.1.length : Int) == 0)
                                                else
                                                  some (false)
                                              else
                                                some (false)
                                            else
                                              some (false)
                                          else
                                            bif r2.2 == 0 then
                                              optE (p84 (a0, a1, (-1))) (fun r31 =>
                                                optE (same60 (r2.1, r31)) (fun r32 =>
                                                  bif r32 then
                                                    bif r4.2 == 0 then
                                                      optE (p84 (a0, a1, 1)) (fun r33 =>
                                                        optE (same60 (r4.1, r33)) (fun r34 =>
                                                          some (r34))
                                                          (none))
                                                        (none)
                                                    else
                                                      some (false)
                                                  else
                                                    some (false))
                                                  (none))
                                                (none)
                                            else
                                              some (false)
                                        else
                                          bif (smpE a1) != 0 then
                                            bif r2.2 == (smpE a1) then
                                              bif r4.2 == (smpE a1) then
                                                bif (r2.1.length : Int) == 0 then
                                                  some ((r4.1.length : Int) == 0)
                                                else
                                                  some (false)
                                              else
                                                some (false)
                                            else
                                              some (false)
                                          else
                                            bif r2.2 == 0 then
                                              optE (p84 (a0, a1, (-1))) (fun r35 =>
                                                optE (same60 (r2.1, r35)) (fun r36 =>
                                                  bif r36 then
                                                    bif r4.2 == 0 then
                                                      optE (p84 (a0, a1, 1)) (fun r37 =>
                                                        optE (same60 (r4.1, r37)) (fun r38 =>
                                                          some (r38))
                                                          (none))
                                                        (none)
                                                    else
                                                      some (false)
                                                  else
                                                    some (false))
                                                  (none))
                                                (none)
                                            else
                                              some (false))
                                      (none))
                                (none))
                              (none)
                        else
                          bif (progE a0) != 0 then
                            bif (progE a0) != 0 then
                              bif r2.2 == (progE a0) then
                                bif r4.2 == (progE a0) then
                                  bif (r2.1.length : Int) == 0 then
                                    some ((r4.1.length : Int) == 0)
                                  else
                                    some (false)
                                else
                                  some (false)
                              else
                                some (false)
                            else
                              bif r2.2 == 0 then
                                optE (p84 (a0, a1, (-1))) (fun r39 =>
                                  optE (same60 (r2.1, r39)) (fun r40 =>
                                    bif r40 then
                                      bif r4.2 == 0 then
                                        optE (p84 (a0, a1, 1)) (fun r41 =>
                                          optE (same60 (r4.1, r41)) (fun r42 =>
                                            some (r42))
                                            (none))
                                          (none)
                                      else
                                        some (false)
                                    else
                                      some (false))
                                    (none))
                                  (none)
                              else
                                some (false)
                          else
                            bif (smpE a1) != 0 then
                              bif r2.2 == (smpE a1) then
                                bif r4.2 == (smpE a1) then
                                  bif (r2.1.length : Int) == 0 then
                                    some ((r4.1.length : Int) == 0)
                                  else
                                    some (false)
                                else
                                  some (false)
                              else
                                some (false)
                            else
                              bif r2.2 == 0 then
                                optE (p84 (a0, a1, (-1))) (fun r43 =>
                                  optE (same60 (r2.1, r43)) (fun r44 =>
                                    bif r44 then
                                      bif r4.2 == 0 then
                                        optE (p84 (a0, a1, 1)) (fun r45 =>
                                          optE (same60 (r4.1, r45)) (fun r46 =>
                                            some (r46))
                                            (none))
                                          (none)
                                      else
                                        some (false)
                                    else
                                      some (false))
                                    (none))
                                  (none)
                              else
                                some (false))
                      (none))
                    (none))
                  (none))
                (none))
              (none))
            (none))
          (none))
        (none)
theorem i14 : ItemOk Try.prog (.fn 14 [.d (.agg (.pair (.int .i64) (.pair (.int .i64) (.int .i64)))), .d (.slice (.agg (.pair (.int .i64) (.int .i64))))] [.d .bool] s14) := item_fn (U := 9) (n := 4) noSpecial mixed Ga4K16_ok (fun x => by kernel_rfl)
noncomputable def Ga5K1 : List Ev.Item := .fn 14 [.d (.agg (.pair (.int .i64) (.pair (.int .i64) (.int .i64)))), .d (.slice (.agg (.pair (.int .i64) (.int .i64))))] [.d .bool] s14 :: Ga4K16
theorem Ga5K1_ok : ∀ q ∈ Ga5K1, ItemOk Try.prog q := items_cons i14 Ga4K16_ok
end Go.Proofs.Ytinkhmfciealkaa
