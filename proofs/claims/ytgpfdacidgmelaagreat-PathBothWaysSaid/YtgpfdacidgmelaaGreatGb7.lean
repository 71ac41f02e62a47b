/- Printed by gen.py: specifications of functions. -/
import Derived.Test.YtgpfdacidgmelaaGreatGb6
set_option linter.unusedSimpArgs false
set_option maxRecDepth 100000
namespace Go.Proofs.YtgpfdacidgmelaaGreat
open Go.Ev

/-! cassegrain cassegrainlaw01.PathBothWays -/
noncomputable def s7 : ((List (Int × Int × Int × Int)) × Int) × ((List (Int × Int × Int × Int)) × Int) × Int → Option (Bool) := fun (a, b, time) =>
  bif !true then
    some (false)
  else
    optE (s12 (a, b)) (fun r1 =>
      bif !r1 then
        some (true)
      else
        optE (s16 (a, b)) (fun r2 =>
          bif r2 != 0 then
            some (true)
          else
            optE (s17 (a, b, time)) (fun r3 =>
              bif r3 != 0 then
                some (true)
              else
                optE (s14 a) (fun r4 =>
                  optE (s14 b) (fun r5 =>
                    optE (s24 (r4, r5, time)) (fun r6 =>
                      (fun (k1 : Unit → Option (Bool)) =>
                        bif r6.2 == 0 then
                          optE (s29 b) (fun r7 =>
                            optE (s28 (r6.1.1, time, r7)) (fun r8 =>
                              bif !r8 then
                                some (false)
                              else
                                optE (s29 b) (fun r9 =>
                                  optE (s28 (r6.1.2, r6.1.1, r9)) (fun r10 =>
                                    bif !r10 then
                                      some (false)
                                    else
                                      optE (s30 (a, b, time, r6.1.2)) (fun r11 =>
                                        bif !r11 then
                                          some (false)
                                        else
                                          (fun (k4 : Unit → Option (Bool)) =>
                                            bif decide (r6.1.2 > time) then
                                              optE (s30 (a, b, time, wr (r6.1.2 - 1))) (fun r12 =>
                                                bif r12 then
                                                  some (false)
                                                else
                                                  k4 ())
                                                (none)
                                            else
                                              k4 ()) (fun _ =>
                                            (fun (k5 : Unit → Option (Bool)) =>
                                              bif decide (r6.1.1 > time) then
                                                optE (s31 (a, b, time, r6.1.1)) (fun r13 =>
                                                  bif !r13 then
                                                    some (false)
                                                  else
                                                    k5 ())
                                                  (none)
                                              else
                                                k5 ()) (fun _ =>
                                              optE (s29 b) (fun r14 =>
                                                (fun (k6 : Unit → Option (Bool)) =>
                                                  bif decide (r6.1.1 < r14) then
                                                    optE (s31 (a, b, time, wr (r6.1.1 + 1))) (fun r15 =>
                                                      bif r15 then
                                                        some (false)
                                                      else
                                                        k6 ())
                                                      (none)
                                                  else
                                                    k6 ()) (fun _ =>
                                                  optE (s14 a) (fun r16 =>
                                                    optE (s14 b) (fun r17 =>
                                                      optE (s20 (r16, r17, (time, r6.1.1, r6.1.2))) (fun r18 =>
                                                        bif r18 != 0 then
                                                          bif r18 == 2 then
                                                            optE (s17 (a, b, r6.1.2)) (fun r19 =>
                                                              bif !(r19 != 0) then
                                                                some (false)
                                                              else
                                                                k1 ())
                                                              (none)
                                                          else
                                                            some (false)
                                                        else
                                                          k1 ())
                                                        (none))
                                                      (none))
                                                    (none)))
                                                (none))))
                                        (none))
                                    (none))
                                  (none))
                              (none))
                            (none)
                        else
                          bif r6.2 != 12 then
                            some (false)
                          else
                            optE (s29 b) (fun r663 =>
                              optE (s30 (a, b, time, r663)) (fun r664 =>
                                bif r664 then
                                  some (false)
                                else
                                  k1 ())
                                (none))
                              (none)) (fun _ =>
                        optE (s14 a) (fun r20 =>
                          optE (s14 b) (fun r21 =>
                            optE (s25 (r20, r21, time)) (fun r22 =>
                              (fun (k2 : Unit → Option (Bool)) =>
                                bif r22.2 == 0 then
                                  optE (s32 a) (fun r23 =>
                                    optE (s28 (r22.1.1, r23, time)) (fun r24 =>
                                      bif !r24 then
                                        some (false)
                                      else
                                        optE (s28 (r22.1.2, r22.1.1, time)) (fun r25 =>
                                          bif !r25 then
                                            some (false)
                                          else
                                            optE (s30 (a, b, r22.1.1, time)) (fun r26 =>
                                              bif !r26 then
                                                some (false)
                                              else
                                                (fun (k3 : Unit → Option (Bool)) =>
                                                  bif decide (r22.1.1 < time) then
                                                    optE (s30 (a, b, wr (r22.1.1 + 1), time)) (fun r27 =>
                                                      bif r27 then
                                                        some (false)
                                                      else
                                                        k3 ())
                                                      (none)
                                                  else
                                                    k3 ()) (fun _ =>
                                                  optE (s17 (a, b, r22.1.1)) (fun r28 =>
                                                    bif r28 == 0 then
                                                      optE (s14 a) (fun r29 =>
                                                        optE (s14 b) (fun r30 =>
                                                          optE (s24 (r29, r30, r22.1.1)) (fun r31 =>
                                                            bif r31.2 != 0 then
                                                              some (false)
                                                            else
                                                              bif decide (r31.1.2 > time) then
                                                                some (false)
                                                              else
                                                                k2 ())
                                                            (none))
                                                          (none))
                                                        (none)
                                                    else
                                                      k2 ())
                                                    (none)))
                                              (none))
                                          (none))
                                      (none))
                                    (none)
                                else
                                  bif r22.2 != 12 then
                                    some (false)
                                  else
                                    optE (s32 a) (fun r52 =>
                                      optE (s30 (a, b, r52, time)) (fun r53 =>
                                        bif r53 then
                                          some (false)
                                        else
                                          k2 ())
                                        (none))
                                      (none)) (fun _ =>
                                optE (s14 a) (fun r32 =>
                                  optE (s14 b) (fun r33 =>
                                    optE (s22 (r32, r33, time)) (fun r34 =>
                                      optE (s23 (a, b, time)) (fun r35 =>
                                        bif r34.2 != r35.2 then
                                          some (false)
                                        else
                                          bif !((r34.1.1 == r35.1.1) && ((r34.1.2 == r35.1.2) && true)) then
                                            some (false)
                                          else
                                            bif r34.2 != 0 then
                                              some (true)
                                            else
                                              bif decide (r34.1.1 ≥ time) then
                                                bif decide (r34.1.2 ≥ r34.1.1) then
                                                  bif r6.2 != 0 then
                                                    some (true)
                                                  else
                                                    bif decide (r34.1.1 ≥ r6.1.1) then
                                                      some (decide (r34.1.2 ≥ r6.1.2))
                                                    else
                                                      some (false)
                                                else
                                                  some (false)
                                              else
                                                some (false))
                                        (none))
                                      (none))
                                    (none))
                                  (none)))
                              (none))
                            (none))
                          (none)))
                      (none))
                    (none))
                  (none))
              (none))
          (none))
      (none)
theorem i7 : ItemOk Tryz.prog (.fn 7 [.d (.agg (.pair (.slice (.agg (.pair (.int .i64) (.pair (.int .i64) (.pair (.int .i64) (.int .i64)))))) (.int .i64))), .d (.agg (.pair (.slice (.agg (.pair (.int .i64) (.pair (.int .i64) (.pair (.int .i64) (.int .i64)))))) (.int .i64))), .d (.int .i64)] [.d .bool] s7) := item_fnM md1 ext1 (U := 9) (n := 4) noSpecial mixed Gb6K4_ok (fun x => by kernel_rfl)
noncomputable def Gb7K1 : List Ev.Item := .fn 7 [.d (.agg (.pair (.slice (.agg (.pair (.int .i64) (.pair (.int .i64) (.pair (.int .i64) (.int .i64)))))) (.int .i64))), .d (.agg (.pair (.slice (.agg (.pair (.int .i64) (.pair (.int .i64) (.pair (.int .i64) (.int .i64)))))) (.int .i64))), .d (.int .i64)] [.d .bool] s7 :: Gb6K4
theorem Gb7K1_ok : ∀ q ∈ Gb7K1, ItemOk Tryz.prog q := items_cons i7 Gb6K4_ok
end Go.Proofs.YtgpfdacidgmelaaGreat
