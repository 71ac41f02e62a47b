/- Printed by gen.py: specifications of functions. -/
import Derived.Test.YtinkhmfciealkaaGa9
set_option linter.unusedSimpArgs false
set_option maxRecDepth 100000
namespace Go.Proofs.Ytinkhmfciealkaa
open Go.Ev

/-! cassegrain cassegrainlaw02.SampleBins -/
noncomputable def s7 : (List (Int × Int)) × Int × ((Int × Int) × (Int × Int) × (Int × Int) × Int × Int) → Option (Bool) := fun (a0, a1, a2) =>
  bif !true then
    some (false)
  else
    bif !(shortB a0) then
      some (true)
    else
      optE (p45 a0) (fun r1 =>
        optE (p48 (r1, a1)) (fun r2 =>
          optE (p45 a0) (fun r3 =>
            optE (p51 r3) (fun r4 =>
              bif (unl (okFour a2) 2) == 0 then
                optE (p54 a2) (fun r5 =>
                  bif (restR a2).2 != r5.2 then
                    some (false)
                  else
                    bif !((((restR a2).1.1.1 == r5.1.1.1) && (((restR a2).1.1.2 == r5.1.1.2) && true)) && ((((restR a2).1.2.1.1 == r5.1.2.1.1) && (((restR a2).1.2.1.2 == r5.1.2.1.2) && true)) && ((((restR a2).1.2.2.1.1 == r5.1.2.2.1.1) && (((restR a2).1.2.2.1.2 == r5.1.2.2.1.2) && true)) && ((((restR a2).1.2.2.2.1 == r5.1.2.2.2.1) && (((restR a2).1.2.2.2.2 == r5.1.2.2.2.2) && true)) && true)))) then
                      some (false)
                    else
                      bif (smpE a0) != 0 then
                        bif r2.2 == (smpE a0) then
                          bif r4.2 == (smpE a0) then
                            bif (r2.1.1 == 0) && ((r2.1.2 == 0) && true) then
                              some (((r4.1.1.1 == 0) && ((r4.1.1.2 == 0) && true)) && (((r4.1.2.1.1 == 0) && ((r4.1.2.1.2 == 0) && true)) && (((r4.1.2.2.1.1 == 0) && ((r4.1.2.2.1.2 == 0) && true)) && (((r4.1.2.2.2.1 == 0) && ((r4.1.2.2.2.2 == 0) && true)) && true))))
                            else
                              some (false)
                          else
                            some (false)
                        else
                          some (false)
                      else
                        bif r4.2 != 0 then
                          some (false)
                        else
                          optE (p55 a0) (fun r6 =>
                            bif !(((r4.1.1.1 == r6.1.1) && ((r4.1.1.2 == r6.1.2) && true)) && (((r4.1.2.1.1 == r6.2.1.1) && ((r4.1.2.1.2 == r6.2.1.2) && true)) && (((r4.1.2.2.1.1 == r6.2.2.1.1) && ((r4.1.2.2.1.2 == r6.2.2.1.2) && true)) && (((r4.1.2.2.2.1 == r6.2.2.2.1) && ((r4.1.2.2.2.2 == r6.2.2.2.2) && true)) && true)))) then
                              some (false)
                            else
                              bif (unl (win a1 0 3) 2) != 0 then
                                bif r2.2 == (unl (win a1 0 3) 2) then
                                  some ((r2.1.1 == 0) && ((r2.1.2 == 0) && true))
                                else
                                  some (false)
                              else
                                bif r2.2 == 0 then
                                  optE (p56 (a0, a1)) (fun r7 =>
                                    some ((r2.1.1 == r7.1) && ((r2.1.2 == r7.2) && true)))
                                    (none)
                                else
                                  some (false))
                            (none))
                  (none)
              else
                bif (restR a2).2 != (unl (okFour a2) 2) then
                  some (false)
                else
                  bif !((((restR a2).1.1.1 == 0) && (((restR a2).1.1.2 == 0) && true)) && ((((restR a2).1.2.1.1 == 0) && (((restR a2).1.2.1.2 == 0) && true)) && ((((restR a2).1.2.2.1.1 == 0) && (((restR a2).1.2.2.1.2 == 0) && true)) && ((((restR a2).1.2.2.2.1 == 0) && (((restR a2).1.2.2.2.2 == 0) && true)) && true)))) then
                    some (false)
                  else
                    bif (smpE a0) != 0 then
                      bif r2.2 == (smpE a0) then
                        bif r4.2 == (smpE a0) then
                          bif (r2.1.1 == 0) && ((r2.1.2 == 0) && true) then
                            some (((r4.1.1.1 == 0) && ((r4.1.1.2 == 0) && true)) && (((r4.1.2.1.1 == 0) && ((r4.1.2.1.2 == 0) && true)) && (((r4.1.2.2.1.1 == 0) && ((r4.1.2.2.1.2 == 0) && true)) && (((r4.1.2.2.2.1 == 0) && ((r4.1.2.2.2.2 == 0) && true)) && true))))
                          else
                            some (false)
                        else
                          some (false)
                      else
                        some (false)
                    else
                      bif r4.2 != 0 then
                        some (false)
                      else
                        optE (p55 a0) (fun r8 =>
                          bif !(((r4.1.1.1 == r8.1.1) && ((r4.1.1.2 == r8.1.2) && true)) && (((r4.1.2.1.1 == r8.2.1.1) && ((r4.1.2.1.2 == r8.2.1.2) && true)) && (((r4.1.2.2.1.1 == r8.2.2.1.1) && ((r4.1.2.2.1.2 == r8.2.2.1.2) && true)) && (((r4.1.2.2.2.1 == r8.2.2.2.1) && ((r4.1.2.2.2.2 == r8.2.2.2.2) && true)) && true)))) then
                            some (false)
                          else
                            bif (unl (win a1 0 3) 2) != 0 then
                              bif r2.2 == (unl (win a1 0 3) 2) then
                                some ((r2.1.1 == 0) && ((r2.1.2 == 0) && true))
                              else
                                some (false)
                            else
                              bif r2.2 == 0 then
                                optE (p56 (a0, a1)) (fun r9 =>
                                  some ((r2.1.1 == r9.1) && ((r2.1.2 == r9.2) && true)))
                                  (none)
                              else
                                some (false))
                          (none))
              (none))
            (none))
          (none))
        (none)
theorem i7 : ItemOk Try.prog (.fn 7 [.d (.slice (.agg (.pair (.int .i64) (.int .i64)))), .d (.int .i64), .d (.agg (.pair (.pair (.int .i64) (.int .i64)) (.pair (.pair (.int .i64) (.int .i64)) (.pair (.pair (.int .i64) (.int .i64)) (.pair (.int .i64) (.int .i64))))))] [.d .bool] s7) := item_fn (U := 9) (n := 4) noSpecial mixed Ga9K6_ok (fun x => by kernel_rfl)
noncomputable def Ga10K1 : List Ev.Item := .fn 7 [.d (.slice (.agg (.pair (.int .i64) (.int .i64)))), .d (.int .i64), .d (.agg (.pair (.pair (.int .i64) (.int .i64)) (.pair (.pair (.int .i64) (.int .i64)) (.pair (.pair (.int .i64) (.int .i64)) (.pair (.int .i64) (.int .i64))))))] [.d .bool] s7 :: Ga9K6
theorem Ga10K1_ok : ∀ q ∈ Ga10K1, ItemOk Try.prog q := items_cons i7 Ga9K6_ok
end Go.Proofs.Ytinkhmfciealkaa
