/- Printed by gen.py: specifications of functions. -/
import Derived.Test.YtinkhmfciealkaaGa15
set_option linter.unusedSimpArgs false
set_option maxRecDepth 100000
namespace Go.Proofs.Ytinkhmfciealkaa
open Go.Ev

/-! cassegrain cassegrainlaw02.SampleEnergies -/
noncomputable def s15 : ((Int × Int) × (Int × Int) × (Int × Int) × Int × Int) × (List (Int × Int)) × Int → Option (Bool) := fun (a0, a1, a2) =>
  bif !true then
    some (false)
  else
    bif decide ((a1.length : Int) > 60) then
      some (true)
    else
      bif (smpE [a0.1, a0.2.1, a0.2.2.1, a0.2.2.2]) != 0 then
        some (true)
      else
        bif (smpE a1) != 0 then
          some (true)
        else
          bif (unl (win a2 0 3) 2) != 0 then
            some (true)
          else
            optE (p45 [a0.1, a0.2.1, a0.2.2.1, a0.2.2.2]) (fun r1 =>
              optE (p51 r1) (fun r2 =>
                optE (p45 [a0.1, a0.2.1, a0.2.2.1, a0.2.2.2]) (fun r3 =>
                  optE (p79 r3) (fun r4 =>
                    bif r2.2 != 0 then
                      some (false)
                    else
                      bif r4.2 != 0 then
                        some (false)
                      else
                        bif (unl (okFour r2.1) 2) != 0 then
                          some (false)
                        else
                          bif (wr ((wr ((wr ((wr (0 + (normW r2.1.1))) + (normW r2.1.2.1))) + (normW r2.1.2.2.1))) + (normW r2.1.2.2.2))) != (wr (4 * r4.1)) then
                            some (false)
                          else
                            bif (restR r2.1).2 != 0 then
                              some (false)
                            else
                              bif !((((restR r2.1).1.1.1 == a0.1.1) && (((restR r2.1).1.1.2 == a0.1.2) && true)) && ((((restR r2.1).1.2.1.1 == a0.2.1.1) && (((restR r2.1).1.2.1.2 == a0.2.1.2) && true)) && ((((restR r2.1).1.2.2.1.1 == a0.2.2.1.1) && (((restR r2.1).1.2.2.1.2 == a0.2.2.1.2) && true)) && ((((restR r2.1).1.2.2.2.1 == a0.2.2.2.1) && (((restR r2.1).1.2.2.2.2 == a0.2.2.2.2) && true)) && true)))) then
                                some (false)
                              else
                                optE (p45 a1) (fun r5 =>
                                  optE (p44 ((0, wr (a2 * 1024), 0), r5)) (fun r6 =>
                                    optE (p45 a1) (fun r7 =>
                                      optE (p48 (r7, a2)) (fun r8 =>
                                        bif r6.2 != 0 then
                                          some (false)
                                        else
                                          bif r8.2 != 0 then
                                            some (false)
                                          else
                                            bif (smpE r6.1) != 0 then
                                              some (false)
                                            else
                                              optE (p48 (r6.1, 0)) (fun r9 =>
                                                bif r9.2 == 0 then
                                                  some ((r8.1.1 == r9.1.1) && ((r8.1.2 == r9.1.2) && true))
                                                else
                                                  some (false))
                                                (none))
                                        (none))
                                      (none))
                                    (none))
                                  (none))
                    (none))
                  (none))
                (none))
              (none)
theorem i15 : ItemOk Try.prog (.fn 15 [.d (.agg (.pair (.pair (.int .i64) (.int .i64)) (.pair (.pair (.int .i64) (.int .i64)) (.pair (.pair (.int .i64) (.int .i64)) (.pair (.int .i64) (.int .i64)))))), .d (.slice (.agg (.pair (.int .i64) (.int .i64)))), .d (.int .i64)] [.d .bool] s15) := item_fn (U := 9) (n := 4) noSpecial mixed Ga15K2_ok (fun x => by kernel_rfl)
noncomputable def Ga16K1 : List Ev.Item := .fn 15 [.d (.agg (.pair (.pair (.int .i64) (.int .i64)) (.pair (.pair (.int .i64) (.int .i64)) (.pair (.pair (.int .i64) (.int .i64)) (.pair (.int .i64) (.int .i64)))))), .d (.slice (.agg (.pair (.int .i64) (.int .i64)))), .d (.int .i64)] [.d .bool] s15 :: Ga15K2
theorem Ga16K1_ok : ∀ q ∈ Ga16K1, ItemOk Try.prog q := items_cons i15 Ga15K2_ok
end Go.Proofs.Ytinkhmfciealkaa
