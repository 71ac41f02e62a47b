/- Printed by gen.py: specifications of functions. -/
import Derived.Test.YtinkhmfciealkaaGa11
set_option linter.unusedSimpArgs false
set_option maxRecDepth 100000
namespace Go.Proofs.Ytinkhmfciealkaa
open Go.Ev

/-! cassegrain cassegrainlaw02.SampleFilters -/
noncomputable def s8 : ((List Int) × Int) × (List (Int × Int)) × Int → Option (Bool) := fun (a0, a1, a2) =>
  bif !true then
    some (false)
  else
    bif !(shortB a1) then
      some (true)
    else
      bif decide ((a0.1.length : Int) > 10) then
        some (true)
      else
        optE (p34 a0) (fun r1 =>
          optE (p45 a1) (fun r2 =>
            optE (p57 (r1, r2)) (fun r3 =>
              optE (p34 a0) (fun r4 =>
                optE (p45 a1) (fun r5 =>
                  optE (p58 (r4, r5, a2)) (fun r6 =>
                    optE (p34 a0) (fun r7 =>
                      optE (p59 r7) (fun r8 =>
                        bif r8 != (filtE a0) then
                          some (false)
                        else
                          bif (filtE a0) == 0 then
                            bif (smpE a1) != 0 then
                              bif r3.2 == (smpE a1) then
                                bif r6.2 == (smpE a1) then
                                  bif (r3.1.length : Int) == 0 then
                                    some ((r6.1.length : Int) == 0)
                                  else
                                    some (false)
                                else
                                  some (false)
                              else
                                some (false)
                            else
                              bif r3.2 != 0 then
                                some (false)
                              else
                                optE (p61 (a0, a1)) (fun r9 =>
                                  optE (same60 (r3.1, r9)) (fun r10 =>
                                    bif !r10 then
                                      some (false)
                                    else
                                      bif !(win a2 1 400) then
                                        bif r6.2 == 2 then
                                          some ((r6.1.length : Int) == 0)
                                        else
                                          some (false)
                                      else
                                        bif r6.2 == 0 then
                                          optE (p62 (a0, a1, a2)) (fun r11 =>
                                            optE (same60 (r6.1, r11)) (fun r12 =>
                                              some (r12))
                                              (none))
                                            (none)
                                        else
                                          some (false))
                                    (none))
                                  (none)
                          else
                            bif (filtE a0) != 0 then
                              bif r3.2 == (filtE a0) then
                                bif r6.2 == (filtE a0) then
                                  bif (r3.1.length : Int) == 0 then
                                    some ((r6.1.length : Int) == 0)
                                  else
                                    some (false)
                                else
                                  some (false)
                              else
                                some (false)
                            else
                              bif r3.2 != 0 then
                                some (false)
                              else
                                optE (p61 (a0, a1)) (fun r13 =>
                                  optE (same60 (r3.1, r13)) (fun r14 =>
                                    bif !r14 then
                                      some (false)
                                    else
                                      bif !(win a2 1 400) then
                                        bif r6.2 == 2 then
                                          some ((r6.1.length : Int) == 0)
                                        else
                                          some (false)
                                      else
                                        bif r6.2 == 0 then
                                          optE (p62 (a0, a1, a2)) (fun r15 =>
                                            optE (same60 (r6.1, r15)) (fun r16 =>
                                              some (r16))
                                              (none))
                                            (none)
                                        else
                                          some (false))
                                    (none))
                                  (none))
                        (none))
                      (none))
                    (none))
                  (none))
                (none))
              (none))
            (none))
          (none)
theorem i8 : ItemOk Try.prog (.fn 8 [.d (.agg (.pair (.slice (.int .i64)) (.int .i64))), .d (.slice (.agg (.pair (.int .i64) (.int .i64)))), .d (.int .i64)] [.d .bool] s8) := item_fn (U := 9) (n := 4) noSpecial mixed Ga11K11_ok (fun x => by kernel_rfl)
noncomputable def Ga12K1 : List Ev.Item := .fn 8 [.d (.agg (.pair (.slice (.int .i64)) (.int .i64))), .d (.slice (.agg (.pair (.int .i64) (.int .i64)))), .d (.int .i64)] [.d .bool] s8 :: Ga11K11
theorem Ga12K1_ok : ∀ q ∈ Ga12K1, ItemOk Try.prog q := items_cons i8 Ga11K11_ok
end Go.Proofs.Ytinkhmfciealkaa
