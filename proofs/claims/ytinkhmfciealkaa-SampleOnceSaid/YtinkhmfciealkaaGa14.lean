/- Printed by gen.py: specifications of functions. -/
import Derived.Test.YtinkhmfciealkaaGa13
set_option linter.unusedSimpArgs false
set_option maxRecDepth 100000
namespace Go.Proofs.Ytinkhmfciealkaa
open Go.Ev

/-! cassegrain cassegrainlaw02.SampleTurnedBack -/
noncomputable def s12 : (Int × Int × Int) × (List (Int × Int)) × Int → Option (Bool) := fun (a0, a1, a2) =>
  bif !true then
    some (false)
  else
    bif decide ((a1.length : Int) > 60) then
      some (true)
    else
      bif (progE a0) != 0 then
        some (true)
      else
        bif (smpE a1) != 0 then
          some (true)
        else
          optE (mod75 (a2, wr ((a1.length : Int) + 1))) (fun r1 =>
            optE (p45 a1) (fun r2 =>
              optE (p44 (a0, r2)) (fun r3 =>
                bif r3.2 != 0 then
                  some (false)
                else
                  bif (r3.1.length : Int) != (a1.length : Int) then
                    some (false)
                  else
                    bif (smpE r3.1) != 0 then
                      some (false)
                    else
                      optE (p45 r3.1) (fun r4 =>
                        optE (p78 (a0, r4)) (fun r5 =>
                          optE (p45 a1) (fun r6 =>
                            optE (p78 (a0, r6)) (fun r7 =>
                              bif r5.2 != 0 then
                                some (false)
                              else
                                bif r7.2 != 0 then
                                  some (false)
                                else
                                  bif (smpE r7.1) != 0 then
                                    some (false)
                                  else
                                    optE (same60 (r5.1, a1)) (fun r8 =>
                                      bif !r8 then
                                        some (false)
                                      else
                                        optE (p45 r7.1) (fun r9 =>
                                          optE (p44 (a0, r9)) (fun r10 =>
                                            bif r10.2 != 0 then
                                              some (false)
                                            else
                                              optE (same60 (r10.1, a1)) (fun r11 =>
                                                bif !r11 then
                                                  some (false)
                                                else
                                                  bif (orE (firstE [progE a0, unl (win r1 0 1000000) 2]) (0, 0, 0) (laterOf a0 r1)).2 != 0 then
                                                    some (false)
                                                  else
                                                    bif (progE (orE (firstE [progE a0, unl (win r1 0 1000000) 2]) (0, 0, 0) (laterOf a0 r1)).1) != 0 then
                                                      some (false)
                                                    else
                                                      bif (decide (0 ≤ r1)) && (decide (r1 ≤ (a1.length : Int))) then
                                                        optE (p45 (a1.take r1.toNat)) (fun r12 =>
                                                          optE (p44 (a0, r12)) (fun r13 =>
                                                            bif (decide (0 ≤ r1)) && (decide (r1 ≤ (a1.length : Int))) then
                                                              optE (p45 (a1.drop r1.toNat)) (fun r14 =>
                                                                optE (p44 ((orE (firstE [progE a0, unl (win r1 0 1000000) 2]) (0, 0, 0) (laterOf a0 r1)).1, r14)) (fun r15 =>
                                                                  optE (p45 a1) (fun r16 =>
                                                                    optE (p79 r16) (fun r17 =>
                                                                      optE (p45 r3.1) (fun r18 =>
                                                                        optE (p79 r18) (fun r19 =>
                                                                          bif r13.2 == 0 then
                                                                            bif r15.2 == 0 then
                                                                              optE (p45 r13.1) (fun r20 =>
                                                                                bif room 16 (r20.length + r15.1.length) then
                                                                                  optE (same60 (r20 ++ r15.1, r3.1)) (fun r21 =>
                                                                                    bif r21 then
                                                                                      bif r17.2 == 0 then
                                                                                        bif r19.2 == 0 then
                                                                                          some (r17.1 == r19.1)
                                                                                        else
                                                                                          some (false)
                                                                                      else
                                                                                        some (false)
                                                                                    else
                                                                                      some (false))
                                                                                    (none)
                                                                                else
                                                                                  none)
                                                                                (none)
                                                                            else
                                                                              some (false)
                                                                          else
                                                                            some (false))
                                                                          (none))
                                                                        (none))
                                                                      (none))
                                                                    (none))
                                                                  (none))
                                                                (none)
                                                            else
                                                              none)
                                                            (none))
                                                          (none)
                                                      else
                                                        none)
                                                (none))
                                            (none))
                                          (none))
                                      (none))
                              (none))
                            (none))
                          (none))
                        (none))
                (none))
              (none))
            (none)
theorem i12 : ItemOk Try.prog (.fn 12 [.d (.agg (.pair (.int .i64) (.pair (.int .i64) (.int .i64)))), .d (.slice (.agg (.pair (.int .i64) (.int .i64)))), .d (.int .i64)] [.d .bool] s12) := item_fn (U := 9) (n := 4) noSpecial mixed Ga13K5_ok (fun x => by kernel_rfl)
noncomputable def Ga14K1 : List Ev.Item := .fn 12 [.d (.agg (.pair (.int .i64) (.pair (.int .i64) (.int .i64)))), .d (.slice (.agg (.pair (.int .i64) (.int .i64)))), .d (.int .i64)] [.d .bool] s12 :: Ga13K5
theorem Ga14K1_ok : ∀ q ∈ Ga14K1, ItemOk Try.prog q := items_cons i12 Ga13K5_ok
end Go.Proofs.Ytinkhmfciealkaa
