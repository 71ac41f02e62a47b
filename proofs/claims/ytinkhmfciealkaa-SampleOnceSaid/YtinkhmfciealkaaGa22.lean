/- Printed by gen.py: specifications of functions. -/
import Derived.Test.YtinkhmfciealkaaGa21
set_option linter.unusedSimpArgs false
set_option maxRecDepth 100000
namespace Go.Proofs.Ytinkhmfciealkaa
open Go.Ev

/-! cassegrain cassegrainlaw02.SampleStreams -/
noncomputable def s9 : List Pkt → Option (Bool) := fun a0 =>
  bif !true then
    some (false)
  else
    optE (s63 a0) (fun r1 =>
      bif !r1 then
        some (true)
      else
        optE (s65 a0) (fun r2 =>
          optE (s64 r2) (fun r3 =>
            optE (s65 a0) (fun r4 =>
              optE (s66 r4) (fun r5 =>
                optE (s65 a0) (fun r6 =>
                  optE (s67 r6) (fun r7 =>
                    optE (s68 a0) (fun r8 =>
                      bif r8 != 0 then
                        bif r3.2 == r8 then
                          bif r5.2 == r8 then
                            bif r7.2 == r8 then
                              bif (r3.1.length : Int) == 0 then
                                bif (r5.1.length : Int) == 0 then
                                  optE (s69 (r7.1, (0, [], []))) (fun r9 =>
                                    some (r9))
                                    (none)
                                else
                                  some (false)
                              else
                                some (false)
                            else
                              some (false)
                          else
                            some (false)
                        else
                          some (false)
                      else
                        bif r3.2 == 0 then
                          optE (s70 a0) (fun r10 =>
                            optE (same29 (r3.1, r10)) (fun r11 =>
                              bif r11 then
                                bif r5.2 == 0 then
                                  optE (s71 a0) (fun r12 =>
                                    optE (same29 (r5.1, r12)) (fun r13 =>
                                      bif r13 then
                                        bif r7.2 == 0 then
                                          optE (s72 a0) (fun r14 =>
                                            optE (s69 (r7.1, r14)) (fun r15 =>
                                              some (r15))
                                              (none))
                                            (none)
                                        else
                                          some (false)
                                      else
                                        some (false))
                                      (none))
                                    (none)
                                else
                                  some (false)
                              else
                                some (false))
                              (none))
                            (none)
                        else
                          some (false))
                      (none))
                    (none))
                  (none))
                (none))
              (none))
            (none))
          (none))
      (none)
theorem i9 : ItemOk Try.prog (.fn 9 [.d (.slice (.agg (.pair (.int .i64) (.pair (.int .i64) (.pair (.pair (.int .i64) (.int .i64)) (.pair (.pair (.int .i64) (.int .i64)) (.pair (.pair (.int .i64) (.int .i64)) (.pair (.pair (.int .i64) (.int .i64)) (.pair (.pair (.int .i64) (.int .i64)) (.pair (.pair (.int .i64) (.int .i64)) (.pair (.pair (.int .i64) (.int .i64)) (.pair (.int .i64) (.int .i64)))))))))))))] [.d .bool] s9) := item_fn (U := 9) (n := 4) noSpecial mixed Ga21K22_ok (fun x => by kernel_rfl)
noncomputable def Ga22K1 : List Ev.Item := .fn 9 [.d (.slice (.agg (.pair (.int .i64) (.pair (.int .i64) (.pair (.pair (.int .i64) (.int .i64)) (.pair (.pair (.int .i64) (.int .i64)) (.pair (.pair (.int .i64) (.int .i64)) (.pair (.pair (.int .i64) (.int .i64)) (.pair (.pair (.int .i64) (.int .i64)) (.pair (.pair (.int .i64) (.int .i64)) (.pair (.pair (.int .i64) (.int .i64)) (.pair (.int .i64) (.int .i64)))))))))))))] [.d .bool] s9 :: Ga21K22
theorem Ga22K1_ok : ∀ q ∈ Ga22K1, ItemOk Try.prog q := items_cons i9 Ga21K22_ok
end Go.Proofs.Ytinkhmfciealkaa
