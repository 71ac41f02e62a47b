/- Printed by gen.py: specifications of functions. -/
import Derived.Test.YtcdpgjlaajdfmaaGs3
set_option linter.unusedSimpArgs false
set_option maxRecDepth 100000
namespace Go.Proofs.Ytcdpgjlaajdfmaa
open Go.Ev
noncomputable def s3 : (List (Int × Int)) × Int → Option (Bool) := fun (x0, length) =>
 bif !true then
  some (false)
 else
  optE (s5 x0) (fun r1 =>
   bif !r1 then
    some (true)
   else
    optE (s7 x0) (fun r2 =>
     optE (s6 (r2, length)) (fun r3 =>
      optE (s8 x0) (fun r4 =>
       bif r4 == 0 then
        optE (s9 (length, 1, 400)) (fun r5 =>
         bif !r5 then
          bif r3.2 == 2 then
           some (r3.1 == 0)
          else
           some (false)
         else
          bif r4 == 0 then
           bif decide (length > (x0.length : Int)) then
            bif r3.2 == 12 then
             some (r3.1 == 0)
            else
             some (false)
           else
            bif r4 != 0 then
             bif r3.2 == r4 then
              some (r3.1 == 0)
             else
              some (false)
            else
             bif r3.2 == 0 then
              optE (s10 (x0, length)) (fun r6 =>
               some (r3.1 == r6))
               (none)
             else
              some (false)
          else
           bif r4 != 0 then
            bif r3.2 == r4 then
             some (r3.1 == 0)
            else
             some (false)
           else
            bif r3.2 == 0 then
             optE (s10 (x0, length)) (fun r7 =>
              some (r3.1 == r7))
              (none)
            else
             some (false))
         (none)
       else
        bif r4 == 0 then
         bif decide (length > (x0.length : Int)) then
          bif r3.2 == 12 then
           some (r3.1 == 0)
          else
           some (false)
         else
          bif r4 != 0 then
           bif r3.2 == r4 then
            some (r3.1 == 0)
           else
            some (false)
          else
           bif r3.2 == 0 then
            optE (s10 (x0, length)) (fun r8 =>
             some (r3.1 == r8))
             (none)
           else
            some (false)
        else
         bif r4 != 0 then
          bif r3.2 == r4 then
           some (r3.1 == 0)
          else
           some (false)
         else
          bif r3.2 == 0 then
           optE (s10 (x0, length)) (fun r9 =>
            some (r3.1 == r9))
            (none)
          else
           some (false))
       (none))
      (none))
     (none))
   (none)
theorem i3 : ItemOk Try.prog (.fn 3 [.d (.slice (.agg zP)), .d zI] [.d .bool] s3) := item_fnM md2 ext2 (U := 9) (n := 12) noSpecial mixed Gs3K5_ok (fun x => by kernel_rfl)
noncomputable def Gs4K1 : List Ev.Item := .fn 3 [.d (.slice (.agg zP)), .d zI] [.d .bool] s3 :: Gs3K5
theorem Gs4K1_ok : ∀ q ∈ Gs4K1, ItemOk Try.prog q := items_cons i3 Gs3K5_ok
end Go.Proofs.Ytcdpgjlaajdfmaa
