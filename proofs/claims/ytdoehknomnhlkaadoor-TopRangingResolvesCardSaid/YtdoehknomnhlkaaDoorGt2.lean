/- Printed by gen.py: specifications of functions. -/
import Derived.Test.YtdoehknomnhlkaaDoorGc8
set_option linter.unusedSimpArgs false
set_option maxRecDepth 100000
namespace Go.Proofs.YtdoehknomnhlkaaDoor
open Go.Ev
noncomputable def Gt2K1 : List Ev.Item := .fn 7 [.d (.slice (.agg (.pair zI zP))), .d (.agg zP)] [.own 3 zI, .d zI] o7n7 :: Gc3K30
theorem Gt2K1_ok : ∀ q ∈ Gt2K1, ItemOk Tryd.prog q := items_cons io7n7 Gc3K30_ok
@[reducible] def T4_0 : Tmpl := ⟨209, [(6, .ref 6 0 0 0)], [.val 3 zI, .val 4 (.slice zI), .val 5 (.slice zI), .val 7 .bool, .own 8 122 37 (.agg (.pair zI zP)), .val 9 zI, .cells 6 [.d zP]], [], none⟩
@[reducible] def X4_0 : List (Ex × Tmpl) := [(.ret, ⟨209, [], [.val 2 .bool], [], none⟩), (.exit 0, ⟨209, [(6, .ref 6 0 0 0)], [.val 3 zI, .val 7 .bool, .own 8 122 37 (.agg (.pair zI zP)), .cells 6 [.d zP]], [], none⟩)]
noncomputable def step4_0 : Int × (List Int) × (List Int) × Bool × (List (Int × Int × Int)) × Int × (Int × Int) → Option ((Int × (List Int) × (List Int) × Bool × (List (Int × Int × Int)) × Int × (Int × Int)) ⊕ ((Bool) ⊕ (Int × Bool × (List (Int × Int × Int)) × (Int × Int)))) := fun (distance, periods, errors, exact, l, i, prior) =>
 bif decide (i < (periods.length : Int)) then
  bif inBounds i periods.length then
   bif !(win (periods.getD i.toNat 0) 1 100000) then
    some (.inr (.inl true))
   else
    bif inBounds i errors.length then
     bif inBounds i periods.length then
      bif !(win (errors.getD i.toNat 0) 0 (wr ((periods.getD i.toNat 0) - 1))) then
       some (.inr (.inl true))
      else
       bif inBounds i errors.length then
        bif inBounds i periods.length then
         optE (s16 (wr (distance - (errors.getD i.toNat 0)), periods.getD i.toNat 0)) (fun r2 =>
          bif inBounds i periods.length then
           bif inBounds i errors.length then
            bif room 24 (l.length + 1) then
             bif exact then
              bif inBounds i errors.length then
               some (.inl (distance, periods, errors, (errors.getD i.toNat 0) == 0, l ++ [(periods.getD i.toNat 0, r2, wr (r2 + (errors.getD i.toNat 0)))], wr (i + 1), prior))
              else
               none
             else
              some (.inl (distance, periods, errors, false, l ++ [(periods.getD i.toNat 0, r2, wr (r2 + (errors.getD i.toNat 0)))], wr (i + 1), prior))
            else
             none
           else
            none
          else
           none)
          (none)
        else
         none
       else
        none
     else
      none
    else
     none
  else
   none
 else
  some (.inr (.inr (distance, exact, l, prior)))
theorem one4_0 : oneLoop Tryd.prog 4 0 = true := by kernel_rfl
theorem lp4_0 : ItemOk Tryd.prog (.loop 4 0 T4_0 X4_0 (loopVal step4_0)) := item_loopM md7 ext7 (U := 9) (n := 11) noSpecial mixed Gt2K1_ok one4_0 (fun x => by kernel_rfl)
noncomputable def Gt2K2 : List Ev.Item := .loop 4 0 T4_0 X4_0 (loopVal step4_0) :: Gt2K1
theorem Gt2K2_ok : ∀ q ∈ Gt2K2, ItemOk Tryd.prog q := items_cons lp4_0 Gt2K1_ok
noncomputable def s4 : Int × (List Int) × (List Int) × Int × Int → Option (Bool) := fun x0 =>
 bif !true then
  some (false)
 else
  bif !(win x0.1 0 1000000000) then
   some (true)
  else
   bif (x0.2.1.length : Int) == 0 then
    some (true)
   else
    bif decide ((x0.2.1.length : Int) ≥ 8) then
     some (true)
    else
     bif (x0.2.2.1.length : Int) != (x0.2.1.length : Int) then
      some (true)
     else
      optE (s15 x0.2.2.2) (fun r1 =>
       bif r1 != 0 then
        some (true)
       else
        bif decide ((wr (x0.2.2.2.2 - x0.2.2.2.1)) ≥ 600) then
         some (true)
        else
         bif !(win x0.1 x0.2.2.2.1 x0.2.2.2.2) then
          some (true)
         else
          optE (loopVal step4_0 (x0.1, x0.2.1, x0.2.2.1, true, [], 0, x0.2.2.2)) (fun e2 =>
           sumE e2 (fun e3 =>
            some (e3)) (fun e4 =>
            optE (s8 e4.2.2.1) (fun r5 =>
             optE (s17 r5) (fun r6 =>
              bif r6.2 != 0 then
               some (false)
              else
               optE (s8 e4.2.2.1) (fun r7 =>
                optE (o7n7 (r7, e4.2.2.2)) (fun r8 =>
                 bif r8.2 != 12 then
                  some (false)
                 else
                  optE (s8 e4.2.2.1) (fun r9 =>
                   optE (s18 r9) (fun r10 =>
                    optE (s8 e4.2.2.1) (fun r11 =>
                     optE (s12 (r11, e4.2.2.2)) (fun r12 =>
                      bif r10.2 != 0 then
                       bif r10.2 != 8 then
                        some (false)
                       else
                        bif r12.2 != 0 then
                         bif r12.2 != 22 then
                          some (false)
                         else
                          bif r12.2 == 0 then
                           bif !(win e4.1 r12.1.1 r12.1.2) then
                            some (false)
                           else
                            bif e4.2.1 then
                             bif r10.2 == 8 then
                              bif r12.2 == 0 then
                               some ((r12.1.1 == e4.1) && ((r12.1.2 == e4.1) && true))
                              else
                               some (false)
                             else
                              bif decide (r10.1 > (wr (e4.2.2.2.2 - e4.2.2.2.1))) then
                               bif r12.2 == 0 then
                                some ((r12.1.1 == e4.1) && ((r12.1.2 == e4.1) && true))
                               else
                                some (false)
                              else
                               some (true)
                            else
                             some (true)
                          else
                           bif e4.2.1 then
                            bif r10.2 == 8 then
                             bif r12.2 == 0 then
                              some ((r12.1.1 == e4.1) && ((r12.1.2 == e4.1) && true))
                             else
                              some (false)
                            else
                             bif decide (r10.1 > (wr (e4.2.2.2.2 - e4.2.2.2.1))) then
                              bif r12.2 == 0 then
                               some ((r12.1.1 == e4.1) && ((r12.1.2 == e4.1) && true))
                              else
                               some (false)
                             else
                              some (true)
                           else
                            some (true)
                        else
                         bif r12.2 == 0 then
                          bif !(win e4.1 r12.1.1 r12.1.2) then
                           some (false)
                          else
                           bif e4.2.1 then
                            bif r10.2 == 8 then
                             bif r12.2 == 0 then
                              some ((r12.1.1 == e4.1) && ((r12.1.2 == e4.1) && true))
                             else
                              some (false)
                            else
                             bif decide (r10.1 > (wr (e4.2.2.2.2 - e4.2.2.2.1))) then
                              bif r12.2 == 0 then
                               some ((r12.1.1 == e4.1) && ((r12.1.2 == e4.1) && true))
                              else
                               some (false)
                             else
                              some (true)
                           else
                            some (true)
                         else
                          bif e4.2.1 then
                           bif r10.2 == 8 then
                            bif r12.2 == 0 then
                             some ((r12.1.1 == e4.1) && ((r12.1.2 == e4.1) && true))
                            else
                             some (false)
                           else
                            bif decide (r10.1 > (wr (e4.2.2.2.2 - e4.2.2.2.1))) then
                             bif r12.2 == 0 then
                              some ((r12.1.1 == e4.1) && ((r12.1.2 == e4.1) && true))
                             else
                              some (false)
                            else
                             some (true)
                          else
                           some (true)
                      else
                       bif r12.2 != 0 then
                        bif r12.2 != 22 then
                         some (false)
                        else
                         bif r12.2 == 0 then
                          bif !(win e4.1 r12.1.1 r12.1.2) then
                           some (false)
                          else
                           bif e4.2.1 then
                            bif r10.2 == 8 then
                             bif r12.2 == 0 then
                              some ((r12.1.1 == e4.1) && ((r12.1.2 == e4.1) && true))
                             else
                              some (false)
                            else
                             bif decide (r10.1 > (wr (e4.2.2.2.2 - e4.2.2.2.1))) then
                              bif r12.2 == 0 then
                               some ((r12.1.1 == e4.1) && ((r12.1.2 == e4.1) && true))
                              else
                               some (false)
                             else
                              some (true)
                           else
                            some (true)
                         else
                          bif e4.2.1 then
                           bif r10.2 == 8 then
                            bif r12.2 == 0 then
                             some ((r12.1.1 == e4.1) && ((r12.1.2 == e4.1) && true))
                            else
                             some (false)
                           else
                            bif decide (r10.1 > (wr (e4.2.2.2.2 - e4.2.2.2.1))) then
                             bif r12.2 == 0 then
                              some ((r12.1.1 == e4.1) && ((r12.1.2 == e4.1) && true))
                             else
                              some (false)
                            else
                             some (true)
                          else
                           some (true)
                       else
                        bif r12.2 == 0 then
                         bif !(win e4.1 r12.1.1 r12.1.2) then
                          some (false)
                         else
                          bif e4.2.1 then
                           bif r10.2 == 8 then
                            bif r12.2 == 0 then
                             some ((r12.1.1 == e4.1) && ((r12.1.2 == e4.1) && true))
                            else
                             some (false)
                           else
                            bif decide (r10.1 > (wr (e4.2.2.2.2 - e4.2.2.2.1))) then
                             bif r12.2 == 0 then
                              some ((r12.1.1 == e4.1) && ((r12.1.2 == e4.1) && true))
                             else
                              some (false)
                            else
                             some (true)
                          else
                           some (true)
                        else
                         bif e4.2.1 then
                          bif r10.2 == 8 then
                           bif r12.2 == 0 then
                            some ((r12.1.1 == e4.1) && ((r12.1.2 == e4.1) && true))
                           else
                            some (false)
                          else
                           bif decide (r10.1 > (wr (e4.2.2.2.2 - e4.2.2.2.1))) then
                            bif r12.2 == 0 then
                             some ((r12.1.1 == e4.1) && ((r12.1.2 == e4.1) && true))
                            else
                             some (false)
                           else
                            some (true)
                         else
                          some (true))
                      (none))
                     (none))
                    (none))
                   (none))
                 (none))
                (none))
              (none))
             (none)))
           (none))
       (none)
theorem i4 : ItemOk Tryd.prog (.fn 4 [.d (.agg (.pair zI (.pair (.slice zI) (.pair (.slice zI) zP))))] [.d .bool] s4) := item_fnM md7 ext7 (U := 9) (n := 12) noSpecial mixed Gt2K2_ok (fun x => by kernel_rfl)
noncomputable def Gt2K3 : List Ev.Item := .fn 4 [.d (.agg (.pair zI (.pair (.slice zI) (.pair (.slice zI) zP))))] [.d .bool] s4 :: Gt2K2
theorem Gt2K3_ok : ∀ q ∈ Gt2K3, ItemOk Tryd.prog q := items_cons i4 Gt2K2_ok
end Go.Proofs.YtdoehknomnhlkaaDoor
