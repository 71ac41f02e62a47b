/- Printed by gen.py: specifications of functions. -/
import Derived.Test.YtfpppijfkeidgaaGreatDoorGz0
set_option linter.unusedSimpArgs false
set_option maxRecDepth 100000
namespace Go.Proofs.YtfpppijfkeidgaaGreatDoor
open Go.Ev
noncomputable def s14 : Int × Int × Int × Int × Int → Option (ByteArray) := fun m =>
 bif !(win m.1 0 1) then
  some ((ByteArray.mk #[]))
 else
  bif inBounds m.1 2 then
   bif decide (([(ByteArray.mk #[97, 116]), (ByteArray.mk #[102, 114, 111, 109])].getD m.1.toNat ByteArray.empty).size + (ByteArray.mk #[32]).size ≤ 9223372036854775807) then
    bif m.1 == 0 then
     optE (itoaF m.2.2.1) (fun r1 =>
      optE (itoaF m.2.2.2.1) (fun r2 =>
       optE (itoaF m.2.2.2.2) (fun r3 =>
        optE (joinF ([r1, r2, r3], (ByteArray.mk #[32]))) (fun r4 =>
         bif decide ((([(ByteArray.mk #[97, 116]), (ByteArray.mk #[102, 114, 111, 109])].getD m.1.toNat ByteArray.empty) ++ (ByteArray.mk #[32])).size + r4.size ≤ 9223372036854775807) then
          some ((([(ByteArray.mk #[97, 116]), (ByteArray.mk #[102, 114, 111, 109])].getD m.1.toNat ByteArray.empty) ++ (ByteArray.mk #[32])) ++ r4)
         else
          none)
         (none))
        (none))
       (none))
      (none)
    else
     optE (itoaF m.2.1) (fun r5 =>
      optE (itoaF m.2.2.1) (fun r6 =>
       optE (itoaF m.2.2.2.1) (fun r7 =>
        optE (itoaF m.2.2.2.2) (fun r8 =>
         optE (joinF ([r5, r6, r7, r8], (ByteArray.mk #[32]))) (fun r9 =>
          bif decide ((([(ByteArray.mk #[97, 116]), (ByteArray.mk #[102, 114, 111, 109])].getD m.1.toNat ByteArray.empty) ++ (ByteArray.mk #[32])).size + r9.size ≤ 9223372036854775807) then
           some ((([(ByteArray.mk #[97, 116]), (ByteArray.mk #[102, 114, 111, 109])].getD m.1.toNat ByteArray.empty) ++ (ByteArray.mk #[32])) ++ r9)
          else
           none)
          (none))
         (none))
        (none))
       (none))
      (none)
   else
    none
  else
   none
theorem i14 : ItemOk Tryz.prog (.fn 14 [.d zA] [.d .str] s14) := item_fnM md5 ext5 (U := 40) (n := 30) noSpecial mixed Gz0K32_ok (fun x => by kernel_rfl)
noncomputable def Gz1K1 : List Ev.Item := .fn 14 [.d zA] [.d .str] s14 :: Gz0K32
theorem Gz1K1_ok : ∀ q ∈ Gz1K1, ItemOk Tryz.prog q := items_cons i14 Gz0K32_ok
@[reducible] def T35_0 : Tmpl := ⟨19, [], [.val 0 (.slice .str), .val 1 .str, .val 7 zI, .val 8 zI], [], none⟩
@[reducible] def X35_0 : List (Ex × Tmpl) := [(.ret, ⟨19, [], [.val 4 zI], [], none⟩), (.exit 0, ⟨19, [], [], [], none⟩)]
noncomputable def step35_0 : (List ByteArray) × ByteArray × Int × Int → Option (((List ByteArray) × ByteArray × Int × Int) ⊕ ((Int) ⊕ (Unit))) := fun (s, v, t7, t8) =>
 bif decide (t8 < t7) then
  bif inBounds t8 s.length then
   bif decide (v.data.toList = (s.getD t8.toNat ByteArray.empty).data.toList) then
    some (.inr (.inl t8))
   else
    some (.inl (s, v, t7, wr (t8 + 1)))
  else
   none
 else
  some (.inr (.inr ()))
theorem one35_0 : oneLoop Tryz.prog 35 0 = true := by kernel_rfl
theorem lp35_0 : ItemOk Tryz.prog (.loop 35 0 T35_0 X35_0 (loopVal step35_0)) := item_loopM md5 ext5 (U := 9) (n := 11) noSpecial mixed Gz1K1_ok one35_0 (fun x => by kernel_rfl)
noncomputable def Gz1K2 : List Ev.Item := .loop 35 0 T35_0 X35_0 (loopVal step35_0) :: Gz1K1
theorem Gz1K2_ok : ∀ q ∈ Gz1K2, ItemOk Tryz.prog q := items_cons lp35_0 Gz1K1_ok
noncomputable def s35 : (List ByteArray) × ByteArray → Option (Int) := fun (s, v) =>
 optE (loopVal step35_0 (s, v, (s.length : Int), 0)) (fun e1 =>
  sumE e1 (fun e2 =>
   some (e2)) (fun _ =>
   some ((-1))))
  (none)
theorem i35 : ItemOk Tryz.prog (.fn 35 [.d (.slice .str), .d .str] [.d zI] s35) := item_fnM md5 ext5 (U := 9) (n := 12) noSpecial mixed Gz1K2_ok (fun x => by kernel_rfl)
noncomputable def Gz1K3 : List Ev.Item := .fn 35 [.d (.slice .str), .d .str] [.d zI] s35 :: Gz1K2
theorem Gz1K3_ok : ∀ q ∈ Gz1K3, ItemOk Tryz.prog q := items_cons i35 Gz1K2_ok
noncomputable def s13 : ByteArray → Option ((Int × Int × Int × Int × Int) × Int) := fun s =>
 optE (cutF (s, (ByteArray.mk #[32]))) (fun r1 =>
  optE (s35 ([(ByteArray.mk #[97, 116]), (ByteArray.mk #[102, 114, 111, 109])], r1.1)) (fun r2 =>
   bif decide (r2 < 0) then
    some (((0, 0, 0, 0, 0), 7))
   else
    bif r2 == 0 then
     optE (splitF (r1.2.1, (ByteArray.mk #[32]))) (fun r3 =>
      bif (r3.length : Int) != 3 then
       bif (firstE [7, mErr (r2, 0, 0, 0, 0)]) != 0 then
        some (((0, 0, 0, 0, 0), firstE [7, mErr (r2, 0, 0, 0, 0)]))
       else
        some (((r2, 0, 0, 0, 0), 0))
      else
       bif inBounds 0 r3.length then
        optE (atoiF (r3.getD 0 ByteArray.empty)) (fun r4 =>
         bif r4.2 then
          bif (firstE [7, mErr (r2, 0, 0, 0, 0)]) != 0 then
           some (((0, 0, 0, 0, 0), firstE [7, mErr (r2, 0, 0, 0, 0)]))
          else
           some (((r2, 0, 0, 0, 0), 0))
         else
          optE (itoaF r4.1) (fun r5 =>
           bif inBounds 0 r3.length then
            bif !(decide (r5.data.toList = (r3.getD 0 ByteArray.empty).data.toList)) then
             bif (firstE [7, mErr (r2, 0, 0, 0, 0)]) != 0 then
              some (((0, 0, 0, 0, 0), firstE [7, mErr (r2, 0, 0, 0, 0)]))
             else
              some (((r2, 0, 0, 0, 0), 0))
            else
             bif inBounds 0 r3.length then
              optE (trimF (r3.getD 0 ByteArray.empty, (ByteArray.mk #[45]))) (fun r6 =>
               bif decide ((r6.size : Int) > 4) then
                bif (firstE [7, mErr (r2, 0, 0, 0, 0)]) != 0 then
                 some (((0, 0, 0, 0, 0), firstE [7, mErr (r2, 0, 0, 0, 0)]))
                else
                 some (((r2, 0, 0, 0, 0), 0))
               else
                bif decide (r4.1 < 0) then
                 bif (firstE [7, mErr (r2, 0, 0, 0, 0)]) != 0 then
                  some (((0, 0, 0, 0, 0), firstE [7, mErr (r2, 0, 0, 0, 0)]))
                 else
                  some (((r2, 0, 0, 0, 0), 0))
                else
                 bif inBounds 1 r3.length then
                  optE (atoiF (r3.getD 1 ByteArray.empty)) (fun r7 =>
                   bif r7.2 then
                    bif (firstE [7, mErr (r2, 0, r4.1, 0, 0)]) != 0 then
                     some (((0, 0, 0, 0, 0), firstE [7, mErr (r2, 0, r4.1, 0, 0)]))
                    else
                     some (((r2, 0, r4.1, 0, 0), 0))
                   else
                    optE (itoaF r7.1) (fun r8 =>
                     bif inBounds 1 r3.length then
                      bif !(decide (r8.data.toList = (r3.getD 1 ByteArray.empty).data.toList)) then
                       bif (firstE [7, mErr (r2, 0, r4.1, 0, 0)]) != 0 then
                        some (((0, 0, 0, 0, 0), firstE [7, mErr (r2, 0, r4.1, 0, 0)]))
                       else
                        some (((r2, 0, r4.1, 0, 0), 0))
                      else
                       bif inBounds 1 r3.length then
                        optE (trimF (r3.getD 1 ByteArray.empty, (ByteArray.mk #[45]))) (fun r9 =>
                         bif decide ((r9.size : Int) > 6) then
                          bif (firstE [7, mErr (r2, 0, r4.1, 0, 0)]) != 0 then
                           some (((0, 0, 0, 0, 0), firstE [7, mErr (r2, 0, r4.1, 0, 0)]))
                          else
                           some (((r2, 0, r4.1, 0, 0), 0))
                         else
                          bif decide (r7.1 < 0) then
                           bif inBounds 2 r3.length then
                            optE (atoiF (r3.getD 2 ByteArray.empty)) (fun r10 =>
                             bif r10.2 then
                              bif (firstE [7, mErr (r2, 0, r4.1, r7.1, 0)]) != 0 then
                               some (((0, 0, 0, 0, 0), firstE [7, mErr (r2, 0, r4.1, r7.1, 0)]))
                              else
                               some (((r2, 0, r4.1, r7.1, 0), 0))
                             else
                              optE (itoaF r10.1) (fun r11 =>
                               bif inBounds 2 r3.length then
                                bif !(decide (r11.data.toList = (r3.getD 2 ByteArray.empty).data.toList)) then
                                 bif (firstE [7, mErr (r2, 0, r4.1, r7.1, 0)]) != 0 then
                                  some (((0, 0, 0, 0, 0), firstE [7, mErr (r2, 0, r4.1, r7.1, 0)]))
                                 else
                                  some (((r2, 0, r4.1, r7.1, 0), 0))
                                else
                                 bif inBounds 2 r3.length then
                                  optE (trimF (r3.getD 2 ByteArray.empty, (ByteArray.mk #[45]))) (fun r12 =>
                                   bif decide ((r12.size : Int) > 6) then
                                    bif (firstE [7, mErr (r2, 0, r4.1, r7.1, 0)]) != 0 then
                                     some (((0, 0, 0, 0, 0), firstE [7, mErr (r2, 0, r4.1, r7.1, 0)]))
                                    else
                                     some (((r2, 0, r4.1, r7.1, 0), 0))
                                   else
                                    bif decide (r10.1 < 0) then
                                     bif (firstE [0, mErr (r2, 0, r4.1, r7.1, r10.1)]) != 0 then
                                      some (((0, 0, 0, 0, 0), firstE [0, mErr (r2, 0, r4.1, r7.1, r10.1)]))
                                     else
                                      some (((r2, 0, r4.1, r7.1, r10.1), 0))
                                    else
                                     bif (firstE [0, mErr (r2, 0, r4.1, r7.1, r10.1)]) != 0 then
                                      some (((0, 0, 0, 0, 0), firstE [0, mErr (r2, 0, r4.1, r7.1, r10.1)]))
                                     else
                                      some (((r2, 0, r4.1, r7.1, r10.1), 0)))
                                   (none)
                                 else
                                  none
                               else
                                none)
                               (none))
                             (none)
                           else
                            none
                          else
                           bif inBounds 2 r3.length then
                            optE (atoiF (r3.getD 2 ByteArray.empty)) (fun r13 =>
                             bif r13.2 then
                              bif (firstE [7, mErr (r2, 0, r4.1, r7.1, 0)]) != 0 then
                               some (((0, 0, 0, 0, 0), firstE [7, mErr (r2, 0, r4.1, r7.1, 0)]))
                              else
                               some (((r2, 0, r4.1, r7.1, 0), 0))
                             else
                              optE (itoaF r13.1) (fun r14 =>
                               bif inBounds 2 r3.length then
                                bif !(decide (r14.data.toList = (r3.getD 2 ByteArray.empty).data.toList)) then
                                 bif (firstE [7, mErr (r2, 0, r4.1, r7.1, 0)]) != 0 then
                                  some (((0, 0, 0, 0, 0), firstE [7, mErr (r2, 0, r4.1, r7.1, 0)]))
                                 else
                                  some (((r2, 0, r4.1, r7.1, 0), 0))
                                else
                                 bif inBounds 2 r3.length then
                                  optE (trimF (r3.getD 2 ByteArray.empty, (ByteArray.mk #[45]))) (fun r15 =>
                                   bif decide ((r15.size : Int) > 6) then
                                    bif (firstE [7, mErr (r2, 0, r4.1, r7.1, 0)]) != 0 then
                                     some (((0, 0, 0, 0, 0), firstE [7, mErr (r2, 0, r4.1, r7.1, 0)]))
                                    else
                                     some (((r2, 0, r4.1, r7.1, 0), 0))
                                   else
                                    bif decide (r13.1 < 0) then
                                     bif (firstE [0, mErr (r2, 0, r4.1, r7.1, r13.1)]) != 0 then
                                      some (((0, 0, 0, 0, 0), firstE [0, mErr (r2, 0, r4.1, r7.1, r13.1)]))
                                     else
                                      some (((r2, 0, r4.1, r7.1, r13.1), 0))
                                    else
                                     bif (firstE [0, mErr (r2, 0, r4.1, r7.1, r13.1)]) != 0 then
                                      some (((0, 0, 0, 0, 0), firstE [0, mErr (r2, 0, r4.1, r7.1, r13.1)]))
                                     else
                                      some (((r2, 0, r4.1, r7.1, r13.1), 0)))
                                   (none)
                                 else
                                  none
                               else
                                none)
                               (none))
                             (none)
                           else
                            none)
                         (none)
                       else
                        none
                     else
                      none)
                     (none))
                   (none)
                 else
                  none)
               (none)
             else
              none
           else
            none)
           (none))
         (none)
       else
        none)
      (none)
    else
     optE (splitF (r1.2.1, (ByteArray.mk #[32]))) (fun r16 =>
      bif (r16.length : Int) != 4 then
       bif (firstE [7, mErr (r2, 0, 0, 0, 0)]) != 0 then
        some (((0, 0, 0, 0, 0), firstE [7, mErr (r2, 0, 0, 0, 0)]))
       else
        some (((r2, 0, 0, 0, 0), 0))
      else
       bif inBounds 0 r16.length then
        optE (atoiF (r16.getD 0 ByteArray.empty)) (fun r17 =>
         bif r17.2 then
          bif (firstE [7, mErr (r2, 0, 0, 0, 0)]) != 0 then
           some (((0, 0, 0, 0, 0), firstE [7, mErr (r2, 0, 0, 0, 0)]))
          else
           some (((r2, 0, 0, 0, 0), 0))
         else
          optE (itoaF r17.1) (fun r18 =>
           bif inBounds 0 r16.length then
            bif !(decide (r18.data.toList = (r16.getD 0 ByteArray.empty).data.toList)) then
             bif (firstE [7, mErr (r2, 0, 0, 0, 0)]) != 0 then
              some (((0, 0, 0, 0, 0), firstE [7, mErr (r2, 0, 0, 0, 0)]))
             else
              some (((r2, 0, 0, 0, 0), 0))
            else
             bif inBounds 0 r16.length then
              optE (trimF (r16.getD 0 ByteArray.empty, (ByteArray.mk #[45]))) (fun r19 =>
               bif decide ((r19.size : Int) > 4) then
                bif (firstE [7, mErr (r2, 0, 0, 0, 0)]) != 0 then
                 some (((0, 0, 0, 0, 0), firstE [7, mErr (r2, 0, 0, 0, 0)]))
                else
                 some (((r2, 0, 0, 0, 0), 0))
               else
                bif decide (r17.1 < 0) then
                 bif (firstE [7, mErr (r2, 0, 0, 0, 0)]) != 0 then
                  some (((0, 0, 0, 0, 0), firstE [7, mErr (r2, 0, 0, 0, 0)]))
                 else
                  some (((r2, 0, 0, 0, 0), 0))
                else
                 bif inBounds 1 r16.length then
                  optE (atoiF (r16.getD 1 ByteArray.empty)) (fun r20 =>
                   bif r20.2 then
                    bif (firstE [7, mErr (r2, r17.1, 0, 0, 0)]) != 0 then
                     some (((0, 0, 0, 0, 0), firstE [7, mErr (r2, r17.1, 0, 0, 0)]))
                    else
                     some (((r2, r17.1, 0, 0, 0), 0))
                   else
                    optE (itoaF r20.1) (fun r21 =>
                     bif inBounds 1 r16.length then
                      bif !(decide (r21.data.toList = (r16.getD 1 ByteArray.empty).data.toList)) then
                       bif (firstE [7, mErr (r2, r17.1, 0, 0, 0)]) != 0 then
                        some (((0, 0, 0, 0, 0), firstE [7, mErr (r2, r17.1, 0, 0, 0)]))
                       else
                        some (((r2, r17.1, 0, 0, 0), 0))
                      else
                       bif inBounds 1 r16.length then
                        optE (trimF (r16.getD 1 ByteArray.empty, (ByteArray.mk #[45]))) (fun r22 =>
                         bif decide ((r22.size : Int) > 4) then
                          bif (firstE [7, mErr (r2, r17.1, 0, 0, 0)]) != 0 then
                           some (((0, 0, 0, 0, 0), firstE [7, mErr (r2, r17.1, 0, 0, 0)]))
                          else
                           some (((r2, r17.1, 0, 0, 0), 0))
                         else
                          bif decide (r20.1 < 0) then
                           bif (firstE [7, mErr (r2, r17.1, 0, 0, 0)]) != 0 then
                            some (((0, 0, 0, 0, 0), firstE [7, mErr (r2, r17.1, 0, 0, 0)]))
                           else
                            some (((r2, r17.1, 0, 0, 0), 0))
                          else
                           bif inBounds 2 r16.length then
                            optE (atoiF (r16.getD 2 ByteArray.empty)) (fun r23 =>
                             bif r23.2 then
                              bif (firstE [7, mErr (r2, r17.1, r20.1, 0, 0)]) != 0 then
                               some (((0, 0, 0, 0, 0), firstE [7, mErr (r2, r17.1, r20.1, 0, 0)]))
                              else
                               some (((r2, r17.1, r20.1, 0, 0), 0))
                             else
                              optE (itoaF r23.1) (fun r24 =>
                               bif inBounds 2 r16.length then
                                bif !(decide (r24.data.toList = (r16.getD 2 ByteArray.empty).data.toList)) then
                                 bif (firstE [7, mErr (r2, r17.1, r20.1, 0, 0)]) != 0 then
                                  some (((0, 0, 0, 0, 0), firstE [7, mErr (r2, r17.1, r20.1, 0, 0)]))
                                 else
                                  some (((r2, r17.1, r20.1, 0, 0), 0))
                                else
                                 bif inBounds 2 r16.length then
                                  optE (trimF (r16.getD 2 ByteArray.empty, (ByteArray.mk #[45]))) (fun r25 =>
                                   bif decide ((r25.size : Int) > 6) then
                                    bif (firstE [7, mErr (r2, r17.1, r20.1, 0, 0)]) != 0 then
                                     some (((0, 0, 0, 0, 0), firstE [7, mErr (r2, r17.1, r20.1, 0, 0)]))
                                    else
                                     some (((r2, r17.1, r20.1, 0, 0), 0))
                                   else
                                    bif decide (r23.1 < 0) then
                                     bif inBounds 3 r16.length then
                                      optE (atoiF (r16.getD 3 ByteArray.empty)) (fun r26 =>
                                       bif r26.2 then
                                        bif (firstE [7, mErr (r2, r17.1, r20.1, r23.1, 0)]) != 0 then
                                         some (((0, 0, 0, 0, 0), firstE [7, mErr (r2, r17.1, r20.1, r23.1, 0)]))
                                        else
                                         some (((r2, r17.1, r20.1, r23.1, 0), 0))
                                       else
                                        optE (itoaF r26.1) (fun r27 =>
                                         bif inBounds 3 r16.length then
                                          bif !(decide (r27.data.toList = (r16.getD 3 ByteArray.empty).data.toList)) then
                                           bif (firstE [7, mErr (r2, r17.1, r20.1, r23.1, 0)]) != 0 then
                                            some (((0, 0, 0, 0, 0), firstE [7, mErr (r2, r17.1, r20.1, r23.1, 0)]))
                                           else
                                            some (((r2, r17.1, r20.1, r23.1, 0), 0))
                                          else
                                           bif inBounds 3 r16.length then
                                            optE (trimF (r16.getD 3 ByteArray.empty, (ByteArray.mk #[45]))) (fun r28 =>
                                             bif decide ((r28.size : Int) > 6) then
                                              bif (firstE [7, mErr (r2, r17.1, r20.1, r23.1, 0)]) != 0 then
                                               some (((0, 0, 0, 0, 0), firstE [7, mErr (r2, r17.1, r20.1, r23.1, 0)]))
                                              else
                                               some (((r2, r17.1, r20.1, r23.1, 0), 0))
                                             else
                                              bif decide (r26.1 < 0) then
                                               bif (firstE [0, mErr (r2, r17.1, r20.1, r23.1, r26.1)]) != 0 then
                                                some (((0, 0, 0, 0, 0), firstE [0, mErr (r2, r17.1, r20.1, r23.1, r26.1)]))
                                               else
                                                some (((r2, r17.1, r20.1, r23.1, r26.1), 0))
                                              else
                                               bif (firstE [0, mErr (r2, r17.1, r20.1, r23.1, r26.1)]) != 0 then
                                                some (((0, 0, 0, 0, 0), firstE [0, mErr (r2, r17.1, r20.1, r23.1, r26.1)]))
                                               else
                                                some (((r2, r17.1, r20.1, r23.1, r26.1), 0)))
                                             (none)
                                           else
                                            none
                                         else
                                          none)
                                         (none))
                                       (none)
                                     else
                                      none
                                    else
                                     bif inBounds 3 r16.length then
                                      optE (atoiF (r16.getD 3 ByteArray.empty)) (fun r29 =>
                                       bif r29.2 then
                                        bif (firstE [7, mErr (r2, r17.1, r20.1, r23.1, 0)]) != 0 then
                                         some (((0, 0, 0, 0, 0), firstE [7, mErr (r2, r17.1, r20.1, r23.1, 0)]))
                                        else
                                         some (((r2, r17.1, r20.1, r23.1, 0), 0))
                                       else
                                        optE (itoaF r29.1) (fun r30 =>
                                         bif inBounds 3 r16.length then
                                          bif !(decide (r30.data.toList = (r16.getD 3 ByteArray.empty).data.toList)) then
                                           bif (firstE [7, mErr (r2, r17.1, r20.1, r23.1, 0)]) != 0 then
                                            some (((0, 0, 0, 0, 0), firstE [7, mErr (r2, r17.1, r20.1, r23.1, 0)]))
                                           else
                                            some (((r2, r17.1, r20.1, r23.1, 0), 0))
                                          else
                                           bif inBounds 3 r16.length then
                                            optE (trimF (r16.getD 3 ByteArray.empty, (ByteArray.mk #[45]))) (fun r31 =>
                                             bif decide ((r31.size : Int) > 6) then
                                              bif (firstE [7, mErr (r2, r17.1, r20.1, r23.1, 0)]) != 0 then
                                               some (((0, 0, 0, 0, 0), firstE [7, mErr (r2, r17.1, r20.1, r23.1, 0)]))
                                              else
                                               some (((r2, r17.1, r20.1, r23.1, 0), 0))
                                             else
                                              bif decide (r29.1 < 0) then
                                               bif (firstE [0, mErr (r2, r17.1, r20.1, r23.1, r29.1)]) != 0 then
                                                some (((0, 0, 0, 0, 0), firstE [0, mErr (r2, r17.1, r20.1, r23.1, r29.1)]))
                                               else
                                                some (((r2, r17.1, r20.1, r23.1, r29.1), 0))
                                              else
                                               bif (firstE [0, mErr (r2, r17.1, r20.1, r23.1, r29.1)]) != 0 then
                                                some (((0, 0, 0, 0, 0), firstE [0, mErr (r2, r17.1, r20.1, r23.1, r29.1)]))
                                               else
                                                some (((r2, r17.1, r20.1, r23.1, r29.1), 0)))
                                             (none)
                                           else
                                            none
                                         else
                                          none)
                                         (none))
                                       (none)
                                     else
                                      none)
                                   (none)
                                 else
                                  none
                               else
                                none)
                               (none))
                             (none)
                           else
                            none)
                         (none)
                       else
                        none
                     else
                      none)
                     (none))
                   (none)
                 else
                  none)
               (none)
             else
              none
           else
            none)
           (none))
         (none)
       else
        none)
      (none))
   (none))
  (none)
theorem i13 : ItemOk Tryz.prog (.fn 13 [.d .str] [.d zA, .d zI] s13) := item_fnM md5 ext5 (U := 40) (n := 30) noSpecial mixed Gz1K3_ok (fun x => by kernel_rfl)
noncomputable def Gz1K4 : List Ev.Item := .fn 13 [.d .str] [.d zA, .d zI] s13 :: Gz1K3
theorem Gz1K4_ok : ∀ q ∈ Gz1K4, ItemOk Tryz.prog q := items_cons i13 Gz1K3_ok
end Go.Proofs.YtfpppijfkeidgaaGreatDoor
