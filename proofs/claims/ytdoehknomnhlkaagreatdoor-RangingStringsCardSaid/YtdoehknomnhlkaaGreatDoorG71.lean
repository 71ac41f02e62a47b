import Derived.Test.YtdoehknomnhlkaaGreatDoorG70
set_option linter.unusedSimpArgs false
set_option maxRecDepth 100000
namespace Go.Proofs.YtdoehknomnhlkaaGreatDoor
open Go.Ev
noncomputable def s36 : Int × Int × Int × Int × Int → Option (ByteArray) := fun m =>
 optE (s117 (m.1, 0, 1)) (fun r1 =>
  bif !r1 then
   some ((ByteArray.mk #[]))
  else
   bif inBounds m.1 2 then
    bif decide (([(ByteArray.mk #[97, 116]), (ByteArray.mk #[102, 114, 111, 109])].getD m.1.toNat ByteArray.empty).size + (ByteArray.mk #[32]).size ≤ 9223372036854775807) then
     bif m.1 == 0 then
      optE (itoaF m.2.2.1) (fun r2 =>
       optE (itoaF m.2.2.2.1) (fun r3 =>
        optE (itoaF m.2.2.2.2) (fun r4 =>
         optE (joinF ([r2, r3, r4], (ByteArray.mk #[32]))) (fun r5 =>
          bif decide ((([(ByteArray.mk #[97, 116]), (ByteArray.mk #[102, 114, 111, 109])].getD m.1.toNat ByteArray.empty) ++ (ByteArray.mk #[32])).size + r5.size ≤ 9223372036854775807) then
           some ((([(ByteArray.mk #[97, 116]), (ByteArray.mk #[102, 114, 111, 109])].getD m.1.toNat ByteArray.empty) ++ (ByteArray.mk #[32])) ++ r5)
          else
           none)
          (none))
         (none))
        (none))
       (none)
     else
      optE (itoaF m.2.1) (fun r6 =>
       optE (itoaF m.2.2.1) (fun r7 =>
        optE (itoaF m.2.2.2.1) (fun r8 =>
         optE (itoaF m.2.2.2.2) (fun r9 =>
          optE (joinF ([r6, r7, r8, r9], (ByteArray.mk #[32]))) (fun r10 =>
           bif decide ((([(ByteArray.mk #[97, 116]), (ByteArray.mk #[102, 114, 111, 109])].getD m.1.toNat ByteArray.empty) ++ (ByteArray.mk #[32])).size + r10.size ≤ 9223372036854775807) then
            some ((([(ByteArray.mk #[97, 116]), (ByteArray.mk #[102, 114, 111, 109])].getD m.1.toNat ByteArray.empty) ++ (ByteArray.mk #[32])) ++ r10)
           else
            none)
           (none))
          (none))
         (none))
        (none))
       (none)
    else
     none
   else
    none)
  (none)
theorem i36 : ItemOk Tryz.prog (.fn 36 [.d zA] [.d .str] s36) := item_fnM md5 ext5 (U := 40) (n := 30) noSpecial mixed G70K23_ok (fun x => by kernel_rfl)
noncomputable def G71K1 : List Ev.Item := .fn 36 [.d zA] [.d .str] s36 :: G70K23
theorem G71K1_ok : ∀ q ∈ G71K1, ItemOk Tryz.prog q := items_cons i36 G70K23_ok
@[reducible] def T120_0 : Tmpl := ⟨19, [], [.val 0 (.slice .str), .val 1 .str, .val 7 zI, .val 8 zI], [], none⟩
@[reducible] def X120_0 : List (Ex × Tmpl) := [(.ret, ⟨19, [], [.val 4 zI], [], none⟩), (.exit 0, ⟨19, [], [], [], none⟩)]
noncomputable def step120_0 : (List ByteArray) × ByteArray × Int × Int → Option (((List ByteArray) × ByteArray × Int × Int) ⊕ ((Int) ⊕ (Unit))) := fun (s, v, t7, t8) =>
 bif decide (t8 < t7) then
  bif inBounds t8 s.length then
   bif decide (v.data.toList = (s.getD t8.toNat ByteArray.empty).data.toList) then
    some (.inr (.inl t8))
   else
    some (.inl (s, v, t7, wr (t8 + 1)))
  else
   none
 else
  some (.inr (.inr ()))
theorem one120_0 : oneLoop Tryz.prog 120 0 = true := by kernel_rfl
theorem lp120_0 : ItemOk Tryz.prog (.loop 120 0 T120_0 X120_0 (loopVal step120_0)) := item_loopM md5 ext5 (U := 9) (n := 11) noSpecial mixed G71K1_ok one120_0 (fun x => by kernel_rfl)
noncomputable def G71K2 : List Ev.Item := .loop 120 0 T120_0 X120_0 (loopVal step120_0) :: G71K1
theorem G71K2_ok : ∀ q ∈ G71K2, ItemOk Tryz.prog q := items_cons lp120_0 G71K1_ok
noncomputable def s120 : (List ByteArray) × ByteArray → Option (Int) := fun (s, v) =>
 optE (loopVal step120_0 (s, v, (s.length : Int), 0)) (fun e1 =>
  sumE e1 (fun e2 =>
   some (e2)) (fun _ =>
   some ((-1))))
  (none)
theorem i120 : ItemOk Tryz.prog (.fn 120 [.d (.slice .str), .d .str] [.d zI] s120) := item_fnM md5 ext5 (U := 9) (n := 12) noSpecial mixed G71K2_ok (fun x => by kernel_rfl)
noncomputable def G71K3 : List Ev.Item := .fn 120 [.d (.slice .str), .d .str] [.d zI] s120 :: G71K2
theorem G71K3_ok : ∀ q ∈ G71K3, ItemOk Tryz.prog q := items_cons i120 G71K2_ok
noncomputable def s121 : Int × Int × Int × Int × Int → Option (Int) := fun m =>
 optE (s152 m.2.1) (fun r1 =>
  bif r1 == 0 then
   optE (s152 m.2.2.1) (fun r2 =>
    bif r2 == 0 then
     optE (s148 (m.2.2.2.1, 100000)) (fun r3 =>
      bif r3 then
       optE (s148 (m.2.2.2.2, 100000)) (fun r4 =>
        optE (s117 (m.1, 0, 1)) (fun r5 =>
         optE (s145 (r5, 15)) (fun r6 =>
          optE (s145 (r4, 2)) (fun r7 =>
           bif m.1 == 1 then
            optE (s145 (true, 3)) (fun r8 =>
             bif !(m.1 == 1) then
              optE (s145 (true, 9)) (fun r9 =>
               optE (s145 (decide (m.2.2.2.1 ≤ m.2.2.2.2), 9)) (fun r10 =>
                optE (s106 [r6, r7, r8, r9, r10]) (fun r11 =>
                 some (r11))
                 (none))
                (none))
               (none)
             else
              optE (s145 (decide (m.2.1 < m.2.2.1), 9)) (fun r12 =>
               optE (s145 (decide (m.2.2.2.1 ≤ m.2.2.2.2), 9)) (fun r13 =>
                optE (s106 [r6, r7, r8, r12, r13]) (fun r14 =>
                 some (r14))
                 (none))
                (none))
               (none))
             (none)
           else
            optE (s145 (m.2.1 == 0, 3)) (fun r15 =>
             bif !(m.1 == 1) then
              optE (s145 (true, 9)) (fun r16 =>
               optE (s145 (decide (m.2.2.2.1 ≤ m.2.2.2.2), 9)) (fun r17 =>
                optE (s106 [r6, r7, r15, r16, r17]) (fun r18 =>
                 some (r18))
                 (none))
                (none))
               (none)
             else
              optE (s145 (decide (m.2.1 < m.2.2.1), 9)) (fun r19 =>
               optE (s145 (decide (m.2.2.2.1 ≤ m.2.2.2.2), 9)) (fun r20 =>
                optE (s106 [r6, r7, r15, r19, r20]) (fun r21 =>
                 some (r21))
                 (none))
                (none))
               (none))
             (none))
           (none))
          (none))
         (none))
        (none)
      else
       optE (s117 (m.1, 0, 1)) (fun r22 =>
        optE (s145 (r22, 15)) (fun r23 =>
         optE (s145 (false, 2)) (fun r24 =>
          bif m.1 == 1 then
           optE (s145 (true, 3)) (fun r25 =>
            bif !(m.1 == 1) then
             optE (s145 (true, 9)) (fun r26 =>
              optE (s145 (decide (m.2.2.2.1 ≤ m.2.2.2.2), 9)) (fun r27 =>
               optE (s106 [r23, r24, r25, r26, r27]) (fun r28 =>
                some (r28))
                (none))
               (none))
              (none)
            else
             optE (s145 (decide (m.2.1 < m.2.2.1), 9)) (fun r29 =>
              optE (s145 (decide (m.2.2.2.1 ≤ m.2.2.2.2), 9)) (fun r30 =>
               optE (s106 [r23, r24, r25, r29, r30]) (fun r31 =>
                some (r31))
                (none))
               (none))
              (none))
            (none)
          else
           optE (s145 (m.2.1 == 0, 3)) (fun r32 =>
            bif !(m.1 == 1) then
             optE (s145 (true, 9)) (fun r33 =>
              optE (s145 (decide (m.2.2.2.1 ≤ m.2.2.2.2), 9)) (fun r34 =>
               optE (s106 [r23, r24, r32, r33, r34]) (fun r35 =>
                some (r35))
                (none))
               (none))
              (none)
            else
             optE (s145 (decide (m.2.1 < m.2.2.1), 9)) (fun r36 =>
              optE (s145 (decide (m.2.2.2.1 ≤ m.2.2.2.2), 9)) (fun r37 =>
               optE (s106 [r23, r24, r32, r36, r37]) (fun r38 =>
                some (r38))
                (none))
               (none))
              (none))
            (none))
          (none))
         (none))
        (none))
      (none)
    else
     optE (s117 (m.1, 0, 1)) (fun r39 =>
      optE (s145 (r39, 15)) (fun r40 =>
       optE (s145 (false, 2)) (fun r41 =>
        bif m.1 == 1 then
         optE (s145 (true, 3)) (fun r42 =>
          bif !(m.1 == 1) then
           optE (s145 (true, 9)) (fun r43 =>
            optE (s145 (decide (m.2.2.2.1 ≤ m.2.2.2.2), 9)) (fun r44 =>
             optE (s106 [r40, r41, r42, r43, r44]) (fun r45 =>
              some (r45))
              (none))
             (none))
            (none)
          else
           optE (s145 (decide (m.2.1 < m.2.2.1), 9)) (fun r46 =>
            optE (s145 (decide (m.2.2.2.1 ≤ m.2.2.2.2), 9)) (fun r47 =>
             optE (s106 [r40, r41, r42, r46, r47]) (fun r48 =>
              some (r48))
              (none))
             (none))
            (none))
          (none)
        else
         optE (s145 (m.2.1 == 0, 3)) (fun r49 =>
          bif !(m.1 == 1) then
           optE (s145 (true, 9)) (fun r50 =>
            optE (s145 (decide (m.2.2.2.1 ≤ m.2.2.2.2), 9)) (fun r51 =>
             optE (s106 [r40, r41, r49, r50, r51]) (fun r52 =>
              some (r52))
              (none))
             (none))
            (none)
          else
           optE (s145 (decide (m.2.1 < m.2.2.1), 9)) (fun r53 =>
            optE (s145 (decide (m.2.2.2.1 ≤ m.2.2.2.2), 9)) (fun r54 =>
             optE (s106 [r40, r41, r49, r53, r54]) (fun r55 =>
              some (r55))
              (none))
             (none))
            (none))
          (none))
        (none))
       (none))
      (none))
    (none)
  else
   optE (s117 (m.1, 0, 1)) (fun r56 =>
    optE (s145 (r56, 15)) (fun r57 =>
     optE (s145 (false, 2)) (fun r58 =>
      bif m.1 == 1 then
       optE (s145 (true, 3)) (fun r59 =>
        bif !(m.1 == 1) then
         optE (s145 (true, 9)) (fun r60 =>
          optE (s145 (decide (m.2.2.2.1 ≤ m.2.2.2.2), 9)) (fun r61 =>
           optE (s106 [r57, r58, r59, r60, r61]) (fun r62 =>
            some (r62))
            (none))
           (none))
          (none)
        else
         optE (s145 (decide (m.2.1 < m.2.2.1), 9)) (fun r63 =>
          optE (s145 (decide (m.2.2.2.1 ≤ m.2.2.2.2), 9)) (fun r64 =>
           optE (s106 [r57, r58, r59, r63, r64]) (fun r65 =>
            some (r65))
            (none))
           (none))
          (none))
        (none)
      else
       optE (s145 (m.2.1 == 0, 3)) (fun r66 =>
        bif !(m.1 == 1) then
         optE (s145 (true, 9)) (fun r67 =>
          optE (s145 (decide (m.2.2.2.1 ≤ m.2.2.2.2), 9)) (fun r68 =>
           optE (s106 [r57, r58, r66, r67, r68]) (fun r69 =>
            some (r69))
            (none))
           (none))
          (none)
        else
         optE (s145 (decide (m.2.1 < m.2.2.1), 9)) (fun r70 =>
          optE (s145 (decide (m.2.2.2.1 ≤ m.2.2.2.2), 9)) (fun r71 =>
           optE (s106 [r57, r58, r66, r70, r71]) (fun r72 =>
            some (r72))
            (none))
           (none))
          (none))
        (none))
      (none))
     (none))
    (none))
  (none)
theorem i121 : ItemOk Tryz.prog (.fn 121 [.d zA] [.d zI] s121) := item_fnM md5 ext5 (U := 9) (n := 12) noSpecial mixed G71K3_ok (fun x => by kernel_rfl)
noncomputable def G71K4 : List Ev.Item := .fn 121 [.d zA] [.d zI] s121 :: G71K3
theorem G71K4_ok : ∀ q ∈ G71K4, ItemOk Tryz.prog q := items_cons i121 G71K3_ok
noncomputable def s37 : ByteArray → Option ((Int × Int × Int × Int × Int) × Int) := fun s =>
 optE (cutF (s, (ByteArray.mk #[32]))) (fun r1 =>
  optE (s120 ([(ByteArray.mk #[97, 116]), (ByteArray.mk #[102, 114, 111, 109])], r1.1)) (fun r2 =>
   bif decide (r2 < 0) then
    some (((0, 0, 0, 0, 0), 7))
   else
    bif r2 == 0 then
     optE (splitF (r1.2.1, (ByteArray.mk #[32]))) (fun r3 =>
      bif (r3.length : Int) != 3 then
       optE (s121 (r2, 0, 0, 0, 0)) (fun r4 =>
        optE (s106 [7, r4]) (fun r5 =>
         bif r5 != 0 then
          some (((0, 0, 0, 0, 0), r5))
         else
          some (((r2, 0, 0, 0, 0), 0)))
         (none))
        (none)
      else
       bif inBounds 0 r3.length then
        optE (atoiF (r3.getD 0 ByteArray.empty)) (fun r6 =>
         bif r6.2 then
          optE (s121 (r2, 0, 0, 0, 0)) (fun r7 =>
           optE (s106 [7, r7]) (fun r8 =>
            bif r8 != 0 then
             some (((0, 0, 0, 0, 0), r8))
            else
             some (((r2, 0, 0, 0, 0), 0)))
            (none))
           (none)
         else
          optE (itoaF r6.1) (fun r9 =>
           bif inBounds 0 r3.length then
            bif !(decide (r9.data.toList = (r3.getD 0 ByteArray.empty).data.toList)) then
             optE (s121 (r2, 0, 0, 0, 0)) (fun r10 =>
              optE (s106 [7, r10]) (fun r11 =>
               bif r11 != 0 then
                some (((0, 0, 0, 0, 0), r11))
               else
                some (((r2, 0, 0, 0, 0), 0)))
               (none))
              (none)
            else
             bif inBounds 0 r3.length then
              optE (trimF (r3.getD 0 ByteArray.empty, (ByteArray.mk #[45]))) (fun r12 =>
               bif decide ((r12.size : Int) > 4) then
                optE (s121 (r2, 0, 0, 0, 0)) (fun r13 =>
                 optE (s106 [7, r13]) (fun r14 =>
                  bif r14 != 0 then
                   some (((0, 0, 0, 0, 0), r14))
                  else
                   some (((r2, 0, 0, 0, 0), 0)))
                  (none))
                 (none)
               else
                bif decide (r6.1 < 0) then
                 optE (s121 (r2, 0, 0, 0, 0)) (fun r15 =>
                  optE (s106 [7, r15]) (fun r16 =>
                   bif r16 != 0 then
                    some (((0, 0, 0, 0, 0), r16))
                   else
                    some (((r2, 0, 0, 0, 0), 0)))
                   (none))
                  (none)
                else
                 bif inBounds 1 r3.length then
                  optE (atoiF (r3.getD 1 ByteArray.empty)) (fun r17 =>
                   bif r17.2 then
                    optE (s121 (r2, 0, r6.1, 0, 0)) (fun r18 =>
                     optE (s106 [7, r18]) (fun r19 =>
                      bif r19 != 0 then
                       some (((0, 0, 0, 0, 0), r19))
                      else
                       some (((r2, 0, r6.1, 0, 0), 0)))
                      (none))
                     (none)
                   else
                    optE (itoaF r17.1) (fun r20 =>
                     bif inBounds 1 r3.length then
                      bif !(decide (r20.data.toList = (r3.getD 1 ByteArray.empty).data.toList)) then
                       optE (s121 (r2, 0, r6.1, 0, 0)) (fun r21 =>
                        optE (s106 [7, r21]) (fun r22 =>
                         bif r22 != 0 then
                          some (((0, 0, 0, 0, 0), r22))
                         else
                          some (((r2, 0, r6.1, 0, 0), 0)))
                         (none))
                        (none)
                      else
                       bif inBounds 1 r3.length then
                        optE (trimF (r3.getD 1 ByteArray.empty, (ByteArray.mk #[45]))) (fun r23 =>
                         bif decide ((r23.size : Int) > 6) then
                          optE (s121 (r2, 0, r6.1, 0, 0)) (fun r24 =>
                           optE (s106 [7, r24]) (fun r25 =>
                            bif r25 != 0 then
                             some (((0, 0, 0, 0, 0), r25))
                            else
                             some (((r2, 0, r6.1, 0, 0), 0)))
                            (none))
                           (none)
                         else
                          bif decide (r17.1 < 0) then
                           bif inBounds 2 r3.length then
                            optE (atoiF (r3.getD 2 ByteArray.empty)) (fun r26 =>
                             bif r26.2 then
                              optE (s121 (r2, 0, r6.1, r17.1, 0)) (fun r27 =>
                               optE (s106 [7, r27]) (fun r28 =>
                                bif r28 != 0 then
                                 some (((0, 0, 0, 0, 0), r28))
                                else
                                 some (((r2, 0, r6.1, r17.1, 0), 0)))
                                (none))
                               (none)
                             else
                              optE (itoaF r26.1) (fun r29 =>
                               bif inBounds 2 r3.length then
                                bif !(decide (r29.data.toList = (r3.getD 2 ByteArray.empty).data.toList)) then
                                 optE (s121 (r2, 0, r6.1, r17.1, 0)) (fun r30 =>
                                  optE (s106 [7, r30]) (fun r31 =>
                                   bif r31 != 0 then
                                    some (((0, 0, 0, 0, 0), r31))
                                   else
                                    some (((r2, 0, r6.1, r17.1, 0), 0)))
                                   (none))
                                  (none)
                                else
                                 bif inBounds 2 r3.length then
                                  optE (trimF (r3.getD 2 ByteArray.empty, (ByteArray.mk #[45]))) (fun r32 =>
                                   bif decide ((r32.size : Int) > 6) then
                                    optE (s121 (r2, 0, r6.1, r17.1, 0)) (fun r33 =>
                                     optE (s106 [7, r33]) (fun r34 =>
                                      bif r34 != 0 then
                                       some (((0, 0, 0, 0, 0), r34))
                                      else
                                       some (((r2, 0, r6.1, r17.1, 0), 0)))
                                      (none))
                                     (none)
                                   else
                                    bif decide (r26.1 < 0) then
                                     optE (s121 (r2, 0, r6.1, r17.1, r26.1)) (fun r35 =>
                                      optE (s106 [0, r35]) (fun r36 =>
                                       bif r36 != 0 then
                                        some (((0, 0, 0, 0, 0), r36))
                                       else
                                        some (((r2, 0, r6.1, r17.1, r26.1), 0)))
                                       (none))
                                      (none)
                                    else
                                     optE (s121 (r2, 0, r6.1, r17.1, r26.1)) (fun r37 =>
                                      optE (s106 [0, r37]) (fun r38 =>
                                       bif r38 != 0 then
                                        some (((0, 0, 0, 0, 0), r38))
                                       else
                                        some (((r2, 0, r6.1, r17.1, r26.1), 0)))
                                       (none))
                                      (none))
                                   (none)
                                 else
                                  none
                               else
                                none)
                               (none))
                             (none)
                           else
                            none
                          else
                           bif inBounds 2 r3.length then
                            optE (atoiF (r3.getD 2 ByteArray.empty)) (fun r39 =>
                             bif r39.2 then
                              optE (s121 (r2, 0, r6.1, r17.1, 0)) (fun r40 =>
                               optE (s106 [7, r40]) (fun r41 =>
                                bif r41 != 0 then
                                 some (((0, 0, 0, 0, 0), r41))
                                else
                                 some (((r2, 0, r6.1, r17.1, 0), 0)))
                                (none))
                               (none)
                             else
                              optE (itoaF r39.1) (fun r42 =>
                               bif inBounds 2 r3.length then
                                bif !(decide (r42.data.toList = (r3.getD 2 ByteArray.empty).data.toList)) then
                                 optE (s121 (r2, 0, r6.1, r17.1, 0)) (fun r43 =>
                                  optE (s106 [7, r43]) (fun r44 =>
                                   bif r44 != 0 then
                                    some (((0, 0, 0, 0, 0), r44))
                                   else
                                    some (((r2, 0, r6.1, r17.1, 0), 0)))
                                   (none))
                                  (none)
                                else
                                 bif inBounds 2 r3.length then
                                  optE (trimF (r3.getD 2 ByteArray.empty, (ByteArray.mk #[45]))) (fun r45 =>
                                   bif decide ((r45.size : Int) > 6) then
                                    optE (s121 (r2, 0, r6.1, r17.1, 0)) (fun r46 =>
                                     optE (s106 [7, r46]) (fun r47 =>
                                      bif r47 != 0 then
                                       some (((0, 0, 0, 0, 0), r47))
                                      else
                                       some (((r2, 0, r6.1, r17.1, 0), 0)))
                                      (none))
                                     (none)
                                   else
                                    bif decide (r39.1 < 0) then
                                     optE (s121 (r2, 0, r6.1, r17.1, r39.1)) (fun r48 =>
                                      optE (s106 [0, r48]) (fun r49 =>
                                       bif r49 != 0 then
                                        some (((0, 0, 0, 0, 0), r49))
                                       else
                                        some (((r2, 0, r6.1, r17.1, r39.1), 0)))
                                       (none))
                                      (none)
                                    else
                                     optE (s121 (r2, 0, r6.1, r17.1, r39.1)) (fun r50 =>
                                      optE (s106 [0, r50]) (fun r51 =>
                                       bif r51 != 0 then
                                        some (((0, 0, 0, 0, 0), r51))
                                       else
                                        some (((r2, 0, r6.1, r17.1, r39.1), 0)))
                                       (none))
                                      (none))
                                   (none)
                                 else
                                  none
                               else
                                none)
                               (none))
                             (none)
                           else
                            none)
                         (none)
                       else
                        none
                     else
                      none)
                     (none))
                   (none)
                 else
                  none)
               (none)
             else
              none
           else
            none)
           (none))
         (none)
       else
        none)
      (none)
    else
     optE (splitF (r1.2.1, (ByteArray.mk #[32]))) (fun r52 =>
      bif (r52.length : Int) != 4 then
       optE (s121 (r2, 0, 0, 0, 0)) (fun r53 =>
        optE (s106 [7, r53]) (fun r54 =>
         bif r54 != 0 then
          some (((0, 0, 0, 0, 0), r54))
         else
          some (((r2, 0, 0, 0, 0), 0)))
         (none))
        (none)
      else
       bif inBounds 0 r52.length then
        optE (atoiF (r52.getD 0 ByteArray.empty)) (fun r55 =>
         bif r55.2 then
          optE (s121 (r2, 0, 0, 0, 0)) (fun r56 =>
           optE (s106 [7, r56]) (fun r57 =>
            bif r57 != 0 then
             some (((0, 0, 0, 0, 0), r57))
            else
             some (((r2, 0, 0, 0, 0), 0)))
            (none))
           (none)
         else
          optE (itoaF r55.1) (fun r58 =>
           bif inBounds 0 r52.length then
            bif !(decide (r58.data.toList = (r52.getD 0 ByteArray.empty).data.toList)) then
             optE (s121 (r2, 0, 0, 0, 0)) (fun r59 =>
              optE (s106 [7, r59]) (fun r60 =>
               bif r60 != 0 then
                some (((0, 0, 0, 0, 0), r60))
               else
                some (((r2, 0, 0, 0, 0), 0)))
               (none))
              (none)
            else
             bif inBounds 0 r52.length then
              optE (trimF (r52.getD 0 ByteArray.empty, (ByteArray.mk #[45]))) (fun r61 =>
               bif decide ((r61.size : Int) > 4) then
                optE (s121 (r2, 0, 0, 0, 0)) (fun r62 =>
                 optE (s106 [7, r62]) (fun r63 =>
                  bif r63 != 0 then
                   some (((0, 0, 0, 0, 0), r63))
                  else
                   some (((r2, 0, 0, 0, 0), 0)))
                  (none))
                 (none)
               else
                bif decide (r55.1 < 0) then
                 optE (s121 (r2, 0, 0, 0, 0)) (fun r64 =>
                  optE (s106 [7, r64]) (fun r65 =>
                   bif r65 != 0 then
                    some (((0, 0, 0, 0, 0), r65))
                   else
                    some (((r2, 0, 0, 0, 0), 0)))
                   (none))
                  (none)
                else
                 bif inBounds 1 r52.length then
                  optE (atoiF (r52.getD 1 ByteArray.empty)) (fun r66 =>
                   bif r66.2 then
                    optE (s121 (r2, r55.1, 0, 0, 0)) (fun r67 =>
                     optE (s106 [7, r67]) (fun r68 =>
                      bif r68 != 0 then
                       some (((0, 0, 0, 0, 0), r68))
                      else
                       some (((r2, r55.1, 0, 0, 0), 0)))
                      (none))
                     (none)
                   else
                    optE (itoaF r66.1) (fun r69 =>
                     bif inBounds 1 r52.length then
                      bif !(decide (r69.data.toList = (r52.getD 1 ByteArray.empty).data.toList)) then
                       optE (s121 (r2, r55.1, 0, 0, 0)) (fun r70 =>
                        optE (s106 [7, r70]) (fun r71 =>
                         bif r71 != 0 then
                          some (((0, 0, 0, 0, 0), r71))
                         else
                          some (((r2, r55.1, 0, 0, 0), 0)))
                         (none))
                        (none)
                      else
                       bif inBounds 1 r52.length then
                        optE (trimF (r52.getD 1 ByteArray.empty, (ByteArray.mk #[45]))) (fun r72 =>
                         bif decide ((r72.size : Int) > 4) then
                          optE (s121 (r2, r55.1, 0, 0, 0)) (fun r73 =>
                           optE (s106 [7, r73]) (fun r74 =>
                            bif r74 != 0 then
                             some (((0, 0, 0, 0, 0), r74))
                            else
                             some (((r2, r55.1, 0, 0, 0), 0)))
                            (none))
                           (none)
                         else
                          bif decide (r66.1 < 0) then
                           optE (s121 (r2, r55.1, 0, 0, 0)) (fun r75 =>
                            optE (s106 [7, r75]) (fun r76 =>
                             bif r76 != 0 then
                              some (((0, 0, 0, 0, 0), r76))
                             else
                              some (((r2, r55.1, 0, 0, 0), 0)))
                             (none))
                            (none)
                          else
                           bif inBounds 2 r52.length then
                            optE (atoiF (r52.getD 2 ByteArray.empty)) (fun r77 =>
                             bif r77.2 then
                              optE (s121 (r2, r55.1, r66.1, 0, 0)) (fun r78 =>
                               optE (s106 [7, r78]) (fun r79 =>
                                bif r79 != 0 then
                                 some (((0, 0, 0, 0, 0), r79))
                                else
                                 some (((r2, r55.1, r66.1, 0, 0), 0)))
                                (none))
                               (none)
                             else
                              optE (itoaF r77.1) (fun r80 =>
                               bif inBounds 2 r52.length then
                                bif !(decide (r80.data.toList = (r52.getD 2 ByteArray.empty).data.toList)) then
                                 optE (s121 (r2, r55.1, r66.1, 0, 0)) (fun r81 =>
                                  optE (s106 [7, r81]) (fun r82 =>
                                   bif r82 != 0 then
                                    some (((0, 0, 0, 0, 0), r82))
                                   else
                                    some (((r2, r55.1, r66.1, 0, 0), 0)))
                                   (none))
                                  (none)
                                else
                                 bif inBounds 2 r52.length then
                                  optE (trimF (r52.getD 2 ByteArray.empty, (ByteArray.mk #[45]))) (fun r83 =>
                                   bif decide ((r83.size : Int) > 6) then
                                    optE (s121 (r2, r55.1, r66.1, 0, 0)) (fun r84 =>
                                     optE (s106 [7, r84]) (fun r85 =>
                                      bif r85 != 0 then
                                       some (((0, 0, 0, 0, 0), r85))
                                      else
                                       some (((r2, r55.1, r66.1, 0, 0), 0)))
                                      (none))
                                     (none)
                                   else
                                    bif decide (r77.1 < 0) then
                                     bif inBounds 3 r52.length then
                                      optE (atoiF (r52.getD 3 ByteArray.empty)) (fun r86 =>
                                       bif r86.2 then
                                        optE (s121 (r2, r55.1, r66.1, r77.1, 0)) (fun r87 =>
                                         optE (s106 [7, r87]) (fun r88 =>
                                          bif r88 != 0 then
                                           some (((0, 0, 0, 0, 0), r88))
                                          else
                                           some (((r2, r55.1, r66.1, r77.1, 0), 0)))
                                          (none))
                                         (none)
                                       else
                                        optE (itoaF r86.1) (fun r89 =>
                                         bif inBounds 3 r52.length then
                                          bif !(decide (r89.data.toList = (r52.getD 3 ByteArray.empty).data.toList)) then
                                           optE (s121 (r2, r55.1, r66.1, r77.1, 0)) (fun r90 =>
                                            optE (s106 [7, r90]) (fun r91 =>
                                             bif r91 != 0 then
                                              some (((0, 0, 0, 0, 0), r91))
                                             else
                                              some (((r2, r55.1, r66.1, r77.1, 0), 0)))
                                             (none))
                                            (none)
                                          else
                                           bif inBounds 3 r52.length then
                                            optE (trimF (r52.getD 3 ByteArray.empty, (ByteArray.mk #[45]))) (fun r92 =>
                                             bif decide ((r92.size : Int) > 6) then
                                              optE (s121 (r2, r55.1, r66.1, r77.1, 0)) (fun r93 =>
                                               optE (s106 [7, r93]) (fun r94 =>
                                                bif r94 != 0 then
                                                 some (((0, 0, 0, 0, 0), r94))
                                                else
                                                 some (((r2, r55.1, r66.1, r77.1, 0), 0)))
                                                (none))
                                               (none)
                                             else
                                              bif decide (r86.1 < 0) then
                                               optE (s121 (r2, r55.1, r66.1, r77.1, r86.1)) (fun r95 =>
                                                optE (s106 [0, r95]) (fun r96 =>
                                                 bif r96 != 0 then
                                                  some (((0, 0, 0, 0, 0), r96))
                                                 else
                                                  some (((r2, r55.1, r66.1, r77.1, r86.1), 0)))
                                                 (none))
                                                (none)
                                              else
                                               optE (s121 (r2, r55.1, r66.1, r77.1, r86.1)) (fun r97 =>
                                                optE (s106 [0, r97]) (fun r98 =>
                                                 bif r98 != 0 then
                                                  some (((0, 0, 0, 0, 0), r98))
                                                 else
                                                  some (((r2, r55.1, r66.1, r77.1, r86.1), 0)))
                                                 (none))
                                                (none))
                                             (none)
                                           else
                                            none
                                         else
                                          none)
                                         (none))
                                       (none)
                                     else
                                      none
                                    else
                                     bif inBounds 3 r52.length then
                                      optE (atoiF (r52.getD 3 ByteArray.empty)) (fun r99 =>
                                       bif r99.2 then
                                        optE (s121 (r2, r55.1, r66.1, r77.1, 0)) (fun r100 =>
                                         optE (s106 [7, r100]) (fun r101 =>
                                          bif r101 != 0 then
                                           some (((0, 0, 0, 0, 0), r101))
                                          else
                                           some (((r2, r55.1, r66.1, r77.1, 0), 0)))
                                          (none))
                                         (none)
                                       else
                                        optE (itoaF r99.1) (fun r102 =>
                                         bif inBounds 3 r52.length then
                                          bif !(decide (r102.data.toList = (r52.getD 3 ByteArray.empty).data.toList)) then
                                           optE (s121 (r2, r55.1, r66.1, r77.1, 0)) (fun r103 =>
                                            optE (s106 [7, r103]) (fun r104 =>
                                             bif r104 != 0 then
                                              some (((0, 0, 0, 0, 0), r104))
                                             else
                                              some (((r2, r55.1, r66.1, r77.1, 0), 0)))
                                             (none))
                                            (none)
                                          else
                                           bif inBounds 3 r52.length then
                                            optE (trimF (r52.getD 3 ByteArray.empty, (ByteArray.mk #[45]))) (fun r105 =>
                                             bif decide ((r105.size : Int) > 6) then
                                              optE (s121 (r2, r55.1, r66.1, r77.1, 0)) (fun r106 =>
                                               optE (s106 [7, r106]) (fun r107 =>
                                                bif r107 != 0 then
                                                 some (((0, 0, 0, 0, 0), r107))
                                                else
                                                 some (((r2, r55.1, r66.1, r77.1, 0), 0)))
                                                (none))
                                               (none)
                                             else
                                              bif decide (r99.1 < 0) then
                                               optE (s121 (r2, r55.1, r66.1, r77.1, r99.1)) (fun r108 =>
                                                optE (s106 [0, r108]) (fun r109 =>
                                                 bif r109 != 0 then
                                                  some (((0, 0, 0, 0, 0), r109))
                                                 else
                                                  some (((r2, r55.1, r66.1, r77.1, r99.1), 0)))
                                                 (none))
                                                (none)
                                              else
                                               optE (s121 (r2, r55.1, r66.1, r77.1, r99.1)) (fun r110 =>
                                                optE (s106 [0, r110]) (fun r111 =>
                                                 bif r111 != 0 then
                                                  some (((0, 0, 0, 0, 0), r111))
                                                 else
                                                  some (((r2, r55.1, r66.1, r77.1, r99.1), 0)))
                                                 (none))
                                                (none))
                                             (none)
                                           else
                                            none
                                         else
                                          none)
                                         (none))
                                       (none)
                                     else
                                      none)
                                   (none)
                                 else
                                  none
                               else
                                none)
                               (none))
                             (none)
                           else
                            none)
                         (none)
                       else
                        none
                     else
                      none)
                     (none))
                   (none)
                 else
                  none)
               (none)
             else
              none
           else
            none)
           (none))
         (none)
       else
        none)
      (none))
   (none))
  (none)
theorem i37 : ItemOk Tryz.prog (.fn 37 [.d .str] [.d zA, .d zI] s37) := item_fnM md5 ext5 (U := 40) (n := 30) noSpecial mixed G71K4_ok (fun x => by kernel_rfl)
noncomputable def G71K5 : List Ev.Item := .fn 37 [.d .str] [.d zA, .d zI] s37 :: G71K4
theorem G71K5_ok : ∀ q ∈ G71K5, ItemOk Tryz.prog q := items_cons i37 G71K4_ok
noncomputable def s40 : Int × Int × Int × Int × Int → Option (Int) := fun m =>
 optE (s51 (m.1, 0, 1)) (fun r1 =>
  bif !r1 then
   some (15)
  else
   optE (s51 (m.2.1, 0, 1000)) (fun r2 =>
    bif !r2 then
     some (2)
    else
     optE (s51 (m.2.2.1, 0, 1000)) (fun r3 =>
      bif !r3 then
       some (2)
      else
       optE (s51 (m.2.2.2.1, (-100000), 100000)) (fun r4 =>
        bif !r4 then
         some (2)
        else
         optE (s51 (m.2.2.2.2, (-100000), 100000)) (fun r5 =>
          bif !r5 then
           some (2)
          else
           bif m.1 == 0 then
            bif m.2.1 != 0 then
             some (3)
            else
             bif m.1 == 1 then
              bif decide (m.2.1 ≥ m.2.2.1) then
               some (9)
              else
               bif decide (m.2.2.2.1 > m.2.2.2.2) then
                some (9)
               else
                some (0)
             else
              bif decide (m.2.2.2.1 > m.2.2.2.2) then
               some (9)
              else
               some (0)
           else
            bif m.1 == 1 then
             bif decide (m.2.1 ≥ m.2.2.1) then
              some (9)
             else
              bif decide (m.2.2.2.1 > m.2.2.2.2) then
               some (9)
              else
               some (0)
            else
             bif decide (m.2.2.2.1 > m.2.2.2.2) then
              some (9)
             else
              some (0))
          (none))
        (none))
      (none))
    (none))
  (none)
theorem i40 : ItemOk Tryz.prog (.fn 40 [.d zA] [.d zI] s40) := item_fnM md5 ext5 (U := 9) (n := 12) noSpecial mixed G71K5_ok (fun x => by kernel_rfl)
noncomputable def G71K6 : List Ev.Item := .fn 40 [.d zA] [.d zI] s40 :: G71K5
theorem G71K6_ok : ∀ q ∈ G71K6, ItemOk Tryz.prog q := items_cons i40 G71K5_ok
@[reducible] def T38_0 : Tmpl := ⟨99, [(2, .ref 2 0 0 0), (4, .ref 4 0 0 0)], [.own 5 16 9 .str, .val 6 zI, .own 7 68 3 zI, .val 8 zI, .cells 2 [.d (.pair zI zF)], .cells 4 [.d (.pair zI zF)]], [], none⟩
@[reducible] def X38_0 : List (Ex × Tmpl) := [(.ret, ⟨99, [(2, .ref 2 0 0 0)], [.val 3 zI, .cells 2 [.d (.pair zI zF)]], [], none⟩), (.exit 0, ⟨99, [(2, .ref 2 0 0 0), (4, .ref 4 0 0 0)], [.val 6 zI, .own 7 68 3 zI, .cells 2 [.d (.pair zI zF)], .cells 4 [.d (.pair zI zF)]], [], none⟩)]
noncomputable def step38_0 : (List ByteArray) × Int × (List Int) × Int × (Int × Int × Int × Int × Int) × (Int × Int × Int × Int × Int) → Option (((List ByteArray) × Int × (List Int) × Int × (Int × Int × Int × Int × Int) × (Int × Int × Int × Int × Int)) ⊕ ((Int × (Int × Int × Int × Int × Int)) ⊕ (Int × (List Int) × (Int × Int × Int × Int × Int) × (Int × Int × Int × Int × Int)))) := fun (w, times, n, i, t2, none0) =>
 bif decide (i < (w.length : Int)) then
  bif decide (i ≤ times) then
   bif inBounds i w.length then
    optE (s95 (w.getD i.toNat ByteArray.empty, 4)) (fun r2 =>
     bif !r2.2 then
      some (.inr (.inl (7, none0)))
     else
      bif decide (i ≤ times) then
       bif decide (r2.1 < 0) then
        some (.inr (.inl (7, none0)))
       else
        bif room 8 (n.length + 1) then
         some (.inl (w, times, n ++ [r2.1], wr (i + 1), t2, none0))
        else
         none
      else
       bif room 8 (n.length + 1) then
        some (.inl (w, times, n ++ [r2.1], wr (i + 1), t2, none0))
       else
        none)
     (none)
   else
    none
  else
   bif inBounds i w.length then
    optE (s95 (w.getD i.toNat ByteArray.empty, 6)) (fun r3 =>
     bif !r3.2 then
      some (.inr (.inl (7, none0)))
     else
      bif decide (i ≤ times) then
       bif decide (r3.1 < 0) then
        some (.inr (.inl (7, none0)))
       else
        bif room 8 (n.length + 1) then
         some (.inl (w, times, n ++ [r3.1], wr (i + 1), t2, none0))
        else
         none
      else
       bif room 8 (n.length + 1) then
        some (.inl (w, times, n ++ [r3.1], wr (i + 1), t2, none0))
       else
        none)
     (none)
   else
    none
 else
  some (.inr (.inr (times, n, t2, none0)))
theorem one38_0 : oneLoop Tryz.prog 38 0 = true := by kernel_rfl
theorem lp38_0 : ItemOk Tryz.prog (.loop 38 0 T38_0 X38_0 (loopVal step38_0)) := item_loopM md5 ext5 (U := 9) (n := 11) noSpecial mixed G71K6_ok one38_0 (fun x => by kernel_rfl)
noncomputable def G71K7 : List Ev.Item := .loop 38 0 T38_0 X38_0 (loopVal step38_0) :: G71K6
theorem G71K7_ok : ∀ q ∈ G71K7, ItemOk Tryz.prog q := items_cons lp38_0 G71K6_ok
noncomputable def s38 : ByteArray → Option ((Int × Int × Int × Int × Int) × Int) := fun s =>
 optE (s94 (s, 32)) (fun r1 =>
  bif inBounds 0 r1.length then
   bif decide ((r1.getD 0 ByteArray.empty).data.toList = (ByteArray.mk #[97, 116]).data.toList) then
    bif inBounds 0 r1.length then
     bif decide ((r1.getD 0 ByteArray.empty).data.toList = (ByteArray.mk #[102, 114, 111, 109]).data.toList) then
      bif (r1.length : Int) != 5 then
       some (((0, 0, 0, 0, 0), 7))
      else
       optE (loopVal step38_0 (r1, 2, [], 1, (0, 0, 0, 0, 0), (0, 0, 0, 0, 0))) (fun e2 =>
        sumE e2 (fun e3 =>
         some ((e3.2, e3.1))) (fun e4 =>
         bif inBounds (wr (e4.1 - 1)) e4.2.1.length then
          bif inBounds e4.1 e4.2.1.length then
           bif inBounds (wr (e4.1 + 1)) e4.2.1.length then
            bif e4.1 == 2 then
             bif inBounds 0 e4.2.1.length then
              optE (s40 (1, e4.2.1.getD 0 0, e4.2.1.getD (wr (e4.1 - 1)).toNat 0, e4.2.1.getD e4.1.toNat 0, e4.2.1.getD (wr (e4.1 + 1)).toNat 0)) (fun r5 =>
               bif r5 != 0 then
                some ((e4.2.2.2, r5))
               else
                some (((1, e4.2.1.getD 0 0, e4.2.1.getD (wr (e4.1 - 1)).toNat 0, e4.2.1.getD e4.1.toNat 0, e4.2.1.getD (wr (e4.1 + 1)).toNat 0), 0)))
               (none)
             else
              none
            else
             optE (s40 (0, 0, e4.2.1.getD (wr (e4.1 - 1)).toNat 0, e4.2.1.getD e4.1.toNat 0, e4.2.1.getD (wr (e4.1 + 1)).toNat 0)) (fun r6 =>
              bif r6 != 0 then
               some ((e4.2.2.2, r6))
              else
               some (((0, 0, e4.2.1.getD (wr (e4.1 - 1)).toNat 0, e4.2.1.getD e4.1.toNat 0, e4.2.1.getD (wr (e4.1 + 1)).toNat 0), 0)))
              (none)
           else
            none
          else
           none
         else
          none))
        (none)
     else
      bif (r1.length : Int) != 4 then
       some (((0, 0, 0, 0, 0), 7))
      else
       optE (loopVal step38_0 (r1, 1, [], 1, (0, 0, 0, 0, 0), (0, 0, 0, 0, 0))) (fun e7 =>
        sumE e7 (fun e8 =>
         some ((e8.2, e8.1))) (fun e9 =>
         bif inBounds (wr (e9.1 - 1)) e9.2.1.length then
          bif inBounds e9.1 e9.2.1.length then
           bif inBounds (wr (e9.1 + 1)) e9.2.1.length then
            bif e9.1 == 2 then
             bif inBounds 0 e9.2.1.length then
              optE (s40 (1, e9.2.1.getD 0 0, e9.2.1.getD (wr (e9.1 - 1)).toNat 0, e9.2.1.getD e9.1.toNat 0, e9.2.1.getD (wr (e9.1 + 1)).toNat 0)) (fun r10 =>
               bif r10 != 0 then
                some ((e9.2.2.2, r10))
               else
                some (((1, e9.2.1.getD 0 0, e9.2.1.getD (wr (e9.1 - 1)).toNat 0, e9.2.1.getD e9.1.toNat 0, e9.2.1.getD (wr (e9.1 + 1)).toNat 0), 0)))
               (none)
             else
              none
            else
             optE (s40 (0, 0, e9.2.1.getD (wr (e9.1 - 1)).toNat 0, e9.2.1.getD e9.1.toNat 0, e9.2.1.getD (wr (e9.1 + 1)).toNat 0)) (fun r11 =>
              bif r11 != 0 then
               some ((e9.2.2.2, r11))
              else
               some (((0, 0, e9.2.1.getD (wr (e9.1 - 1)).toNat 0, e9.2.1.getD e9.1.toNat 0, e9.2.1.getD (wr (e9.1 + 1)).toNat 0), 0)))
              (none)
           else
            none
          else
           none
         else
          none))
        (none)
    else
     none
   else
    bif inBounds 0 r1.length then
     bif decide ((r1.getD 0 ByteArray.empty).data.toList = (ByteArray.mk #[102, 114, 111, 109]).data.toList) then
      bif (r1.length : Int) != 5 then
       some (((0, 0, 0, 0, 0), 7))
      else
       optE (loopVal step38_0 (r1, 2, [], 1, (0, 0, 0, 0, 0), (0, 0, 0, 0, 0))) (fun e12 =>
        sumE e12 (fun e13 =>
         some ((e13.2, e13.1))) (fun e14 =>
         bif inBounds (wr (e14.1 - 1)) e14.2.1.length then
          bif inBounds e14.1 e14.2.1.length then
           bif inBounds (wr (e14.1 + 1)) e14.2.1.length then
            bif e14.1 == 2 then
             bif inBounds 0 e14.2.1.length then
              optE (s40 (1, e14.2.1.getD 0 0, e14.2.1.getD (wr (e14.1 - 1)).toNat 0, e14.2.1.getD e14.1.toNat 0, e14.2.1.getD (wr (e14.1 + 1)).toNat 0)) (fun r15 =>
               bif r15 != 0 then
                some ((e14.2.2.2, r15))
               else
                some (((1, e14.2.1.getD 0 0, e14.2.1.getD (wr (e14.1 - 1)).toNat 0, e14.2.1.getD e14.1.toNat 0, e14.2.1.getD (wr (e14.1 + 1)).toNat 0), 0)))
               (none)
             else
              none
            else
             optE (s40 (0, 0, e14.2.1.getD (wr (e14.1 - 1)).toNat 0, e14.2.1.getD e14.1.toNat 0, e14.2.1.getD (wr (e14.1 + 1)).toNat 0)) (fun r16 =>
              bif r16 != 0 then
               some ((e14.2.2.2, r16))
              else
               some (((0, 0, e14.2.1.getD (wr (e14.1 - 1)).toNat 0, e14.2.1.getD e14.1.toNat 0, e14.2.1.getD (wr (e14.1 + 1)).toNat 0), 0)))
              (none)
           else
            none
          else
           none
         else
          none))
        (none)
     else
      some (((0, 0, 0, 0, 0), 7))
    else
     none
  else
   none)
  (none)
theorem i38 : ItemOk Tryz.prog (.fn 38 [.d .str] [.d zA, .d zI] s38) := item_fnM md5 ext5 (U := 9) (n := 12) noSpecial mixed G71K7_ok (fun x => by kernel_rfl)
noncomputable def G71K8 : List Ev.Item := .fn 38 [.d .str] [.d zA, .d zI] s38 :: G71K7
theorem G71K8_ok : ∀ q ∈ G71K8, ItemOk Tryz.prog q := items_cons i38 G71K7_ok
noncomputable def s39 : Int × Int × Int × Int × Int → Option (ByteArray) := fun m =>
 bif m.1 == 0 then
  optE (s108 ((ByteArray.mk #[97, 116]), [m.2.2.1, m.2.2.2.1, m.2.2.2.2])) (fun r1 =>
   some (r1))
   (none)
 else
  bif m.1 == 1 then
   optE (s108 ((ByteArray.mk #[102, 114, 111, 109]), [m.2.1, m.2.2.1, m.2.2.2.1, m.2.2.2.2])) (fun r2 =>
    some (r2))
    (none)
  else
   some ((ByteArray.mk #[]))
theorem i39 : ItemOk Tryz.prog (.fn 39 [.d zA] [.d .str] s39) := item_fnM md5 ext5 (U := 9) (n := 12) noSpecial mixed G71K8_ok (fun x => by kernel_rfl)
noncomputable def G71K9 : List Ev.Item := .fn 39 [.d zA] [.d .str] s39 :: G71K8
theorem G71K9_ok : ∀ q ∈ G71K9, ItemOk Tryz.prog q := items_cons i39 G71K8_ok
noncomputable def s6 : (Int × Int × Int × Int × Int) × ByteArray → Option (Bool) := fun (m, s) =>
 bif !true then
  some (false)
 else
  bif decide ((s.size : Int) > 60) then
   some (true)
  else
   optE (s36 m) (fun r1 =>
    optE (s37 s) (fun r2 =>
     optE (s38 s) (fun r3 =>
      optE (s39 m) (fun r4 =>
       bif !(decide (r1.data.toList = r4.data.toList)) then
        some (false)
       else
        bif r2.2 != r3.2 then
         some (false)
        else
         bif !((r2.1.1 == r3.1.1) && ((r2.1.2.1 == r3.1.2.1) && ((r2.1.2.2.1 == r3.1.2.2.1) && (((r2.1.2.2.2.1 == r3.1.2.2.2.1) && ((r2.1.2.2.2.2 == r3.1.2.2.2.2) && true)) && true)))) then
          some (false)
         else
          optE (s40 m) (fun r5 =>
           bif r5 != 0 then
            some (true)
           else
            optE (s37 r1) (fun r6 =>
             bif r6.2 == 0 then
              some ((r6.1.1 == m.1) && ((r6.1.2.1 == m.2.1) && ((r6.1.2.2.1 == m.2.2.1) && (((r6.1.2.2.2.1 == m.2.2.2.1) && ((r6.1.2.2.2.2 == m.2.2.2.2) && true)) && true))))
             else
              some (false))
             (none))
           (none))
       (none))
      (none))
     (none))
    (none)
theorem i6 : ItemOk Tryz.prog (.fn 6 [.d zA, .d .str] [.d .bool] s6) := item_fnM md5 ext5 (U := 9) (n := 12) noSpecial mixed G71K9_ok (fun x => by kernel_rfl)
noncomputable def G71K10 : List Ev.Item := .fn 6 [.d zA, .d .str] [.d .bool] s6 :: G71K9
theorem G71K10_ok : ∀ q ∈ G71K10, ItemOk Tryz.prog q := items_cons i6 G71K9_ok
end Go.Proofs.YtdoehknomnhlkaaGreatDoor
