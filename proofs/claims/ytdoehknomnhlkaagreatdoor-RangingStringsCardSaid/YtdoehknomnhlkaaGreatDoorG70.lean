import Derived.Test.YtdoehknomnhlkaaGreatDoorG7a
import Derived.Test.YtdoehknomnhlkaaGreatDoorGs0
set_option linter.unusedSimpArgs false
set_option maxRecDepth 100000
namespace Go.Proofs.YtdoehknomnhlkaaGreatDoor
open Go.Ev
noncomputable def G70K1 : List Ev.Item := .fn 117 [.d zI, .d zI, .d zI] [.d .bool] s117 :: Gs0K11
theorem G70K1_ok : ∀ q ∈ G70K1, ItemOk Tryz.prog q := items_cons i117 Gs0K11_ok
noncomputable def G70K2 : List Ev.Item := .fn 148 [.d zI, .d zI] [.d .bool] s148 :: G70K1
theorem G70K2_ok : ∀ q ∈ G70K2, ItemOk Tryz.prog q := items_cons i148 G70K1_ok
noncomputable def G70K3 : List Ev.Item := .fn 226 [.d zI] [.d zI] s226 :: G70K2
theorem G70K3_ok : ∀ q ∈ G70K3, ItemOk Tryz.prog q := items_cons i226 G70K2_ok
noncomputable def G70K4 : List Ev.Item := .fn 145 [.d .bool, .d zI] [.d zI] s145 :: G70K3
theorem G70K4_ok : ∀ q ∈ G70K4, ItemOk Tryz.prog q := items_cons i145 G70K3_ok
noncomputable def G70K5 : List Ev.Item := .fn 152 [.d zI] [.d zI] s152 :: G70K4
theorem G70K5_ok : ∀ q ∈ G70K5, ItemOk Tryz.prog q := items_cons i152 G70K4_ok
noncomputable def G70K6 : List Ev.Item := .fn 252 [.d (.agg (.pair zI zP)), .d zI] [.d .bool] s252 :: G70K5
theorem G70K6_ok : ∀ q ∈ G70K6, ItemOk Tryz.prog q := items_cons i252 G70K5_ok
noncomputable def G70K7 : List Ev.Item := .fn 218 [.d (.agg zP), .d (.agg zP)] [.d zI] s218 :: G70K6
theorem G70K7_ok : ∀ q ∈ G70K7, ItemOk Tryz.prog q := items_cons i218 G70K6_ok
noncomputable def G70K8 : List Ev.Item := .fn 219 [.d (.agg zP), .d (.agg zP)] [.d zI] s219 :: G70K7
theorem G70K8_ok : ∀ q ∈ G70K8, ItemOk Tryz.prog q := items_cons i219 G70K7_ok
noncomputable def G70K9 : List Ev.Item := .fn 220 [.d (.agg zP)] [.d (.agg zP)] s220 :: G70K8
theorem G70K9_ok : ∀ q ∈ G70K9, ItemOk Tryz.prog q := items_cons i220 G70K8_ok
noncomputable def G70K10 : List Ev.Item := .fn 225 [.d (.agg (.pair (.pair (.slice (.agg (.pair zI (.pair .bool zI)))) zI) zI)), .d (.agg (.pair (.pair (.slice (.agg (.pair zI (.pair .bool zI)))) zI) zI))] [.d .bool] s225 :: G70K9
theorem G70K10_ok : ∀ q ∈ G70K10, ItemOk Tryz.prog q := items_cons i225 G70K9_ok
noncomputable def G70K11 : List Ev.Item := .fn 221 [.d (.agg (.pair zP (.pair zI (.pair zI .bool)))), .d (.agg (.pair zP (.pair zI (.pair zI .bool))))] [.d .bool] s221 :: G70K10
theorem G70K11_ok : ∀ q ∈ G70K11, ItemOk Tryz.prog q := items_cons i221 G70K10_ok
noncomputable def G70K12 : List Ev.Item := .fn 16 [] [.d .bool] (fun _ => some true) :: G70K11
theorem G70K12_ok : ∀ q ∈ G70K12, ItemOk Tryz.prog q := items_cons i16 G70K11_ok
noncomputable def s17 : Int × Int × Int → Option (ByteArray) := fun t =>
 optE (itoaF t.1) (fun r1 =>
  optE (itoaF t.2.1) (fun r2 =>
   optE (itoaF t.2.2) (fun r3 =>
    optE (joinF ([r1, r2, r3], (ByteArray.mk #[32]))) (fun r4 =>
     some (r4))
     (none))
    (none))
   (none))
  (none)
theorem i17 : ItemOk Tryz.prog (.fn 17 [.d (.agg (.pair zI zP))] [.d .str] s17) := item_fnM md5 ext5 (U := 40) (n := 30) noSpecial mixed G70K12_ok (fun x => by kernel_rfl)
noncomputable def G70K13 : List Ev.Item := .fn 17 [.d (.agg (.pair zI zP))] [.d .str] s17 :: G70K12
theorem G70K13_ok : ∀ q ∈ G70K13, ItemOk Tryz.prog q := items_cons i17 G70K12_ok
@[reducible] def T106_0 : Tmpl := ⟨15, [], [.val 5 (.slice zI), .val 6 zI, .val 7 zI], [], none⟩
@[reducible] def X106_0 : List (Ex × Tmpl) := [(.ret, ⟨15, [], [.val 2 zI], [], none⟩), (.exit 0, ⟨15, [], [], [], none⟩)]
noncomputable def step106_0 : (List Int) × Int × Int → Option (((List Int) × Int × Int) ⊕ ((Int) ⊕ (Unit))) := fun (t5, t6, t7) =>
 bif decide (t7 < t6) then
  bif inBounds t7 t5.length then
   bif (t5.getD t7.toNat 0) != 0 then
    some (.inr (.inl (t5.getD t7.toNat 0)))
   else
    some (.inl (t5, t6, wr (t7 + 1)))
  else
   none
 else
  some (.inr (.inr ()))
theorem one106_0 : oneLoop Tryz.prog 106 0 = true := by kernel_rfl
theorem lp106_0 : ItemOk Tryz.prog (.loop 106 0 T106_0 X106_0 (loopVal step106_0)) := item_loopM md5 ext5 (U := 9) (n := 11) noSpecial mixed G70K13_ok one106_0 (fun x => by kernel_rfl)
noncomputable def G70K14 : List Ev.Item := .loop 106 0 T106_0 X106_0 (loopVal step106_0) :: G70K13
theorem G70K14_ok : ∀ q ∈ G70K14, ItemOk Tryz.prog q := items_cons lp106_0 G70K13_ok
noncomputable def s106 : List Int → Option (Int) := fun l =>
 optE (loopVal step106_0 (l, (l.length : Int), 0)) (fun e1 =>
  sumE e1 (fun e2 =>
   some (e2)) (fun _ =>
   some (0)))
  (none)
theorem i106 : ItemOk Tryz.prog (.fn 106 [.d (.slice zI)] [.d zI] s106) := item_fnM md5 ext5 (U := 9) (n := 12) noSpecial mixed G70K14_ok (fun x => by kernel_rfl)
noncomputable def G70K15 : List Ev.Item := .fn 106 [.d (.slice zI)] [.d zI] s106 :: G70K14
theorem G70K15_ok : ∀ q ∈ G70K15, ItemOk Tryz.prog q := items_cons i106 G70K14_ok
noncomputable def s107 : Int × Int × Int → Option (Int) := fun t =>
 optE (s117 (t.1, 1, 100000)) (fun r1 =>
  bif r1 then
   optE (s117 (t.2.1, 0, wr (t.1 - 1))) (fun r2 =>
    optE (s145 (r2, 2)) (fun r3 =>
     optE (s145 (decide (t.2.2 ≥ t.2.1), 9)) (fun r4 =>
      optE (s145 (decide (t.2.2 ≤ (wr ((wr (t.2.1 + t.1)) - 1))), 23)) (fun r5 =>
       optE (s106 [r3, r4, r5]) (fun r6 =>
        some (r6))
        (none))
       (none))
      (none))
     (none))
    (none)
  else
   optE (s145 (false, 2)) (fun r7 =>
    optE (s145 (decide (t.2.2 ≥ t.2.1), 9)) (fun r8 =>
     optE (s145 (decide (t.2.2 ≤ (wr ((wr (t.2.1 + t.1)) - 1))), 23)) (fun r9 =>
      optE (s106 [r7, r8, r9]) (fun r10 =>
       some (r10))
       (none))
      (none))
     (none))
    (none))
  (none)
theorem i107 : ItemOk Tryz.prog (.fn 107 [.d (.agg (.pair zI zP))] [.d zI] s107) := item_fnM md5 ext5 (U := 9) (n := 12) noSpecial mixed G70K15_ok (fun x => by kernel_rfl)
noncomputable def G70K16 : List Ev.Item := .fn 107 [.d (.agg (.pair zI zP))] [.d zI] s107 :: G70K15
theorem G70K16_ok : ∀ q ∈ G70K16, ItemOk Tryz.prog q := items_cons i107 G70K15_ok
noncomputable def s18 : ByteArray → Option ((Int × Int × Int) × Int) := fun s =>
 optE (splitF (s, (ByteArray.mk #[32]))) (fun r1 =>
  bif (r1.length : Int) != 3 then
   optE (s107 (0, 0, 0)) (fun r2 =>
    optE (s106 [7, r2]) (fun r3 =>
     bif r3 != 0 then
      some (((0, 0, 0), r3))
     else
      some (((0, 0, 0), 0)))
     (none))
    (none)
  else
   bif inBounds 0 r1.length then
    optE (atoiF (r1.getD 0 ByteArray.empty)) (fun r4 =>
     bif r4.2 then
      optE (s107 (0, 0, 0)) (fun r5 =>
       optE (s106 [7, r5]) (fun r6 =>
        bif r6 != 0 then
         some (((0, 0, 0), r6))
        else
         some (((0, 0, 0), 0)))
        (none))
       (none)
     else
      optE (itoaF r4.1) (fun r7 =>
       bif inBounds 0 r1.length then
        bif !(decide (r7.data.toList = (r1.getD 0 ByteArray.empty).data.toList)) then
         optE (s107 (0, 0, 0)) (fun r8 =>
          optE (s106 [7, r8]) (fun r9 =>
           bif r9 != 0 then
            some (((0, 0, 0), r9))
           else
            some (((0, 0, 0), 0)))
           (none))
          (none)
        else
         bif inBounds 0 r1.length then
          optE (trimF (r1.getD 0 ByteArray.empty, (ByteArray.mk #[45]))) (fun r10 =>
           bif decide ((r10.size : Int) > 6) then
            optE (s107 (0, 0, 0)) (fun r11 =>
             optE (s106 [7, r11]) (fun r12 =>
              bif r12 != 0 then
               some (((0, 0, 0), r12))
              else
               some (((0, 0, 0), 0)))
              (none))
             (none)
           else
            bif decide (r4.1 < 0) then
             optE (s107 (0, 0, 0)) (fun r13 =>
              optE (s106 [7, r13]) (fun r14 =>
               bif r14 != 0 then
                some (((0, 0, 0), r14))
               else
                some (((0, 0, 0), 0)))
               (none))
              (none)
            else
             bif inBounds 1 r1.length then
              optE (atoiF (r1.getD 1 ByteArray.empty)) (fun r15 =>
               bif r15.2 then
                optE (s107 (r4.1, 0, 0)) (fun r16 =>
                 optE (s106 [7, r16]) (fun r17 =>
                  bif r17 != 0 then
                   some (((0, 0, 0), r17))
                  else
                   some (((r4.1, 0, 0), 0)))
                  (none))
                 (none)
               else
                optE (itoaF r15.1) (fun r18 =>
                 bif inBounds 1 r1.length then
                  bif !(decide (r18.data.toList = (r1.getD 1 ByteArray.empty).data.toList)) then
                   optE (s107 (r4.1, 0, 0)) (fun r19 =>
                    optE (s106 [7, r19]) (fun r20 =>
                     bif r20 != 0 then
                      some (((0, 0, 0), r20))
                     else
                      some (((r4.1, 0, 0), 0)))
                     (none))
                    (none)
                  else
                   bif inBounds 1 r1.length then
                    optE (trimF (r1.getD 1 ByteArray.empty, (ByteArray.mk #[45]))) (fun r21 =>
                     bif decide ((r21.size : Int) > 6) then
                      optE (s107 (r4.1, 0, 0)) (fun r22 =>
                       optE (s106 [7, r22]) (fun r23 =>
                        bif r23 != 0 then
                         some (((0, 0, 0), r23))
                        else
                         some (((r4.1, 0, 0), 0)))
                        (none))
                       (none)
                     else
                      bif decide (r15.1 < 0) then
                       optE (s107 (r4.1, 0, 0)) (fun r24 =>
                        optE (s106 [7, r24]) (fun r25 =>
                         bif r25 != 0 then
                          some (((0, 0, 0), r25))
                         else
                          some (((r4.1, 0, 0), 0)))
                         (none))
                        (none)
                      else
                       bif inBounds 2 r1.length then
                        optE (atoiF (r1.getD 2 ByteArray.empty)) (fun r26 =>
                         bif r26.2 then
                          optE (s107 (r4.1, r15.1, 0)) (fun r27 =>
                           optE (s106 [7, r27]) (fun r28 =>
                            bif r28 != 0 then
                             some (((0, 0, 0), r28))
                            else
                             some (((r4.1, r15.1, 0), 0)))
                            (none))
                           (none)
                         else
                          optE (itoaF r26.1) (fun r29 =>
                           bif inBounds 2 r1.length then
                            bif !(decide (r29.data.toList = (r1.getD 2 ByteArray.empty).data.toList)) then
                             optE (s107 (r4.1, r15.1, 0)) (fun r30 =>
                              optE (s106 [7, r30]) (fun r31 =>
                               bif r31 != 0 then
                                some (((0, 0, 0), r31))
                               else
                                some (((r4.1, r15.1, 0), 0)))
                               (none))
                              (none)
                            else
                             bif inBounds 2 r1.length then
                              optE (trimF (r1.getD 2 ByteArray.empty, (ByteArray.mk #[45]))) (fun r32 =>
                               bif decide ((r32.size : Int) > 6) then
                                optE (s107 (r4.1, r15.1, 0)) (fun r33 =>
                                 optE (s106 [7, r33]) (fun r34 =>
                                  bif r34 != 0 then
                                   some (((0, 0, 0), r34))
                                  else
                                   some (((r4.1, r15.1, 0), 0)))
                                  (none))
                                 (none)
                               else
                                bif decide (r26.1 < 0) then
                                 optE (s107 (r4.1, r15.1, 0)) (fun r35 =>
                                  optE (s106 [7, r35]) (fun r36 =>
                                   bif r36 != 0 then
                                    some (((0, 0, 0), r36))
                                   else
                                    some (((r4.1, r15.1, 0), 0)))
                                   (none))
                                  (none)
                                else
                                 optE (s107 (r4.1, r15.1, r26.1)) (fun r37 =>
                                  optE (s106 [0, r37]) (fun r38 =>
                                   bif r38 != 0 then
                                    some (((0, 0, 0), r38))
                                   else
                                    some (((r4.1, r15.1, r26.1), 0)))
                                   (none))
                                  (none))
                               (none)
                             else
                              none
                           else
                            none)
                           (none))
                         (none)
                       else
                        none)
                     (none)
                   else
                    none
                 else
                  none)
                 (none))
               (none)
             else
              none)
           (none)
         else
          none
       else
        none)
       (none))
     (none)
   else
    none)
  (none)
theorem i18 : ItemOk Tryz.prog (.fn 18 [.d .str] [.d (.agg (.pair zI zP)), .d zI] s18) := item_fnM md5 ext5 (U := 40) (n := 30) noSpecial mixed G70K16_ok (fun x => by kernel_rfl)
noncomputable def G70K17 : List Ev.Item := .fn 18 [.d .str] [.d (.agg (.pair zI zP)), .d zI] s18 :: G70K16
theorem G70K17_ok : ∀ q ∈ G70K17, ItemOk Tryz.prog q := items_cons i18 G70K16_ok
noncomputable def s21 : Int × Int × Int → Option (Int) := fun t =>
 optE (s51 (t.1, 1, 100000)) (fun r1 =>
  bif !r1 then
   some (2)
  else
   optE (s51 (t.2.1, 0, wr (t.1 - 1))) (fun r2 =>
    bif !r2 then
     some (2)
    else
     bif decide (t.2.2 < t.2.1) then
      some (9)
     else
      bif decide (t.2.2 > (wr ((wr (t.2.1 + t.1)) - 1))) then
       some (23)
      else
       some (0))
    (none))
  (none)
theorem i21 : ItemOk Tryz.prog (.fn 21 [.d (.agg (.pair zI zP))] [.d zI] s21) := item_fnM md5 ext5 (U := 9) (n := 12) noSpecial mixed G70K17_ok (fun x => by kernel_rfl)
noncomputable def G70K18 : List Ev.Item := .fn 21 [.d (.agg (.pair zI zP))] [.d zI] s21 :: G70K17
theorem G70K18_ok : ∀ q ∈ G70K18, ItemOk Tryz.prog q := items_cons i21 G70K17_ok
noncomputable def s19 : ByteArray → Option ((Int × Int × Int) × Int) := fun s =>
 optE (s94 (s, 32)) (fun r1 =>
  bif (r1.length : Int) != 3 then
   some (((0, 0, 0), 7))
  else
   bif inBounds 0 r1.length then
    optE (s95 (r1.getD 0 ByteArray.empty, 6)) (fun r2 =>
     bif !r2.2 then
      some (((0, 0, 0), 7))
     else
      bif decide (r2.1 < 0) then
       some (((0, 0, 0), 7))
      else
       bif inBounds 1 r1.length then
        optE (s95 (r1.getD 1 ByteArray.empty, 6)) (fun r3 =>
         bif !r3.2 then
          some (((0, 0, 0), 7))
         else
          bif decide (r3.1 < 0) then
           some (((0, 0, 0), 7))
          else
           bif inBounds 2 r1.length then
            optE (s95 (r1.getD 2 ByteArray.empty, 6)) (fun r4 =>
             bif !r4.2 then
              some (((0, 0, 0), 7))
             else
              bif decide (r4.1 < 0) then
               some (((0, 0, 0), 7))
              else
               optE (s21 (r2.1, r3.1, r4.1)) (fun r5 =>
                bif r5 != 0 then
                 some (((0, 0, 0), r5))
                else
                 some (((r2.1, r3.1, r4.1), 0)))
                (none))
             (none)
           else
            none)
         (none)
       else
        none)
     (none)
   else
    none)
  (none)
theorem i19 : ItemOk Tryz.prog (.fn 19 [.d .str] [.d (.agg (.pair zI zP)), .d zI] s19) := item_fnM md5 ext5 (U := 40) (n := 30) noSpecial mixed G70K18_ok (fun x => by kernel_rfl)
noncomputable def G70K19 : List Ev.Item := .fn 19 [.d .str] [.d (.agg (.pair zI zP)), .d zI] s19 :: G70K18
theorem G70K19_ok : ∀ q ∈ G70K19, ItemOk Tryz.prog q := items_cons i19 G70K18_ok
@[reducible] def T108_0 : Tmpl := ⟨30, [], [.val 0 .str, .val 1 (.slice zI), .val 5 .str, .val 6 zI], [], none⟩
@[reducible] def X108_0 : List (Ex × Tmpl) := [(.exit 0, ⟨30, [], [.val 5 .str], [], none⟩)]
noncomputable def step108_0 : ByteArray × (List Int) × ByteArray × Int → Option ((ByteArray × (List Int) × ByteArray × Int) ⊕ (ByteArray)) := fun (word, l, s, i) =>
 bif decide (i < (l.length : Int)) then
  bif decide (i > 0) then
   bif decide (s.size + (ByteArray.mk #[32]).size ≤ 9223372036854775807) then
    bif inBounds i l.length then
     optE (s96 (l.getD i.toNat 0)) (fun r1 =>
      bif decide ((s ++ (ByteArray.mk #[32])).size + r1.size ≤ 9223372036854775807) then
       some (.inl (word, l, (s ++ (ByteArray.mk #[32])) ++ r1, wr (i + 1)))
      else
       none)
      (none)
    else
     none
   else
    none
  else
   bif !(decide (word.data.toList = (ByteArray.mk #[]).data.toList)) then
    bif decide (s.size + (ByteArray.mk #[32]).size ≤ 9223372036854775807) then
     bif inBounds i l.length then
      optE (s96 (l.getD i.toNat 0)) (fun r2 =>
       bif decide ((s ++ (ByteArray.mk #[32])).size + r2.size ≤ 9223372036854775807) then
        some (.inl (word, l, (s ++ (ByteArray.mk #[32])) ++ r2, wr (i + 1)))
       else
        none)
       (none)
     else
      none
    else
     none
   else
    bif inBounds i l.length then
     optE (s96 (l.getD i.toNat 0)) (fun r3 =>
      bif decide (s.size + r3.size ≤ 9223372036854775807) then
       some (.inl (word, l, s ++ r3, wr (i + 1)))
      else
       none)
      (none)
    else
     none
 else
  some (.inr s)
theorem one108_0 : oneLoop Tryz.prog 108 0 = true := by kernel_rfl
theorem lp108_0 : ItemOk Tryz.prog (.loop 108 0 T108_0 X108_0 (loopVal step108_0)) := item_loopM md5 ext5 (U := 9) (n := 11) noSpecial mixed G70K19_ok one108_0 (fun x => by kernel_rfl)
noncomputable def G70K20 : List Ev.Item := .loop 108 0 T108_0 X108_0 (loopVal step108_0) :: G70K19
theorem G70K20_ok : ∀ q ∈ G70K20, ItemOk Tryz.prog q := items_cons lp108_0 G70K19_ok
noncomputable def s108 : ByteArray × (List Int) → Option (ByteArray) := fun (word, l) =>
 optE (loopVal step108_0 (word, l, word, 0)) (fun e1 =>
  some (e1))
  (none)
theorem i108 : ItemOk Tryz.prog (.fn 108 [.d .str, .d (.slice zI)] [.d .str] s108) := item_fnM md5 ext5 (U := 9) (n := 12) noSpecial mixed G70K20_ok (fun x => by kernel_rfl)
noncomputable def G70K21 : List Ev.Item := .fn 108 [.d .str, .d (.slice zI)] [.d .str] s108 :: G70K20
theorem G70K21_ok : ∀ q ∈ G70K21, ItemOk Tryz.prog q := items_cons i108 G70K20_ok
noncomputable def s20 : Int × Int × Int → Option (ByteArray) := fun t =>
 optE (s108 ((ByteArray.mk #[]), [t.1, t.2.1, t.2.2])) (fun r1 =>
  some (r1))
  (none)
theorem i20 : ItemOk Tryz.prog (.fn 20 [.d (.agg (.pair zI zP))] [.d .str] s20) := item_fnM md5 ext5 (U := 9) (n := 12) noSpecial mixed G70K21_ok (fun x => by kernel_rfl)
noncomputable def G70K22 : List Ev.Item := .fn 20 [.d (.agg (.pair zI zP))] [.d .str] s20 :: G70K21
theorem G70K22_ok : ∀ q ∈ G70K22, ItemOk Tryz.prog q := items_cons i20 G70K21_ok
noncomputable def s4 : (Int × Int × Int) × ByteArray → Option (Bool) := fun (t, s) =>
 bif !true then
  some (false)
 else
  bif decide ((s.size : Int) > 60) then
   some (true)
  else
   optE (s17 t) (fun r1 =>
    optE (s18 s) (fun r2 =>
     optE (s19 s) (fun r3 =>
      optE (s20 t) (fun r4 =>
       bif !(decide (r1.data.toList = r4.data.toList)) then
        some (false)
       else
        bif r2.2 != r3.2 then
         some (false)
        else
         bif !((r2.1.1 == r3.1.1) && (((r2.1.2.1 == r3.1.2.1) && ((r2.1.2.2 == r3.1.2.2) && true)) && true)) then
          some (false)
         else
          optE (s21 t) (fun r5 =>
           bif r5 != 0 then
            some (true)
           else
            optE (s18 r1) (fun r6 =>
             bif r6.2 == 0 then
              some ((r6.1.1 == t.1) && (((r6.1.2.1 == t.2.1) && ((r6.1.2.2 == t.2.2) && true)) && true))
             else
              some (false))
             (none))
           (none))
       (none))
      (none))
     (none))
    (none)
theorem i4 : ItemOk Tryz.prog (.fn 4 [.d (.agg (.pair zI zP)), .d .str] [.d .bool] s4) := item_fnM md5 ext5 (U := 9) (n := 12) noSpecial mixed G70K22_ok (fun x => by kernel_rfl)
noncomputable def G70K23 : List Ev.Item := .fn 4 [.d (.agg (.pair zI zP)), .d .str] [.d .bool] s4 :: G70K22
theorem G70K23_ok : ∀ q ∈ G70K23, ItemOk Tryz.prog q := items_cons i4 G70K22_ok
end Go.Proofs.YtdoehknomnhlkaaGreatDoor
