import Derived.Test.YtfmfiflpokogiaaDoorGc8
set_option linter.unusedSimpArgs false
set_option maxRecDepth 100000
namespace Go.Proofs.YtfmfiflpokogiaaDoor
open Go.Ev
noncomputable def s68 : (List (Int × Int × Int × Int × Int)) × (Int × Bool) → Option (((List (Int × Bool × Int)) × Int) × Int) := fun (l, q0) =>
 optE (s105 l) (fun r1 =>
  bif (firstE [r1.2, unl (win q0.1 0 1000) 2]) != 0 then
   some ((([], 0), firstE [r1.2, unl (win q0.1 0 1000) 2]))
  else
   optE (s77 l) (fun r2 =>
    bif !r2 then
     some ((([], 0), 13))
    else
     optE (s106 q0) (fun r3 =>
      optE (s108 (r1.1, r3)) (fun r4 =>
       bif !r4.2 then
        some ((([], 0), 22))
       else
        some ((r4.1.1, 0)))
       (none))
      (none))
    (none))
  (none)
theorem i68 : ItemOk Tryd.prog (.fn 68 [.d zS, .d (.agg (.pair zI .bool))] [.d (.agg (.pair (.slice (.agg (.pair zI (.pair .bool zI)))) zI)), .d zI] s68) := item_fnM md7 ext7 (U := 9) (n := 4) noSpecial mixed Gc8K22_ok (fun x => by kernel_rfl)
noncomputable def Gc9K1 : List Ev.Item := .fn 68 [.d zS, .d (.agg (.pair zI .bool))] [.d (.agg (.pair (.slice (.agg (.pair zI (.pair .bool zI)))) zI)), .d zI] s68 :: Gc8K22
theorem Gc9K1_ok : ∀ q ∈ Gc9K1, ItemOk Tryd.prog q := items_cons i68 Gc8K22_ok
noncomputable def s69 : (List (Int × Int × Int × Int × Int)) × (Int × Bool) → Option ((Int × Int) × Int) := fun (l, q0) =>
 optE (s109 l) (fun r1 =>
  optE (s110 r1) (fun r2 =>
   bif r2 then
    some (((0, 0), 13))
   else
    bif !q0.2 then
     optE (s111 (r1, (-1), wr ((-1) * q0.1))) (fun r3 =>
      bif !r3.2 then
       some (((0, 0), 22))
      else
       some (((wr ((-1) * r3.1.1), r3.1.2), 0)))
      (none)
    else
     optE (s111 (r1, 1, wr (1 * q0.1))) (fun r4 =>
      bif !r4.2 then
       some (((0, 0), 22))
      else
       some (((wr (1 * r4.1.1), r4.1.2), 0)))
      (none))
   (none))
  (none)
theorem i69 : ItemOk Tryd.prog (.fn 69 [.d zS, .d (.agg (.pair zI .bool))] [.d (.agg zP), .d zI] s69) := item_fnM md7 ext7 (U := 9) (n := 4) noSpecial mixed Gc9K1_ok (fun x => by kernel_rfl)
noncomputable def Gc9K2 : List Ev.Item := .fn 69 [.d zS, .d (.agg (.pair zI .bool))] [.d (.agg zP), .d zI] s69 :: Gc9K1
theorem Gc9K2_ok : ∀ q ∈ Gc9K2, ItemOk Tryd.prog q := items_cons i69 Gc9K1_ok
noncomputable def s16 : (List (Int × Int × Int × Int × Int)) × (Int × Bool) → Option (Bool) := fun (l, q0) =>
 bif !true then
  some (false)
 else
  optE (s21 l) (fun r1 =>
   bif !r1 then
    some (true)
   else
    optE (s19 l) (fun r2 =>
     optE (s68 (r2, q0)) (fun r3 =>
      optE (s23 l) (fun r4 =>
       bif r4 == 0 then
        optE (s29 q0.1) (fun r5 =>
         bif r5 == 0 then
          optE (s69 (l, q0)) (fun r6 =>
           bif r6.2 != 0 then
            bif r3.2 == r6.2 then
             bif (r3.1.1.length : Int) == 0 then
              some (r3.1.2 == 0)
             else
              some (false)
            else
             some (false)
           else
            bif r3.2 != 0 then
             some (false)
            else
             bif decide ((r3.1.1.length : Int) > 2) then
              some (false)
             else
              optE (s50 r6.1) (fun r7 =>
               bif !r7 then
                some (false)
               else
                optE (s67 (l, (q0, r6.1, r3.1.1, r3.1.2))) (fun r8 =>
                 bif r8 != 0 then
                  some (false)
                 else
                  optE (s19 l) (fun r9 =>
                   optE (s66 (q0, r6.1, r3.1.1, r3.1.2)) (fun r10 =>
                    optE (s65 (r9, r10)) (fun r11 =>
                     bif r11 != 0 then
                      some (false)
                     else
                      optE (s66 (q0, r6.1, r3.1.1, r3.1.2)) (fun r12 =>
                       bif q0.2 then
                        optE (s70 (wr (r6.1.1 + (-1)), r6.1.2)) (fun r13 =>
                         optE (s19 l) (fun r14 =>
                          optE (s65 (r14, (r12.1, r13, r12.2.2.1, r12.2.2.2))) (fun r15 =>
                           some (r15 == 19))
                           (none))
                          (none))
                         (none)
                       else
                        optE (s70 (wr (r6.1.1 + 1), r6.1.2)) (fun r16 =>
                         optE (s19 l) (fun r17 =>
                          optE (s65 (r17, (r12.1, r16, r12.2.2.1, r12.2.2.2))) (fun r18 =>
                           some (r18 == 19))
                           (none))
                          (none))
                         (none))
                       (none))
                     (none))
                    (none))
                   (none))
                 (none))
               (none))
           (none)
         else
          bif r5 != 0 then
           bif r3.2 == r5 then
            bif (r3.1.1.length : Int) == 0 then
             some (r3.1.2 == 0)
            else
             some (false)
           else
            some (false)
          else
           bif r3.2 != 0 then
            some (false)
           else
            bif decide ((r3.1.1.length : Int) > 2) then
             some (false)
            else
             optE (s50 (0, 0)) (fun r19 =>
              bif !r19 then
               some (false)
              else
               optE (s67 (l, (q0, (0, 0), r3.1.1, r3.1.2))) (fun r20 =>
                bif r20 != 0 then
                 some (false)
                else
                 optE (s19 l) (fun r21 =>
                  optE (s66 (q0, (0, 0), r3.1.1, r3.1.2)) (fun r22 =>
                   optE (s65 (r21, r22)) (fun r23 =>
                    bif r23 != 0 then
                     some (false)
                    else
                     optE (s66 (q0, (0, 0), r3.1.1, r3.1.2)) (fun r24 =>
                      bif q0.2 then
                       optE (s70 ((-1), 0)) (fun r25 =>
                        optE (s19 l) (fun r26 =>
                         optE (s65 (r26, (r24.1, r25, r24.2.2.1, r24.2.2.2))) (fun r27 =>
                          some (r27 == 19))
                          (none))
                         (none))
                        (none)
                      else
                       optE (s70 (1, 0)) (fun r28 =>
                        optE (s19 l) (fun r29 =>
                         optE (s65 (r29, (r24.1, r28, r24.2.2.1, r24.2.2.2))) (fun r30 =>
                          some (r30 == 19))
                          (none))
                         (none))
                        (none))
                      (none))
                    (none))
                   (none))
                  (none))
                (none))
              (none))
         (none)
       else
        bif r4 == 0 then
         optE (s69 (l, q0)) (fun r31 =>
          bif r31.2 != 0 then
           bif r3.2 == r31.2 then
            bif (r3.1.1.length : Int) == 0 then
             some (r3.1.2 == 0)
            else
             some (false)
           else
            some (false)
          else
           bif r3.2 != 0 then
            some (false)
           else
            bif decide ((r3.1.1.length : Int) > 2) then
             some (false)
            else
             optE (s50 r31.1) (fun r32 =>
              bif !r32 then
               some (false)
              else
               optE (s67 (l, (q0, r31.1, r3.1.1, r3.1.2))) (fun r33 =>
                bif r33 != 0 then
                 some (false)
                else
                 optE (s19 l) (fun r34 =>
                  optE (s66 (q0, r31.1, r3.1.1, r3.1.2)) (fun r35 =>
                   optE (s65 (r34, r35)) (fun r36 =>
                    bif r36 != 0 then
                     some (false)
                    else
                     optE (s66 (q0, r31.1, r3.1.1, r3.1.2)) (fun r37 =>
                      bif q0.2 then
                       optE (s70 (wr (r31.1.1 + (-1)), r31.1.2)) (fun r38 =>
                        optE (s19 l) (fun r39 =>
                         optE (s65 (r39, (r37.1, r38, r37.2.2.1, r37.2.2.2))) (fun r40 =>
                          some (r40 == 19))
                          (none))
                         (none))
                        (none)
                      else
                       optE (s70 (wr (r31.1.1 + 1), r31.1.2)) (fun r41 =>
                        optE (s19 l) (fun r42 =>
                         optE (s65 (r42, (r37.1, r41, r37.2.2.1, r37.2.2.2))) (fun r43 =>
                          some (r43 == 19))
                          (none))
                         (none))
                        (none))
                      (none))
                    (none))
                   (none))
                  (none))
                (none))
              (none))
          (none)
        else
         bif r4 != 0 then
          bif r3.2 == r4 then
           bif (r3.1.1.length : Int) == 0 then
            some (r3.1.2 == 0)
           else
            some (false)
          else
           some (false)
         else
          bif r3.2 != 0 then
           some (false)
          else
           bif decide ((r3.1.1.length : Int) > 2) then
            some (false)
           else
            optE (s50 (0, 0)) (fun r44 =>
             bif !r44 then
              some (false)
             else
              optE (s67 (l, (q0, (0, 0), r3.1.1, r3.1.2))) (fun r45 =>
               bif r45 != 0 then
                some (false)
               else
                optE (s19 l) (fun r46 =>
                 optE (s66 (q0, (0, 0), r3.1.1, r3.1.2)) (fun r47 =>
                  optE (s65 (r46, r47)) (fun r48 =>
                   bif r48 != 0 then
                    some (false)
                   else
                    optE (s66 (q0, (0, 0), r3.1.1, r3.1.2)) (fun r49 =>
                     bif q0.2 then
                      optE (s70 ((-1), 0)) (fun r50 =>
                       optE (s19 l) (fun r51 =>
                        optE (s65 (r51, (r49.1, r50, r49.2.2.1, r49.2.2.2))) (fun r52 =>
                         some (r52 == 19))
                         (none))
                        (none))
                       (none)
                     else
                      optE (s70 (1, 0)) (fun r53 =>
                       optE (s19 l) (fun r54 =>
                        optE (s65 (r54, (r49.1, r53, r49.2.2.1, r49.2.2.2))) (fun r55 =>
                         some (r55 == 19))
                         (none))
                        (none))
                       (none))
                     (none))
                   (none))
                  (none))
                 (none))
               (none))
             (none))
       (none))
      (none))
     (none))
   (none)
theorem i16 : ItemOk Tryd.prog (.fn 16 [.d zS, .d (.agg (.pair zI .bool))] [.d .bool] s16) := item_fnM md7 ext7 (U := 9) (n := 4) noSpecial mixed Gc9K2_ok (fun x => by kernel_rfl)
noncomputable def Gc9K3 : List Ev.Item := .fn 16 [.d zS, .d (.agg (.pair zI .bool))] [.d .bool] s16 :: Gc9K2
theorem Gc9K3_ok : ∀ q ∈ Gc9K3, ItemOk Tryd.prog q := items_cons i16 Gc9K2_ok
end Go.Proofs.YtfmfiflpokogiaaDoor
