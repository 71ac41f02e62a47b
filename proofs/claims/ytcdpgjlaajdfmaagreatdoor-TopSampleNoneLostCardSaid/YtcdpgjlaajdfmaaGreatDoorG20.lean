/- Printed by gen.py: specifications of functions. -/
import Derived.Test.YtcdpgjlaajdfmaaGreatDoorG2a
import Derived.Test.YtcdpgjlaajdfmaaGreatDoorGs0
set_option linter.unusedSimpArgs false
set_option maxRecDepth 100000
namespace Go.Proofs.YtcdpgjlaajdfmaaGreatDoor
open Go.Ev
noncomputable def G20K1 : List Ev.Item := .fn 5 [] [.d .bool] (fun _ => some true) :: Gs0K11
theorem G20K1_ok : ∀ q ∈ G20K1, ItemOk Tryz.prog q := items_cons i5 Gs0K11_ok
noncomputable def s6 : Int × Int × (Int × Int) × (Int × Int) × (Int × Int) × (Int × Int) × (Int × Int) × (Int × Int) × (Int × Int) × Int × Int → Option (ByteArray) := fun p =>
 optE (itoaF p.1) (fun r1 =>
  optE (itoaF p.2.1) (fun r2 =>
   optE (itoaF p.2.2.1.1) (fun r3 =>
    optE (itoaF p.2.2.1.2) (fun r4 =>
     optE (itoaF p.2.2.2.1.1) (fun r5 =>
      optE (itoaF p.2.2.2.1.2) (fun r6 =>
       optE (itoaF p.2.2.2.2.1.1) (fun r7 =>
        optE (itoaF p.2.2.2.2.1.2) (fun r8 =>
         optE (itoaF p.2.2.2.2.2.1.1) (fun r9 =>
          optE (itoaF p.2.2.2.2.2.1.2) (fun r10 =>
           optE (itoaF p.2.2.2.2.2.2.1.1) (fun r11 =>
            optE (itoaF p.2.2.2.2.2.2.1.2) (fun r12 =>
             optE (itoaF p.2.2.2.2.2.2.2.1.1) (fun r13 =>
              optE (itoaF p.2.2.2.2.2.2.2.1.2) (fun r14 =>
               optE (itoaF p.2.2.2.2.2.2.2.2.1.1) (fun r15 =>
                optE (itoaF p.2.2.2.2.2.2.2.2.1.2) (fun r16 =>
                 optE (itoaF p.2.2.2.2.2.2.2.2.2.1) (fun r17 =>
                  optE (itoaF p.2.2.2.2.2.2.2.2.2.2) (fun r18 =>
                   optE (joinF ([r1, r2, r3, r4, r5, r6, r7, r8, r9, r10, r11, r12, r13, r14, r15, r16, r17, r18], (ByteArray.mk #[32]))) (fun r19 =>
                    some (r19))
                    (none))
                   (none))
                  (none))
                 (none))
                (none))
               (none))
              (none))
             (none))
            (none))
           (none))
          (none))
         (none))
        (none))
       (none))
      (none))
     (none))
    (none))
   (none))
  (none)
theorem i6 : ItemOk Tryz.prog (.fn 6 [.d (.agg (.pair zI (.pair zI (.pair zP (.pair zP (.pair zP (.pair zP (.pair zP (.pair zP (.pair zP zP))))))))))] [.d .str] s6) := item_fnM md5 ext5 (U := 40) (n := 30) noSpecial mixed G20K1_ok (fun x => by kernel_rfl)
noncomputable def G20K2 : List Ev.Item := .fn 6 [.d (.agg (.pair zI (.pair zI (.pair zP (.pair zP (.pair zP (.pair zP (.pair zP (.pair zP (.pair zP zP))))))))))] [.d .str] s6 :: G20K1
theorem G20K2_ok : ∀ q ∈ G20K2, ItemOk Tryz.prog q := items_cons i6 G20K1_ok
noncomputable def s64 : Int × Int × Int → Option (Bool) := fun (n, lo, hi) =>
 bif decide (lo ≤ n) then
  some (decide (n ≤ hi))
 else
  some (false)
theorem i64 : ItemOk Tryz.prog (.fn 64 [.d zI, .d zI, .d zI] [.d .bool] s64) := item_fnM md5 ext5 (U := 9) (n := 12) noSpecial mixed G20K2_ok (fun x => by kernel_rfl)
noncomputable def G20K3 : List Ev.Item := .fn 64 [.d zI, .d zI, .d zI] [.d .bool] s64 :: G20K2
theorem G20K3_ok : ∀ q ∈ G20K3, ItemOk Tryz.prog q := items_cons i64 G20K2_ok
noncomputable def s109 : (Int × Int) × Int → Option (Bool) := fun (g, most) =>
 optE (s64 (g.1, wr (-most), most)) (fun r1 =>
  bif r1 then
   optE (s64 (g.2, wr (-most), most)) (fun r2 =>
    some (r2))
    (none)
  else
   some (false))
  (none)
theorem i109 : ItemOk Tryz.prog (.fn 109 [.d (.agg zP), .d zI] [.d .bool] s109) := item_fnM md5 ext5 (U := 9) (n := 12) noSpecial mixed G20K3_ok (fun x => by kernel_rfl)
noncomputable def G20K4 : List Ev.Item := .fn 109 [.d (.agg zP), .d zI] [.d .bool] s109 :: G20K3
theorem G20K4_ok : ∀ q ∈ G20K4, ItemOk Tryz.prog q := items_cons i109 G20K3_ok
noncomputable def s81 : Int × Int → Option (Bool) := fun g =>
 optE (s109 (g, 2000)) (fun r1 =>
  some (r1))
  (none)
theorem i81 : ItemOk Tryz.prog (.fn 81 [.d (.agg zP)] [.d .bool] s81) := item_fnM md5 ext5 (U := 9) (n := 12) noSpecial mixed G20K4_ok (fun x => by kernel_rfl)
noncomputable def G20K5 : List Ev.Item := .fn 81 [.d (.agg zP)] [.d .bool] s81 :: G20K4
theorem G20K5_ok : ∀ q ∈ G20K5, ItemOk Tryz.prog q := items_cons i81 G20K4_ok
noncomputable def s63 : Bool × Int → Option (Int) := fun (is, e0) =>
 bif is then
  some (0)
 else
  some (e0)
theorem i63 : ItemOk Tryz.prog (.fn 63 [.d .bool, .d zI] [.d zI] s63) := item_fnM md5 ext5 (U := 9) (n := 12) noSpecial mixed G20K5_ok (fun x => by kernel_rfl)
noncomputable def G20K6 : List Ev.Item := .fn 63 [.d .bool, .d zI] [.d zI] s63 :: G20K5
theorem G20K6_ok : ∀ q ∈ G20K6, ItemOk Tryz.prog q := items_cons i63 G20K5_ok
noncomputable def s40 : Int × Int × (Int × Int) × (Int × Int) × (Int × Int) × (Int × Int) × (Int × Int) × (Int × Int) × (Int × Int) × Int × Int → Option (Int) := fun p =>
 optE (s64 (p.1, 0, 1023)) (fun r1 =>
  bif r1 then
   optE (s64 (p.2.1, 1, 100)) (fun r2 =>
    bif r2 then
     optE (s81 p.2.2.1) (fun r3 =>
      bif r3 then
       optE (s81 p.2.2.2.1) (fun r4 =>
        bif r4 then
         optE (s81 p.2.2.2.2.1) (fun r5 =>
          bif r5 then
           optE (s81 p.2.2.2.2.2.1) (fun r6 =>
            bif r6 then
             optE (s81 p.2.2.2.2.2.2.1) (fun r7 =>
              bif r7 then
               optE (s81 p.2.2.2.2.2.2.2.1) (fun r8 =>
                bif r8 then
                 optE (s81 p.2.2.2.2.2.2.2.2.1) (fun r9 =>
                  bif r9 then
                   optE (s81 p.2.2.2.2.2.2.2.2.2) (fun r10 =>
                    optE (s63 (r10, 2)) (fun r11 =>
                     some (r11))
                     (none))
                    (none)
                  else
                   optE (s63 (false, 2)) (fun r12 =>
                    some (r12))
                    (none))
                  (none)
                else
                 optE (s63 (false, 2)) (fun r13 =>
                  some (r13))
                  (none))
                (none)
              else
               optE (s63 (false, 2)) (fun r14 =>
                some (r14))
                (none))
              (none)
            else
             optE (s63 (false, 2)) (fun r15 =>
              some (r15))
              (none))
            (none)
          else
           optE (s63 (false, 2)) (fun r16 =>
            some (r16))
            (none))
          (none)
        else
         optE (s63 (false, 2)) (fun r17 =>
          some (r17))
          (none))
        (none)
      else
       optE (s63 (false, 2)) (fun r18 =>
        some (r18))
        (none))
      (none)
    else
     optE (s63 (false, 2)) (fun r19 =>
      some (r19))
      (none))
    (none)
  else
   optE (s63 (false, 2)) (fun r20 =>
    some (r20))
    (none))
  (none)
theorem i40 : ItemOk Tryz.prog (.fn 40 [.d (.agg (.pair zI (.pair zI (.pair zP (.pair zP (.pair zP (.pair zP (.pair zP (.pair zP (.pair zP zP))))))))))] [.d zI] s40) := item_fnM md5 ext5 (U := 40) (n := 30) noSpecial mixed G20K6_ok (fun x => by kernel_rfl)
noncomputable def G20K7 : List Ev.Item := .fn 40 [.d (.agg (.pair zI (.pair zI (.pair zP (.pair zP (.pair zP (.pair zP (.pair zP (.pair zP (.pair zP zP))))))))))] [.d zI] s40 :: G20K6
theorem G20K7_ok : ∀ q ∈ G20K7, ItemOk Tryz.prog q := items_cons i40 G20K6_ok
noncomputable def s7 : ByteArray → Option ((Int × Int × (Int × Int) × (Int × Int) × (Int × Int) × (Int × Int) × (Int × Int) × (Int × Int) × (Int × Int) × Int × Int) × Int) := fun s =>
 optE (splitF (s, (ByteArray.mk #[32]))) (fun r1 =>
  bif (r1.length : Int) != 18 then
   some (((0, 0, (0, 0), (0, 0), (0, 0), (0, 0), (0, 0), (0, 0), (0, 0), 0, 0), 7))
  else
   bif decide (0 < (r1.length : Int)) then
    bif inBounds 0 r1.length then
     optE (atoiF (r1.getD 0 ByteArray.empty)) (fun r2 =>
      optE (trimF (r1.getD 0 ByteArray.empty, (ByteArray.mk #[45]))) (fun r3 =>
       bif r2.2 then
        some (((0, 0, (0, 0), (0, 0), (0, 0), (0, 0), (0, 0), (0, 0), (0, 0), 0, 0), 7))
       else
        optE (itoaF r2.1) (fun r4 =>
         bif !(decide (r4.data.toList = (r1.getD 0 ByteArray.empty).data.toList)) then
          some (((0, 0, (0, 0), (0, 0), (0, 0), (0, 0), (0, 0), (0, 0), (0, 0), 0, 0), 7))
         else
          bif decide ((r3.size : Int) > 6) then
           some (((0, 0, (0, 0), (0, 0), (0, 0), (0, 0), (0, 0), (0, 0), (0, 0), 0, 0), 7))
          else
           bif decide (r2.1 < 0) then
            some (((0, 0, (0, 0), (0, 0), (0, 0), (0, 0), (0, 0), (0, 0), (0, 0), 0, 0), 7))
           else
            bif decide (1 < (r1.length : Int)) then
             bif inBounds 1 r1.length then
              optE (atoiF (r1.getD 1 ByteArray.empty)) (fun r5 =>
               optE (trimF (r1.getD 1 ByteArray.empty, (ByteArray.mk #[45]))) (fun r6 =>
                bif r5.2 then
                 some (((0, 0, (0, 0), (0, 0), (0, 0), (0, 0), (0, 0), (0, 0), (0, 0), 0, 0), 7))
                else
                 optE (itoaF r5.1) (fun r7 =>
                  bif !(decide (r7.data.toList = (r1.getD 1 ByteArray.empty).data.toList)) then
                   some (((0, 0, (0, 0), (0, 0), (0, 0), (0, 0), (0, 0), (0, 0), (0, 0), 0, 0), 7))
                  else
                   bif decide ((r6.size : Int) > 6) then
                    some (((0, 0, (0, 0), (0, 0), (0, 0), (0, 0), (0, 0), (0, 0), (0, 0), 0, 0), 7))
                   else
                    bif decide (r5.1 < 0) then
                     some (((0, 0, (0, 0), (0, 0), (0, 0), (0, 0), (0, 0), (0, 0), (0, 0), 0, 0), 7))
                    else
                     bif decide (2 < (r1.length : Int)) then
                      bif inBounds 2 r1.length then
                       optE (atoiF (r1.getD 2 ByteArray.empty)) (fun r8 =>
                        optE (trimF (r1.getD 2 ByteArray.empty, (ByteArray.mk #[45]))) (fun r9 =>
                         bif r8.2 then
                          some (((0, 0, (0, 0), (0, 0), (0, 0), (0, 0), (0, 0), (0, 0), (0, 0), 0, 0), 7))
                         else
                          optE (itoaF r8.1) (fun r10 =>
                           bif !(decide (r10.data.toList = (r1.getD 2 ByteArray.empty).data.toList)) then
                            some (((0, 0, (0, 0), (0, 0), (0, 0), (0, 0), (0, 0), (0, 0), (0, 0), 0, 0), 7))
                           else
                            bif decide ((r9.size : Int) > 6) then
                             some (((0, 0, (0, 0), (0, 0), (0, 0), (0, 0), (0, 0), (0, 0), (0, 0), 0, 0), 7))
                            else
                             bif decide (3 < (r1.length : Int)) then
                              bif inBounds 3 r1.length then
                               optE (atoiF (r1.getD 3 ByteArray.empty)) (fun r11 =>
                                optE (trimF (r1.getD 3 ByteArray.empty, (ByteArray.mk #[45]))) (fun r12 =>
                                 bif r11.2 then
                                  some (((0, 0, (0, 0), (0, 0), (0, 0), (0, 0), (0, 0), (0, 0), (0, 0), 0, 0), 7))
                                 else
                                  optE (itoaF r11.1) (fun r13 =>
                                   bif !(decide (r13.data.toList = (r1.getD 3 ByteArray.empty).data.toList)) then
                                    some (((0, 0, (0, 0), (0, 0), (0, 0), (0, 0), (0, 0), (0, 0), (0, 0), 0, 0), 7))
                                   else
                                    bif decide ((r12.size : Int) > 6) then
                                     some (((0, 0, (0, 0), (0, 0), (0, 0), (0, 0), (0, 0), (0, 0), (0, 0), 0, 0), 7))
                                    else
                                     bif decide (4 < (r1.length : Int)) then
                                      bif inBounds 4 r1.length then
                                       optE (atoiF (r1.getD 4 ByteArray.empty)) (fun r14 =>
                                        optE (trimF (r1.getD 4 ByteArray.empty, (ByteArray.mk #[45]))) (fun r15 =>
                                         bif r14.2 then
                                          some (((0, 0, (0, 0), (0, 0), (0, 0), (0, 0), (0, 0), (0, 0), (0, 0), 0, 0), 7))
                                         else
                                          optE (itoaF r14.1) (fun r16 =>
                                           bif !(decide (r16.data.toList = (r1.getD 4 ByteArray.empty).data.toList)) then
                                            some (((0, 0, (0, 0), (0, 0), (0, 0), (0, 0), (0, 0), (0, 0), (0, 0), 0, 0), 7))
                                           else
                                            bif decide ((r15.size : Int) > 6) then
                                             some (((0, 0, (0, 0), (0, 0), (0, 0), (0, 0), (0, 0), (0, 0), (0, 0), 0, 0), 7))
                                            else
                                             bif decide (5 < (r1.length : Int)) then
                                              bif inBounds 5 r1.length then
                                               optE (atoiF (r1.getD 5 ByteArray.empty)) (fun r17 =>
                                                optE (trimF (r1.getD 5 ByteArray.empty, (ByteArray.mk #[45]))) (fun r18 =>
                                                 bif r17.2 then
                                                  some (((0, 0, (0, 0), (0, 0), (0, 0), (0, 0), (0, 0), (0, 0), (0, 0), 0, 0), 7))
                                                 else
                                                  optE (itoaF r17.1) (fun r19 =>
                                                   bif !(decide (r19.data.toList = (r1.getD 5 ByteArray.empty).data.toList)) then
                                                    some (((0, 0, (0, 0), (0, 0), (0, 0), (0, 0), (0, 0), (0, 0), (0, 0), 0, 0), 7))
                                                   else
                                                    bif decide ((r18.size : Int) > 6) then
                                                     some (((0, 0, (0, 0), (0, 0), (0, 0), (0, 0), (0, 0), (0, 0), (0, 0), 0, 0), 7))
                                                    else
                                                     bif decide (6 < (r1.length : Int)) then
                                                      bif inBounds 6 r1.length then
                                                       optE (atoiF (r1.getD 6 ByteArray.empty)) (fun r20 =>
                                                        optE (trimF (r1.getD 6 ByteArray.empty, (ByteArray.mk #[45]))) (fun r21 =>
                                                         bif r20.2 then
                                                          some (((0, 0, (0, 0), (0, 0), (0, 0), (0, 0), (0, 0), (0, 0), (0, 0), 0, 0), 7))
                                                         else
                                                          optE (itoaF r20.1) (fun r22 =>
                                                           bif !(decide (r22.data.toList = (r1.getD 6 ByteArray.empty).data.toList)) then
                                                            some (((0, 0, (0, 0), (0, 0), (0, 0), (0, 0), (0, 0), (0, 0), (0, 0), 0, 0), 7))
                                                           else
                                                            bif decide ((r21.size : Int) > 6) then
                                                             some (((0, 0, (0, 0), (0, 0), (0, 0), (0, 0), (0, 0), (0, 0), (0, 0), 0, 0), 7))
                                                            else
                                                             bif decide (7 < (r1.length : Int)) then
                                                              bif inBounds 7 r1.length then
                                                               optE (atoiF (r1.getD 7 ByteArray.empty)) (fun r23 =>
                                                                optE (trimF (r1.getD 7 ByteArray.empty, (ByteArray.mk #[45]))) (fun r24 =>
                                                                 bif r23.2 then
                                                                  some (((0, 0, (0, 0), (0, 0), (0, 0), (0, 0), (0, 0), (0, 0), (0, 0), 0, 0), 7))
                                                                 else
                                                                  optE (itoaF r23.1) (fun r25 =>
                                                                   bif !(decide (r25.data.toList = (r1.getD 7 ByteArray.empty).data.toList)) then
                                                                    some (((0, 0, (0, 0), (0, 0), (0, 0), (0, 0), (0, 0), (0, 0), (0, 0), 0, 0), 7))
                                                                   else
                                                                    bif decide ((r24.size : Int) > 6) then
                                                                     some (((0, 0, (0, 0), (0, 0), (0, 0), (0, 0), (0, 0), (0, 0), (0, 0), 0, 0), 7))
                                                                    else
                                                                     bif decide (8 < (r1.length : Int)) then
                                                                      bif inBounds 8 r1.length then
                                                                       optE (atoiF (r1.getD 8 ByteArray.empty)) (fun r26 =>
                                                                        optE (trimF (r1.getD 8 ByteArray.empty, (ByteArray.mk #[45]))) (fun r27 =>
                                                                         bif r26.2 then
                                                                          some (((0, 0, (0, 0), (0, 0), (0, 0), (0, 0), (0, 0), (0, 0), (0, 0), 0, 0), 7))
                                                                         else
                                                                          optE (itoaF r26.1) (fun r28 =>
                                                                           bif !(decide (r28.data.toList = (r1.getD 8 ByteArray.empty).data.toList)) then
                                                                            some (((0, 0, (0, 0), (0, 0), (0, 0), (0, 0), (0, 0), (0, 0), (0, 0), 0, 0), 7))
                                                                           else
                                                                            bif decide ((r27.size : Int) > 6) then
                                                                             some (((0, 0, (0, 0), (0, 0), (0, 0), (0, 0), (0, 0), (0, 0), (0, 0), 0, 0), 7))
                                                                            else
                                                                             bif decide (9 < (r1.length : Int)) then
                                                                              bif inBounds 9 r1.length then
                                                                               optE (atoiF (r1.getD 9 ByteArray.empty)) (fun r29 =>
                                                                                optE (trimF (r1.getD 9 ByteArray.empty, (ByteArray.mk #[45]))) (fun r30 =>
                                                                                 bif r29.2 then
                                                                                  some (((0, 0, (0, 0), (0, 0), (0, 0), (0, 0), (0, 0), (0, 0), (0, 0), 0, 0), 7))
                                                                                 else
                                                                                  optE (itoaF r29.1) (fun r31 =>
                                                                                   bif !(decide (r31.data.toList = (r1.getD 9 ByteArray.empty).data.toList)) then
                                                                                    some (((0, 0, (0, 0), (0, 0), (0, 0), (0, 0), (0, 0), (0, 0), (0, 0), 0, 0), 7))
                                                                                   else
                                                                                    bif decide ((r30.size : Int) > 6) then
                                                                                     some (((0, 0, (0, 0), (0, 0), (0, 0), (0, 0), (0, 0), (0, 0), (0, 0), 0, 0), 7))
                                                                                    else
                                                                                     bif decide (10 < (r1.length : Int)) then
                                                                                      bif inBounds 10 r1.length then
                                                                                       optE (atoiF (r1.getD 10 ByteArray.empty)) (fun r32 =>
                                                                                        optE (trimF (r1.getD 10 ByteArray.empty, (ByteArray.mk #[45]))) (fun r33 =>
                                                                                         bif r32.2 then
                                                                                          some (((0, 0, (0, 0), (0, 0), (0, 0), (0, 0), (0, 0), (0, 0), (0, 0), 0, 0), 7))
                                                                                         else
                                                                                          optE (itoaF r32.1) (fun r34 =>
                                                                                           bif !(decide (r34.data.toList = (r1.getD 10 ByteArray.empty).data.toList)) then
                                                                                            some (((0, 0, (0, 0), (0, 0), (0, 0), (0, 0), (0, 0), (0, 0), (0, 0), 0, 0), 7))
                                                                                           else
                                                                                            bif decide ((r33.size : Int) > 6) then
                                                                                             some (((0, 0, (0, 0), (0, 0), (0, 0), (0, 0), (0, 0), (0, 0), (0, 0), 0, 0), 7))
                                                                                            else
                                                                                             bif decide (11 < (r1.length : Int)) then
                                                                                              bif inBounds 11 r1.length then
                                                                                               optE (atoiF (r1.getD 11 ByteArray.empty)) (fun r35 =>
                                                                                                optE (trimF (r1.getD 11 ByteArray.empty, (ByteArray.mk #[45]))) (fun r36 =>
                                                                                                 bif r35.2 then
                                                                                                  some (((0, 0, (0, 0), (0, 0), (0, 0), (0, 0), (0, 0), (0, 0), (0, 0), 0, 0), 7))
                                                                                                 else
                                                                                                  optE (itoaF r35.1) (fun r37 =>
                                                                                                   bif !(decide (r37.data.toList = (r1.getD 11 ByteArray.empty).data.toList)) then
                                                                                                    some (((0, 0, (0, 0), (0, 0), (0, 0), (0, 0), (0, 0), (0, 0), (0, 0), 0, 0), 7))
                                                                                                   else
                                                                                                    bif decide ((r36.size : Int) > 6) then
                                                                                                     some (((0, 0, (0, 0), (0, 0), (0, 0), (0, 0), (0, 0), (0, 0), (0, 0), 0, 0), 7))
                                                                                                    else
                                                                                                     bif decide (12 < (r1.length : Int)) then
                                                                                                      bif inBounds 12 r1.length then
                                                                                                       optE (atoiF (r1.getD 12 ByteArray.empty)) (fun r38 =>
                                                                                                        optE (trimF (r1.getD 12 ByteArray.empty, (ByteArray.mk #[45]))) (fun r39 =>
                                                                                                         bif r38.2 then
                                                                                                          some (((0, 0, (0, 0), (0, 0), (0, 0), (0, 0), (0, 0), (0, 0), (0, 0), 0, 0), 7))
                                                                                                         else
                                                                                                          optE (itoaF r38.1) (fun r40 =>
                                                                                                           bif !(decide (r40.data.toList = (r1.getD 12 ByteArray.empty).data.toList)) then
                                                                                                            some (((0, 0, (0, 0), (0, 0), (0, 0), (0, 0), (0, 0), (0, 0), (0, 0), 0, 0), 7))
                                                                                                           else
                                                                                                            bif decide ((r39.size : Int) > 6) then
                                                                                                             some (((0, 0, (0, 0), (0, 0), (0, 0), (0, 0), (0, 0), (0, 0), (0, 0), 0, 0), 7))
                                                                                                            else
                                                                                                             bif decide (13 < (r1.length : Int)) then
                                                                                                              bif inBounds 13 r1.length then
                                                                                                               optE (atoiF (r1.getD 13 ByteArray.empty)) (fun r41 =>
                                                                                                                optE (trimF (r1.getD 13 ByteArray.empty, (ByteArray.mk #[45]))) (fun r42 =>
                                                                                                                 bif r41.2 then
                                                                                                                  some (((0, 0, (0, 0), (0, 0), (0, 0), (0, 0), (0, 0), (0, 0), (0, 0), 0, 0), 7))
                                                                                                                 else
                                                                                                                  optE (itoaF r41.1) (fun r43 =>
                                                                                                                   bif !(decide (r43.data.toList = (r1.getD 13 ByteArray.empty).data.toList)) then
                                                                                                                    some (((0, 0, (0, 0), (0, 0), (0, 0), (0, 0), (0, 0), (0, 0), (0, 0), 0, 0), 7))
                                                                                                                   else
                                                                                                                    bif decide ((r42.size : Int) > 6) then
                                                                                                                     some (((0, 0, (0, 0), (0, 0), (0, 0), (0, 0), (0, 0), (0, 0), (0, 0), 0, 0), 7))
                                                                                                                    else
                                                                                                                     bif decide (14 < (r1.length : Int)) then
                                                                                                                      bif inBounds 14 r1.length then
                                                                                                                       optE (atoiF (r1.getD 14 ByteArray.empty)) (fun r44 =>
                                                                                                                        optE (trimF (r1.getD 14 ByteArray.empty, (ByteArray.mk #[45]))) (fun r45 =>
                                                                                                                         bif r44.2 then
                                                                                                                          some (((0, 0, (0, 0), (0, 0), (0, 0), (0, 0), (0, 0), (0, 0), (0, 0), 0, 0), 7))
                                                                                                                         else
                                                                                                                          optE (itoaF r44.1) (fun r46 =>
                                                                                                                           bif !(decide (r46.data.toList = (r1.getD 14 ByteArray.empty).data.toList)) then
                                                                                                                            some (((0, 0, (0, 0), (0, 0), (0, 0), (0, 0), (0, 0), (0, 0), (0, 0), 0, 0), 7))
                                                                                                                           else
                                                                                                                            bif decide ((r45.size : Int) > 6) then
                                                                                                                             some (((0, 0, (0, 0), (0, 0), (0, 0), (0, 0), (0, 0), (0, 0), (0, 0), 0, 0), 7))
                                                                                                                            else
                                                                                                                             bif decide (15 < (r1.length : Int)) then
                                                                                                                              bif inBounds 15 r1.length then
                                                                                                                               optE (atoiF (r1.getD 15 ByteArray.empty)) (fun r47 =>
                                                                                                                                optE (trimF (r1.getD 15 ByteArray.empty, (ByteArray.mk #[45]))) (fun r48 =>
                                                                                                                                 bif r47.2 then
                                                                                                                                  some (((0, 0, (0, 0), (0, 0), (0, 0), (0, 0), (0, 0), (0, 0), (0, 0), 0, 0), 7))
                                                                                                                                 else
                                                                                                                                  optE (itoaF r47.1) (fun r49 =>
                                                                                                                                   bif !(decide (r49.data.toList = (r1.getD 15 ByteArray.empty).data.toList)) then
                                                                                                                                    some (((0, 0, (0, 0), (0, 0), (0, 0), (0, 0), (0, 0), (0, 0), (0, 0), 0, 0), 7))
                                                                                                                                   else
                                                                                                                                    bif decide ((r48.size : Int) > 6) then
                                                                                                                                     some (((0, 0, (0, 0), (0, 0), (0, 0), (0, 0), (0, 0), (0, 0), (0, 0), 0, 0), 7))
                                                                                                                                    else
                                                                                                                                     bif decide (16 < (r1.length : Int)) then
                                                                                                                                      bif inBounds 16 r1.length then
                                                                                                                                       optE (atoiF (r1.getD 16 ByteArray.empty)) (fun r50 =>
                                                                                                                                        optE (trimF (r1.getD 16 ByteArray.empty, (ByteArray.mk #[45]))) (fun r51 =>
                                                                                                                                         bif r50.2 then
                                                                                                                                          some (((0, 0, (0, 0), (0, 0), (0, 0), (0, 0), (0, 0), (0, 0), (0, 0), 0, 0), 7))
                                                                                                                                         else
                                                                                                                                          optE (itoaF r50.1) (fun r52 =>
                                                                                                                                           bif !(decide (r52.data.toList = (r1.getD 16 ByteArray.empty).data.toList)) then
                                                                                                                                            some (((0, 0, (0, 0), (0, 0), (0, 0), (0, 0), (0, 0), (0, 0), (0, 0), 0, 0), 7))
                                                                                                                                           else
                                                                                                                                            bif decide ((r51.size : Int) > 6) then
                                                                                                                                             some (((0, 0, (0, 0), (0, 0), (0, 0), (0, 0), (0, 0), (0, 0), (0, 0), 0, 0), 7))
                                                                                                                                            else
                                                                                                                                             bif decide (17 < (r1.length : Int)) then
                                                                                                                                              bif inBounds 17 r1.length then
                                                                                                                                               optE (atoiF (r1.getD 17 ByteArray.empty)) (fun r53 =>
                                                                                                                                                optE (trimF (r1.getD 17 ByteArray.empty, (ByteArray.mk #[45]))) (fun r54 =>
                                                                                                                                                 bif r53.2 then
                                                                                                                                                  some (((0, 0, (0, 0), (0, 0), (0, 0), (0, 0), (0, 0), (0, 0), (0, 0), 0, 0), 7))
                                                                                                                                                 else
                                                                                                                                                  optE (itoaF r53.1) (fun r55 =>
                                                                                                                                                   bif !(decide (r55.data.toList = (r1.getD 17 ByteArray.empty).data.toList)) then
                                                                                                                                                    some (((0, 0, (0, 0), (0, 0), (0, 0), (0, 0), (0, 0), (0, 0), (0, 0), 0, 0), 7))
                                                                                                                                                   else
                                                                                                                                                    bif decide ((r54.size : Int) > 6) then
                                                                                                                                                     some (((0, 0, (0, 0), (0, 0), (0, 0), (0, 0), (0, 0), (0, 0), (0, 0), 0, 0), 7))
                                                                                                                                                    else
                                                                                                                                                     bif decide (18 < (r1.length : Int)) then
                                                                                                                                                      bif inBounds 18 r1.length then
                                                                                                                                                       optE (atoiF (r1.getD 18 ByteArray.empty)) (fun r56 =>
                                                                                                                                                        optE (trimF (r1.getD 18 ByteArray.empty, (ByteArray.mk #[45]))) (fun r57 =>
                                                                                                                                                         bif r56.2 then
                                                                                                                                                          some (((0, 0, (0, 0), (0, 0), (0, 0), (0, 0), (0, 0), (0, 0), (0, 0), 0, 0), 7))
                                                                                                                                                         else
                                                                                                                                                          optE (itoaF r56.1) (fun r58 =>
                                                                                                                                                           bif !(decide (r58.data.toList = (r1.getD 18 ByteArray.empty).data.toList)) then
                                                                                                                                                            some (((0, 0, (0, 0), (0, 0), (0, 0), (0, 0), (0, 0), (0, 0), (0, 0), 0, 0), 7))
                                                                                                                                                           else
                                                                                                                                                            bif decide ((r57.size : Int) > 6) then
                                                                                                                                                             some (((0, 0, (0, 0), (0, 0), (0, 0), (0, 0), (0, 0), (0, 0), (0, 0), 0, 0), 7))
                                                                                                                                                            else
                                                                                                                                                             none)
                                                                                                                                                           (none))
                                                                                                                                                         (none))
                                                                                                                                                        (none)
                                                                                                                                                      else
                                                                                                                                                       none
                                                                                                                                                     else
                                                                                                                                                      optE (s40 (r2.1, r5.1, (r8.1, r11.1), (r14.1, r17.1), (r20.1, r23.1), (r26.1, r29.1), (r32.1, r35.1), (r38.1, r41.1), (r44.1, r47.1), r50.1, r53.1)) (fun r59 =>
                                                                                                                                                       bif r59 != 0 then
                                                                                                                                                        some (((0, 0, (0, 0), (0, 0), (0, 0), (0, 0), (0, 0), (0, 0), (0, 0), 0, 0), r59))
                                                                                                                                                       else
                                                                                                                                                        some (((r2.1, r5.1, (r8.1, r11.1), (r14.1, r17.1), (r20.1, r23.1), (r26.1, r29.1), (r32.1, r35.1), (r38.1, r41.1), (r44.1, r47.1), r50.1, r53.1), 0)))
                                                                                                                                                       (none))
                                                                                                                                                   (none))
                                                                                                                                                 (none))
                                                                                                                                                (none)
                                                                                                                                              else
                                                                                                                                               none
                                                                                                                                             else
                                                                                                                                              optE (s40 (r2.1, r5.1, (r8.1, r11.1), (r14.1, r17.1), (r20.1, r23.1), (r26.1, r29.1), (r32.1, r35.1), (r38.1, r41.1), (r44.1, r47.1), r50.1, 0)) (fun r60 =>
                                                                                                                                               bif r60 != 0 then
                                                                                                                                                some (((0, 0, (0, 0), (0, 0), (0, 0), (0, 0), (0, 0), (0, 0), (0, 0), 0, 0), r60))
                                                                                                                                               else
                                                                                                                                                some (((r2.1, r5.1, (r8.1, r11.1), (r14.1, r17.1), (r20.1, r23.1), (r26.1, r29.1), (r32.1, r35.1), (r38.1, r41.1), (r44.1, r47.1), r50.1, 0), 0)))
                                                                                                                                               (none))
                                                                                                                                           (none))
                                                                                                                                         (none))
                                                                                                                                        (none)
                                                                                                                                      else
                                                                                                                                       none
                                                                                                                                     else
                                                                                                                                      optE (s40 (r2.1, r5.1, (r8.1, r11.1), (r14.1, r17.1), (r20.1, r23.1), (r26.1, r29.1), (r32.1, r35.1), (r38.1, r41.1), (r44.1, r47.1), 0, 0)) (fun r61 =>
                                                                                                                                       bif r61 != 0 then
                                                                                                                                        some (((0, 0, (0, 0), (0, 0), (0, 0), (0, 0), (0, 0), (0, 0), (0, 0), 0, 0), r61))
                                                                                                                                       else
                                                                                                                                        some (((r2.1, r5.1, (r8.1, r11.1), (r14.1, r17.1), (r20.1, r23.1), (r26.1, r29.1), (r32.1, r35.1), (r38.1, r41.1), (r44.1, r47.1), 0, 0), 0)))
                                                                                                                                       (none))
                                                                                                                                   (none))
                                                                                                                                 (none))
                                                                                                                                (none)
                                                                                                                              else
                                                                                                                               none
                                                                                                                             else
                                                                                                                              optE (s40 (r2.1, r5.1, (r8.1, r11.1), (r14.1, r17.1), (r20.1, r23.1), (r26.1, r29.1), (r32.1, r35.1), (r38.1, r41.1), (r44.1, 0), 0, 0)) (fun r62 =>
                                                                                                                               bif r62 != 0 then
                                                                                                                                some (((0, 0, (0, 0), (0, 0), (0, 0), (0, 0), (0, 0), (0, 0), (0, 0), 0, 0), r62))
                                                                                                                               else
                                                                                                                                some (((r2.1, r5.1, (r8.1, r11.1), (r14.1, r17.1), (r20.1, r23.1), (r26.1, r29.1), (r32.1, r35.1), (r38.1, r41.1), (r44.1, 0), 0, 0), 0)))
                                                                                                                               (none))
                                                                                                                           (none))
                                                                                                                         (none))
                                                                                                                        (none)
                                                                                                                      else
                                                                                                                       none
                                                                                                                     else
                                                                                                                      optE (s40 (r2.1, r5.1, (r8.1, r11.1), (r14.1, r17.1), (r20.1, r23.1), (r26.1, r29.1), (r32.1, r35.1), (r38.1, r41.1), (0, 0), 0, 0)) (fun r63 =>
                                                                                                                       bif r63 != 0 then
                                                                                                                        some (((0, 0, (0, 0), (0, 0), (0, 0), (0, 0), (0, 0), (0, 0), (0, 0), 0, 0), r63))
                                                                                                                       else
                                                                                                                        some (((r2.1, r5.1, (r8.1, r11.1), (r14.1, r17.1), (r20.1, r23.1), (r26.1, r29.1), (r32.1, r35.1), (r38.1, r41.1), (0, 0), 0, 0), 0)))
                                                                                                                       (none))
                                                                                                                   (none))
                                                                                                                 (none))
                                                                                                                (none)
                                                                                                              else
                                                                                                               none
                                                                                                             else
                                                                                                              optE (s40 (r2.1, r5.1, (r8.1, r11.1), (r14.1, r17.1), (r20.1, r23.1), (r26.1, r29.1), (r32.1, r35.1), (r38.1, 0), (0, 0), 0, 0)) (fun r64 =>
                                                                                                               bif r64 != 0 then
                                                                                                                some (((0, 0, (0, 0), (0, 0), (0, 0), (0, 0), (0, 0), (0, 0), (0, 0), 0, 0), r64))
                                                                                                               else
                                                                                                                some (((r2.1, r5.1, (r8.1, r11.1), (r14.1, r17.1), (r20.1, r23.1), (r26.1, r29.1), (r32.1, r35.1), (r38.1, 0), (0, 0), 0, 0), 0)))
                                                                                                               (none))
                                                                                                           (none))
                                                                                                         (none))
                                                                                                        (none)
                                                                                                      else
                                                                                                       none
                                                                                                     else
                                                                                                      optE (s40 (r2.1, r5.1, (r8.1, r11.1), (r14.1, r17.1), (r20.1, r23.1), (r26.1, r29.1), (r32.1, r35.1), (0, 0), (0, 0), 0, 0)) (fun r65 =>
                                                                                                       bif r65 != 0 then
                                                                                                        some (((0, 0, (0, 0), (0, 0), (0, 0), (0, 0), (0, 0), (0, 0), (0, 0), 0, 0), r65))
                                                                                                       else
                                                                                                        some (((r2.1, r5.1, (r8.1, r11.1), (r14.1, r17.1), (r20.1, r23.1), (r26.1, r29.1), (r32.1, r35.1), (0, 0), (0, 0), 0, 0), 0)))
                                                                                                       (none))
                                                                                                   (none))
                                                                                                 (none))
                                                                                                (none)
                                                                                              else
                                                                                               none
                                                                                             else
                                                                                              optE (s40 (r2.1, r5.1, (r8.1, r11.1), (r14.1, r17.1), (r20.1, r23.1), (r26.1, r29.1), (r32.1, 0), (0, 0), (0, 0), 0, 0)) (fun r66 =>
                                                                                               bif r66 != 0 then
                                                                                                some (((0, 0, (0, 0), (0, 0), (0, 0), (0, 0), (0, 0), (0, 0), (0, 0), 0, 0), r66))
                                                                                               else
                                                                                                some (((r2.1, r5.1, (r8.1, r11.1), (r14.1, r17.1), (r20.1, r23.1), (r26.1, r29.1), (r32.1, 0), (0, 0), (0, 0), 0, 0), 0)))
                                                                                               (none))
                                                                                           (none))
                                                                                         (none))
                                                                                        (none)
                                                                                      else
                                                                                       none
                                                                                     else
                                                                                      optE (s40 (r2.1, r5.1, (r8.1, r11.1), (r14.1, r17.1), (r20.1, r23.1), (r26.1, r29.1), (0, 0), (0, 0), (0, 0), 0, 0)) (fun r67 =>
                                                                                       bif r67 != 0 then
                                                                                        some (((0, 0, (0, 0), (0, 0), (0, 0), (0, 0), (0, 0), (0, 0), (0, 0), 0, 0), r67))
                                                                                       else
                                                                                        some (((r2.1, r5.1, (r8.1, r11.1), (r14.1, r17.1), (r20.1, r23.1), (r26.1, r29.1), (0, 0), (0, 0), (0, 0), 0, 0), 0)))
                                                                                       (none))
                                                                                   (none))
                                                                                 (none))
                                                                                (none)
                                                                              else
                                                                               none
                                                                             else
                                                                              optE (s40 (r2.1, r5.1, (r8.1, r11.1), (r14.1, r17.1), (r20.1, r23.1), (r26.1, 0), (0, 0), (0, 0), (0, 0), 0, 0)) (fun r68 =>
                                                                               bif r68 != 0 then
                                                                                some (((0, 0, (0, 0), (0, 0), (0, 0), (0, 0), (0, 0), (0, 0), (0, 0), 0, 0), r68))
                                                                               else
                                                                                some (((r2.1, r5.1, (r8.1, r11.1), (r14.1, r17.1), (r20.1, r23.1), (r26.1, 0), (0, 0), (0, 0), (0, 0), 0, 0), 0)))
                                                                               (none))
                                                                           (none))
                                                                         (none))
                                                                        (none)
                                                                      else
                                                                       none
                                                                     else
                                                                      optE (s40 (r2.1, r5.1, (r8.1, r11.1), (r14.1, r17.1), (r20.1, r23.1), (0, 0), (0, 0), (0, 0), (0, 0), 0, 0)) (fun r69 =>
                                                                       bif r69 != 0 then
                                                                        some (((0, 0, (0, 0), (0, 0), (0, 0), (0, 0), (0, 0), (0, 0), (0, 0), 0, 0), r69))
                                                                       else
                                                                        some (((r2.1, r5.1, (r8.1, r11.1), (r14.1, r17.1), (r20.1, r23.1), (0, 0), (0, 0), (0, 0), (0, 0), 0, 0), 0)))
                                                                       (none))
                                                                   (none))
                                                                 (none))
                                                                (none)
                                                              else
                                                               none
                                                             else
                                                              optE (s40 (r2.1, r5.1, (r8.1, r11.1), (r14.1, r17.1), (r20.1, 0), (0, 0), (0, 0), (0, 0), (0, 0), 0, 0)) (fun r70 =>
                                                               bif r70 != 0 then
                                                                some (((0, 0, (0, 0), (0, 0), (0, 0), (0, 0), (0, 0), (0, 0), (0, 0), 0, 0), r70))
                                                               else
                                                                some (((r2.1, r5.1, (r8.1, r11.1), (r14.1, r17.1), (r20.1, 0), (0, 0), (0, 0), (0, 0), (0, 0), 0, 0), 0)))
                                                               (none))
                                                           (none))
                                                         (none))
                                                        (none)
                                                      else
                                                       none
                                                     else
                                                      optE (s40 (r2.1, r5.1, (r8.1, r11.1), (r14.1, r17.1), (0, 0), (0, 0), (0, 0), (0, 0), (0, 0), 0, 0)) (fun r71 =>
                                                       bif r71 != 0 then
                                                        some (((0, 0, (0, 0), (0, 0), (0, 0), (0, 0), (0, 0), (0, 0), (0, 0), 0, 0), r71))
                                                       else
                                                        some (((r2.1, r5.1, (r8.1, r11.1), (r14.1, r17.1), (0, 0), (0, 0), (0, 0), (0, 0), (0, 0), 0, 0), 0)))
                                                       (none))
                                                   (none))
                                                 (none))
                                                (none)
                                              else
                                               none
                                             else
                                              optE (s40 (r2.1, r5.1, (r8.1, r11.1), (r14.1, 0), (0, 0), (0, 0), (0, 0), (0, 0), (0, 0), 0, 0)) (fun r72 =>
                                               bif r72 != 0 then
                                                some (((0, 0, (0, 0), (0, 0), (0, 0), (0, 0), (0, 0), (0, 0), (0, 0), 0, 0), r72))
                                               else
                                                some (((r2.1, r5.1, (r8.1, r11.1), (r14.1, 0), (0, 0), (0, 0), (0, 0), (0, 0), (0, 0), 0, 0), 0)))
                                               (none))
                                           (none))
                                         (none))
                                        (none)
                                      else
                                       none
                                     else
                                      optE (s40 (r2.1, r5.1, (r8.1, r11.1), (0, 0), (0, 0), (0, 0), (0, 0), (0, 0), (0, 0), 0, 0)) (fun r73 =>
                                       bif r73 != 0 then
                                        some (((0, 0, (0, 0), (0, 0), (0, 0), (0, 0), (0, 0), (0, 0), (0, 0), 0, 0), r73))
                                       else
                                        some (((r2.1, r5.1, (r8.1, r11.1), (0, 0), (0, 0), (0, 0), (0, 0), (0, 0), (0, 0), 0, 0), 0)))
                                       (none))
                                   (none))
                                 (none))
                                (none)
                              else
                               none
                             else
                              optE (s40 (r2.1, r5.1, (r8.1, 0), (0, 0), (0, 0), (0, 0), (0, 0), (0, 0), (0, 0), 0, 0)) (fun r74 =>
                               bif r74 != 0 then
                                some (((0, 0, (0, 0), (0, 0), (0, 0), (0, 0), (0, 0), (0, 0), (0, 0), 0, 0), r74))
                               else
                                some (((r2.1, r5.1, (r8.1, 0), (0, 0), (0, 0), (0, 0), (0, 0), (0, 0), (0, 0), 0, 0), 0)))
                               (none))
                           (none))
                         (none))
                        (none)
                      else
                       none
                     else
                      optE (s40 (r2.1, r5.1, (0, 0), (0, 0), (0, 0), (0, 0), (0, 0), (0, 0), (0, 0), 0, 0)) (fun r75 =>
                       bif r75 != 0 then
                        some (((0, 0, (0, 0), (0, 0), (0, 0), (0, 0), (0, 0), (0, 0), (0, 0), 0, 0), r75))
                       else
                        some (((r2.1, r5.1, (0, 0), (0, 0), (0, 0), (0, 0), (0, 0), (0, 0), (0, 0), 0, 0), 0)))
                       (none))
                  (none))
                (none))
               (none)
             else
              none
            else
             optE (s40 (r2.1, 0, (0, 0), (0, 0), (0, 0), (0, 0), (0, 0), (0, 0), (0, 0), 0, 0)) (fun r76 =>
              bif r76 != 0 then
               some (((0, 0, (0, 0), (0, 0), (0, 0), (0, 0), (0, 0), (0, 0), (0, 0), 0, 0), r76))
              else
               some (((r2.1, 0, (0, 0), (0, 0), (0, 0), (0, 0), (0, 0), (0, 0), (0, 0), 0, 0), 0)))
              (none))
         (none))
       (none))
      (none)
    else
     none
   else
    optE (s40 (0, 0, (0, 0), (0, 0), (0, 0), (0, 0), (0, 0), (0, 0), (0, 0), 0, 0)) (fun r77 =>
     bif r77 != 0 then
      some (((0, 0, (0, 0), (0, 0), (0, 0), (0, 0), (0, 0), (0, 0), (0, 0), 0, 0), r77))
     else
      some (((0, 0, (0, 0), (0, 0), (0, 0), (0, 0), (0, 0), (0, 0), (0, 0), 0, 0), 0)))
     (none))
  (none)
theorem i7 : ItemOk Tryz.prog (.fn 7 [.d .str] [.d (.agg (.pair zI (.pair zI (.pair zP (.pair zP (.pair zP (.pair zP (.pair zP (.pair zP (.pair zP zP)))))))))), .d zI] s7) := item_fnM md5 ext5 (U := 40) (n := 30) noSpecial mixed G20K7_ok (fun x => by kernel_rfl)
noncomputable def G20K8 : List Ev.Item := .fn 7 [.d .str] [.d (.agg (.pair zI (.pair zI (.pair zP (.pair zP (.pair zP (.pair zP (.pair zP (.pair zP (.pair zP zP)))))))))), .d zI] s7 :: G20K7
theorem G20K8_ok : ∀ q ∈ G20K8, ItemOk Tryz.prog q := items_cons i7 G20K7_ok
noncomputable def s44 : (Int × Int) × Int → Option (Int) := fun (g, most) =>
 optE (s12 (g.1, wr (-most), most)) (fun r1 =>
  bif !r1 then
   some (2)
  else
   optE (s12 (g.2, wr (-most), most)) (fun r2 =>
    bif !r2 then
     some (2)
    else
     some (0))
    (none))
  (none)
theorem i44 : ItemOk Tryz.prog (.fn 44 [.d (.agg zP), .d zI] [.d zI] s44) := item_fnM md5 ext5 (U := 9) (n := 12) noSpecial mixed G20K8_ok (fun x => by kernel_rfl)
noncomputable def G20K9 : List Ev.Item := .fn 44 [.d (.agg zP), .d zI] [.d zI] s44 :: G20K8
theorem G20K9_ok : ∀ q ∈ G20K9, ItemOk Tryz.prog q := items_cons i44 G20K8_ok
noncomputable def s10 : Int × Int × (Int × Int) × (Int × Int) × (Int × Int) × (Int × Int) × (Int × Int) × (Int × Int) × (Int × Int) × Int × Int → Option (Int) := fun p =>
 optE (s12 (p.1, 0, 1023)) (fun r1 =>
  bif !r1 then
   some (2)
  else
   optE (s12 (p.2.1, 1, 100)) (fun r2 =>
    bif !r2 then
     some (2)
    else
     optE (s44 (p.2.2.1, 2000)) (fun r3 =>
      bif r3 != 0 then
       some (r3)
      else
       optE (s44 (p.2.2.2.1, 2000)) (fun r4 =>
        bif r4 != 0 then
         some (r4)
        else
         optE (s44 (p.2.2.2.2.1, 2000)) (fun r5 =>
          bif r5 != 0 then
           some (r5)
          else
           optE (s44 (p.2.2.2.2.2.1, 2000)) (fun r6 =>
            bif r6 != 0 then
             some (r6)
            else
             optE (s44 (p.2.2.2.2.2.2.1, 2000)) (fun r7 =>
              bif r7 != 0 then
               some (r7)
              else
               optE (s44 (p.2.2.2.2.2.2.2.1, 2000)) (fun r8 =>
                bif r8 != 0 then
                 some (r8)
                else
                 optE (s44 (p.2.2.2.2.2.2.2.2.1, 2000)) (fun r9 =>
                  bif r9 != 0 then
                   some (r9)
                  else
                   optE (s44 (p.2.2.2.2.2.2.2.2.2, 2000)) (fun r10 =>
                    bif r10 != 0 then
                     some (r10)
                    else
                     some (0))
                    (none))
                  (none))
                (none))
              (none))
            (none))
          (none))
        (none))
      (none))
    (none))
  (none)
theorem i10 : ItemOk Tryz.prog (.fn 10 [.d (.agg (.pair zI (.pair zI (.pair zP (.pair zP (.pair zP (.pair zP (.pair zP (.pair zP (.pair zP zP))))))))))] [.d zI] s10) := item_fnM md5 ext5 (U := 40) (n := 30) noSpecial mixed G20K9_ok (fun x => by kernel_rfl)
noncomputable def G20K10 : List Ev.Item := .fn 10 [.d (.agg (.pair zI (.pair zI (.pair zP (.pair zP (.pair zP (.pair zP (.pair zP (.pair zP (.pair zP zP))))))))))] [.d zI] s10 :: G20K9
theorem G20K10_ok : ∀ q ∈ G20K10, ItemOk Tryz.prog q := items_cons i10 G20K9_ok
noncomputable def s8 : ByteArray → Option ((Int × Int × (Int × Int) × (Int × Int) × (Int × Int) × (Int × Int) × (Int × Int) × (Int × Int) × (Int × Int) × Int × Int) × Int) := fun s =>
 optE (s41 (s, 32)) (fun r1 =>
  bif (r1.length : Int) != 18 then
   some (((0, 0, (0, 0), (0, 0), (0, 0), (0, 0), (0, 0), (0, 0), (0, 0), 0, 0), 7))
  else
   bif decide (0 < (r1.length : Int)) then
    bif inBounds 0 r1.length then
     optE (s42 (r1.getD 0 ByteArray.empty, 6)) (fun r2 =>
      bif !r2.2 then
       some (((0, 0, (0, 0), (0, 0), (0, 0), (0, 0), (0, 0), (0, 0), (0, 0), 0, 0), 7))
      else
       bif decide (r2.1 < 0) then
        some (((0, 0, (0, 0), (0, 0), (0, 0), (0, 0), (0, 0), (0, 0), (0, 0), 0, 0), 7))
       else
        bif decide (1 < (r1.length : Int)) then
         bif inBounds 1 r1.length then
          optE (s42 (r1.getD 1 ByteArray.empty, 6)) (fun r3 =>
           bif !r3.2 then
            some (((0, 0, (0, 0), (0, 0), (0, 0), (0, 0), (0, 0), (0, 0), (0, 0), 0, 0), 7))
           else
            bif decide (r3.1 < 0) then
             some (((0, 0, (0, 0), (0, 0), (0, 0), (0, 0), (0, 0), (0, 0), (0, 0), 0, 0), 7))
            else
             bif decide (2 < (r1.length : Int)) then
              bif inBounds 2 r1.length then
               optE (s42 (r1.getD 2 ByteArray.empty, 6)) (fun r4 =>
                bif !r4.2 then
                 some (((0, 0, (0, 0), (0, 0), (0, 0), (0, 0), (0, 0), (0, 0), (0, 0), 0, 0), 7))
                else
                 bif decide (3 < (r1.length : Int)) then
                  bif inBounds 3 r1.length then
                   optE (s42 (r1.getD 3 ByteArray.empty, 6)) (fun r5 =>
                    bif !r5.2 then
                     some (((0, 0, (0, 0), (0, 0), (0, 0), (0, 0), (0, 0), (0, 0), (0, 0), 0, 0), 7))
                    else
                     bif decide (4 < (r1.length : Int)) then
                      bif inBounds 4 r1.length then
                       optE (s42 (r1.getD 4 ByteArray.empty, 6)) (fun r6 =>
                        bif !r6.2 then
                         some (((0, 0, (0, 0), (0, 0), (0, 0), (0, 0), (0, 0), (0, 0), (0, 0), 0, 0), 7))
                        else
                         bif decide (5 < (r1.length : Int)) then
                          bif inBounds 5 r1.length then
                           optE (s42 (r1.getD 5 ByteArray.empty, 6)) (fun r7 =>
                            bif !r7.2 then
                             some (((0, 0, (0, 0), (0, 0), (0, 0), (0, 0), (0, 0), (0, 0), (0, 0), 0, 0), 7))
                            else
                             bif decide (6 < (r1.length : Int)) then
                              bif inBounds 6 r1.length then
                               optE (s42 (r1.getD 6 ByteArray.empty, 6)) (fun r8 =>
                                bif !r8.2 then
                                 some (((0, 0, (0, 0), (0, 0), (0, 0), (0, 0), (0, 0), (0, 0), (0, 0), 0, 0), 7))
                                else
                                 bif decide (7 < (r1.length : Int)) then
                                  bif inBounds 7 r1.length then
                                   optE (s42 (r1.getD 7 ByteArray.empty, 6)) (fun r9 =>
                                    bif !r9.2 then
                                     some (((0, 0, (0, 0), (0, 0), (0, 0), (0, 0), (0, 0), (0, 0), (0, 0), 0, 0), 7))
                                    else
                                     bif decide (8 < (r1.length : Int)) then
                                      bif inBounds 8 r1.length then
                                       optE (s42 (r1.getD 8 ByteArray.empty, 6)) (fun r10 =>
                                        bif !r10.2 then
                                         some (((0, 0, (0, 0), (0, 0), (0, 0), (0, 0), (0, 0), (0, 0), (0, 0), 0, 0), 7))
                                        else
                                         bif decide (9 < (r1.length : Int)) then
                                          bif inBounds 9 r1.length then
                                           optE (s42 (r1.getD 9 ByteArray.empty, 6)) (fun r11 =>
                                            bif !r11.2 then
                                             some (((0, 0, (0, 0), (0, 0), (0, 0), (0, 0), (0, 0), (0, 0), (0, 0), 0, 0), 7))
                                            else
                                             bif decide (10 < (r1.length : Int)) then
                                              bif inBounds 10 r1.length then
                                               optE (s42 (r1.getD 10 ByteArray.empty, 6)) (fun r12 =>
                                                bif !r12.2 then
                                                 some (((0, 0, (0, 0), (0, 0), (0, 0), (0, 0), (0, 0), (0, 0), (0, 0), 0, 0), 7))
                                                else
                                                 bif decide (11 < (r1.length : Int)) then
                                                  bif inBounds 11 r1.length then
                                                   optE (s42 (r1.getD 11 ByteArray.empty, 6)) (fun r13 =>
                                                    bif !r13.2 then
                                                     some (((0, 0, (0, 0), (0, 0), (0, 0), (0, 0), (0, 0), (0, 0), (0, 0), 0, 0), 7))
                                                    else
                                                     bif decide (12 < (r1.length : Int)) then
                                                      bif inBounds 12 r1.length then
                                                       optE (s42 (r1.getD 12 ByteArray.empty, 6)) (fun r14 =>
                                                        bif !r14.2 then
                                                         some (((0, 0, (0, 0), (0, 0), (0, 0), (0, 0), (0, 0), (0, 0), (0, 0), 0, 0), 7))
                                                        else
                                                         bif decide (13 < (r1.length : Int)) then
                                                          bif inBounds 13 r1.length then
                                                           optE (s42 (r1.getD 13 ByteArray.empty, 6)) (fun r15 =>
                                                            bif !r15.2 then
                                                             some (((0, 0, (0, 0), (0, 0), (0, 0), (0, 0), (0, 0), (0, 0), (0, 0), 0, 0), 7))
                                                            else
                                                             bif decide (14 < (r1.length : Int)) then
                                                              bif inBounds 14 r1.length then
                                                               optE (s42 (r1.getD 14 ByteArray.empty, 6)) (fun r16 =>
                                                                bif !r16.2 then
                                                                 some (((0, 0, (0, 0), (0, 0), (0, 0), (0, 0), (0, 0), (0, 0), (0, 0), 0, 0), 7))
                                                                else
                                                                 bif decide (15 < (r1.length : Int)) then
                                                                  bif inBounds 15 r1.length then
                                                                   optE (s42 (r1.getD 15 ByteArray.empty, 6)) (fun r17 =>
                                                                    bif !r17.2 then
                                                                     some (((0, 0, (0, 0), (0, 0), (0, 0), (0, 0), (0, 0), (0, 0), (0, 0), 0, 0), 7))
                                                                    else
                                                                     bif decide (16 < (r1.length : Int)) then
                                                                      bif inBounds 16 r1.length then
                                                                       optE (s42 (r1.getD 16 ByteArray.empty, 6)) (fun r18 =>
                                                                        bif !r18.2 then
                                                                         some (((0, 0, (0, 0), (0, 0), (0, 0), (0, 0), (0, 0), (0, 0), (0, 0), 0, 0), 7))
                                                                        else
                                                                         bif decide (17 < (r1.length : Int)) then
                                                                          bif inBounds 17 r1.length then
                                                                           optE (s42 (r1.getD 17 ByteArray.empty, 6)) (fun r19 =>
                                                                            bif !r19.2 then
                                                                             some (((0, 0, (0, 0), (0, 0), (0, 0), (0, 0), (0, 0), (0, 0), (0, 0), 0, 0), 7))
                                                                            else
                                                                             bif decide (18 < (r1.length : Int)) then
                                                                              bif inBounds 18 r1.length then
                                                                               optE (s42 (r1.getD 18 ByteArray.empty, 6)) (fun r20 =>
                                                                                bif !r20.2 then
                                                                                 some (((0, 0, (0, 0), (0, 0), (0, 0), (0, 0), (0, 0), (0, 0), (0, 0), 0, 0), 7))
                                                                                else
                                                                                 bif decide (19 < (r1.length : Int)) then
                                                                                  bif inBounds 19 r1.length then
                                                                                   optE (s42 (r1.getD 19 ByteArray.empty, 6)) (fun r21 =>
                                                                                    bif !r21.2 then
                                                                                     some (((0, 0, (0, 0), (0, 0), (0, 0), (0, 0), (0, 0), (0, 0), (0, 0), 0, 0), 7))
                                                                                    else
                                                                                     bif decide (20 < (r1.length : Int)) then
                                                                                      bif inBounds 20 r1.length then
                                                                                       optE (s42 (r1.getD 20 ByteArray.empty, 6)) (fun r22 =>
                                                                                        bif !r22.2 then
                                                                                         some (((0, 0, (0, 0), (0, 0), (0, 0), (0, 0), (0, 0), (0, 0), (0, 0), 0, 0), 7))
                                                                                        else
                                                                                         bif decide (21 < (r1.length : Int)) then
                                                                                          bif inBounds 21 r1.length then
                                                                                           optE (s42 (r1.getD 21 ByteArray.empty, 6)) (fun r23 =>
                                                                                            bif !r23.2 then
                                                                                             some (((0, 0, (0, 0), (0, 0), (0, 0), (0, 0), (0, 0), (0, 0), (0, 0), 0, 0), 7))
                                                                                            else
                                                                                             bif decide (22 < (r1.length : Int)) then
                                                                                              bif inBounds 22 r1.length then
                                                                                               optE (s42 (r1.getD 22 ByteArray.empty, 6)) (fun r24 =>
                                                                                                bif !r24.2 then
                                                                                                 some (((0, 0, (0, 0), (0, 0), (0, 0), (0, 0), (0, 0), (0, 0), (0, 0), 0, 0), 7))
                                                                                                else
                                                                                                 bif decide (23 < (r1.length : Int)) then
                                                                                                  bif inBounds 23 r1.length then
                                                                                                   optE (s42 (r1.getD 23 ByteArray.empty, 6)) (fun r25 =>
                                                                                                    bif !r25.2 then
                                                                                                     some (((0, 0, (0, 0), (0, 0), (0, 0), (0, 0), (0, 0), (0, 0), (0, 0), 0, 0), 7))
                                                                                                    else
                                                                                                     bif decide (24 < (r1.length : Int)) then
                                                                                                      bif inBounds 24 r1.length then
                                                                                                       optE (s42 (r1.getD 24 ByteArray.empty, 6)) (fun r26 =>
                                                                                                        bif !r26.2 then
                                                                                                         some (((0, 0, (0, 0), (0, 0), (0, 0), (0, 0), (0, 0), (0, 0), (0, 0), 0, 0), 7))
                                                                                                        else
                                                                                                         bif decide (25 < (r1.length : Int)) then
                                                                                                          bif inBounds 25 r1.length then
                                                                                                           optE (s42 (r1.getD 25 ByteArray.empty, 6)) (fun r27 =>
                                                                                                            bif !r27.2 then
                                                                                                             some (((0, 0, (0, 0), (0, 0), (0, 0), (0, 0), (0, 0), (0, 0), (0, 0), 0, 0), 7))
                                                                                                            else
                                                                                                             bif decide (26 < (r1.length : Int)) then
                                                                                                              bif inBounds 26 r1.length then
                                                                                                               optE (s42 (r1.getD 26 ByteArray.empty, 6)) (fun r28 =>
                                                                                                                bif !r28.2 then
                                                                                                                 some (((0, 0, (0, 0), (0, 0), (0, 0), (0, 0), (0, 0), (0, 0), (0, 0), 0, 0), 7))
                                                                                                                else
                                                                                                                 bif decide (27 < (r1.length : Int)) then
                                                                                                                  bif inBounds 27 r1.length then
                                                                                                                   optE (s42 (r1.getD 27 ByteArray.empty, 6)) (fun r29 =>
                                                                                                                    bif !r29.2 then
                                                                                                                     some (((0, 0, (0, 0), (0, 0), (0, 0), (0, 0), (0, 0), (0, 0), (0, 0), 0, 0), 7))
                                                                                                                    else
                                                                                                                     bif decide (28 < (r1.length : Int)) then
                                                                                                                      bif inBounds 28 r1.length then
                                                                                                                       optE (s42 (r1.getD 28 ByteArray.empty, 6)) (fun r30 =>
                                                                                                                        bif !r30.2 then
                                                                                                                         some (((0, 0, (0, 0), (0, 0), (0, 0), (0, 0), (0, 0), (0, 0), (0, 0), 0, 0), 7))
                                                                                                                        else
                                                                                                                         bif decide (29 < (r1.length : Int)) then
                                                                                                                          bif inBounds 29 r1.length then
                                                                                                                           optE (s42 (r1.getD 29 ByteArray.empty, 6)) (fun r31 =>
                                                                                                                            bif !r31.2 then
                                                                                                                             some (((0, 0, (0, 0), (0, 0), (0, 0), (0, 0), (0, 0), (0, 0), (0, 0), 0, 0), 7))
                                                                                                                            else
                                                                                                                             bif decide (30 < (r1.length : Int)) then
                                                                                                                              bif inBounds 30 r1.length then
                                                                                                                               optE (s42 (r1.getD 30 ByteArray.empty, 6)) (fun r32 =>
                                                                                                                                bif !r32.2 then
                                                                                                                                 some (((0, 0, (0, 0), (0, 0), (0, 0), (0, 0), (0, 0), (0, 0), (0, 0), 0, 0), 7))
                                                                                                                                else
                                                                                                                                 bif decide (31 < (r1.length : Int)) then
                                                                                                                                  bif inBounds 31 r1.length then
                                                                                                                                   optE (s42 (r1.getD 31 ByteArray.empty, 6)) (fun r33 =>
                                                                                                                                    bif !r33.2 then
                                                                                                                                     some (((0, 0, (0, 0), (0, 0), (0, 0), (0, 0), (0, 0), (0, 0), (0, 0), 0, 0), 7))
                                                                                                                                    else
                                                                                                                                     bif decide (32 < (r1.length : Int)) then
                                                                                                                                      bif inBounds 32 r1.length then
                                                                                                                                       optE (s42 (r1.getD 32 ByteArray.empty, 6)) (fun r34 =>
                                                                                                                                        bif !r34.2 then
                                                                                                                                         some (((0, 0, (0, 0), (0, 0), (0, 0), (0, 0), (0, 0), (0, 0), (0, 0), 0, 0), 7))
                                                                                                                                        else
                                                                                                                                         bif decide (33 < (r1.length : Int)) then
                                                                                                                                          bif inBounds 33 r1.length then
                                                                                                                                           optE (s42 (r1.getD 33 ByteArray.empty, 6)) (fun r35 =>
                                                                                                                                            bif !r35.2 then
                                                                                                                                             some (((0, 0, (0, 0), (0, 0), (0, 0), (0, 0), (0, 0), (0, 0), (0, 0), 0, 0), 7))
                                                                                                                                            else
                                                                                                                                             bif decide (34 < (r1.length : Int)) then
                                                                                                                                              bif inBounds 34 r1.length then
                                                                                                                                               optE (s42 (r1.getD 34 ByteArray.empty, 6)) (fun r36 =>
                                                                                                                                                bif !r36.2 then
                                                                                                                                                 some (((0, 0, (0, 0), (0, 0), (0, 0), (0, 0), (0, 0), (0, 0), (0, 0), 0, 0), 7))
                                                                                                                                                else
                                                                                                                                                 bif decide (35 < (r1.length : Int)) then
                                                                                                                                                  bif inBounds 35 r1.length then
                                                                                                                                                   optE (s42 (r1.getD 35 ByteArray.empty, 6)) (fun r37 =>
                                                                                                                                                    bif !r37.2 then
                                                                                                                                                     some (((0, 0, (0, 0), (0, 0), (0, 0), (0, 0), (0, 0), (0, 0), (0, 0), 0, 0), 7))
                                                                                                                                                    else
                                                                                                                                                     bif decide (36 < (r1.length : Int)) then
                                                                                                                                                      bif inBounds 36 r1.length then
                                                                                                                                                       optE (s42 (r1.getD 36 ByteArray.empty, 6)) (fun r38 =>
                                                                                                                                                        bif !r38.2 then
                                                                                                                                                         some (((0, 0, (0, 0), (0, 0), (0, 0), (0, 0), (0, 0), (0, 0), (0, 0), 0, 0), 7))
                                                                                                                                                        else
                                                                                                                                                         bif decide (37 < (r1.length : Int)) then
                                                                                                                                                          bif inBounds 37 r1.length then
                                                                                                                                                           optE (s42 (r1.getD 37 ByteArray.empty, 6)) (fun r39 =>
                                                                                                                                                            bif !r39.2 then
                                                                                                                                                             some (((0, 0, (0, 0), (0, 0), (0, 0), (0, 0), (0, 0), (0, 0), (0, 0), 0, 0), 7))
                                                                                                                                                            else
                                                                                                                                                             bif decide (38 < (r1.length : Int)) then
                                                                                                                                                              bif inBounds 38 r1.length then
                                                                                                                                                               optE (s42 (r1.getD 38 ByteArray.empty, 6)) (fun r40 =>
                                                                                                                                                                bif !r40.2 then
                                                                                                                                                                 some (((0, 0, (0, 0), (0, 0), (0, 0), (0, 0), (0, 0), (0, 0), (0, 0), 0, 0), 7))
                                                                                                                                                                else
                                                                                                                                                                 bif decide (39 < (r1.length : Int)) then
                                                                                                                                                                  bif inBounds 39 r1.length then
                                                                                                                                                                   optE (s42 (r1.getD 39 ByteArray.empty, 6)) (fun r41 =>
                                                                                                                                                                    bif !r41.2 then
                                                                                                                                                                     some (((0, 0, (0, 0), (0, 0), (0, 0), (0, 0), (0, 0), (0, 0), (0, 0), 0, 0), 7))
                                                                                                                                                                    else
                                                                                                                                                                     none)
                                                                                                                                                                    (none)
                                                                                                                                                                  else
                                                                                                                                                                   none
                                                                                                                                                                 else
                                                                                                                                                                  optE (s10 (r2.1, r3.1, (r4.1, r5.1), (r6.1, r7.1), (r8.1, r9.1), (r10.1, r11.1), (r12.1, r13.1), (r14.1, r15.1), (r16.1, r17.1), r18.1, r19.1)) (fun r42 =>
                                                                                                                                                                   bif r42 != 0 then
                                                                                                                                                                    some (((0, 0, (0, 0), (0, 0), (0, 0), (0, 0), (0, 0), (0, 0), (0, 0), 0, 0), r42))
                                                                                                                                                                   else
                                                                                                                                                                    some (((r2.1, r3.1, (r4.1, r5.1), (r6.1, r7.1), (r8.1, r9.1), (r10.1, r11.1), (r12.1, r13.1), (r14.1, r15.1), (r16.1, r17.1), r18.1, r19.1), 0)))
                                                                                                                                                                   (none))
                                                                                                                                                                (none)
                                                                                                                                                              else
                                                                                                                                                               none
                                                                                                                                                             else
                                                                                                                                                              optE (s10 (r2.1, r3.1, (r4.1, r5.1), (r6.1, r7.1), (r8.1, r9.1), (r10.1, r11.1), (r12.1, r13.1), (r14.1, r15.1), (r16.1, r17.1), r18.1, r19.1)) (fun r43 =>
                                                                                                                                                               bif r43 != 0 then
                                                                                                                                                                some (((0, 0, (0, 0), (0, 0), (0, 0), (0, 0), (0, 0), (0, 0), (0, 0), 0, 0), r43))
                                                                                                                                                               else
                                                                                                                                                                some (((r2.1, r3.1, (r4.1, r5.1), (r6.1, r7.1), (r8.1, r9.1), (r10.1, r11.1), (r12.1, r13.1), (r14.1, r15.1), (r16.1, r17.1), r18.1, r19.1), 0)))
                                                                                                                                                               (none))
                                                                                                                                                            (none)
                                                                                                                                                          else
                                                                                                                                                           none
                                                                                                                                                         else
                                                                                                                                                          optE (s10 (r2.1, r3.1, (r4.1, r5.1), (r6.1, r7.1), (r8.1, r9.1), (r10.1, r11.1), (r12.1, r13.1), (r14.1, r15.1), (r16.1, r17.1), r18.1, r19.1)) (fun r44 =>
                                                                                                                                                           bif r44 != 0 then
                                                                                                                                                            some (((0, 0, (0, 0), (0, 0), (0, 0), (0, 0), (0, 0), (0, 0), (0, 0), 0, 0), r44))
                                                                                                                                                           else
                                                                                                                                                            some (((r2.1, r3.1, (r4.1, r5.1), (r6.1, r7.1), (r8.1, r9.1), (r10.1, r11.1), (r12.1, r13.1), (r14.1, r15.1), (r16.1, r17.1), r18.1, r19.1), 0)))
                                                                                                                                                           (none))
                                                                                                                                                        (none)
                                                                                                                                                      else
                                                                                                                                                       none
                                                                                                                                                     else
                                                                                                                                                      optE (s10 (r2.1, r3.1, (r4.1, r5.1), (r6.1, r7.1), (r8.1, r9.1), (r10.1, r11.1), (r12.1, r13.1), (r14.1, r15.1), (r16.1, r17.1), r18.1, r19.1)) (fun r45 =>
                                                                                                                                                       bif r45 != 0 then
                                                                                                                                                        some (((0, 0, (0, 0), (0, 0), (0, 0), (0, 0), (0, 0), (0, 0), (0, 0), 0, 0), r45))
                                                                                                                                                       else
                                                                                                                                                        some (((r2.1, r3.1, (r4.1, r5.1), (r6.1, r7.1), (r8.1, r9.1), (r10.1, r11.1), (r12.1, r13.1), (r14.1, r15.1), (r16.1, r17.1), r18.1, r19.1), 0)))
                                                                                                                                                       (none))
                                                                                                                                                    (none)
                                                                                                                                                  else
                                                                                                                                                   none
                                                                                                                                                 else
                                                                                                                                                  optE (s10 (r2.1, r3.1, (r4.1, r5.1), (r6.1, r7.1), (r8.1, r9.1), (r10.1, r11.1), (r12.1, r13.1), (r14.1, r15.1), (r16.1, r17.1), r18.1, r19.1)) (fun r46 =>
                                                                                                                                                   bif r46 != 0 then
                                                                                                                                                    some (((0, 0, (0, 0), (0, 0), (0, 0), (0, 0), (0, 0), (0, 0), (0, 0), 0, 0), r46))
                                                                                                                                                   else
                                                                                                                                                    some (((r2.1, r3.1, (r4.1, r5.1), (r6.1, r7.1), (r8.1, r9.1), (r10.1, r11.1), (r12.1, r13.1), (r14.1, r15.1), (r16.1, r17.1), r18.1, r19.1), 0)))
                                                                                                                                                   (none))
                                                                                                                                                (none)
                                                                                                                                              else
                                                                                                                                               none
                                                                                                                                             else
                                                                                                                                              optE (s10 (r2.1, r3.1, (r4.1, r5.1), (r6.1, r7.1), (r8.1, r9.1), (r10.1, r11.1), (r12.1, r13.1), (r14.1, r15.1), (r16.1, r17.1), r18.1, r19.1)) (fun r47 =>
                                                                                                                                               bif r47 != 0 then
                                                                                                                                                some (((0, 0, (0, 0), (0, 0), (0, 0), (0, 0), (0, 0), (0, 0), (0, 0), 0, 0), r47))
                                                                                                                                               else
                                                                                                                                                some (((r2.1, r3.1, (r4.1, r5.1), (r6.1, r7.1), (r8.1, r9.1), (r10.1, r11.1), (r12.1, r13.1), (r14.1, r15.1), (r16.1, r17.1), r18.1, r19.1), 0)))
                                                                                                                                               (none))
                                                                                                                                            (none)
                                                                                                                                          else
                                                                                                                                           none
                                                                                                                                         else
                                                                                                                                          optE (s10 (r2.1, r3.1, (r4.1, r5.1), (r6.1, r7.1), (r8.1, r9.1), (r10.1, r11.1), (r12.1, r13.1), (r14.1, r15.1), (r16.1, r17.1), r18.1, r19.1)) (fun r48 =>
                                                                                                                                           bif r48 != 0 then
                                                                                                                                            some (((0, 0, (0, 0), (0, 0), (0, 0), (0, 0), (0, 0), (0, 0), (0, 0), 0, 0), r48))
                                                                                                                                           else
                                                                                                                                            some (((r2.1, r3.1, (r4.1, r5.1), (r6.1, r7.1), (r8.1, r9.1), (r10.1, r11.1), (r12.1, r13.1), (r14.1, r15.1), (r16.1, r17.1), r18.1, r19.1), 0)))
                                                                                                                                           (none))
                                                                                                                                        (none)
                                                                                                                                      else
                                                                                                                                       none
                                                                                                                                     else
                                                                                                                                      optE (s10 (r2.1, r3.1, (r4.1, r5.1), (r6.1, r7.1), (r8.1, r9.1), (r10.1, r11.1), (r12.1, r13.1), (r14.1, r15.1), (r16.1, r17.1), r18.1, r19.1)) (fun r49 =>
                                                                                                                                       bif r49 != 0 then
                                                                                                                                        some (((0, 0, (0, 0), (0, 0), (0, 0), (0, 0), (0, 0), (0, 0), (0, 0), 0, 0), r49))
                                                                                                                                       else
                                                                                                                                        some (((r2.1, r3.1, (r4.1, r5.1), (r6.1, r7.1), (r8.1, r9.1), (r10.1, r11.1), (r12.1, r13.1), (r14.1, r15.1), (r16.1, r17.1), r18.1, r19.1), 0)))
                                                                                                                                       (none))
                                                                                                                                    (none)
                                                                                                                                  else
                                                                                                                                   none
                                                                                                                                 else
                                                                                                                                  optE (s10 (r2.1, r3.1, (r4.1, r5.1), (r6.1, r7.1), (r8.1, r9.1), (r10.1, r11.1), (r12.1, r13.1), (r14.1, r15.1), (r16.1, r17.1), r18.1, r19.1)) (fun r50 =>
                                                                                                                                   bif r50 != 0 then
                                                                                                                                    some (((0, 0, (0, 0), (0, 0), (0, 0), (0, 0), (0, 0), (0, 0), (0, 0), 0, 0), r50))
                                                                                                                                   else
                                                                                                                                    some (((r2.1, r3.1, (r4.1, r5.1), (r6.1, r7.1), (r8.1, r9.1), (r10.1, r11.1), (r12.1, r13.1), (r14.1, r15.1), (r16.1, r17.1), r18.1, r19.1), 0)))
                                                                                                                                   (none))
                                                                                                                                (none)
                                                                                                                              else
                                                                                                                               none
                                                                                                                             else
                                                                                                                              optE (s10 (r2.1, r3.1, (r4.1, r5.1), (r6.1, r7.1), (r8.1, r9.1), (r10.1, r11.1), (r12.1, r13.1), (r14.1, r15.1), (r16.1, r17.1), r18.1, r19.1)) (fun r51 =>
                                                                                                                               bif r51 != 0 then
                                                                                                                                some (((0, 0, (0, 0), (0, 0), (0, 0), (0, 0), (0, 0), (0, 0), (0, 0), 0, 0), r51))
                                                                                                                               else
                                                                                                                                some (((r2.1, r3.1, (r4.1, r5.1), (r6.1, r7.1), (r8.1, r9.1), (r10.1, r11.1), (r12.1, r13.1), (r14.1, r15.1), (r16.1, r17.1), r18.1, r19.1), 0)))
                                                                                                                               (none))
                                                                                                                            (none)
                                                                                                                          else
                                                                                                                           none
                                                                                                                         else
                                                                                                                          optE (s10 (r2.1, r3.1, (r4.1, r5.1), (r6.1, r7.1), (r8.1, r9.1), (r10.1, r11.1), (r12.1, r13.1), (r14.1, r15.1), (r16.1, r17.1), r18.1, r19.1)) (fun r52 =>
                                                                                                                           bif r52 != 0 then
                                                                                                                            some (((0, 0, (0, 0), (0, 0), (0, 0), (0, 0), (0, 0), (0, 0), (0, 0), 0, 0), r52))
                                                                                                                           else
                                                                                                                            some (((r2.1, r3.1, (r4.1, r5.1), (r6.1, r7.1), (r8.1, r9.1), (r10.1, r11.1), (r12.1, r13.1), (r14.1, r15.1), (r16.1, r17.1), r18.1, r19.1), 0)))
                                                                                                                           (none))
                                                                                                                        (none)
                                                                                                                      else
                                                                                                                       none
                                                                                                                     else
                                                                                                                      optE (s10 (r2.1, r3.1, (r4.1, r5.1), (r6.1, r7.1), (r8.1, r9.1), (r10.1, r11.1), (r12.1, r13.1), (r14.1, r15.1), (r16.1, r17.1), r18.1, r19.1)) (fun r53 =>
                                                                                                                       bif r53 != 0 then
                                                                                                                        some (((0, 0, (0, 0), (0, 0), (0, 0), (0, 0), (0, 0), (0, 0), (0, 0), 0, 0), r53))
                                                                                                                       else
                                                                                                                        some (((r2.1, r3.1, (r4.1, r5.1), (r6.1, r7.1), (r8.1, r9.1), (r10.1, r11.1), (r12.1, r13.1), (r14.1, r15.1), (r16.1, r17.1), r18.1, r19.1), 0)))
                                                                                                                       (none))
                                                                                                                    (none)
                                                                                                                  else
                                                                                                                   none
                                                                                                                 else
                                                                                                                  optE (s10 (r2.1, r3.1, (r4.1, r5.1), (r6.1, r7.1), (r8.1, r9.1), (r10.1, r11.1), (r12.1, r13.1), (r14.1, r15.1), (r16.1, r17.1), r18.1, r19.1)) (fun r54 =>
                                                                                                                   bif r54 != 0 then
                                                                                                                    some (((0, 0, (0, 0), (0, 0), (0, 0), (0, 0), (0, 0), (0, 0), (0, 0), 0, 0), r54))
                                                                                                                   else
                                                                                                                    some (((r2.1, r3.1, (r4.1, r5.1), (r6.1, r7.1), (r8.1, r9.1), (r10.1, r11.1), (r12.1, r13.1), (r14.1, r15.1), (r16.1, r17.1), r18.1, r19.1), 0)))
                                                                                                                   (none))
                                                                                                                (none)
                                                                                                              else
                                                                                                               none
                                                                                                             else
                                                                                                              optE (s10 (r2.1, r3.1, (r4.1, r5.1), (r6.1, r7.1), (r8.1, r9.1), (r10.1, r11.1), (r12.1, r13.1), (r14.1, r15.1), (r16.1, r17.1), r18.1, r19.1)) (fun r55 =>
                                                                                                               bif r55 != 0 then
                                                                                                                some (((0, 0, (0, 0), (0, 0), (0, 0), (0, 0), (0, 0), (0, 0), (0, 0), 0, 0), r55))
                                                                                                               else
                                                                                                                some (((r2.1, r3.1, (r4.1, r5.1), (r6.1, r7.1), (r8.1, r9.1), (r10.1, r11.1), (r12.1, r13.1), (r14.1, r15.1), (r16.1, r17.1), r18.1, r19.1), 0)))
                                                                                                               (none))
                                                                                                            (none)
                                                                                                          else
                                                                                                           none
                                                                                                         else
                                                                                                          optE (s10 (r2.1, r3.1, (r4.1, r5.1), (r6.1, r7.1), (r8.1, r9.1), (r10.1, r11.1), (r12.1, r13.1), (r14.1, r15.1), (r16.1, r17.1), r18.1, r19.1)) (fun r56 =>
                                                                                                           bif r56 != 0 then
                                                                                                            some (((0, 0, (0, 0), (0, 0), (0, 0), (0, 0), (0, 0), (0, 0), (0, 0), 0, 0), r56))
                                                                                                           else
                                                                                                            some (((r2.1, r3.1, (r4.1, r5.1), (r6.1, r7.1), (r8.1, r9.1), (r10.1, r11.1), (r12.1, r13.1), (r14.1, r15.1), (r16.1, r17.1), r18.1, r19.1), 0)))
                                                                                                           (none))
                                                                                                        (none)
                                                                                                      else
                                                                                                       none
                                                                                                     else
                                                                                                      optE (s10 (r2.1, r3.1, (r4.1, r5.1), (r6.1, r7.1), (r8.1, r9.1), (r10.1, r11.1), (r12.1, r13.1), (r14.1, r15.1), (r16.1, r17.1), r18.1, r19.1)) (fun r57 =>
                                                                                                       bif r57 != 0 then
                                                                                                        some (((0, 0, (0, 0), (0, 0), (0, 0), (0, 0), (0, 0), (0, 0), (0, 0), 0, 0), r57))
                                                                                                       else
                                                                                                        some (((r2.1, r3.1, (r4.1, r5.1), (r6.1, r7.1), (r8.1, r9.1), (r10.1, r11.1), (r12.1, r13.1), (r14.1, r15.1), (r16.1, r17.1), r18.1, r19.1), 0)))
                                                                                                       (none))
                                                                                                    (none)
                                                                                                  else
                                                                                                   none
                                                                                                 else
                                                                                                  optE (s10 (r2.1, r3.1, (r4.1, r5.1), (r6.1, r7.1), (r8.1, r9.1), (r10.1, r11.1), (r12.1, r13.1), (r14.1, r15.1), (r16.1, r17.1), r18.1, r19.1)) (fun r58 =>
                                                                                                   bif r58 != 0 then
                                                                                                    some (((0, 0, (0, 0), (0, 0), (0, 0), (0, 0), (0, 0), (0, 0), (0, 0), 0, 0), r58))
                                                                                                   else
                                                                                                    some (((r2.1, r3.1, (r4.1, r5.1), (r6.1, r7.1), (r8.1, r9.1), (r10.1, r11.1), (r12.1, r13.1), (r14.1, r15.1), (r16.1, r17.1), r18.1, r19.1), 0)))
                                                                                                   (none))
                                                                                                (none)
                                                                                              else
                                                                                               none
                                                                                             else
                                                                                              optE (s10 (r2.1, r3.1, (r4.1, r5.1), (r6.1, r7.1), (r8.1, r9.1), (r10.1, r11.1), (r12.1, r13.1), (r14.1, r15.1), (r16.1, r17.1), r18.1, r19.1)) (fun r59 =>
                                                                                               bif r59 != 0 then
                                                                                                some (((0, 0, (0, 0), (0, 0), (0, 0), (0, 0), (0, 0), (0, 0), (0, 0), 0, 0), r59))
                                                                                               else
                                                                                                some (((r2.1, r3.1, (r4.1, r5.1), (r6.1, r7.1), (r8.1, r9.1), (r10.1, r11.1), (r12.1, r13.1), (r14.1, r15.1), (r16.1, r17.1), r18.1, r19.1), 0)))
                                                                                               (none))
                                                                                            (none)
                                                                                          else
                                                                                           none
                                                                                         else
                                                                                          optE (s10 (r2.1, r3.1, (r4.1, r5.1), (r6.1, r7.1), (r8.1, r9.1), (r10.1, r11.1), (r12.1, r13.1), (r14.1, r15.1), (r16.1, r17.1), r18.1, r19.1)) (fun r60 =>
                                                                                           bif r60 != 0 then
                                                                                            some (((0, 0, (0, 0), (0, 0), (0, 0), (0, 0), (0, 0), (0, 0), (0, 0), 0, 0), r60))
                                                                                           else
                                                                                            some (((r2.1, r3.1, (r4.1, r5.1), (r6.1, r7.1), (r8.1, r9.1), (r10.1, r11.1), (r12.1, r13.1), (r14.1, r15.1), (r16.1, r17.1), r18.1, r19.1), 0)))
                                                                                           (none))
                                                                                        (none)
                                                                                      else
                                                                                       none
                                                                                     else
                                                                                      optE (s10 (r2.1, r3.1, (r4.1, r5.1), (r6.1, r7.1), (r8.1, r9.1), (r10.1, r11.1), (r12.1, r13.1), (r14.1, r15.1), (r16.1, r17.1), r18.1, r19.1)) (fun r61 =>
                                                                                       bif r61 != 0 then
                                                                                        some (((0, 0, (0, 0), (0, 0), (0, 0), (0, 0), (0, 0), (0, 0), (0, 0), 0, 0), r61))
                                                                                       else
                                                                                        some (((r2.1, r3.1, (r4.1, r5.1), (r6.1, r7.1), (r8.1, r9.1), (r10.1, r11.1), (r12.1, r13.1), (r14.1, r15.1), (r16.1, r17.1), r18.1, r19.1), 0)))
                                                                                       (none))
                                                                                    (none)
                                                                                  else
                                                                                   none
                                                                                 else
                                                                                  optE (s10 (r2.1, r3.1, (r4.1, r5.1), (r6.1, r7.1), (r8.1, r9.1), (r10.1, r11.1), (r12.1, r13.1), (r14.1, r15.1), (r16.1, r17.1), r18.1, r19.1)) (fun r62 =>
                                                                                   bif r62 != 0 then
                                                                                    some (((0, 0, (0, 0), (0, 0), (0, 0), (0, 0), (0, 0), (0, 0), (0, 0), 0, 0), r62))
                                                                                   else
                                                                                    some (((r2.1, r3.1, (r4.1, r5.1), (r6.1, r7.1), (r8.1, r9.1), (r10.1, r11.1), (r12.1, r13.1), (r14.1, r15.1), (r16.1, r17.1), r18.1, r19.1), 0)))
                                                                                   (none))
                                                                                (none)
                                                                              else
                                                                               none
                                                                             else
                                                                              optE (s10 (r2.1, r3.1, (r4.1, r5.1), (r6.1, r7.1), (r8.1, r9.1), (r10.1, r11.1), (r12.1, r13.1), (r14.1, r15.1), (r16.1, r17.1), r18.1, r19.1)) (fun r63 =>
                                                                               bif r63 != 0 then
                                                                                some (((0, 0, (0, 0), (0, 0), (0, 0), (0, 0), (0, 0), (0, 0), (0, 0), 0, 0), r63))
                                                                               else
                                                                                some (((r2.1, r3.1, (r4.1, r5.1), (r6.1, r7.1), (r8.1, r9.1), (r10.1, r11.1), (r12.1, r13.1), (r14.1, r15.1), (r16.1, r17.1), r18.1, r19.1), 0)))
                                                                               (none))
                                                                            (none)
                                                                          else
                                                                           none
                                                                         else
                                                                          none)
                                                                        (none)
                                                                      else
                                                                       none
                                                                     else
                                                                      none)
                                                                    (none)
                                                                  else
                                                                   none
                                                                 else
                                                                  none)
                                                                (none)
                                                              else
                                                               none
                                                             else
                                                              none)
                                                            (none)
                                                          else
                                                           none
                                                         else
                                                          none)
                                                        (none)
                                                      else
                                                       none
                                                     else
                                                      none)
                                                    (none)
                                                  else
                                                   none
                                                 else
                                                  none)
                                                (none)
                                              else
                                               none
                                             else
                                              none)
                                            (none)
                                          else
                                           none
                                         else
                                          none)
                                        (none)
                                      else
                                       none
                                     else
                                      none)
                                    (none)
                                  else
                                   none
                                 else
                                  none)
                                (none)
                              else
                               none
                             else
                              none)
                            (none)
                          else
                           none
                         else
                          none)
                        (none)
                      else
                       none
                     else
                      none)
                    (none)
                  else
                   none
                 else
                  none)
                (none)
              else
               none
             else
              none)
           (none)
         else
          none
        else
         none)
      (none)
    else
     none
   else
    none)
  (none)
theorem i8 : ItemOk Tryz.prog (.fn 8 [.d .str] [.d (.agg (.pair zI (.pair zI (.pair zP (.pair zP (.pair zP (.pair zP (.pair zP (.pair zP (.pair zP zP)))))))))), .d zI] s8) := item_fnM md5 ext5 (U := 40) (n := 30) noSpecial mixed G20K10_ok (fun x => by kernel_rfl)
noncomputable def G20K11 : List Ev.Item := .fn 8 [.d .str] [.d (.agg (.pair zI (.pair zI (.pair zP (.pair zP (.pair zP (.pair zP (.pair zP (.pair zP (.pair zP zP)))))))))), .d zI] s8 :: G20K10
theorem G20K11_ok : ∀ q ∈ G20K11, ItemOk Tryz.prog q := items_cons i8 G20K10_ok
noncomputable def s9 : Int × Int × (Int × Int) × (Int × Int) × (Int × Int) × (Int × Int) × (Int × Int) × (Int × Int) × (Int × Int) × Int × Int → Option (ByteArray) := fun p =>
 optE (s43 p.1) (fun r1 =>
  bif decide (r1.size + (ByteArray.mk #[32]).size ≤ 9223372036854775807) then
   optE (s43 p.2.1) (fun r2 =>
    bif decide ((r1 ++ (ByteArray.mk #[32])).size + r2.size ≤ 9223372036854775807) then
     bif decide (((r1 ++ (ByteArray.mk #[32])) ++ r2).size + (ByteArray.mk #[32]).size ≤ 9223372036854775807) then
      optE (s43 p.2.2.1.1) (fun r3 =>
       bif decide ((((r1 ++ (ByteArray.mk #[32])) ++ r2) ++ (ByteArray.mk #[32])).size + r3.size ≤ 9223372036854775807) then
        bif decide (((((r1 ++ (ByteArray.mk #[32])) ++ r2) ++ (ByteArray.mk #[32])) ++ r3).size + (ByteArray.mk #[32]).size ≤ 9223372036854775807) then
         optE (s43 p.2.2.1.2) (fun r4 =>
          bif decide ((((((r1 ++ (ByteArray.mk #[32])) ++ r2) ++ (ByteArray.mk #[32])) ++ r3) ++ (ByteArray.mk #[32])).size + r4.size ≤ 9223372036854775807) then
           bif decide (((((((r1 ++ (ByteArray.mk #[32])) ++ r2) ++ (ByteArray.mk #[32])) ++ r3) ++ (ByteArray.mk #[32])) ++ r4).size + (ByteArray.mk #[32]).size ≤ 9223372036854775807) then
            optE (s43 p.2.2.2.1.1) (fun r5 =>
             bif decide ((((((((r1 ++ (ByteArray.mk #[32])) ++ r2) ++ (ByteArray.mk #[32])) ++ r3) ++ (ByteArray.mk #[32])) ++ r4) ++ (ByteArray.mk #[32])).size + r5.size ≤ 9223372036854775807) then
              bif decide (((((((((r1 ++ (ByteArray.mk #[32])) ++ r2) ++ (ByteArray.mk #[32])) ++ r3) ++ (ByteArray.mk #[32])) ++ r4) ++ (ByteArray.mk #[32])) ++ r5).size + (ByteArray.mk #[32]).size ≤ 9223372036854775807) then
               optE (s43 p.2.2.2.1.2) (fun r6 =>
                bif decide ((((((((((r1 ++ (ByteArray.mk #[32])) ++ r2) ++ (ByteArray.mk #[32])) ++ r3) ++ (ByteArray.mk #[32])) ++ r4) ++ (ByteArray.mk #[32])) ++ r5) ++ (ByteArray.mk #[32])).size + r6.size ≤ 9223372036854775807) then
                 bif decide (((((((((((r1 ++ (ByteArray.mk #[32])) ++ r2) ++ (ByteArray.mk #[32])) ++ r3) ++ (ByteArray.mk #[32])) ++ r4) ++ (ByteArray.mk #[32])) ++ r5) ++ (ByteArray.mk #[32])) ++ r6).size + (ByteArray.mk #[32]).size ≤ 9223372036854775807) then
                  optE (s43 p.2.2.2.2.1.1) (fun r7 =>
                   bif decide ((((((((((((r1 ++ (ByteArray.mk #[32])) ++ r2) ++ (ByteArray.mk #[32])) ++ r3) ++ (ByteArray.mk #[32])) ++ r4) ++ (ByteArray.mk #[32])) ++ r5) ++ (ByteArray.mk #[32])) ++ r6) ++ (ByteArray.mk #[32])).size + r7.size ≤ 9223372036854775807) then
                    bif decide (((((((((((((r1 ++ (ByteArray.mk #[32])) ++ r2) ++ (ByteArray.mk #[32])) ++ r3) ++ (ByteArray.mk #[32])) ++ r4) ++ (ByteArray.mk #[32])) ++ r5) ++ (ByteArray.mk #[32])) ++ r6) ++ (ByteArray.mk #[32])) ++ r7).size + (ByteArray.mk #[32]).size ≤ 9223372036854775807) then
                     optE (s43 p.2.2.2.2.1.2) (fun r8 =>
                      bif decide ((((((((((((((r1 ++ (ByteArray.mk #[32])) ++ r2) ++ (ByteArray.mk #[32])) ++ r3) ++ (ByteArray.mk #[32])) ++ r4) ++ (ByteArray.mk #[32])) ++ r5) ++ (ByteArray.mk #[32])) ++ r6) ++ (ByteArray.mk #[32])) ++ r7) ++ (ByteArray.mk #[32])).size + r8.size ≤ 9223372036854775807) then
                       bif decide (((((((((((((((r1 ++ (ByteArray.mk #[32])) ++ r2) ++ (ByteArray.mk #[32])) ++ r3) ++ (ByteArray.mk #[32])) ++ r4) ++ (ByteArray.mk #[32])) ++ r5) ++ (ByteArray.mk #[32])) ++ r6) ++ (ByteArray.mk #[32])) ++ r7) ++ (ByteArray.mk #[32])) ++ r8).size + (ByteArray.mk #[32]).size ≤ 9223372036854775807) then
                        optE (s43 p.2.2.2.2.2.1.1) (fun r9 =>
                         bif decide ((((((((((((((((r1 ++ (ByteArray.mk #[32])) ++ r2) ++ (ByteArray.mk #[32])) ++ r3) ++ (ByteArray.mk #[32])) ++ r4) ++ (ByteArray.mk #[32])) ++ r5) ++ (ByteArray.mk #[32])) ++ r6) ++ (ByteArray.mk #[32])) ++ r7) ++ (ByteArray.mk #[32])) ++ r8) ++ (ByteArray.mk #[32])).size + r9.size ≤ 9223372036854775807) then
                          bif decide (((((((((((((((((r1 ++ (ByteArray.mk #[32])) ++ r2) ++ (ByteArray.mk #[32])) ++ r3) ++ (ByteArray.mk #[32])) ++ r4) ++ (ByteArray.mk #[32])) ++ r5) ++ (ByteArray.mk #[32])) ++ r6) ++ (ByteArray.mk #[32])) ++ r7) ++ (ByteArray.mk #[32])) ++ r8) ++ (ByteArray.mk #[32])) ++ r9).size + (ByteArray.mk #[32]).size ≤ 9223372036854775807) then
                           optE (s43 p.2.2.2.2.2.1.2) (fun r10 =>
                            bif decide ((((((((((((((((((r1 ++ (ByteArray.mk #[32])) ++ r2) ++ (ByteArray.mk #[32])) ++ r3) ++ (ByteArray.mk #[32])) ++ r4) ++ (ByteArray.mk #[32])) ++ r5) ++ (ByteArray.mk #[32])) ++ r6) ++ (ByteArray.mk #[32])) ++ r7) ++ (ByteArray.mk #[32])) ++ r8) ++ (ByteArray.mk #[32])) ++ r9) ++ (ByteArray.mk #[32])).size + r10.size ≤ 9223372036854775807) then
                             bif decide (((((((((((((((((((r1 ++ (ByteArray.mk #[32])) ++ r2) ++ (ByteArray.mk #[32])) ++ r3) ++ (ByteArray.mk #[32])) ++ r4) ++ (ByteArray.mk #[32])) ++ r5) ++ (ByteArray.mk #[32])) ++ r6) ++ (ByteArray.mk #[32])) ++ r7) ++ (ByteArray.mk #[32])) ++ r8) ++ (ByteArray.mk #[32])) ++ r9) ++ (ByteArray.mk #[32])) ++ r10).size + (ByteArray.mk #[32]).size ≤ 9223372036854775807) then
                              optE (s43 p.2.2.2.2.2.2.1.1) (fun r11 =>
                               bif decide ((((((((((((((((((((r1 ++ (ByteArray.mk #[32])) ++ r2) ++ (ByteArray.mk #[32])) ++ r3) ++ (ByteArray.mk #[32])) ++ r4) ++ (ByteArray.mk #[32])) ++ r5) ++ (ByteArray.mk #[32])) ++ r6) ++ (ByteArray.mk #[32])) ++ r7) ++ (ByteArray.mk #[32])) ++ r8) ++ (ByteArray.mk #[32])) ++ r9) ++ (ByteArray.mk #[32])) ++ r10) ++ (ByteArray.mk #[32])).size + r11.size ≤ 9223372036854775807) then
                                bif decide (((((((((((((((((((((r1 ++ (ByteArray.mk #[32])) ++ r2) ++ (ByteArray.mk #[32])) ++ r3) ++ (ByteArray.mk #[32])) ++ r4) ++ (ByteArray.mk #[32])) ++ r5) ++ (ByteArray.mk #[32])) ++ r6) ++ (ByteArray.mk #[32])) ++ r7) ++ (ByteArray.mk #[32])) ++ r8) ++ (ByteArray.mk #[32])) ++ r9) ++ (ByteArray.mk #[32])) ++ r10) ++ (ByteArray.mk #[32])) ++ r11).size + (ByteArray.mk #[32]).size ≤ 9223372036854775807) then
                                 optE (s43 p.2.2.2.2.2.2.1.2) (fun r12 =>
                                  bif decide ((((((((((((((((((((((r1 ++ (ByteArray.mk #[32])) ++ r2) ++ (ByteArray.mk #[32])) ++ r3) ++ (ByteArray.mk #[32])) ++ r4) ++ (ByteArray.mk #[32])) ++ r5) ++ (ByteArray.mk #[32])) ++ r6) ++ (ByteArray.mk #[32])) ++ r7) ++ (ByteArray.mk #[32])) ++ r8) ++ (ByteArray.mk #[32])) ++ r9) ++ (ByteArray.mk #[32])) ++ r10) ++ (ByteArray.mk #[32])) ++ r11) ++ (ByteArray.mk #[32])).size + r12.size ≤ 9223372036854775807) then
                                   bif decide (((((((((((((((((((((((r1 ++ (ByteArray.mk #[32])) ++ r2) ++ (ByteArray.mk #[32])) ++ r3) ++ (ByteArray.mk #[32])) ++ r4) ++ (ByteArray.mk #[32])) ++ r5) ++ (ByteArray.mk #[32])) ++ r6) ++ (ByteArray.mk #[32])) ++ r7) ++ (ByteArray.mk #[32])) ++ r8) ++ (ByteArray.mk #[32])) ++ r9) ++ (ByteArray.mk #[32])) ++ r10) ++ (ByteArray.mk #[32])) ++ r11) ++ (ByteArray.mk #[32])) ++ r12).size + (ByteArray.mk #[32]).size ≤ 9223372036854775807) then
                                    optE (s43 p.2.2.2.2.2.2.2.1.1) (fun r13 =>
                                     bif decide ((((((((((((((((((((((((r1 ++ (ByteArray.mk #[32])) ++ r2) ++ (ByteArray.mk #[32])) ++ r3) ++ (ByteArray.mk #[32])) ++ r4) ++ (ByteArray.mk #[32])) ++ r5) ++ (ByteArray.mk #[32])) ++ r6) ++ (ByteArray.mk #[32])) ++ r7) ++ (ByteArray.mk #[32])) ++ r8) ++ (ByteArray.mk #[32])) ++ r9) ++ (ByteArray.mk #[32])) ++ r10) ++ (ByteArray.mk #[32])) ++ r11) ++ (ByteArray.mk #[32])) ++ r12) ++ (ByteArray.mk #[32])).size + r13.size ≤ 9223372036854775807) then
                                      bif decide (((((((((((((((((((((((((r1 ++ (ByteArray.mk #[32])) ++ r2) ++ (ByteArray.mk #[32])) ++ r3) ++ (ByteArray.mk #[32])) ++ r4) ++ (ByteArray.mk #[32])) ++ r5) ++ (ByteArray.mk #[32])) ++ r6) ++ (ByteArray.mk #[32])) ++ r7) ++ (ByteArray.mk #[32])) ++ r8) ++ (ByteArray.mk #[32])) ++ r9) ++ (ByteArray.mk #[32])) ++ r10) ++ (ByteArray.mk #[32])) ++ r11) ++ (ByteArray.mk #[32])) ++ r12) ++ (ByteArray.mk #[32])) ++ r13).size + (ByteArray.mk #[32]).size ≤ 9223372036854775807) then
                                       optE (s43 p.2.2.2.2.2.2.2.1.2) (fun r14 =>
                                        bif decide ((((((((((((((((((((((((((r1 ++ (ByteArray.mk #[32])) ++ r2) ++ (ByteArray.mk #[32])) ++ r3) ++ (ByteArray.mk #[32])) ++ r4) ++ (ByteArray.mk #[32])) ++ r5) ++ (ByteArray.mk #[32])) ++ r6) ++ (ByteArray.mk #[32])) ++ r7) ++ (ByteArray.mk #[32])) ++ r8) ++ (ByteArray.mk #[32])) ++ r9) ++ (ByteArray.mk #[32])) ++ r10) ++ (ByteArray.mk #[32])) ++ r11) ++ (ByteArray.mk #[32])) ++ r12) ++ (ByteArray.mk #[32])) ++ r13) ++ (ByteArray.mk #[32])).size + r14.size ≤ 9223372036854775807) then
                                         bif decide (((((((((((((((((((((((((((r1 ++ (ByteArray.mk #[32])) ++ r2) ++ (ByteArray.mk #[32])) ++ r3) ++ (ByteArray.mk #[32])) ++ r4) ++ (ByteArray.mk #[32])) ++ r5) ++ (ByteArray.mk #[32])) ++ r6) ++ (ByteArray.mk #[32])) ++ r7) ++ (ByteArray.mk #[32])) ++ r8) ++ (ByteArray.mk #[32])) ++ r9) ++ (ByteArray.mk #[32])) ++ r10) ++ (ByteArray.mk #[32])) ++ r11) ++ (ByteArray.mk #[32])) ++ r12) ++ (ByteArray.mk #[32])) ++ r13) ++ (ByteArray.mk #[32])) ++ r14).size + (ByteArray.mk #[32]).size ≤ 9223372036854775807) then
                                          optE (s43 p.2.2.2.2.2.2.2.2.1.1) (fun r15 =>
                                           bif decide ((((((((((((((((((((((((((((r1 ++ (ByteArray.mk #[32])) ++ r2) ++ (ByteArray.mk #[32])) ++ r3) ++ (ByteArray.mk #[32])) ++ r4) ++ (ByteArray.mk #[32])) ++ r5) ++ (ByteArray.mk #[32])) ++ r6) ++ (ByteArray.mk #[32])) ++ r7) ++ (ByteArray.mk #[32])) ++ r8) ++ (ByteArray.mk #[32])) ++ r9) ++ (ByteArray.mk #[32])) ++ r10) ++ (ByteArray.mk #[32])) ++ r11) ++ (ByteArray.mk #[32])) ++ r12) ++ (ByteArray.mk #[32])) ++ r13) ++ (ByteArray.mk #[32])) ++ r14) ++ (ByteArray.mk #[32])).size + r15.size ≤ 9223372036854775807) then
                                            bif decide (((((((((((((((((((((((((((((r1 ++ (ByteArray.mk #[32])) ++ r2) ++ (ByteArray.mk #[32])) ++ r3) ++ (ByteArray.mk #[32])) ++ r4) ++ (ByteArray.mk #[32])) ++ r5) ++ (ByteArray.mk #[32])) ++ r6) ++ (ByteArray.mk #[32])) ++ r7) ++ (ByteArray.mk #[32])) ++ r8) ++ (ByteArray.mk #[32])) ++ r9) ++ (ByteArray.mk #[32])) ++ r10) ++ (ByteArray.mk #[32])) ++ r11) ++ (ByteArray.mk #[32])) ++ r12) ++ (ByteArray.mk #[32])) ++ r13) ++ (ByteArray.mk #[32])) ++ r14) ++ (ByteArray.mk #[32])) ++ r15).size + (ByteArray.mk #[32]).size ≤ 9223372036854775807) then
                                             optE (s43 p.2.2.2.2.2.2.2.2.1.2) (fun r16 =>
                                              bif decide ((((((((((((((((((((((((((((((r1 ++ (ByteArray.mk #[32])) ++ r2) ++ (ByteArray.mk #[32])) ++ r3) ++ (ByteArray.mk #[32])) ++ r4) ++ (ByteArray.mk #[32])) ++ r5) ++ (ByteArray.mk #[32])) ++ r6) ++ (ByteArray.mk #[32])) ++ r7) ++ (ByteArray.mk #[32])) ++ r8) ++ (ByteArray.mk #[32])) ++ r9) ++ (ByteArray.mk #[32])) ++ r10) ++ (ByteArray.mk #[32])) ++ r11) ++ (ByteArray.mk #[32])) ++ r12) ++ (ByteArray.mk #[32])) ++ r13) ++ (ByteArray.mk #[32])) ++ r14) ++ (ByteArray.mk #[32])) ++ r15) ++ (ByteArray.mk #[32])).size + r16.size ≤ 9223372036854775807) then
                                               bif decide (((((((((((((((((((((((((((((((r1 ++ (ByteArray.mk #[32])) ++ r2) ++ (ByteArray.mk #[32])) ++ r3) ++ (ByteArray.mk #[32])) ++ r4) ++ (ByteArray.mk #[32])) ++ r5) ++ (ByteArray.mk #[32])) ++ r6) ++ (ByteArray.mk #[32])) ++ r7) ++ (ByteArray.mk #[32])) ++ r8) ++ (ByteArray.mk #[32])) ++ r9) ++ (ByteArray.mk #[32])) ++ r10) ++ (ByteArray.mk #[32])) ++ r11) ++ (ByteArray.mk #[32])) ++ r12) ++ (ByteArray.mk #[32])) ++ r13) ++ (ByteArray.mk #[32])) ++ r14) ++ (ByteArray.mk #[32])) ++ r15) ++ (ByteArray.mk #[32])) ++ r16).size + (ByteArray.mk #[32]).size ≤ 9223372036854775807) then
                                                optE (s43 p.2.2.2.2.2.2.2.2.2.1) (fun r17 =>
                                                 bif decide ((((((((((((((((((((((((((((((((r1 ++ (ByteArray.mk #[32])) ++ r2) ++ (ByteArray.mk #[32])) ++ r3) ++ (ByteArray.mk #[32])) ++ r4) ++ (ByteArray.mk #[32])) ++ r5) ++ (ByteArray.mk #[32])) ++ r6) ++ (ByteArray.mk #[32])) ++ r7) ++ (ByteArray.mk #[32])) ++ r8) ++ (ByteArray.mk #[32])) ++ r9) ++ (ByteArray.mk #[32])) ++ r10) ++ (ByteArray.mk #[32])) ++ r11) ++ (ByteArray.mk #[32])) ++ r12) ++ (ByteArray.mk #[32])) ++ r13) ++ (ByteArray.mk #[32])) ++ r14) ++ (ByteArray.mk #[32])) ++ r15) ++ (ByteArray.mk #[32])) ++ r16) ++ (ByteArray.mk #[32])).size + r17.size ≤ 9223372036854775807) then
                                                  bif decide (((((((((((((((((((((((((((((((((r1 ++ (ByteArray.mk #[32])) ++ r2) ++ (ByteArray.mk #[32])) ++ r3) ++ (ByteArray.mk #[32])) ++ r4) ++ (ByteArray.mk #[32])) ++ r5) ++ (ByteArray.mk #[32])) ++ r6) ++ (ByteArray.mk #[32])) ++ r7) ++ (ByteArray.mk #[32])) ++ r8) ++ (ByteArray.mk #[32])) ++ r9) ++ (ByteArray.mk #[32])) ++ r10) ++ (ByteArray.mk #[32])) ++ r11) ++ (ByteArray.mk #[32])) ++ r12) ++ (ByteArray.mk #[32])) ++ r13) ++ (ByteArray.mk #[32])) ++ r14) ++ (ByteArray.mk #[32])) ++ r15) ++ (ByteArray.mk #[32])) ++ r16) ++ (ByteArray.mk #[32])) ++ r17).size + (ByteArray.mk #[32]).size ≤ 9223372036854775807) then
                                                   optE (s43 p.2.2.2.2.2.2.2.2.2.2) (fun r18 =>
                                                    bif decide ((((((((((((((((((((((((((((((((((r1 ++ (ByteArray.mk #[32])) ++ r2) ++ (ByteArray.mk #[32])) ++ r3) ++ (ByteArray.mk #[32])) ++ r4) ++ (ByteArray.mk #[32])) ++ r5) ++ (ByteArray.mk #[32])) ++ r6) ++ (ByteArray.mk #[32])) ++ r7) ++ (ByteArray.mk #[32])) ++ r8) ++ (ByteArray.mk #[32])) ++ r9) ++ (ByteArray.mk #[32])) ++ r10) ++ (ByteArray.mk #[32])) ++ r11) ++ (ByteArray.mk #[32])) ++ r12) ++ (ByteArray.mk #[32])) ++ r13) ++ (ByteArray.mk #[32])) ++ r14) ++ (ByteArray.mk #[32])) ++ r15) ++ (ByteArray.mk #[32])) ++ r16) ++ (ByteArray.mk #[32])) ++ r17) ++ (ByteArray.mk #[32])).size + r18.size ≤ 9223372036854775807) then
                                                     some ((((((((((((((((((((((((((((((((((r1 ++ (ByteArray.mk #[32])) ++ r2) ++ (ByteArray.mk #[32])) ++ r3) ++ (ByteArray.mk #[32])) ++ r4) ++ (ByteArray.mk #[32])) ++ r5) ++ (ByteArray.mk #[32])) ++ r6) ++ (ByteArray.mk #[32])) ++ r7) ++ (ByteArray.mk #[32])) ++ r8) ++ (ByteArray.mk #[32])) ++ r9) ++ (ByteArray.mk #[32])) ++ r10) ++ (ByteArray.mk #[32])) ++ r11) ++ (ByteArray.mk #[32])) ++ r12) ++ (ByteArray.mk #[32])) ++ r13) ++ (ByteArray.mk #[32])) ++ r14) ++ (ByteArray.mk #[32])) ++ r15) ++ (ByteArray.mk #[32])) ++ r16) ++ (ByteArray.mk #[32])) ++ r17) ++ (ByteArray.mk #[32])) ++ r18)
                                                    else
                                                     none)
                                                    (none)
                                                  else
                                                   none
                                                 else
                                                  none)
                                                 (none)
                                               else
                                                none
                                              else
                                               none)
                                              (none)
                                            else
                                             none
                                           else
                                            none)
                                           (none)
                                         else
                                          none
                                        else
                                         none)
                                        (none)
                                      else
                                       none
                                     else
                                      none)
                                     (none)
                                   else
                                    none
                                  else
                                   none)
                                  (none)
                                else
                                 none
                               else
                                none)
                               (none)
                             else
                              none
                            else
                             none)
                            (none)
                          else
                           none
                         else
                          none)
                         (none)
                       else
                        none
                      else
                       none)
                      (none)
                    else
                     none
                   else
                    none)
                   (none)
                 else
                  none
                else
                 none)
                (none)
              else
               none
             else
              none)
             (none)
           else
            none
          else
           none)
          (none)
        else
         none
       else
        none)
       (none)
     else
      none
    else
     none)
    (none)
  else
   none)
  (none)
theorem i9 : ItemOk Tryz.prog (.fn 9 [.d (.agg (.pair zI (.pair zI (.pair zP (.pair zP (.pair zP (.pair zP (.pair zP (.pair zP (.pair zP zP))))))))))] [.d .str] s9) := item_fnM md5 ext5 (U := 40) (n := 30) noSpecial mixed G20K11_ok (fun x => by kernel_rfl)
noncomputable def G20K12 : List Ev.Item := .fn 9 [.d (.agg (.pair zI (.pair zI (.pair zP (.pair zP (.pair zP (.pair zP (.pair zP (.pair zP (.pair zP zP))))))))))] [.d .str] s9 :: G20K11
theorem G20K12_ok : ∀ q ∈ G20K12, ItemOk Tryz.prog q := items_cons i9 G20K11_ok
noncomputable def s3 : (Int × Int × (Int × Int) × (Int × Int) × (Int × Int) × (Int × Int) × (Int × Int) × (Int × Int) × (Int × Int) × Int × Int) × ByteArray → Option (Bool) := fun (p, s) =>
 bif !true then
  some (false)
 else
  bif decide ((s.size : Int) > 160) then
   some (true)
  else
   optE (s6 p) (fun r1 =>
    optE (s7 s) (fun r2 =>
     optE (s8 s) (fun r3 =>
      optE (s9 p) (fun r4 =>
       bif !(decide (r1.data.toList = r4.data.toList)) then
        some (false)
       else
        bif r2.2 != r3.2 then
         some (false)
        else
         bif !((r2.1.1 == r3.1.1) && ((r2.1.2.1 == r3.1.2.1) && ((((r2.1.2.2.1.1 == r3.1.2.2.1.1) && ((r2.1.2.2.1.2 == r3.1.2.2.1.2) && true)) && (((r2.1.2.2.2.1.1 == r3.1.2.2.2.1.1) && ((r2.1.2.2.2.1.2 == r3.1.2.2.2.1.2) && true)) && (((r2.1.2.2.2.2.1.1 == r3.1.2.2.2.2.1.1) && ((r2.1.2.2.2.2.1.2 == r3.1.2.2.2.2.1.2) && true)) && (((r2.1.2.2.2.2.2.1.1 == r3.1.2.2.2.2.2.1.1) && ((r2.1.2.2.2.2.2.1.2 == r3.1.2.2.2.2.2.1.2) && true)) && (((r2.1.2.2.2.2.2.2.1.1 == r3.1.2.2.2.2.2.2.1.1) && ((r2.1.2.2.2.2.2.2.1.2 == r3.1.2.2.2.2.2.2.1.2) && true)) && (((r2.1.2.2.2.2.2.2.2.1.1 == r3.1.2.2.2.2.2.2.2.1.1) && ((r2.1.2.2.2.2.2.2.2.1.2 == r3.1.2.2.2.2.2.2.2.1.2) && true)) && (((r2.1.2.2.2.2.2.2.2.2.1.1 == r3.1.2.2.2.2.2.2.2.2.1.1) && ((r2.1.2.2.2.2.2.2.2.2.1.2 == r3.1.2.2.2.2.2.2.2.2.1.2) && true)) && (((r2.1.2.2.2.2.2.2.2.2.2.1 == r3.1.2.2.2.2.2.2.2.2.2.1) && ((r2.1.2.2.2.2.2.2.2.2.2.2 == r3.1.2.2.2.2.2.2.2.2.2.2) && true)) && true)))))))) && true))) then
          some (false)
         else
          optE (s10 p) (fun r5 =>
           bif r5 != 0 then
            some (true)
           else
            optE (s7 r1) (fun r6 =>
             bif r6.2 == 0 then
              some ((r6.1.1 == p.1) && ((r6.1.2.1 == p.2.1) && ((((r6.1.2.2.1.1 == p.2.2.1.1) && ((r6.1.2.2.1.2 == p.2.2.1.2) && true)) && (((r6.1.2.2.2.1.1 == p.2.2.2.1.1) && ((r6.1.2.2.2.1.2 == p.2.2.2.1.2) && true)) && (((r6.1.2.2.2.2.1.1 == p.2.2.2.2.1.1) && ((r6.1.2.2.2.2.1.2 == p.2.2.2.2.1.2) && true)) && (((r6.1.2.2.2.2.2.1.1 == p.2.2.2.2.2.1.1) && ((r6.1.2.2.2.2.2.1.2 == p.2.2.2.2.2.1.2) && true)) && (((r6.1.2.2.2.2.2.2.1.1 == p.2.2.2.2.2.2.1.1) && ((r6.1.2.2.2.2.2.2.1.2 == p.2.2.2.2.2.2.1.2) && true)) && (((r6.1.2.2.2.2.2.2.2.1.1 == p.2.2.2.2.2.2.2.1.1) && ((r6.1.2.2.2.2.2.2.2.1.2 == p.2.2.2.2.2.2.2.1.2) && true)) && (((r6.1.2.2.2.2.2.2.2.2.1.1 == p.2.2.2.2.2.2.2.2.1.1) && ((r6.1.2.2.2.2.2.2.2.2.1.2 == p.2.2.2.2.2.2.2.2.1.2) && true)) && (((r6.1.2.2.2.2.2.2.2.2.2.1 == p.2.2.2.2.2.2.2.2.2.1) && ((r6.1.2.2.2.2.2.2.2.2.2.2 == p.2.2.2.2.2.2.2.2.2.2) && true)) && true)))))))) && true)))
             else
              some (false))
             (none))
           (none))
       (none))
      (none))
     (none))
    (none)
theorem i3 : ItemOk Tryz.prog (.fn 3 [.d (.agg (.pair zI (.pair zI (.pair zP (.pair zP (.pair zP (.pair zP (.pair zP (.pair zP (.pair zP zP)))))))))), .d .str] [.d .bool] s3) := item_fnM md5 ext5 (U := 9) (n := 12) noSpecial mixed G20K12_ok (fun x => by kernel_rfl)
noncomputable def G20K13 : List Ev.Item := .fn 3 [.d (.agg (.pair zI (.pair zI (.pair zP (.pair zP (.pair zP (.pair zP (.pair zP (.pair zP (.pair zP zP)))))))))), .d .str] [.d .bool] s3 :: G20K12
theorem G20K13_ok : ∀ q ∈ G20K13, ItemOk Tryz.prog q := items_cons i3 G20K12_ok
end Go.Proofs.YtcdpgjlaajdfmaaGreatDoor
