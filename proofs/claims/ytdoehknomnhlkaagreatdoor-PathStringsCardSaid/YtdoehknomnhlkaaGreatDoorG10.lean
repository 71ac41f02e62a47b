import Derived.Test.YtdoehknomnhlkaaGreatDoorG1a
import Derived.Test.YtdoehknomnhlkaaGreatDoorGs0
set_option linter.unusedSimpArgs false
set_option maxRecDepth 100000
namespace Go.Proofs.YtdoehknomnhlkaaGreatDoor
open Go.Ev
noncomputable def G10K1 : List Ev.Item := .fn 261 [.d zI, .d zI, .d zI] [.d .bool] s261 :: Gs0K11
theorem G10K1_ok : ∀ q ∈ G10K1, ItemOk Tryz.prog q := items_cons i261 Gs0K11_ok
noncomputable def G10K2 : List Ev.Item := .fn 262 [.d (.agg (.pair (.slice (.agg zF)) zI))] [.d zI] s262 :: G10K1
theorem G10K2_ok : ∀ q ∈ G10K2, ItemOk Tryz.prog q := items_cons i262 G10K1_ok
noncomputable def G10K3 : List Ev.Item := .fn 277 [.d .bool, .d zI] [.d zI] s277 :: G10K2
theorem G10K3_ok : ∀ q ∈ G10K3, ItemOk Tryz.prog q := items_cons i277 G10K2_ok
noncomputable def G10K4 : List Ev.Item := .fn 319 [.d zI, .d zI] [.d .bool] s319 :: G10K3
theorem G10K4_ok : ∀ q ∈ G10K4, ItemOk Tryz.prog q := items_cons i319 G10K3_ok
noncomputable def G10K5 : List Ev.Item := .fn 314 [.d (.agg (.pair zI zP))] [.d (.agg (.pair zI zP))] s314 :: G10K4
theorem G10K5_ok : ∀ q ∈ G10K5, ItemOk Tryz.prog q := items_cons i314 G10K4_ok
noncomputable def G10K6 : List Ev.Item := .fn 269 [.d zI] [.d (.agg (.pair (.int .u64) (.int .u64)))] s269 :: G10K5
theorem G10K6_ok : ∀ q ∈ G10K6, ItemOk Tryz.prog q := items_cons i269 G10K5_ok
noncomputable def G10K7 : List Ev.Item := .fn 315 [.d (.agg (.pair zI zP)), .d (.agg (.pair zI zP))] [.d (.agg (.pair zI zP))] s315 :: G10K6
theorem G10K7_ok : ∀ q ∈ G10K7, ItemOk Tryz.prog q := items_cons i315 G10K6_ok
noncomputable def G10K8 : List Ev.Item := .fn 327 [.d (.agg (.pair zI zP)), .d (.agg (.pair zI zP))] [.d zI] s327 :: G10K7
theorem G10K8_ok : ∀ q ∈ G10K8, ItemOk Tryz.prog q := items_cons i327 G10K7_ok
noncomputable def G10K9 : List Ev.Item := .fn 268 [.d (.agg (.pair (.int .u64) (.int .u64))), .d (.agg (.pair (.int .u64) (.int .u64)))] [.d .bool] s268 :: G10K8
theorem G10K9_ok : ∀ q ∈ G10K9, ItemOk Tryz.prog q := items_cons i268 G10K8_ok
noncomputable def G10K10 : List Ev.Item := .fn 343 [.d (.agg (.pair (.int .u64) (.int .u64))), .d (.agg (.pair (.int .u64) (.int .u64)))] [.d (.agg (.pair (.int .u64) (.int .u64)))] s343 :: G10K9
theorem G10K10_ok : ∀ q ∈ G10K10, ItemOk Tryz.prog q := items_cons i343 G10K9_ok
noncomputable def G10K11 : List Ev.Item := .fn 41 [] [.d .bool] (fun _ => some true) :: G10K10
theorem G10K11_ok : ∀ q ∈ G10K11, ItemOk Tryz.prog q := items_cons i41 G10K10_ok
noncomputable def s42 : (List (Int × Int × Int × Int)) × Int → Option (Bool) := fun p =>
 some (decide ((p.1.length : Int) ≤ 14))
theorem i42 : ItemOk Tryz.prog (.fn 42 [.d (.agg (.pair (.slice (.agg zF)) zI))] [.d .bool] s42) := item_fnM md5 ext5 (U := 9) (n := 12) noSpecial mixed G10K11_ok (fun x => by kernel_rfl)
noncomputable def G10K12 : List Ev.Item := .fn 42 [.d (.agg (.pair (.slice (.agg zF)) zI))] [.d .bool] s42 :: G10K11
theorem G10K12_ok : ∀ q ∈ G10K12, ItemOk Tryz.prog q := items_cons i42 G10K11_ok
noncomputable def s44 : (List (Int × Int × Int × Int)) × Int → Option ((List (Int × Int × Int × Int)) × Int) := fun p =>
 listE (p.1)
  (some (([], p.2)))
  (fun y1 l2 =>
    bif room 32 (l2.length + 1) then
     some ((y1 :: l2, p.2))
    else
     none)
theorem i44 : ItemOk Tryz.prog (.fn 44 [.d (.agg (.pair (.slice (.agg zF)) zI))] [.d (.agg (.pair (.slice (.agg zF)) zI))] s44) := item_fnM md5 ext5 (U := 9) (n := 12) noSpecial mixed G10K12_ok (fun x => by kernel_rfl)
noncomputable def G10K13 : List Ev.Item := .fn 44 [.d (.agg (.pair (.slice (.agg zF)) zI))] [.d (.agg (.pair (.slice (.agg zF)) zI))] s44 :: G10K12
theorem G10K13_ok : ∀ q ∈ G10K13, ItemOk Tryz.prog q := items_cons i44 G10K12_ok
@[reducible] def T43_2 : Tmpl := ⟨53, [], [.own 3 49 9 .str, .own 6 43 9 .str, .val 14 (.slice (.agg zF)), .val 15 zI, .val 16 zI, .own 33 33 3 zI, .val 34 zI, .val 35 zI], [], none⟩
@[reducible] def X43_2 : List (Ex × Tmpl) := [(.exit 2, ⟨53, [], [.own 3 49 9 .str, .own 6 43 9 .str, .val 14 (.slice (.agg zF)), .val 15 zI, .val 16 zI], [], none⟩)]
noncomputable def step43_2 : (List ByteArray) × (List ByteArray) × (List (Int × Int × Int × Int)) × Int × Int × (List Int) × Int × Int → Option (((List ByteArray) × (List ByteArray) × (List (Int × Int × Int × Int)) × Int × Int × (List Int) × Int × Int) ⊕ ((List ByteArray) × (List ByteArray) × (List (Int × Int × Int × Int)) × Int × Int)) := fun (w, l, t14, t15, t16, t33, t34, t35) =>
 bif decide (t35 < t34) then
  bif inBounds t35 t33.length then
   optE (itoaF (t33.getD t35.toNat 0)) (fun r2 =>
    bif room 16 (l.length + 1) then
     some (.inl (w, l ++ [r2], t14, t15, t16, t33, t34, wr (t35 + 1)))
    else
     none)
    (none)
  else
   none
 else
  some (.inr (w, l, t14, t15, t16))
theorem one43_2 : oneLoop Tryz.prog 43 2 = true := by kernel_rfl
theorem lp43_2 : ItemOk Tryz.prog (.loop 43 2 T43_2 X43_2 (loopVal step43_2)) := item_loopM md5 ext5 (U := 9) (n := 11) noSpecial mixed G10K13_ok one43_2 (fun x => by kernel_rfl)
noncomputable def G10K14 : List Ev.Item := .loop 43 2 T43_2 X43_2 (loopVal step43_2) :: G10K13
theorem G10K14_ok : ∀ q ∈ G10K14, ItemOk Tryz.prog q := items_cons lp43_2 G10K13_ok
@[reducible] def T43_0 : Tmpl := ⟨53, [], [.own 3 49 9 .str, .val 14 (.slice (.agg zF)), .val 15 zI, .val 16 zI], [], none⟩
@[reducible] def X43_0 : List (Ex × Tmpl) := [(.exit 0, ⟨53, [], [.own 3 49 9 .str], [], none⟩)]
noncomputable def step43_0 : (List ByteArray) × (List (Int × Int × Int × Int)) × Int × Int → Option (((List ByteArray) × (List (Int × Int × Int × Int)) × Int × Int) ⊕ (List ByteArray)) := fun (w, t14, t15, t16) =>
 bif decide (t16 < t15) then
  bif inBounds t16 t14.length then
   optE (loopVal step43_2 (w, [], t14, t15, t16, [(t14.getD t16.toNat (0, 0, 0, 0)).1, (t14.getD t16.toNat (0, 0, 0, 0)).2.1, (t14.getD t16.toNat (0, 0, 0, 0)).2.2.1, (t14.getD t16.toNat (0, 0, 0, 0)).2.2.2], 4, 0)) (fun e2 =>
    optE (joinF (e2.2.1, (ByteArray.mk #[32]))) (fun r3 =>
     bif room 16 (e2.1.length + 1) then
      some (.inl (e2.1 ++ [r3], e2.2.2.1, e2.2.2.2.1, wr (e2.2.2.2.2 + 1)))
     else
      none)
     (none))
    (none)
  else
   none
 else
  some (.inr w)
theorem one43_0 : oneLoop Tryz.prog 43 0 = true := by kernel_rfl
theorem lp43_0 : ItemOk Tryz.prog (.loop 43 0 T43_0 X43_0 (loopVal step43_0)) := item_loopM md5 ext5 (U := 9) (n := 11) noSpecial mixed G10K14_ok one43_0 (fun x => by kernel_rfl)
noncomputable def G10K15 : List Ev.Item := .loop 43 0 T43_0 X43_0 (loopVal step43_0) :: G10K14
theorem G10K15_ok : ∀ q ∈ G10K15, ItemOk Tryz.prog q := items_cons lp43_0 G10K14_ok
noncomputable def s43 : (List (Int × Int × Int × Int)) × Int → Option (ByteArray) := fun p =>
 optE (itoaF p.2) (fun r1 =>
  optE (loopVal step43_0 ([r1], p.1, (p.1.length : Int), 0)) (fun e2 =>
   optE (joinF (e2, (ByteArray.mk #[59]))) (fun r3 =>
    some (r3))
    (none))
   (none))
  (none)
theorem i43 : ItemOk Tryz.prog (.fn 43 [.d (.agg (.pair (.slice (.agg zF)) zI))] [.d .str] s43) := item_fnM md5 ext5 (U := 9) (n := 12) noSpecial mixed G10K15_ok (fun x => by kernel_rfl)
noncomputable def G10K16 : List Ev.Item := .fn 43 [.d (.agg (.pair (.slice (.agg zF)) zI))] [.d .str] s43 :: G10K15
theorem G10K16_ok : ∀ q ∈ G10K16, ItemOk Tryz.prog q := items_cons i43 G10K15_ok
noncomputable def s128 : ByteArray × Int × Bool → Option (Int × Bool) := fun (s, digits, below) =>
 optE (atoiF s) (fun r1 =>
  bif !r1.2 then
   optE (itoaF r1.1) (fun r2 =>
    bif decide (r2.data.toList = s.data.toList) then
     bif below then
      optE (trimF (s, (ByteArray.mk #[45]))) (fun r3 =>
       some ((r1.1, decide ((r3.size : Int) ≤ digits))))
       (none)
     else
      bif decide (r1.1 ≥ 0) then
       optE (trimF (s, (ByteArray.mk #[45]))) (fun r4 =>
        some ((r1.1, decide ((r4.size : Int) ≤ digits))))
        (none)
      else
       some ((r1.1, false))
    else
     some ((r1.1, false)))
    (none)
  else
   some ((r1.1, false)))
  (none)
theorem i128 : ItemOk Tryz.prog (.fn 128 [.d .str, .d zI, .d .bool] [.d zI, .d .bool] s128) := item_fnM md5 ext5 (U := 9) (n := 12) noSpecial mixed G10K16_ok (fun x => by kernel_rfl)
noncomputable def G10K17 : List Ev.Item := .fn 128 [.d .str, .d zI, .d .bool] [.d zI, .d .bool] s128 :: G10K16
theorem G10K17_ok : ∀ q ∈ G10K17, ItemOk Tryz.prog q := items_cons i128 G10K16_ok
noncomputable def s129 : ByteArray → Option ((Int × Int × Int × Int) × Bool) := fun s =>
 optE (splitF (s, (ByteArray.mk #[32]))) (fun r1 =>
  bif (r1.length : Int) != 4 then
   some (((0, 0, 0, 0), false))
  else
   bif inBounds 0 r1.length then
    optE (s128 (r1.getD 0 ByteArray.empty, 13, false)) (fun r2 =>
     bif !r2.2 then
      some (((0, 0, 0, 0), false))
     else
      bif inBounds 1 r1.length then
       optE (s128 (r1.getD 1 ByteArray.empty, 7, true)) (fun r3 =>
        bif !r3.2 then
         some (((r2.1, 0, 0, 0), false))
        else
         bif inBounds 2 r1.length then
          optE (s128 (r1.getD 2 ByteArray.empty, 7, true)) (fun r4 =>
           bif !r4.2 then
            some (((r2.1, r3.1, 0, 0), false))
           else
            bif inBounds 3 r1.length then
             optE (s128 (r1.getD 3 ByteArray.empty, 7, true)) (fun r5 =>
              bif !r5.2 then
               some (((r2.1, r3.1, r4.1, 0), false))
              else
               some (((r2.1, r3.1, r4.1, r5.1), true)))
              (none)
            else
             none)
           (none)
         else
          none)
        (none)
      else
       none)
     (none)
   else
    none)
  (none)
theorem i129 : ItemOk Tryz.prog (.fn 129 [.d .str] [.d (.agg zF), .d .bool] s129) := item_fnM md5 ext5 (U := 40) (n := 30) noSpecial mixed G10K17_ok (fun x => by kernel_rfl)
noncomputable def G10K18 : List Ev.Item := .fn 129 [.d .str] [.d (.agg zF), .d .bool] s129 :: G10K17
theorem G10K18_ok : ∀ q ∈ G10K18, ItemOk Tryz.prog q := items_cons i129 G10K17_ok
@[reducible] def T275_0 : Tmpl := ⟨15, [], [.val 5 (.slice zI), .val 6 zI, .val 7 zI], [], none⟩
@[reducible] def X275_0 : List (Ex × Tmpl) := [(.ret, ⟨15, [], [.val 2 zI], [], none⟩), (.exit 0, ⟨15, [], [], [], none⟩)]
noncomputable def step275_0 : (List Int) × Int × Int → Option (((List Int) × Int × Int) ⊕ ((Int) ⊕ (Unit))) := fun (t5, t6, t7) =>
 bif decide (t7 < t6) then
  bif inBounds t7 t5.length then
   bif (t5.getD t7.toNat 0) != 0 then
    some (.inr (.inl (t5.getD t7.toNat 0)))
   else
    some (.inl (t5, t6, wr (t7 + 1)))
  else
   none
 else
  some (.inr (.inr ()))
theorem one275_0 : oneLoop Tryz.prog 275 0 = true := by kernel_rfl
theorem lp275_0 : ItemOk Tryz.prog (.loop 275 0 T275_0 X275_0 (loopVal step275_0)) := item_loopM md5 ext5 (U := 9) (n := 11) noSpecial mixed G10K18_ok one275_0 (fun x => by kernel_rfl)
noncomputable def G10K19 : List Ev.Item := .loop 275 0 T275_0 X275_0 (loopVal step275_0) :: G10K18
theorem G10K19_ok : ∀ q ∈ G10K19, ItemOk Tryz.prog q := items_cons lp275_0 G10K18_ok
noncomputable def s275 : List Int → Option (Int) := fun l =>
 optE (loopVal step275_0 (l, (l.length : Int), 0)) (fun e1 =>
  sumE e1 (fun e2 =>
   some (e2)) (fun _ =>
   some (0)))
  (none)
theorem i275 : ItemOk Tryz.prog (.fn 275 [.d (.slice zI)] [.d zI] s275) := item_fnM md5 ext5 (U := 9) (n := 12) noSpecial mixed G10K19_ok (fun x => by kernel_rfl)
noncomputable def G10K20 : List Ev.Item := .fn 275 [.d (.slice zI)] [.d zI] s275 :: G10K19
theorem G10K20_ok : ∀ q ∈ G10K20, ItemOk Tryz.prog q := items_cons i275 G10K19_ok
noncomputable def s325 : Int → Option (Bool) := fun n =>
 optE (s319 (n, 1000000)) (fun r1 =>
  some (r1))
  (none)
theorem i325 : ItemOk Tryz.prog (.fn 325 [.d zI] [.d .bool] s325) := item_fnM md5 ext5 (U := 9) (n := 12) noSpecial mixed G10K20_ok (fun x => by kernel_rfl)
noncomputable def G10K21 : List Ev.Item := .fn 325 [.d zI] [.d .bool] s325 :: G10K20
theorem G10K21_ok : ∀ q ∈ G10K21, ItemOk Tryz.prog q := items_cons i325 G10K20_ok
noncomputable def s282 : (Int × Int × Int × Int) × (Int × Int × Int × Int) → Option (Int) := fun (k, before) =>
 optE (s314 k.2) (fun r1 =>
  optE (s261 (k.1, 0, 1000000000000)) (fun r2 =>
   bif r2 then
    optE (s325 r1.1) (fun r3 =>
     bif r3 then
      optE (s325 r1.2.1) (fun r4 =>
       bif r4 then
        optE (s325 r1.2.2) (fun r5 =>
         optE (s277 (r5, 2)) (fun r6 =>
          bif r6 != 0 then
           some (r6)
          else
           optE (s314 before.2) (fun r7 =>
            optE (s315 (r1, r7)) (fun r8 =>
             optE (s277 (decide ((wr (k.1 - before.1)) > 0), 9)) (fun r9 =>
              optE (s277 (decide ((wr (k.1 - before.1)) ≤ 10000), 14)) (fun r10 =>
               optE (s327 (r8, r8)) (fun r11 =>
                optE (s277 (decide ((wr (4 * r11)) ≤ (wr ((wr (k.1 - before.1)) * (wr (k.1 - before.1))))), 23)) (fun r12 =>
                 optE (s275 [r9, r10, r12]) (fun r13 =>
                  some (r13))
                  (none))
                 (none))
                (none))
               (none))
              (none))
             (none))
            (none))
          (none))
         (none)
       else
        optE (s277 (false, 2)) (fun r14 =>
         bif r14 != 0 then
          some (r14)
         else
          optE (s314 before.2) (fun r15 =>
           optE (s315 (r1, r15)) (fun r16 =>
            optE (s277 (decide ((wr (k.1 - before.1)) > 0), 9)) (fun r17 =>
             optE (s277 (decide ((wr (k.1 - before.1)) ≤ 10000), 14)) (fun r18 =>
              optE (s327 (r16, r16)) (fun r19 =>
               optE (s277 (decide ((wr (4 * r19)) ≤ (wr ((wr (k.1 - before.1)) * (wr (k.1 - before.1))))), 23)) (fun r20 =>
                optE (s275 [r17, r18, r20]) (fun r21 =>
                 some (r21))
                 (none))
                (none))
               (none))
              (none))
             (none))
            (none))
           (none))
         (none))
       (none)
     else
      optE (s277 (false, 2)) (fun r22 =>
       bif r22 != 0 then
        some (r22)
       else
        optE (s314 before.2) (fun r23 =>
         optE (s315 (r1, r23)) (fun r24 =>
          optE (s277 (decide ((wr (k.1 - before.1)) > 0), 9)) (fun r25 =>
           optE (s277 (decide ((wr (k.1 - before.1)) ≤ 10000), 14)) (fun r26 =>
            optE (s327 (r24, r24)) (fun r27 =>
             optE (s277 (decide ((wr (4 * r27)) ≤ (wr ((wr (k.1 - before.1)) * (wr (k.1 - before.1))))), 23)) (fun r28 =>
              optE (s275 [r25, r26, r28]) (fun r29 =>
               some (r29))
               (none))
              (none))
             (none))
            (none))
           (none))
          (none))
         (none))
       (none))
     (none)
   else
    optE (s277 (false, 2)) (fun r30 =>
     bif r30 != 0 then
      some (r30)
     else
      optE (s314 before.2) (fun r31 =>
       optE (s315 (r1, r31)) (fun r32 =>
        optE (s277 (decide ((wr (k.1 - before.1)) > 0), 9)) (fun r33 =>
         optE (s277 (decide ((wr (k.1 - before.1)) ≤ 10000), 14)) (fun r34 =>
          optE (s327 (r32, r32)) (fun r35 =>
           optE (s277 (decide ((wr (4 * r35)) ≤ (wr ((wr (k.1 - before.1)) * (wr (k.1 - before.1))))), 23)) (fun r36 =>
            optE (s275 [r33, r34, r36]) (fun r37 =>
             some (r37))
             (none))
            (none))
           (none))
          (none))
         (none))
        (none))
       (none))
     (none))
   (none))
  (none)
theorem i282 : ItemOk Tryz.prog (.fn 282 [.d (.agg zF), .tgt zF] [.d zI] s282) := item_fnM md5 ext5 (U := 9) (n := 12) noSpecial mixed G10K21_ok (fun x => by kernel_rfl)
noncomputable def G10K22 : List Ev.Item := .fn 282 [.d (.agg zF), .tgt zF] [.d zI] s282 :: G10K21
theorem G10K22_ok : ∀ q ∈ G10K22, ItemOk Tryz.prog q := items_cons i282 G10K21_ok
@[reducible] def T207_0 : Tmpl := ⟨49, [(1, .ref 1 0 0 0)], [.val 5 (.optr (.agg zF)), .val 25 zI, .val 26 zI, .cells 1 [.d (.pair (.slice (.agg zF)) zI)]], [], none⟩
@[reducible] def X207_0 : List (Ex × Tmpl) := [(.ret, ⟨49, [], [.val 2 zI, .val 3 zI], [], none⟩), (.exit 0, ⟨49, [(1, .ref 1 0 0 0)], [.cells 1 [.d (.pair (.slice (.agg zF)) zI)]], [], none⟩)]
noncomputable def step207_0 : (Option (Int × Int × Int × Int)) × Int × Int × ((List (Int × Int × Int × Int)) × Int) → Option (((Option (Int × Int × Int × Int)) × Int × Int × ((List (Int × Int × Int × Int)) × Int)) ⊕ ((Int × Int) ⊕ (((List (Int × Int × Int × Int)) × Int)))) := fun (before, t25, t26, p) =>
 bif decide (t26 < t25) then
  bif inBounds t26 p.1.length then
   optE (s314 (p.1.getD t26.toNat (0, 0, 0, 0)).2) (fun r4 =>
    optE (s261 ((p.1.getD t26.toNat (0, 0, 0, 0)).1, 0, 1000000000000)) (fun r5 =>
     bif r5 then
      optE (s325 r4.1) (fun r6 =>
       bif r6 then
        optE (s325 r4.2.1) (fun r7 =>
         bif r7 then
          optE (s325 r4.2.2) (fun r8 =>
           optE (s277 (r8, 2)) (fun r9 =>
            bif r9 != 0 then
             bif r9 != 0 then
              some (.inr (.inl (t26, r9)))
             else
              bif inBounds t26 p.1.length then
               some (.inl (some (p.1.getD t26.toNat (0, 0, 0, 0)), t25, wr (t26 + 1), p))
              else
               none
            else
             bif !before.isSome then
              bif r9 != 0 then
               some (.inr (.inl (t26, r9)))
              else
               bif inBounds t26 p.1.length then
                some (.inl (some (p.1.getD t26.toNat (0, 0, 0, 0)), t25, wr (t26 + 1), p))
               else
                none
             else
              bif before.isSome then
               bif before.isSome then
                optE (s314 (before.getD (0, 0, 0, 0)).2) (fun r10 =>
                 optE (s315 (r4, r10)) (fun r11 =>
                  optE (s277 (decide ((wr ((p.1.getD t26.toNat (0, 0, 0, 0)).1 - (before.getD (0, 0, 0, 0)).1)) > 0), 9)) (fun r12 =>
                   optE (s277 (decide ((wr ((p.1.getD t26.toNat (0, 0, 0, 0)).1 - (before.getD (0, 0, 0, 0)).1)) ≤ 10000), 14)) (fun r13 =>
                    optE (s327 (r11, r11)) (fun r14 =>
                     optE (s277 (decide ((wr (4 * r14)) ≤ (wr ((wr ((p.1.getD t26.toNat (0, 0, 0, 0)).1 - (before.getD (0, 0, 0, 0)).1)) * (wr ((p.1.getD t26.toNat (0, 0, 0, 0)).1 - (before.getD (0, 0, 0, 0)).1))))), 23)) (fun r15 =>
                      optE (s275 [r12, r13, r15]) (fun r16 =>
                       bif r16 != 0 then
                        some (.inr (.inl (t26, r16)))
                       else
                        bif inBounds t26 p.1.length then
                         some (.inl (some (p.1.getD t26.toNat (0, 0, 0, 0)), t25, wr (t26 + 1), p))
                        else
                         none)
                       (none))
                      (none))
                     (none))
                    (none))
                   (none))
                  (none))
                 (none)
               else
                none
              else
               none)
            (none))
           (none)
         else
          optE (s277 (false, 2)) (fun r17 =>
           bif r17 != 0 then
            bif r17 != 0 then
             some (.inr (.inl (t26, r17)))
            else
             bif inBounds t26 p.1.length then
              some (.inl (some (p.1.getD t26.toNat (0, 0, 0, 0)), t25, wr (t26 + 1), p))
             else
              none
           else
            bif !before.isSome then
             bif r17 != 0 then
              some (.inr (.inl (t26, r17)))
             else
              bif inBounds t26 p.1.length then
               some (.inl (some (p.1.getD t26.toNat (0, 0, 0, 0)), t25, wr (t26 + 1), p))
              else
               none
            else
             bif before.isSome then
              bif before.isSome then
               optE (s314 (before.getD (0, 0, 0, 0)).2) (fun r18 =>
                optE (s315 (r4, r18)) (fun r19 =>
                 optE (s277 (decide ((wr ((p.1.getD t26.toNat (0, 0, 0, 0)).1 - (before.getD (0, 0, 0, 0)).1)) > 0), 9)) (fun r20 =>
                  optE (s277 (decide ((wr ((p.1.getD t26.toNat (0, 0, 0, 0)).1 - (before.getD (0, 0, 0, 0)).1)) ≤ 10000), 14)) (fun r21 =>
                   optE (s327 (r19, r19)) (fun r22 =>
                    optE (s277 (decide ((wr (4 * r22)) ≤ (wr ((wr ((p.1.getD t26.toNat (0, 0, 0, 0)).1 - (before.getD (0, 0, 0, 0)).1)) * (wr ((p.1.getD t26.toNat (0, 0, 0, 0)).1 - (before.getD (0, 0, 0, 0)).1))))), 23)) (fun r23 =>
                     optE (s275 [r20, r21, r23]) (fun r24 =>
                      bif r24 != 0 then
                       some (.inr (.inl (t26, r24)))
                      else
                       bif inBounds t26 p.1.length then
                        some (.inl (some (p.1.getD t26.toNat (0, 0, 0, 0)), t25, wr (t26 + 1), p))
                       else
                        none)
                      (none))
                     (none))
                    (none))
                   (none))
                  (none))
                 (none))
                (none)
              else
               none
             else
              none)
           (none))
         (none)
       else
        optE (s277 (false, 2)) (fun r25 =>
         bif r25 != 0 then
          bif r25 != 0 then
           some (.inr (.inl (t26, r25)))
          else
           bif inBounds t26 p.1.length then
            some (.inl (some (p.1.getD t26.toNat (0, 0, 0, 0)), t25, wr (t26 + 1), p))
           else
            none
         else
          bif !before.isSome then
           bif r25 != 0 then
            some (.inr (.inl (t26, r25)))
           else
            bif inBounds t26 p.1.length then
             some (.inl (some (p.1.getD t26.toNat (0, 0, 0, 0)), t25, wr (t26 + 1), p))
            else
             none
          else
           bif before.isSome then
            bif before.isSome then
             optE (s314 (before.getD (0, 0, 0, 0)).2) (fun r26 =>
              optE (s315 (r4, r26)) (fun r27 =>
               optE (s277 (decide ((wr ((p.1.getD t26.toNat (0, 0, 0, 0)).1 - (before.getD (0, 0, 0, 0)).1)) > 0), 9)) (fun r28 =>
                optE (s277 (decide ((wr ((p.1.getD t26.toNat (0, 0, 0, 0)).1 - (before.getD (0, 0, 0, 0)).1)) ≤ 10000), 14)) (fun r29 =>
                 optE (s327 (r27, r27)) (fun r30 =>
                  optE (s277 (decide ((wr (4 * r30)) ≤ (wr ((wr ((p.1.getD t26.toNat (0, 0, 0, 0)).1 - (before.getD (0, 0, 0, 0)).1)) * (wr ((p.1.getD t26.toNat (0, 0, 0, 0)).1 - (before.getD (0, 0, 0, 0)).1))))), 23)) (fun r31 =>
                   optE (s275 [r28, r29, r31]) (fun r32 =>
                    bif r32 != 0 then
                     some (.inr (.inl (t26, r32)))
                    else
                     bif inBounds t26 p.1.length then
                      some (.inl (some (p.1.getD t26.toNat (0, 0, 0, 0)), t25, wr (t26 + 1), p))
                     else
                      none)
                    (none))
                   (none))
                  (none))
                 (none))
                (none))
               (none))
              (none)
            else
             none
           else
            none)
         (none))
       (none)
     else
      optE (s277 (false, 2)) (fun r33 =>
       bif r33 != 0 then
        bif r33 != 0 then
         some (.inr (.inl (t26, r33)))
        else
         bif inBounds t26 p.1.length then
          some (.inl (some (p.1.getD t26.toNat (0, 0, 0, 0)), t25, wr (t26 + 1), p))
         else
          none
       else
        bif !before.isSome then
         bif r33 != 0 then
          some (.inr (.inl (t26, r33)))
         else
          bif inBounds t26 p.1.length then
           some (.inl (some (p.1.getD t26.toNat (0, 0, 0, 0)), t25, wr (t26 + 1), p))
          else
           none
        else
         bif before.isSome then
          bif before.isSome then
           optE (s314 (before.getD (0, 0, 0, 0)).2) (fun r34 =>
            optE (s315 (r4, r34)) (fun r35 =>
             optE (s277 (decide ((wr ((p.1.getD t26.toNat (0, 0, 0, 0)).1 - (before.getD (0, 0, 0, 0)).1)) > 0), 9)) (fun r36 =>
              optE (s277 (decide ((wr ((p.1.getD t26.toNat (0, 0, 0, 0)).1 - (before.getD (0, 0, 0, 0)).1)) ≤ 10000), 14)) (fun r37 =>
               optE (s327 (r35, r35)) (fun r38 =>
                optE (s277 (decide ((wr (4 * r38)) ≤ (wr ((wr ((p.1.getD t26.toNat (0, 0, 0, 0)).1 - (before.getD (0, 0, 0, 0)).1)) * (wr ((p.1.getD t26.toNat (0, 0, 0, 0)).1 - (before.getD (0, 0, 0, 0)).1))))), 23)) (fun r39 =>
                 optE (s275 [r36, r37, r39]) (fun r40 =>
                  bif r40 != 0 then
                   some (.inr (.inl (t26, r40)))
                  else
                   bif inBounds t26 p.1.length then
                    some (.inl (some (p.1.getD t26.toNat (0, 0, 0, 0)), t25, wr (t26 + 1), p))
                   else
                    none)
                  (none))
                 (none))
                (none))
               (none))
              (none))
             (none))
            (none)
          else
           none
         else
          none)
       (none))
     (none))
    (none)
  else
   none
 else
  some (.inr (.inr p))
theorem one207_0 : oneLoop Tryz.prog 207 0 = true := by kernel_rfl
theorem lp207_0 : ItemOk Tryz.prog (.loop 207 0 T207_0 X207_0 (loopVal step207_0)) := item_loopM md5 ext5 (U := 9) (n := 11) noSpecial mixed G10K22_ok one207_0 (fun x => by kernel_rfl)
noncomputable def G10K23 : List Ev.Item := .loop 207 0 T207_0 X207_0 (loopVal step207_0) :: G10K22
theorem G10K23_ok : ∀ q ∈ G10K23, ItemOk Tryz.prog q := items_cons lp207_0 G10K22_ok
noncomputable def s207 : (List (Int × Int × Int × Int)) × Int → Option (Int × Int) := fun p =>
 optE (s277 (decide ((p.1.length : Int) > 0), 10)) (fun r1 =>
  optE (s277 (decide ((p.1.length : Int) ≤ 12), 8)) (fun r2 =>
   optE (s275 [r1, r2]) (fun r3 =>
    bif r3 != 0 then
     some ((0, r3))
    else
     optE (loopVal step207_0 (none, (p.1.length : Int), 0, p)) (fun e4 =>
      sumE e4 (fun e5 =>
       some (e5)) (fun e6 =>
       optE (s261 (e6.2, 0, 1000)) (fun r7 =>
        optE (s277 (r7, 2)) (fun r8 =>
         some ((0, r8)))
         (none))
        (none)))
      (none))
    (none))
   (none))
  (none)
theorem i207 : ItemOk Tryz.prog (.fn 207 [.d (.agg (.pair (.slice (.agg zF)) zI))] [.d zI, .d zI] s207) := item_fnM md5 ext5 (U := 9) (n := 12) noSpecial mixed G10K23_ok (fun x => by kernel_rfl)
noncomputable def G10K24 : List Ev.Item := .fn 207 [.d (.agg (.pair (.slice (.agg zF)) zI))] [.d zI, .d zI] s207 :: G10K23
theorem G10K24_ok : ∀ q ∈ G10K24, ItemOk Tryz.prog q := items_cons i207 G10K23_ok
@[reducible] def T130_0 : Tmpl := ⟨22, [], [.val 7 (.slice (.agg (.pair (.slice (.agg zF)) zI))), .val 8 zI, .val 9 zI], [], none⟩
@[reducible] def X130_0 : List (Ex × Tmpl) := [(.ret, ⟨22, [], [.val 2 zI], [], none⟩), (.exit 0, ⟨22, [], [], [], none⟩)]
noncomputable def step130_0 : (List ((List (Int × Int × Int × Int)) × Int)) × Int × Int → Option (((List ((List (Int × Int × Int × Int)) × Int)) × Int × Int) ⊕ ((Int) ⊕ (Unit))) := fun (t7, t8, t9) =>
 bif decide (t9 < t8) then
  bif inBounds t9 t7.length then
   optE (s207 (t7.getD t9.toNat ([], 0))) (fun r1 =>
    bif r1.2 != 0 then
     some (.inr (.inl r1.2))
    else
     some (.inl (t7, t8, wr (t9 + 1))))
    (none)
  else
   none
 else
  some (.inr (.inr ()))
theorem one130_0 : oneLoop Tryz.prog 130 0 = true := by kernel_rfl
theorem lp130_0 : ItemOk Tryz.prog (.loop 130 0 T130_0 X130_0 (loopVal step130_0)) := item_loopM md5 ext5 (U := 9) (n := 11) noSpecial mixed G10K24_ok one130_0 (fun x => by kernel_rfl)
noncomputable def G10K25 : List Ev.Item := .loop 130 0 T130_0 X130_0 (loopVal step130_0) :: G10K24
theorem G10K25_ok : ∀ q ∈ G10K25, ItemOk Tryz.prog q := items_cons lp130_0 G10K24_ok
noncomputable def s130 : List ((List (Int × Int × Int × Int)) × Int) → Option (Int) := fun l =>
 optE (loopVal step130_0 (l, (l.length : Int), 0)) (fun e1 =>
  sumE e1 (fun e2 =>
   some (e2)) (fun _ =>
   some (0)))
  (none)
theorem i130 : ItemOk Tryz.prog (.fn 130 [.d (.slice (.agg (.pair (.slice (.agg zF)) zI)))] [.d zI] s130) := item_fnM md5 ext5 (U := 9) (n := 12) noSpecial mixed G10K25_ok (fun x => by kernel_rfl)
noncomputable def G10K26 : List Ev.Item := .fn 130 [.d (.slice (.agg (.pair (.slice (.agg zF)) zI)))] [.d zI] s130 :: G10K25
theorem G10K26_ok : ∀ q ∈ G10K26, ItemOk Tryz.prog q := items_cons i130 G10K25_ok
@[reducible] def T45_0 : Tmpl := ⟨54, [(2, .ref 2 0 0 0), (4, .ref 4 0 0 0)], [.own 15 15 9 .str, .val 16 zI, .val 17 zI, .cells 2 [.d (.pair (.slice (.agg zF)) zI)], .cells 4 [.own 40 225 (.agg zF), .d zI]], [], none⟩
@[reducible] def X45_0 : List (Ex × Tmpl) := [(.ret, ⟨54, [(2, .ref 2 0 0 0)], [.val 3 zI, .cells 2 [.d (.pair (.slice (.agg zF)) zI)]], [], none⟩), (.exit 0, ⟨54, [(2, .ref 2 0 0 0), (4, .ref 4 0 0 0)], [.cells 2 [.d (.pair (.slice (.agg zF)) zI)], .cells 4 [.own 40 225 (.agg zF), .d zI]], [], none⟩)]
noncomputable def step45_0 : (List ByteArray) × Int × Int × ((List (Int × Int × Int × Int)) × Int) × ((List (Int × Int × Int × Int)) × Int) → Option (((List ByteArray) × Int × Int × ((List (Int × Int × Int × Int)) × Int) × ((List (Int × Int × Int × Int)) × Int)) ⊕ ((Int × ((List (Int × Int × Int × Int)) × Int)) ⊕ (((List (Int × Int × Int × Int)) × Int) × ((List (Int × Int × Int × Int)) × Int)))) := fun (t15, t16, t17, t2, p) =>
 bif decide (t17 < t16) then
  bif inBounds t17 t15.length then
   bif t17 == 0 then
    optE (s128 (t15.getD t17.toNat ByteArray.empty, 13, false)) (fun r2 =>
     bif !r2.2 then
      some (.inr (.inl (7, ([], 0))))
     else
      some (.inl (t15, t16, wr (t17 + 1), t2, (p.1, r2.1))))
     (none)
   else
    optE (s129 (t15.getD t17.toNat ByteArray.empty)) (fun r3 =>
     bif room 32 (p.1.length + 1) then
      bif !r3.2 then
       some (.inr (.inl (7, ([], 0))))
      else
       some (.inl (t15, t16, wr (t17 + 1), t2, (p.1 ++ [r3.1], p.2)))
     else
      none)
     (none)
  else
   none
 else
  some (.inr (.inr (t2, p)))
theorem one45_0 : oneLoop Tryz.prog 45 0 = true := by kernel_rfl
theorem lp45_0 : ItemOk Tryz.prog (.loop 45 0 T45_0 X45_0 (loopVal step45_0)) := item_loopM md5 ext5 (U := 9) (n := 11) noSpecial mixed G10K26_ok one45_0 (fun x => by kernel_rfl)
noncomputable def G10K27 : List Ev.Item := .loop 45 0 T45_0 X45_0 (loopVal step45_0) :: G10K26
theorem G10K27_ok : ∀ q ∈ G10K27, ItemOk Tryz.prog q := items_cons lp45_0 G10K26_ok
noncomputable def s45 : ByteArray → Option (((List (Int × Int × Int × Int)) × Int) × Int) := fun s =>
 bif decide ((s.size : Int) > 60000) then
  some ((([], 0), 8))
 else
  optE (splitF (s, (ByteArray.mk #[59]))) (fun r1 =>
   optE (loopVal step45_0 (r1, (r1.length : Int), 0, ([], 0), ([], 0))) (fun e2 =>
    sumE e2 (fun e3 =>
     some ((e3.2, e3.1))) (fun e4 =>
     optE (s130 [e4.2]) (fun r5 =>
      bif r5 != 0 then
       some ((([], 0), r5))
      else
       some ((e4.2, 0)))
      (none)))
    (none))
   (none)
theorem i45 : ItemOk Tryz.prog (.fn 45 [.d .str] [.d (.agg (.pair (.slice (.agg zF)) zI)), .d zI] s45) := item_fnM md5 ext5 (U := 9) (n := 12) noSpecial mixed G10K27_ok (fun x => by kernel_rfl)
noncomputable def G10K28 : List Ev.Item := .fn 45 [.d .str] [.d (.agg (.pair (.slice (.agg zF)) zI)), .d zI] s45 :: G10K27
theorem G10K28_ok : ∀ q ∈ G10K28, ItemOk Tryz.prog q := items_cons i45 G10K27_ok
noncomputable def s283 : Int → Option (Bool) := fun n =>
 optE (s51 (n, 0, 1000000000000)) (fun r1 =>
  some (r1))
  (none)
theorem i283 : ItemOk Tryz.prog (.fn 283 [.d zI] [.d .bool] s283) := item_fnM md5 ext5 (U := 9) (n := 12) noSpecial mixed G10K28_ok (fun x => by kernel_rfl)
noncomputable def G10K29 : List Ev.Item := .fn 283 [.d zI] [.d .bool] s283 :: G10K28
theorem G10K29_ok : ∀ q ∈ G10K29, ItemOk Tryz.prog q := items_cons i283 G10K28_ok
noncomputable def s285 : (Int × Int × Int) × (Int × Int × Int) → Option (Int × Int × Int) := fun (a, b) =>
 some ((wr (a.1 - b.1), wr (a.2.1 - b.2.1), wr (a.2.2 - b.2.2)))
theorem i285 : ItemOk Tryz.prog (.fn 285 [.d (.agg (.pair zI zP)), .d (.agg (.pair zI zP))] [.d (.agg (.pair zI zP))] s285) := item_fnM md5 ext5 (U := 9) (n := 12) noSpecial mixed G10K29_ok (fun x => by kernel_rfl)
noncomputable def G10K30 : List Ev.Item := .fn 285 [.d (.agg (.pair zI zP)), .d (.agg (.pair zI zP))] [.d (.agg (.pair zI zP))] s285 :: G10K29
theorem G10K30_ok : ∀ q ∈ G10K30, ItemOk Tryz.prog q := items_cons i285 G10K29_ok
noncomputable def s328 : (Int × Int × Int) × (Int × Int × Int) → Option (Int) := fun (a, b) =>
 some (wr ((wr ((wr (a.1 * b.1)) + (wr (a.2.1 * b.2.1)))) + (wr (a.2.2 * b.2.2))))
theorem i328 : ItemOk Tryz.prog (.fn 328 [.d (.agg (.pair zI zP)), .d (.agg (.pair zI zP))] [.d zI] s328) := item_fnM md5 ext5 (U := 9) (n := 12) noSpecial mixed G10K30_ok (fun x => by kernel_rfl)
noncomputable def G10K31 : List Ev.Item := .fn 328 [.d (.agg (.pair zI zP)), .d (.agg (.pair zI zP))] [.d zI] s328 :: G10K30
theorem G10K31_ok : ∀ q ∈ G10K31, ItemOk Tryz.prog q := items_cons i328 G10K30_ok
noncomputable def s284 : Int × Int × Int → Option (Int) := fun v =>
 optE (s328 (v, v)) (fun r1 =>
  some (r1))
  (none)
theorem i284 : ItemOk Tryz.prog (.fn 284 [.d (.agg (.pair zI zP))] [.d zI] s284) := item_fnM md5 ext5 (U := 9) (n := 12) noSpecial mixed G10K31_ok (fun x => by kernel_rfl)
noncomputable def G10K32 : List Ev.Item := .fn 284 [.d (.agg (.pair zI zP))] [.d zI] s284 :: G10K31
theorem G10K32_ok : ∀ q ∈ G10K32, ItemOk Tryz.prog q := items_cons i284 G10K31_ok
noncomputable def s208 : (List (Int × Int × Int × Int)) × Int → Option (Int) := fun (l, i) =>
 bif inBounds i l.length then
  optE (s283 (l.getD i.toNat (0, 0, 0, 0)).1) (fun r1 =>
   bif !r1 then
    some (2)
   else
    optE (s51 ((l.getD i.toNat (0, 0, 0, 0)).2.1, (-1000000), 1000000)) (fun r2 =>
     bif !r2 then
      some (2)
     else
      optE (s51 ((l.getD i.toNat (0, 0, 0, 0)).2.2.1, (-1000000), 1000000)) (fun r3 =>
       bif !r3 then
        some (2)
       else
        optE (s51 ((l.getD i.toNat (0, 0, 0, 0)).2.2.2, (-1000000), 1000000)) (fun r4 =>
         bif !r4 then
          some (2)
         else
          bif i == 0 then
           some (0)
          else
           bif inBounds (wr (i - 1)) l.length then
            bif decide ((l.getD i.toNat (0, 0, 0, 0)).1 ≤ (l.getD (wr (i - 1)).toNat (0, 0, 0, 0)).1) then
             some (9)
            else
             bif decide ((wr ((l.getD i.toNat (0, 0, 0, 0)).1 - (l.getD (wr (i - 1)).toNat (0, 0, 0, 0)).1)) > 10000) then
              some (14)
             else
              optE (s285 ((l.getD i.toNat (0, 0, 0, 0)).2, (l.getD (wr (i - 1)).toNat (0, 0, 0, 0)).2)) (fun r5 =>
               optE (s284 r5) (fun r6 =>
                bif decide ((wr (4 * r6)) > (wr ((wr ((l.getD i.toNat (0, 0, 0, 0)).1 - (l.getD (wr (i - 1)).toNat (0, 0, 0, 0)).1)) * (wr ((l.getD i.toNat (0, 0, 0, 0)).1 - (l.getD (wr (i - 1)).toNat (0, 0, 0, 0)).1))))) then
                 some (23)
                else
                 some (0))
                (none))
               (none)
           else
            none)
         (none))
       (none))
     (none))
   (none)
 else
  none
theorem i208 : ItemOk Tryz.prog (.fn 208 [.d (.slice (.agg zF)), .d zI] [.d zI] s208) := item_fnM md5 ext5 (U := 9) (n := 12) noSpecial mixed G10K32_ok (fun x => by kernel_rfl)
noncomputable def G10K33 : List Ev.Item := .fn 208 [.d (.slice (.agg zF)), .d zI] [.d zI] s208 :: G10K32
theorem G10K33_ok : ∀ q ∈ G10K33, ItemOk Tryz.prog q := items_cons i208 G10K32_ok
@[reducible] def T131_0 : Tmpl := ⟨33, [(1, .ref 1 0 0 0)], [.val 4 zI, .cells 1 [.d (.pair (.slice (.agg zF)) zI)]], [], none⟩
@[reducible] def X131_0 : List (Ex × Tmpl) := [(.ret, ⟨33, [], [.val 2 zI, .val 3 zI], [], none⟩), (.exit 0, ⟨33, [(1, .ref 1 0 0 0)], [.cells 1 [.d (.pair (.slice (.agg zF)) zI)]], [], none⟩)]
noncomputable def step131_0 : Int × ((List (Int × Int × Int × Int)) × Int) → Option ((Int × ((List (Int × Int × Int × Int)) × Int)) ⊕ ((Int × Int) ⊕ (((List (Int × Int × Int × Int)) × Int)))) := fun (i, p) =>
 bif decide (i < (p.1.length : Int)) then
  optE (s208 (p.1, i)) (fun r1 =>
   bif r1 != 0 then
    some (.inr (.inl (i, r1)))
   else
    some (.inl (wr (i + 1), p)))
   (none)
 else
  some (.inr (.inr p))
theorem one131_0 : oneLoop Tryz.prog 131 0 = true := by kernel_rfl
theorem lp131_0 : ItemOk Tryz.prog (.loop 131 0 T131_0 X131_0 (loopVal step131_0)) := item_loopM md5 ext5 (U := 9) (n := 11) noSpecial mixed G10K33_ok one131_0 (fun x => by kernel_rfl)
noncomputable def G10K34 : List Ev.Item := .loop 131 0 T131_0 X131_0 (loopVal step131_0) :: G10K33
theorem G10K34_ok : ∀ q ∈ G10K34, ItemOk Tryz.prog q := items_cons lp131_0 G10K33_ok
noncomputable def s131 : (List (Int × Int × Int × Int)) × Int → Option (Int × Int) := fun p =>
 bif (p.1.length : Int) == 0 then
  some ((0, 10))
 else
  bif decide ((p.1.length : Int) > 12) then
   some ((0, 8))
  else
   optE (loopVal step131_0 (0, p)) (fun e1 =>
    sumE e1 (fun e2 =>
     some (e2)) (fun e3 =>
     optE (s51 (e3.2, 0, 1000)) (fun r4 =>
      bif !r4 then
       some ((0, 2))
      else
       some ((0, 0)))
      (none)))
    (none)
theorem i131 : ItemOk Tryz.prog (.fn 131 [.d (.agg (.pair (.slice (.agg zF)) zI))] [.d zI, .d zI] s131) := item_fnM md5 ext5 (U := 9) (n := 12) noSpecial mixed G10K34_ok (fun x => by kernel_rfl)
noncomputable def G10K35 : List Ev.Item := .fn 131 [.d (.agg (.pair (.slice (.agg zF)) zI))] [.d zI, .d zI] s131 :: G10K34
theorem G10K35_ok : ∀ q ∈ G10K35, ItemOk Tryz.prog q := items_cons i131 G10K34_ok
noncomputable def s49 : (List (Int × Int × Int × Int)) × Int → Option (Int) := fun p =>
 optE (s131 p) (fun r1 =>
  some (r1.2))
  (none)
theorem i49 : ItemOk Tryz.prog (.fn 49 [.d (.agg (.pair (.slice (.agg zF)) zI))] [.d zI] s49) := item_fnM md5 ext5 (U := 9) (n := 12) noSpecial mixed G10K35_ok (fun x => by kernel_rfl)
noncomputable def G10K36 : List Ev.Item := .fn 49 [.d (.agg (.pair (.slice (.agg zF)) zI))] [.d zI] s49 :: G10K35
theorem G10K36_ok : ∀ q ∈ G10K36, ItemOk Tryz.prog q := items_cons i49 G10K35_ok
@[reducible] def T46_2 : Tmpl := ⟨104, [(2, .ref 2 0 0 0), (7, .ref 7 0 0 0), (10, .ref 10 0 0 0)], [.own 4 21 9 .str, .val 8 zI, .own 9 48 9 .str, .val 11 zI, .cells 2 [.d (.pair (.slice (.agg zF)) zI)], .cells 7 [.own 95 225 (.agg zF), .d zI], .arr 10 zI], [], none⟩
@[reducible] def X46_2 : List (Ex × Tmpl) := [(.ret, ⟨104, [(2, .ref 2 0 0 0)], [.val 3 zI, .cells 2 [.d (.pair (.slice (.agg zF)) zI)]], [], none⟩), (.exit 2, ⟨104, [(2, .ref 2 0 0 0), (7, .ref 7 0 0 0), (10, .ref 10 0 0 0)], [.own 4 21 9 .str, .val 8 zI, .cells 2 [.d (.pair (.slice (.agg zF)) zI)], .cells 7 [.own 95 225 (.agg zF), .d zI], .arr 10 zI], [], none⟩)]
noncomputable def step46_2 : (List ByteArray) × Int × (List ByteArray) × Int × ((List (Int × Int × Int × Int)) × Int) × ((List (Int × Int × Int × Int)) × Int) × (List Int) → Option (((List ByteArray) × Int × (List ByteArray) × Int × ((List (Int × Int × Int × Int)) × Int) × ((List (Int × Int × Int × Int)) × Int) × (List Int)) ⊕ ((Int × ((List (Int × Int × Int × Int)) × Int)) ⊕ ((List ByteArray) × Int × ((List (Int × Int × Int × Int)) × Int) × ((List (Int × Int × Int × Int)) × Int) × (List Int)))) := fun (parts, i, w, k, t2, p, n) =>
 bif decide (k < 4) then
  bif k == 0 then
   bif inBounds k w.length then
    optE (s95 (w.getD k.toNat ByteArray.empty, 13)) (fun r6 =>
     bif !r6.2 then
      some (.inr (.inl (7, ([], 0))))
     else
      bif k == 0 then
       bif decide (r6.1 < 0) then
        some (.inr (.inl (7, ([], 0))))
       else
        bif (inBounds k 4) && (decide (n.length = 4)) then
         some (.inl (parts, i, w, wr (k + 1), t2, p, n.set k.toNat r6.1))
        else
         none
      else
       bif (inBounds k 4) && (decide (n.length = 4)) then
        some (.inl (parts, i, w, wr (k + 1), t2, p, n.set k.toNat r6.1))
       else
        none)
     (none)
   else
    none
  else
   bif inBounds k w.length then
    optE (s95 (w.getD k.toNat ByteArray.empty, 7)) (fun r7 =>
     bif !r7.2 then
      some (.inr (.inl (7, ([], 0))))
     else
      bif k == 0 then
       bif decide (r7.1 < 0) then
        some (.inr (.inl (7, ([], 0))))
       else
        bif (inBounds k 4) && (decide (n.length = 4)) then
         some (.inl (parts, i, w, wr (k + 1), t2, p, n.set k.toNat r7.1))
        else
         none
      else
       bif (inBounds k 4) && (decide (n.length = 4)) then
        some (.inl (parts, i, w, wr (k + 1), t2, p, n.set k.toNat r7.1))
       else
        none)
     (none)
   else
    none
 else
  some (.inr (.inr (parts, i, t2, p, n)))
theorem one46_2 : oneLoop Tryz.prog 46 2 = true := by kernel_rfl
theorem lp46_2 : ItemOk Tryz.prog (.loop 46 2 T46_2 X46_2 (loopVal step46_2)) := item_loopM md5 ext5 (U := 9) (n := 11) noSpecial mixed G10K36_ok one46_2 (fun x => by kernel_rfl)
noncomputable def G10K37 : List Ev.Item := .loop 46 2 T46_2 X46_2 (loopVal step46_2) :: G10K36
theorem G10K37_ok : ∀ q ∈ G10K37, ItemOk Tryz.prog q := items_cons lp46_2 G10K36_ok
@[reducible] def T46_0 : Tmpl := ⟨104, [(2, .ref 2 0 0 0), (7, .ref 7 0 0 0)], [.own 4 21 9 .str, .val 8 zI, .cells 2 [.d (.pair (.slice (.agg zF)) zI)], .cells 7 [.own 95 225 (.agg zF), .d zI]], [], none⟩
@[reducible] def X46_0 : List (Ex × Tmpl) := [(.ret, ⟨104, [(2, .ref 2 0 0 0)], [.val 3 zI, .cells 2 [.d (.pair (.slice (.agg zF)) zI)]], [], none⟩), (.exit 0, ⟨104, [(2, .ref 2 0 0 0), (7, .ref 7 0 0 0)], [.cells 2 [.d (.pair (.slice (.agg zF)) zI)], .cells 7 [.own 95 225 (.agg zF), .d zI]], [], none⟩)]
noncomputable def step46_0 : (List ByteArray) × Int × ((List (Int × Int × Int × Int)) × Int) × ((List (Int × Int × Int × Int)) × Int) → Option (((List ByteArray) × Int × ((List (Int × Int × Int × Int)) × Int) × ((List (Int × Int × Int × Int)) × Int)) ⊕ ((Int × ((List (Int × Int × Int × Int)) × Int)) ⊕ (((List (Int × Int × Int × Int)) × Int) × ((List (Int × Int × Int × Int)) × Int)))) := fun (parts, i, t2, p) =>
 bif decide (i < (parts.length : Int)) then
  bif inBounds i parts.length then
   optE (s94 (parts.getD i.toNat ByteArray.empty, 32)) (fun r3 =>
    bif (r3.length : Int) != 4 then
     some (.inr (.inl (7, ([], 0))))
    else
     optE (loopVal step46_2 (parts, i, r3, 0, t2, p, [0, 0, 0, 0])) (fun e4 =>
      sumE e4 (fun e5 =>
       some (.inr (.inl e5))) (fun e6 =>
       bif decide (e6.2.2.2.2.length = 4) then
        bif decide (e6.2.2.2.2.length = 4) then
         bif decide (e6.2.2.2.2.length = 4) then
          bif decide (e6.2.2.2.2.length = 4) then
           bif room 32 (e6.2.2.2.1.1.length + 1) then
            some (.inl (e6.1, wr (e6.2.1 + 1), e6.2.2.1, (e6.2.2.2.1.1 ++ [(e6.2.2.2.2.getD 0 0, e6.2.2.2.2.getD 1 0, e6.2.2.2.2.getD 2 0, e6.2.2.2.2.getD 3 0)], e6.2.2.2.1.2)))
           else
            none
          else
           none
         else
          none
        else
         none
       else
        none))
      (none))
    (none)
  else
   none
 else
  some (.inr (.inr (t2, p)))
theorem one46_0 : oneLoop Tryz.prog 46 0 = true := by kernel_rfl
theorem lp46_0 : ItemOk Tryz.prog (.loop 46 0 T46_0 X46_0 (loopVal step46_0)) := item_loopM md5 ext5 (U := 9) (n := 11) noSpecial mixed G10K37_ok one46_0 (fun x => by kernel_rfl)
noncomputable def G10K38 : List Ev.Item := .loop 46 0 T46_0 X46_0 (loopVal step46_0) :: G10K37
theorem G10K38_ok : ∀ q ∈ G10K38, ItemOk Tryz.prog q := items_cons lp46_0 G10K37_ok
noncomputable def s46 : ByteArray → Option (((List (Int × Int × Int × Int)) × Int) × Int) := fun s =>
 bif decide ((s.size : Int) > 60000) then
  some ((([], 0), 8))
 else
  optE (s94 (s, 59)) (fun r1 =>
   bif inBounds 0 r1.length then
    optE (s95 (r1.getD 0 ByteArray.empty, 13)) (fun r2 =>
     bif !r2.2 then
      some ((([], 0), 7))
     else
      bif decide (r2.1 < 0) then
       some ((([], 0), 7))
      else
       optE (loopVal step46_0 (r1, 1, ([], 0), ([], r2.1))) (fun e3 =>
        sumE e3 (fun e4 =>
         some ((e4.2, e4.1))) (fun e5 =>
         optE (s49 e5.2) (fun r6 =>
          bif r6 != 0 then
           some ((([], 0), r6))
          else
           some ((e5.2, 0)))
          (none)))
        (none))
     (none)
   else
    none)
   (none)
theorem i46 : ItemOk Tryz.prog (.fn 46 [.d .str] [.d (.agg (.pair (.slice (.agg zF)) zI)), .d zI] s46) := item_fnM md5 ext5 (U := 9) (n := 12) noSpecial mixed G10K38_ok (fun x => by kernel_rfl)
noncomputable def G10K39 : List Ev.Item := .fn 46 [.d .str] [.d (.agg (.pair (.slice (.agg zF)) zI)), .d zI] s46 :: G10K38
theorem G10K39_ok : ∀ q ∈ G10K39, ItemOk Tryz.prog q := items_cons i46 G10K38_ok
@[reducible] def T47_0 : Tmpl := ⟨46, [(1, .ref 1 0 0 0)], [.val 3 .str, .val 4 zI, .cells 1 [.d (.pair (.slice (.agg zF)) zI)]], [], none⟩
@[reducible] def X47_0 : List (Ex × Tmpl) := [(.exit 0, ⟨46, [], [.val 3 .str], [], none⟩)]
noncomputable def step47_0 : ByteArray × Int × ((List (Int × Int × Int × Int)) × Int) → Option ((ByteArray × Int × ((List (Int × Int × Int × Int)) × Int)) ⊕ (ByteArray)) := fun (s, i, p) =>
 bif decide (i < (p.1.length : Int)) then
  bif inBounds i p.1.length then
   bif decide (s.size + (ByteArray.mk #[59]).size ≤ 9223372036854775807) then
    optE (s96 (p.1.getD i.toNat (0, 0, 0, 0)).1) (fun r2 =>
     bif decide ((s ++ (ByteArray.mk #[59])).size + r2.size ≤ 9223372036854775807) then
      bif decide (((s ++ (ByteArray.mk #[59])) ++ r2).size + (ByteArray.mk #[32]).size ≤ 9223372036854775807) then
       optE (s96 (p.1.getD i.toNat (0, 0, 0, 0)).2.1) (fun r3 =>
        bif decide ((((s ++ (ByteArray.mk #[59])) ++ r2) ++ (ByteArray.mk #[32])).size + r3.size ≤ 9223372036854775807) then
         bif decide (((((s ++ (ByteArray.mk #[59])) ++ r2) ++ (ByteArray.mk #[32])) ++ r3).size + (ByteArray.mk #[32]).size ≤ 9223372036854775807) then
          optE (s96 (p.1.getD i.toNat (0, 0, 0, 0)).2.2.1) (fun r4 =>
           bif decide ((((((s ++ (ByteArray.mk #[59])) ++ r2) ++ (ByteArray.mk #[32])) ++ r3) ++ (ByteArray.mk #[32])).size + r4.size ≤ 9223372036854775807) then
            bif decide (((((((s ++ (ByteArray.mk #[59])) ++ r2) ++ (ByteArray.mk #[32])) ++ r3) ++ (ByteArray.mk #[32])) ++ r4).size + (ByteArray.mk #[32]).size ≤ 9223372036854775807) then
             optE (s96 (p.1.getD i.toNat (0, 0, 0, 0)).2.2.2) (fun r5 =>
              bif decide ((((((((s ++ (ByteArray.mk #[59])) ++ r2) ++ (ByteArray.mk #[32])) ++ r3) ++ (ByteArray.mk #[32])) ++ r4) ++ (ByteArray.mk #[32])).size + r5.size ≤ 9223372036854775807) then
               some (.inl ((((((((s ++ (ByteArray.mk #[59])) ++ r2) ++ (ByteArray.mk #[32])) ++ r3) ++ (ByteArray.mk #[32])) ++ r4) ++ (ByteArray.mk #[32])) ++ r5, wr (i + 1), p))
              else
               none)
              (none)
            else
             none
           else
            none)
           (none)
         else
          none
        else
         none)
        (none)
      else
       none
     else
      none)
     (none)
   else
    none
  else
   none
 else
  some (.inr s)
theorem one47_0 : oneLoop Tryz.prog 47 0 = true := by kernel_rfl
theorem lp47_0 : ItemOk Tryz.prog (.loop 47 0 T47_0 X47_0 (loopVal step47_0)) := item_loopM md5 ext5 (U := 9) (n := 11) noSpecial mixed G10K39_ok one47_0 (fun x => by kernel_rfl)
noncomputable def G10K40 : List Ev.Item := .loop 47 0 T47_0 X47_0 (loopVal step47_0) :: G10K39
theorem G10K40_ok : ∀ q ∈ G10K40, ItemOk Tryz.prog q := items_cons lp47_0 G10K39_ok
noncomputable def s47 : (List (Int × Int × Int × Int)) × Int → Option (ByteArray) := fun p =>
 optE (s96 p.2) (fun r1 =>
  optE (loopVal step47_0 (r1, 0, p)) (fun e2 =>
   some (e2))
   (none))
  (none)
theorem i47 : ItemOk Tryz.prog (.fn 47 [.d (.agg (.pair (.slice (.agg zF)) zI))] [.d .str] s47) := item_fnM md5 ext5 (U := 9) (n := 12) noSpecial mixed G10K40_ok (fun x => by kernel_rfl)
noncomputable def G10K41 : List Ev.Item := .fn 47 [.d (.agg (.pair (.slice (.agg zF)) zI))] [.d .str] s47 :: G10K40
theorem G10K41_ok : ∀ q ∈ G10K41, ItemOk Tryz.prog q := items_cons i47 G10K40_ok
@[reducible] def T48_0 : Tmpl := ⟨38, [(2, .ref 2 0 0 0), (3, .ref 3 0 0 0)], [.val 5 zI, .cells 2 [.d (.pair (.slice (.agg zF)) zI)], .cells 3 [.d (.pair (.slice (.agg zF)) zI)]], [], none⟩
@[reducible] def X48_0 : List (Ex × Tmpl) := [(.ret, ⟨38, [], [.val 4 .bool], [], none⟩), (.exit 0, ⟨38, [], [], [], none⟩)]
noncomputable def step48_0 : Int × ((List (Int × Int × Int × Int)) × Int) × ((List (Int × Int × Int × Int)) × Int) → Option ((Int × ((List (Int × Int × Int × Int)) × Int) × ((List (Int × Int × Int × Int)) × Int)) ⊕ ((Bool) ⊕ (Unit))) := fun (i, a, b) =>
 bif decide (i < (a.1.length : Int)) then
  bif inBounds i a.1.length then
   bif inBounds i b.1.length then
    bif !(((a.1.getD i.toNat (0, 0, 0, 0)).1 == (b.1.getD i.toNat (0, 0, 0, 0)).1) && ((((a.1.getD i.toNat (0, 0, 0, 0)).2.1 == (b.1.getD i.toNat (0, 0, 0, 0)).2.1) && (((a.1.getD i.toNat (0, 0, 0, 0)).2.2.1 == (b.1.getD i.toNat (0, 0, 0, 0)).2.2.1) && (((a.1.getD i.toNat (0, 0, 0, 0)).2.2.2 == (b.1.getD i.toNat (0, 0, 0, 0)).2.2.2) && true))) && true)) then
     some (.inr (.inl false))
    else
     some (.inl (wr (i + 1), a, b))
   else
    none
  else
   none
 else
  some (.inr (.inr ()))
theorem one48_0 : oneLoop Tryz.prog 48 0 = true := by kernel_rfl
theorem lp48_0 : ItemOk Tryz.prog (.loop 48 0 T48_0 X48_0 (loopVal step48_0)) := item_loopM md5 ext5 (U := 9) (n := 11) noSpecial mixed G10K41_ok one48_0 (fun x => by kernel_rfl)
noncomputable def G10K42 : List Ev.Item := .loop 48 0 T48_0 X48_0 (loopVal step48_0) :: G10K41
theorem G10K42_ok : ∀ q ∈ G10K42, ItemOk Tryz.prog q := items_cons lp48_0 G10K41_ok
noncomputable def s48 : ((List (Int × Int × Int × Int)) × Int) × ((List (Int × Int × Int × Int)) × Int) → Option (Bool) := fun (a, b) =>
 bif a.2 != b.2 then
  some (false)
 else
  bif (a.1.length : Int) != (b.1.length : Int) then
   some (false)
  else
   optE (loopVal step48_0 (0, a, b)) (fun e1 =>
    sumE e1 (fun e2 =>
     some (e2)) (fun _ =>
     some (true)))
    (none)
theorem i48 : ItemOk Tryz.prog (.fn 48 [.d (.agg (.pair (.slice (.agg zF)) zI)), .d (.agg (.pair (.slice (.agg zF)) zI))] [.d .bool] s48) := item_fnM md5 ext5 (U := 9) (n := 12) noSpecial mixed G10K42_ok (fun x => by kernel_rfl)
noncomputable def G10K43 : List Ev.Item := .fn 48 [.d (.agg (.pair (.slice (.agg zF)) zI)), .d (.agg (.pair (.slice (.agg zF)) zI))] [.d .bool] s48 :: G10K42
theorem G10K43_ok : ∀ q ∈ G10K43, ItemOk Tryz.prog q := items_cons i48 G10K42_ok
noncomputable def s7 : ((List (Int × Int × Int × Int)) × Int) × ByteArray → Option (Bool) := fun (p, s) =>
 bif !true then
  some (false)
 else
  optE (s42 p) (fun r1 =>
   bif !r1 then
    some (true)
   else
    (fun (k1 : Unit → Option (Bool)) =>
      bif decide ((s.size : Int) > 300) then
       bif decide ((s.size : Int) ≤ 60000) then
        some (true)
       else
        k1 ()
      else
       k1 ()) (fun _ =>
      bif decide ((s.size : Int) > 60010) then
       some (true)
      else
       optE (s44 p) (fun r2 =>
        optE (s43 r2) (fun r3 =>
         optE (s45 s) (fun r4 =>
          optE (s46 s) (fun r5 =>
           optE (s47 p) (fun r6 =>
            bif !(decide (r3.data.toList = r6.data.toList)) then
             some (false)
            else
             bif r4.2 != r5.2 then
              some (false)
             else
              optE (s48 (r4.1, r5.1)) (fun r7 =>
               bif !r7 then
                some (false)
               else
                optE (s49 p) (fun r8 =>
                 bif r8 != 0 then
                  some (true)
                 else
                  optE (s45 r3) (fun r9 =>
                   bif r9.2 == 0 then
                    optE (s48 (r9.1, p)) (fun r10 =>
                     some (r10))
                     (none)
                   else
                    some (false))
                   (none))
                 (none))
               (none))
            (none))
           (none))
          (none))
         (none))
        (none)))
   (none)
theorem i7 : ItemOk Tryz.prog (.fn 7 [.d (.agg (.pair (.slice (.agg zF)) zI)), .d .str] [.d .bool] s7) := item_fnM md5 ext5 (U := 9) (n := 12) noSpecial mixed G10K43_ok (fun x => by kernel_rfl)
noncomputable def G10K44 : List Ev.Item := .fn 7 [.d (.agg (.pair (.slice (.agg zF)) zI)), .d .str] [.d .bool] s7 :: G10K43
theorem G10K44_ok : ∀ q ∈ G10K44, ItemOk Tryz.prog q := items_cons i7 G10K43_ok
end Go.Proofs.YtdoehknomnhlkaaGreatDoor
