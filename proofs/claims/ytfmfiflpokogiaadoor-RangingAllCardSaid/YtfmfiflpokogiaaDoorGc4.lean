import Derived.Test.YtfmfiflpokogiaaDoorGc3
set_option linter.unusedSimpArgs false
set_option maxRecDepth 100000
namespace Go.Proofs.YtfmfiflpokogiaaDoor
open Go.Ev
noncomputable def s63 : Int × Int → Option (Int) := fun r0 =>
 bif !(win r0.1 0 1000000000) then
  some (2)
 else
  bif !(win r0.2 0 1000000000) then
   some (2)
  else
   bif decide (r0.1 > r0.2) then
    some (9)
   else
    bif decide ((wr (r0.2 - r0.1)) ≥ 100000) then
     some (8)
    else
     some (0)
theorem i63 : ItemOk Tryd.prog (.fn 63 [.d (.agg zP)] [.d zI] s63) := item_fnM md7 ext7 (U := 9) (n := 4) noSpecial mixed Gc3K38_ok (fun x => by kernel_rfl)
noncomputable def Gc4K1 : List Ev.Item := .fn 63 [.d (.agg zP)] [.d zI] s63 :: Gc3K38
theorem Gc4K1_ok : ∀ q ∈ Gc4K1, ItemOk Tryd.prog q := items_cons i63 Gc3K38_ok
noncomputable def s35 : (Int × Int) × Int → Option (Bool) := fun (r0, most) =>
 optE (s63 r0) (fun r1 =>
  bif r1 != 0 then
   some (true)
  else
   some (decide ((wr (r0.2 - r0.1)) < most)))
  (none)
theorem i35 : ItemOk Tryd.prog (.fn 35 [.d (.agg zP), .d zI] [.d .bool] s35) := item_fnM md7 ext7 (U := 9) (n := 4) noSpecial mixed Gc4K1_ok (fun x => by kernel_rfl)
noncomputable def Gc4K2 : List Ev.Item := .fn 35 [.d (.agg zP), .d zI] [.d .bool] s35 :: Gc4K1
theorem Gc4K2_ok : ∀ q ∈ Gc4K2, ItemOk Tryd.prog q := items_cons i35 Gc4K1_ok
noncomputable def s121 : Int → Option (Bool) := fun n =>
 some (win n 0 1000000000)
theorem i121 : ItemOk Tryd.prog (.fn 121 [.d zI] [.d .bool] s121) := item_fnM md7 ext7 (U := 9) (n := 4) noSpecial mixed Gc4K2_ok (fun x => by kernel_rfl)
noncomputable def Gc4K3 : List Ev.Item := .fn 121 [.d zI] [.d .bool] s121 :: Gc4K2
theorem Gc4K3_ok : ∀ q ∈ Gc4K3, ItemOk Tryd.prog q := items_cons i121 Gc4K2_ok
@[reducible] def T87_2 : Tmpl := ⟨89, [(3, .ref 3 0 0 0), (9, .ref 50 0 0 0)], [.val 0 (.slice (.agg (.pair zI zP))), .val 10 zI, .val 11 zI, .val 59 (.slice (.agg (.pair zI zP))), .val 60 zI, .val 61 zI, .cells 3 [.d zP], .cells 50 [.own 950 44 (.agg zP), .vec 256 .bool]], [27], none⟩
@[reducible] def X87_2 : List (Ex × Tmpl) := [(.exit 2, ⟨89, [(3, .ref 3 0 0 0), (9, .ref 50 0 0 0)], [.val 0 (.slice (.agg (.pair zI zP))), .val 10 zI, .val 11 zI, .cells 3 [.d zP], .cells 50 [.own 950 44 (.agg zP), .vec 256 .bool]], [27], none⟩)]
noncomputable def step87_2 : (List (Int × Int × Int)) × Int × Int × (List (Int × Int × Int)) × Int × Int × (Int × Int) × ((List (Int × Int)) × (List Bool)) → Option (((List (Int × Int × Int)) × Int × Int × (List (Int × Int × Int)) × Int × Int × (Int × Int) × ((List (Int × Int)) × (List Bool))) ⊕ ((List (Int × Int × Int)) × Int × Int × (Int × Int) × ((List (Int × Int)) × (List Bool)))) := fun (l, d, mask, t59, t60, t61, limit, s) =>
 bif decide (t61 < t60) then
  bif inBounds t61 t59.length then
   optE (s122 ((t59.getD t61.toNat (0, 0, 0)), d)) (fun r4 =>
    bif r4 then
     bif decide (0 ≤ t61) then
      some (.inl (l, d, orI .i64 mask (shlI .i64 1 t61), t59, t60, wr (t61 + 1), limit, (s.1, padV 256 .bool s.2)))
     else
      none
    else
     some (.inl (l, d, mask, t59, t60, wr (t61 + 1), limit, (s.1, padV 256 .bool s.2))))
    (none)
  else
   none
 else
  some (.inr (l, d, mask, limit, (s.1, padV 256 .bool s.2)))
theorem one87_2 : oneLoop Tryd.prog 87 2 = true := by kernel_rfl
theorem lp87_2 : ItemOk Tryd.prog (.loop 87 2 T87_2 X87_2 (loopVal step87_2)) := item_loopM md7 ext7 (U := 9) (n := 2) noSpecial mixed Gc4K3_ok one87_2 (fun x => by kernel_rfl)
noncomputable def Gc4K4 : List Ev.Item := .loop 87 2 T87_2 X87_2 (loopVal step87_2) :: Gc4K3
theorem Gc4K4_ok : ∀ q ∈ Gc4K4, ItemOk Tryd.prog q := items_cons lp87_2 Gc4K3_ok
@[reducible] def T87_0 : Tmpl := ⟨89, [(3, .ref 3 0 0 0), (9, .ref 50 0 0 0)], [.val 0 (.slice (.agg (.pair zI zP))), .val 10 zI, .cells 3 [.d zP], .cells 50 [.own 950 44 (.agg zP), .vec 256 .bool]], [27], none⟩
@[reducible] def X87_0 : List (Ex × Tmpl) := [(.exit 0, ⟨89, [(9, .ref 50 0 0 0)], [.cells 50 [.own 950 44 (.agg zP), .vec 256 .bool]], [27], none⟩)]
noncomputable def step87_0 : (List (Int × Int × Int)) × Int × (Int × Int) × ((List (Int × Int)) × (List Bool)) → Option (((List (Int × Int × Int)) × Int × (Int × Int) × ((List (Int × Int)) × (List Bool))) ⊕ (((List (Int × Int)) × (List Bool)))) := fun (l, d, limit, s) =>
 bif decide (d ≤ limit.2) then
  optE (loopVal step87_2 (l, d, 0, l, (l.length : Int), 0, limit, (s.1, padV 256 .bool s.2))) (fun e4 =>
   bif inBounds e4.2.2.1 256 then
    bif Nat.ble 1 (1 + e4.2.2.1.toNat * 1) && Nat.blt (1 + e4.2.2.1.toNat * 1) 257 then
     bif decide (0 ≤ (e4.1.length : Int)) then
      bif (wr (e4.2.2.1 + 1)) == (shlI .i64 1 (e4.1.length : Int)) then
       bif decide ((e4.2.2.2.2.1.length : Int) > 0) then
        bif inBounds (wr ((e4.2.2.2.2.1.length : Int) - 1)) e4.2.2.2.2.1.length then
         bif (wr ((e4.2.2.2.2.1.getD (wr ((e4.2.2.2.2.1.length : Int) - 1)).toNat (0, 0)).2 + 1)) == e4.2.1 then
          bif inBounds (wr ((e4.2.2.2.2.1.length : Int) - 1)) e4.2.2.2.2.1.length then
           some (.inl (e4.1, wr (e4.2.1 + 1), e4.2.2.2.1, (e4.2.2.2.2.1.set (wr ((e4.2.2.2.2.1.length : Int) - 1)).toNat ((e4.2.2.2.2.1.getD (wr ((e4.2.2.2.2.1.length : Int) - 1)).toNat (0, 0)).1, e4.2.1), putV 256 1 (1 + e4.2.2.1.toNat * 1) true e4.2.2.2.2.2)))
          else
           none
         else
          bif room 16 (e4.2.2.2.2.1.length + 1) then
           some (.inl (e4.1, wr (e4.2.1 + 1), e4.2.2.2.1, (e4.2.2.2.2.1 ++ [(e4.2.1, e4.2.1)], putV 256 1 (1 + e4.2.2.1.toNat * 1) true e4.2.2.2.2.2)))
          else
           none
        else
         none
       else
        bif room 16 (e4.2.2.2.2.1.length + 1) then
         some (.inl (e4.1, wr (e4.2.1 + 1), e4.2.2.2.1, (e4.2.2.2.2.1 ++ [(e4.2.1, e4.2.1)], putV 256 1 (1 + e4.2.2.1.toNat * 1) true e4.2.2.2.2.2)))
        else
         none
      else
       some (.inl (e4.1, wr (e4.2.1 + 1), e4.2.2.2.1, (e4.2.2.2.2.1, putV 256 1 (1 + e4.2.2.1.toNat * 1) true e4.2.2.2.2.2)))
     else
      none
    else
     none
   else
    none)
   (none)
 else
  some (.inr (s.1, padV 256 .bool s.2))
theorem one87_0 : oneLoop Tryd.prog 87 0 = true := by kernel_rfl
theorem lp87_0 : ItemOk Tryd.prog (.loop 87 0 T87_0 X87_0 (loopVal step87_0)) := item_loopM md7 ext7 (U := 9) (n := 2) noSpecial mixed Gc4K4_ok one87_0 (fun x => by kernel_rfl)
noncomputable def Gc4K5 : List Ev.Item := .loop 87 0 T87_0 X87_0 (loopVal step87_0) :: Gc4K4
theorem Gc4K5_ok : ∀ q ∈ Gc4K5, ItemOk Tryd.prog q := items_cons lp87_0 Gc4K4_ok
noncomputable def s36 : (List (Int × Int × Int)) × (Int × Int) → Option ((List (Int × Int)) × Int) := fun (l, limit) =>
 optE (s42 l) (fun r1 =>
  optE (s121 limit.1) (fun r2 =>
   bif r2 then
    optE (s121 limit.2) (fun r3 =>
     bif (firstE [r1.2, unl r3 2, unl (decide (limit.1 ≤ limit.2)) 9, unl (decide ((wr (limit.2 - limit.1)) < 100000)) 8]) != 0 then
      bif (firstE [r1.2, unl r3 2, unl (decide (limit.1 ≤ limit.2)) 9, unl (decide ((wr (limit.2 - limit.1)) < 100000)) 8]) != 0 then
       some (([], firstE [r1.2, unl r3 2, unl (decide (limit.1 ≤ limit.2)) 9, unl (decide ((wr (limit.2 - limit.1)) < 100000)) 8]))
      else
       none
     else
      optE (loopVal step87_0 (l, limit.1, limit, ([], List.replicate 256 false))) (fun e4 =>
       bif decide ((e4.1.length : Int) > 50) then
        some (([], 8))
       else
        some ((e4.1, 0)))
       (none))
     (none)
   else
    bif (firstE [r1.2, unl false 2, unl (decide (limit.1 ≤ limit.2)) 9, unl (decide ((wr (limit.2 - limit.1)) < 100000)) 8]) != 0 then
     bif (firstE [r1.2, unl false 2, unl (decide (limit.1 ≤ limit.2)) 9, unl (decide ((wr (limit.2 - limit.1)) < 100000)) 8]) != 0 then
      some (([], firstE [r1.2, unl false 2, unl (decide (limit.1 ≤ limit.2)) 9, unl (decide ((wr (limit.2 - limit.1)) < 100000)) 8]))
     else
      none
    else
     optE (loopVal step87_0 (l, limit.1, limit, ([], List.replicate 256 false))) (fun e5 =>
      bif decide ((e5.1.length : Int) > 50) then
       some (([], 8))
      else
       some ((e5.1, 0)))
      (none))
   (none))
  (none)
theorem i36 : ItemOk Tryd.prog (.fn 36 [.d (.slice (.agg (.pair zI zP))), .d (.agg zP)] [.own 44 (.agg zP), .d zI] s36) := item_fnM md7 ext7 (U := 9) (n := 4) noSpecial mixed Gc4K5_ok (fun x => by kernel_rfl)
noncomputable def Gc4K6 : List Ev.Item := .fn 36 [.d (.slice (.agg (.pair zI zP))), .d (.agg zP)] [.own 44 (.agg zP), .d zI] s36 :: Gc4K5
theorem Gc4K6_ok : ∀ q ∈ Gc4K6, ItemOk Tryd.prog q := items_cons i36 Gc4K5_ok
@[reducible] def T87_2a : Tmpl := ⟨89, [(3, .ref 3 0 0 0), (9, .ref 50 0 0 0), (16004, .ref 1004 0 0 0)], [.val 0 (.slice (.agg (.pair zI zP))), .val 10 zI, .val 11 zI, .val 59 (.slice (.agg (.pair zI zP))), .val 60 zI, .val 61 zI, .cells 3 [.d zP], .cells 50 [.own 950 44 (.agg zP), .vec 256 .bool], .cells 1004 [.d zP]], [45], none⟩
@[reducible] def X87_2a : List (Ex × Tmpl) := [(.exit 2, ⟨89, [(3, .ref 3 0 0 0), (9, .ref 50 0 0 0), (16004, .ref 1004 0 0 0)], [.val 0 (.slice (.agg (.pair zI zP))), .val 10 zI, .val 11 zI, .cells 3 [.d zP], .cells 50 [.own 950 44 (.agg zP), .vec 256 .bool], .cells 1004 [.d zP]], [45], none⟩)]
noncomputable def step87_2a : (List (Int × Int × Int)) × Int × Int × (List (Int × Int × Int)) × Int × Int × (Int × Int) × ((List (Int × Int)) × (List Bool)) × (Int × Int) → Option (((List (Int × Int × Int)) × Int × Int × (List (Int × Int × Int)) × Int × Int × (Int × Int) × ((List (Int × Int)) × (List Bool)) × (Int × Int)) ⊕ ((List (Int × Int × Int)) × Int × Int × (Int × Int) × ((List (Int × Int)) × (List Bool)) × (Int × Int))) := fun (l, d, mask, t59, t60, t61, limit, s, t1004) =>
 bif decide (t61 < t60) then
  bif inBounds t61 t59.length then
   optE (s122 ((t59.getD t61.toNat (0, 0, 0)), d)) (fun r4 =>
    bif r4 then
     bif decide (0 ≤ t61) then
      some (.inl (l, d, orI .i64 mask (shlI .i64 1 t61), t59, t60, wr (t61 + 1), limit, (s.1, padV 256 .bool s.2), t1004))
     else
      none
    else
     some (.inl (l, d, mask, t59, t60, wr (t61 + 1), limit, (s.1, padV 256 .bool s.2), t1004)))
    (none)
  else
   none
 else
  some (.inr (l, d, mask, limit, (s.1, padV 256 .bool s.2), t1004))
theorem one87_2a : oneLoop Tryd.prog 87 2 = true := by kernel_rfl
theorem lp87_2a : ItemOk Tryd.prog (.loop 87 2 T87_2a X87_2a (loopVal step87_2a)) := item_loopM md7 ext7 (U := 9) (n := 2) noSpecial mixed Gc4K6_ok one87_2a (fun x => by kernel_rfl)
noncomputable def Gc4K7 : List Ev.Item := .loop 87 2 T87_2a X87_2a (loopVal step87_2a) :: Gc4K6
theorem Gc4K7_ok : ∀ q ∈ Gc4K7, ItemOk Tryd.prog q := items_cons lp87_2a Gc4K6_ok
@[reducible] def T87_0a : Tmpl := ⟨89, [(3, .ref 3 0 0 0), (9, .ref 50 0 0 0), (16004, .ref 1004 0 0 0)], [.val 0 (.slice (.agg (.pair zI zP))), .val 10 zI, .cells 3 [.d zP], .cells 50 [.own 950 44 (.agg zP), .vec 256 .bool], .cells 1004 [.d zP]], [45], none⟩
@[reducible] def X87_0a : List (Ex × Tmpl) := [(.exit 0, ⟨89, [(9, .ref 50 0 0 0), (16004, .ref 1004 0 0 0)], [.cells 50 [.own 950 44 (.agg zP), .vec 256 .bool], .cells 1004 [.d zP]], [45], none⟩)]
noncomputable def step87_0a : (List (Int × Int × Int)) × Int × (Int × Int) × ((List (Int × Int)) × (List Bool)) × (Int × Int) → Option (((List (Int × Int × Int)) × Int × (Int × Int) × ((List (Int × Int)) × (List Bool)) × (Int × Int)) ⊕ (((List (Int × Int)) × (List Bool)) × (Int × Int))) := fun (l, d, limit, s, t1004) =>
 bif decide (d ≤ limit.2) then
  optE (loopVal step87_2a (l, d, 0, l, (l.length : Int), 0, limit, (s.1, padV 256 .bool s.2), t1004)) (fun e4 =>
   bif inBounds e4.2.2.1 256 then
    bif Nat.ble 1 (1 + e4.2.2.1.toNat * 1) && Nat.blt (1 + e4.2.2.1.toNat * 1) 257 then
     bif decide (0 ≤ (e4.1.length : Int)) then
      bif (wr (e4.2.2.1 + 1)) == (shlI .i64 1 (e4.1.length : Int)) then
       bif decide ((e4.2.2.2.2.1.1.length : Int) > 0) then
        bif inBounds (wr ((e4.2.2.2.2.1.1.length : Int) - 1)) e4.2.2.2.2.1.1.length then
         bif (wr ((e4.2.2.2.2.1.1.getD (wr ((e4.2.2.2.2.1.1.length : Int) - 1)).toNat (0, 0)).2 + 1)) == e4.2.1 then
          bif inBounds (wr ((e4.2.2.2.2.1.1.length : Int) - 1)) e4.2.2.2.2.1.1.length then
           some (.inl (e4.1, wr (e4.2.1 + 1), e4.2.2.2.1, (e4.2.2.2.2.1.1.set (wr ((e4.2.2.2.2.1.1.length : Int) - 1)).toNat ((e4.2.2.2.2.1.1.getD (wr ((e4.2.2.2.2.1.1.length : Int) - 1)).toNat (0, 0)).1, e4.2.1), putV 256 1 (1 + e4.2.2.1.toNat * 1) true e4.2.2.2.2.1.2), e4.2.2.2.2.2))
          else
           none
         else
          bif room 16 (e4.2.2.2.2.1.1.length + 1) then
           some (.inl (e4.1, wr (e4.2.1 + 1), e4.2.2.2.1, (e4.2.2.2.2.1.1 ++ [(e4.2.1, e4.2.1)], putV 256 1 (1 + e4.2.2.1.toNat * 1) true e4.2.2.2.2.1.2), e4.2.2.2.2.2))
          else
           none
        else
         none
       else
        bif room 16 (e4.2.2.2.2.1.1.length + 1) then
         some (.inl (e4.1, wr (e4.2.1 + 1), e4.2.2.2.1, (e4.2.2.2.2.1.1 ++ [(e4.2.1, e4.2.1)], putV 256 1 (1 + e4.2.2.1.toNat * 1) true e4.2.2.2.2.1.2), e4.2.2.2.2.2))
        else
         none
      else
       some (.inl (e4.1, wr (e4.2.1 + 1), e4.2.2.2.1, (e4.2.2.2.2.1.1, putV 256 1 (1 + e4.2.2.1.toNat * 1) true e4.2.2.2.2.1.2), e4.2.2.2.2.2))
     else
      none
    else
     none
   else
    none)
   (none)
 else
  some (.inr ((s.1, padV 256 .bool s.2), t1004))
theorem one87_0a : oneLoop Tryd.prog 87 0 = true := by kernel_rfl
theorem lp87_0a : ItemOk Tryd.prog (.loop 87 0 T87_0a X87_0a (loopVal step87_0a)) := item_loopM md7 ext7 (U := 9) (n := 2) noSpecial mixed Gc4K7_ok one87_0a (fun x => by kernel_rfl)
noncomputable def Gc4K8 : List Ev.Item := .loop 87 0 T87_0a X87_0a (loopVal step87_0a) :: Gc4K7
theorem Gc4K8_ok : ∀ q ∈ Gc4K8, ItemOk Tryd.prog q := items_cons lp87_0a Gc4K7_ok
noncomputable def s38 : (List (Int × Int × Int)) × (Int × Int) → Option ((Int × Int) × Int) := fun (l, limit) =>
 optE (s42 l) (fun r1 =>
  optE (s121 limit.1) (fun r2 =>
   bif r2 then
    optE (s121 limit.2) (fun r3 =>
     bif (firstE [r1.2, unl r3 2, unl (decide (limit.1 ≤ limit.2)) 9, unl (decide ((wr (limit.2 - limit.1)) < 100000)) 8]) != 0 then
      bif (firstE [r1.2, unl r3 2, unl (decide (limit.1 ≤ limit.2)) 9, unl (decide ((wr (limit.2 - limit.1)) < 100000)) 8]) != 0 then
       some (((0, 0), firstE [r1.2, unl r3 2, unl (decide (limit.1 ≤ limit.2)) 9, unl (decide ((wr (limit.2 - limit.1)) < 100000)) 8]))
      else
       none
     else
      optE (loopVal step87_0a (l, limit.1, limit, ([], List.replicate 256 false), (0, 0))) (fun e4 =>
       bif (firstE [unl (decide ((e4.1.1.length : Int) > 0)) 12, unl (decide ((e4.1.1.length : Int) < 2)) 22]) != 0 then
        some (((0, 0), firstE [unl (decide ((e4.1.1.length : Int) > 0)) 12, unl (decide ((e4.1.1.length : Int) < 2)) 22]))
       else
        bif inBounds 0 e4.1.1.length then
         some (((e4.1.1.getD 0 (0, 0)), 0))
        else
         none)
       (none))
     (none)
   else
    bif (firstE [r1.2, unl false 2, unl (decide (limit.1 ≤ limit.2)) 9, unl (decide ((wr (limit.2 - limit.1)) < 100000)) 8]) != 0 then
     bif (firstE [r1.2, unl false 2, unl (decide (limit.1 ≤ limit.2)) 9, unl (decide ((wr (limit.2 - limit.1)) < 100000)) 8]) != 0 then
      some (((0, 0), firstE [r1.2, unl false 2, unl (decide (limit.1 ≤ limit.2)) 9, unl (decide ((wr (limit.2 - limit.1)) < 100000)) 8]))
     else
      none
    else
     optE (loopVal step87_0a (l, limit.1, limit, ([], List.replicate 256 false), (0, 0))) (fun e5 =>
      bif (firstE [unl (decide ((e5.1.1.length : Int) > 0)) 12, unl (decide ((e5.1.1.length : Int) < 2)) 22]) != 0 then
       some (((0, 0), firstE [unl (decide ((e5.1.1.length : Int) > 0)) 12, unl (decide ((e5.1.1.length : Int) < 2)) 22]))
      else
       bif inBounds 0 e5.1.1.length then
        some (((e5.1.1.getD 0 (0, 0)), 0))
       else
        none)
      (none))
   (none))
  (none)
theorem i38 : ItemOk Tryd.prog (.fn 38 [.d (.slice (.agg (.pair zI zP))), .d (.agg zP)] [.d (.agg zP), .d zI] s38) := item_fnM md7 ext7 (U := 9) (n := 4) noSpecial mixed Gc4K8_ok (fun x => by kernel_rfl)
noncomputable def Gc4K9 : List Ev.Item := .fn 38 [.d (.slice (.agg (.pair zI zP))), .d (.agg zP)] [.d (.agg zP), .d zI] s38 :: Gc4K8
theorem Gc4K9_ok : ∀ q ∈ Gc4K9, ItemOk Tryd.prog q := items_cons i38 Gc4K8_ok
noncomputable def s39 : (List (Int × Int × Int)) × (Int × Int) → Option (Int) := fun (l, limit) =>
 optE (s44 l) (fun r1 =>
  bif r1.2 != 0 then
   some (r1.2)
  else
   optE (s63 limit) (fun r2 =>
    some (r2))
    (none))
  (none)
theorem i39 : ItemOk Tryd.prog (.fn 39 [.d (.slice (.agg (.pair zI zP))), .d (.agg zP)] [.d zI] s39) := item_fnM md7 ext7 (U := 9) (n := 4) noSpecial mixed Gc4K9_ok (fun x => by kernel_rfl)
noncomputable def Gc4K10 : List Ev.Item := .fn 39 [.d (.slice (.agg (.pair zI zP))), .d (.agg zP)] [.d zI] s39 :: Gc4K9
theorem Gc4K10_ok : ∀ q ∈ Gc4K10, ItemOk Tryd.prog q := items_cons i39 Gc4K9_ok
@[reducible] def T96_0 : Tmpl := ⟨18, [], [.val 0 (.slice zI), .val 1 zI, .val 5 zI], [], none⟩
@[reducible] def X96_0 : List (Ex × Tmpl) := [(.ret, ⟨18, [], [.val 4 .bool], [], none⟩), (.exit 0, ⟨18, [], [], [], none⟩)]
noncomputable def step96_0 : (List Int) × Int × Int → Option (((List Int) × Int × Int) ⊕ ((Bool) ⊕ (Unit))) := fun (l, n, i) =>
 bif decide (i < (l.length : Int)) then
  bif inBounds i l.length then
   bif (l.getD i.toNat 0) == n then
    some (.inr (.inl true))
   else
    some (.inl (l, n, wr (i + 1)))
  else
   none
 else
  some (.inr (.inr ()))
theorem one96_0 : oneLoop Tryd.prog 96 0 = true := by kernel_rfl
theorem lp96_0 : ItemOk Tryd.prog (.loop 96 0 T96_0 X96_0 (loopVal step96_0)) := item_loopM md7 ext7 (U := 9) (n := 3) noSpecial mixed Gc4K10_ok one96_0 (fun x => by kernel_rfl)
noncomputable def Gc4K11 : List Ev.Item := .loop 96 0 T96_0 X96_0 (loopVal step96_0) :: Gc4K10
theorem Gc4K11_ok : ∀ q ∈ Gc4K11, ItemOk Tryd.prog q := items_cons lp96_0 Gc4K10_ok
noncomputable def s96 : (List Int) × Int → Option (Bool) := fun (l, n) =>
 optE (loopVal step96_0 (l, n, 0)) (fun e1 =>
  sumE e1 (fun e2 =>
   some (e2)) (fun _ =>
   some (false)))
  (none)
theorem i96 : ItemOk Tryd.prog (.fn 96 [.d (.slice zI), .d zI] [.d .bool] s96) := item_fnM md7 ext7 (U := 9) (n := 4) noSpecial mixed Gc4K11_ok (fun x => by kernel_rfl)
noncomputable def Gc4K12 : List Ev.Item := .fn 96 [.d (.slice zI), .d zI] [.d .bool] s96 :: Gc4K11
theorem Gc4K12_ok : ∀ q ∈ Gc4K12, ItemOk Tryd.prog q := items_cons i96 Gc4K11_ok
noncomputable def s64 : Int × Int → Option (Int) := fun (n, by0) =>
 bif !(by0 == 0) then
  bif decide ((Int.tmod n by0) < 0) then
   some (wr ((Int.tmod n by0) + by0))
  else
   some (Int.tmod n by0)
 else
  none
theorem i64 : ItemOk Tryd.prog (.fn 64 [.d zI, .d zI] [.d zI] s64) := item_fnM md7 ext7 (U := 9) (n := 4) noSpecial mixed Gc4K12_ok (fun x => by kernel_rfl)
noncomputable def Gc4K13 : List Ev.Item := .fn 64 [.d zI, .d zI] [.d zI] s64 :: Gc4K12
theorem Gc4K13_ok : ∀ q ∈ Gc4K13, ItemOk Tryd.prog q := items_cons i64 Gc4K12_ok
@[reducible] def T47_0 : Tmpl := ⟨41, [], [.val 0 (.slice (.agg (.pair zI zP))), .val 1 zI, .val 2 (.slice zI), .val 7 zI], [], none⟩
@[reducible] def X47_0 : List (Ex × Tmpl) := [(.ret, ⟨41, [], [.val 6 .bool], [], none⟩), (.exit 0, ⟨41, [], [], [], none⟩)]
noncomputable def step47_0 : (List (Int × Int × Int)) × Int × (List Int) × Int → Option (((List (Int × Int × Int)) × Int × (List Int) × Int) ⊕ ((Bool) ⊕ (Unit))) := fun (l, d, without, i) =>
 bif decide (i < (l.length : Int)) then
  bif inBounds i l.length then
   optE (s96 (without, i)) (fun r1 =>
    bif !r1 then
     optE (s64 (wr (d - (l.getD i.toNat (0, 0, 0)).2.1), (l.getD i.toNat (0, 0, 0)).1)) (fun r2 =>
      bif decide (r2 > (wr ((l.getD i.toNat (0, 0, 0)).2.2 - (l.getD i.toNat (0, 0, 0)).2.1))) then
       some (.inr (.inl false))
      else
       some (.inl (l, d, without, wr (i + 1))))
      (none)
    else
     some (.inl (l, d, without, wr (i + 1))))
    (none)
  else
   none
 else
  some (.inr (.inr ()))
theorem one47_0 : oneLoop Tryd.prog 47 0 = true := by kernel_rfl
theorem lp47_0 : ItemOk Tryd.prog (.loop 47 0 T47_0 X47_0 (loopVal step47_0)) := item_loopM md7 ext7 (U := 9) (n := 3) noSpecial mixed Gc4K13_ok one47_0 (fun x => by kernel_rfl)
noncomputable def Gc4K14 : List Ev.Item := .loop 47 0 T47_0 X47_0 (loopVal step47_0) :: Gc4K13
theorem Gc4K14_ok : ∀ q ∈ Gc4K14, ItemOk Tryd.prog q := items_cons lp47_0 Gc4K13_ok
noncomputable def s47 : (List (Int × Int × Int)) × Int × (List Int) → Option (Bool) := fun (l, d, without) =>
 optE (loopVal step47_0 (l, d, without, 0)) (fun e1 =>
  sumE e1 (fun e2 =>
   some (e2)) (fun _ =>
   some (true)))
  (none)
theorem i47 : ItemOk Tryd.prog (.fn 47 [.d (.slice (.agg (.pair zI zP))), .d zI, .d (.slice zI)] [.d .bool] s47) := item_fnM md7 ext7 (U := 9) (n := 4) noSpecial mixed Gc4K14_ok (fun x => by kernel_rfl)
noncomputable def Gc4K15 : List Ev.Item := .fn 47 [.d (.slice (.agg (.pair zI zP))), .d zI, .d (.slice zI)] [.d .bool] s47 :: Gc4K14
theorem Gc4K15_ok : ∀ q ∈ Gc4K15, ItemOk Tryd.prog q := items_cons i47 Gc4K14_ok
@[reducible] def T40_0 : Tmpl := ⟨47, [(3, .ref 3 0 0 0)], [.val 0 (.slice (.agg (.pair zI zP))), .own 5 45 44 (.agg zP), .val 6 zI, .cells 3 [.d zP]], [], none⟩
@[reducible] def X40_0 : List (Ex × Tmpl) := [(.exit 0, ⟨47, [], [.own 5 45 44 (.agg zP)], [], none⟩)]
noncomputable def step40_0 : (List (Int × Int × Int)) × (List (Int × Int)) × Int × (Int × Int) → Option (((List (Int × Int × Int)) × (List (Int × Int)) × Int × (Int × Int)) ⊕ (List (Int × Int))) := fun (l, out, d, limit) =>
 bif decide (d ≤ limit.2) then
  optE (s47 (l, d, [])) (fun r1 =>
   bif !r1 then
    some (.inl (l, out, wr (d + 1), limit))
   else
    bif decide ((wr ((out.length : Int) - 1)) ≥ 0) then
     bif inBounds (wr ((out.length : Int) - 1)) out.length then
      bif (out.getD (wr ((out.length : Int) - 1)).toNat (0, 0)).2 == (wr (d - 1)) then
       bif inBounds (wr ((out.length : Int) - 1)) out.length then
        some (.inl (l, out.set (wr ((out.length : Int) - 1)).toNat ((out.getD (wr ((out.length : Int) - 1)).toNat (0, 0)).1, d), wr (d + 1), limit))
       else
        none
      else
       bif room 16 (out.length + 1) then
        some (.inl (l, out ++ [(d, d)], wr (d + 1), limit))
       else
        none
     else
      none
    else
     bif room 16 (out.length + 1) then
      some (.inl (l, out ++ [(d, d)], wr (d + 1), limit))
     else
      none)
   (none)
 else
  some (.inr out)
theorem one40_0 : oneLoop Tryd.prog 40 0 = true := by kernel_rfl
theorem lp40_0 : ItemOk Tryd.prog (.loop 40 0 T40_0 X40_0 (loopVal step40_0)) := item_loopM md7 ext7 (U := 9) (n := 3) noSpecial mixed Gc4K15_ok one40_0 (fun x => by kernel_rfl)
noncomputable def Gc4K16 : List Ev.Item := .loop 40 0 T40_0 X40_0 (loopVal step40_0) :: Gc4K15
theorem Gc4K16_ok : ∀ q ∈ Gc4K16, ItemOk Tryd.prog q := items_cons lp40_0 Gc4K15_ok
noncomputable def s40 : (List (Int × Int × Int)) × (Int × Int) → Option (List (Int × Int)) := fun (l, limit) =>
 optE (loopVal step40_0 (l, [], limit.1, limit)) (fun e1 =>
  some (e1))
  (none)
theorem i40 : ItemOk Tryd.prog (.fn 40 [.d (.slice (.agg (.pair zI zP))), .d (.agg zP)] [.own 44 (.agg zP)] s40) := item_fnM md7 ext7 (U := 9) (n := 4) noSpecial mixed Gc4K16_ok (fun x => by kernel_rfl)
noncomputable def Gc4K17 : List Ev.Item := .fn 40 [.d (.slice (.agg (.pair zI zP))), .d (.agg zP)] [.own 44 (.agg zP)] s40 :: Gc4K16
theorem Gc4K17_ok : ∀ q ∈ Gc4K17, ItemOk Tryd.prog q := items_cons i40 Gc4K16_ok
@[reducible] def T41_0 : Tmpl := ⟨26, [], [.val 0 (.slice (.agg zP)), .val 1 (.slice (.agg zP)), .val 5 zI], [], none⟩
@[reducible] def X41_0 : List (Ex × Tmpl) := [(.ret, ⟨26, [], [.val 4 .bool], [], none⟩), (.exit 0, ⟨26, [], [], [], none⟩)]
noncomputable def step41_0 : (List (Int × Int)) × (List (Int × Int)) × Int → Option (((List (Int × Int)) × (List (Int × Int)) × Int) ⊕ ((Bool) ⊕ (Unit))) := fun (a, b, i) =>
 bif decide (i < (a.length : Int)) then
  bif inBounds i a.length then
   bif inBounds i b.length then
    bif !(((a.getD i.toNat (0, 0)).1 == (b.getD i.toNat (0, 0)).1) && (((a.getD i.toNat (0, 0)).2 == (b.getD i.toNat (0, 0)).2) && true)) then
     some (.inr (.inl false))
    else
     some (.inl (a, b, wr (i + 1)))
   else
    none
  else
   none
 else
  some (.inr (.inr ()))
theorem one41_0 : oneLoop Tryd.prog 41 0 = true := by kernel_rfl
theorem lp41_0 : ItemOk Tryd.prog (.loop 41 0 T41_0 X41_0 (loopVal step41_0)) := item_loopM md7 ext7 (U := 9) (n := 3) noSpecial mixed Gc4K17_ok one41_0 (fun x => by kernel_rfl)
noncomputable def Gc4K18 : List Ev.Item := .loop 41 0 T41_0 X41_0 (loopVal step41_0) :: Gc4K17
theorem Gc4K18_ok : ∀ q ∈ Gc4K18, ItemOk Tryd.prog q := items_cons lp41_0 Gc4K17_ok
noncomputable def s41 : (List (Int × Int)) × (List (Int × Int)) → Option (Bool) := fun (a, b) =>
 bif (a.length : Int) != (b.length : Int) then
  some (false)
 else
  optE (loopVal step41_0 (a, b, 0)) (fun e1 =>
   sumE e1 (fun e2 =>
    some (e2)) (fun _ =>
    some (true)))
   (none)
theorem i41 : ItemOk Tryd.prog (.fn 41 [.d (.slice (.agg zP)), .d (.slice (.agg zP))] [.d .bool] s41) := item_fnM md7 ext7 (U := 9) (n := 4) noSpecial mixed Gc4K18_ok (fun x => by kernel_rfl)
noncomputable def Gc4K19 : List Ev.Item := .fn 41 [.d (.slice (.agg zP)), .d (.slice (.agg zP))] [.d .bool] s41 :: Gc4K18
theorem Gc4K19_ok : ∀ q ∈ Gc4K19, ItemOk Tryd.prog q := items_cons i41 Gc4K18_ok
noncomputable def s7 : (List (Int × Int × Int)) × (Int × Int) → Option (Bool) := fun (l, limit) =>
 bif !true then
  some (false)
 else
  bif decide ((l.length : Int) > 10) then
   some (true)
  else
   optE (s35 (limit, 600)) (fun r1 =>
    bif !r1 then
     some (true)
    else
     optE (s37 l) (fun r2 =>
      optE (s36 (r2, limit)) (fun r3 =>
       optE (s37 l) (fun r4 =>
        optE (s38 (r4, limit)) (fun r5 =>
         optE (s39 (l, limit)) (fun r6 =>
          bif r6 != 0 then
           bif r3.2 == r6 then
            bif r5.2 == r6 then
             bif (r3.1.length : Int) == 0 then
              some ((r5.1.1 == 0) && ((r5.1.2 == 0) && true))
             else
              some (false)
            else
             some (false)
           else
            some (false)
          else
           optE (s40 (l, limit)) (fun r7 =>
            bif decide ((r7.length : Int) > 50) then
             bif r3.2 != 8 then
              some (false)
             else
              bif (r3.1.length : Int) != 0 then
               some (false)
              else
               bif decide ((r7.length : Int) ≤ 50) then
                bif r3.2 != 0 then
                 some (false)
                else
                 optE (s41 (r3.1, r7)) (fun r8 =>
                  bif !r8 then
                   some (false)
                  else
                   bif (r7.length : Int) == 0 then
                    bif r5.2 == 12 then
                     some ((r5.1.1 == 0) && ((r5.1.2 == 0) && true))
                    else
                     some (false)
                   else
                    bif (r7.length : Int) == 1 then
                     bif r5.2 == 0 then
                      bif inBounds 0 r7.length then
                       some ((r5.1.1 == (r7.getD 0 (0, 0)).1) && ((r5.1.2 == (r7.getD 0 (0, 0)).2) && true))
                      else
                       none
                     else
                      some (false)
                    else
                     bif r5.2 == 22 then
                      some ((r5.1.1 == 0) && ((r5.1.2 == 0) && true))
                     else
                      some (false))
                  (none)
               else
                bif (r7.length : Int) == 0 then
                 bif r5.2 == 12 then
                  some ((r5.1.1 == 0) && ((r5.1.2 == 0) && true))
                 else
                  some (false)
                else
                 bif (r7.length : Int) == 1 then
                  bif r5.2 == 0 then
                   bif inBounds 0 r7.length then
                    some ((r5.1.1 == (r7.getD 0 (0, 0)).1) && ((r5.1.2 == (r7.getD 0 (0, 0)).2) && true))
                   else
                    none
                  else
                   some (false)
                 else
                  bif r5.2 == 22 then
                   some ((r5.1.1 == 0) && ((r5.1.2 == 0) && true))
                  else
                   some (false)
            else
             bif decide ((r7.length : Int) ≤ 50) then
              bif r3.2 != 0 then
               some (false)
              else
               optE (s41 (r3.1, r7)) (fun r9 =>
                bif !r9 then
                 some (false)
                else
                 bif (r7.length : Int) == 0 then
                  bif r5.2 == 12 then
                   some ((r5.1.1 == 0) && ((r5.1.2 == 0) && true))
                  else
                   some (false)
                 else
                  bif (r7.length : Int) == 1 then
                   bif r5.2 == 0 then
                    bif inBounds 0 r7.length then
                     some ((r5.1.1 == (r7.getD 0 (0, 0)).1) && ((r5.1.2 == (r7.getD 0 (0, 0)).2) && true))
                    else
                     none
                   else
                    some (false)
                  else
                   bif r5.2 == 22 then
                    some ((r5.1.1 == 0) && ((r5.1.2 == 0) && true))
                   else
                    some (false))
                (none)
             else
              bif (r7.length : Int) == 0 then
               bif r5.2 == 12 then
                some ((r5.1.1 == 0) && ((r5.1.2 == 0) && true))
               else
                some (false)
              else
               bif (r7.length : Int) == 1 then
                bif r5.2 == 0 then
                 bif inBounds 0 r7.length then
                  some ((r5.1.1 == (r7.getD 0 (0, 0)).1) && ((r5.1.2 == (r7.getD 0 (0, 0)).2) && true))
                 else
                  none
                else
                 some (false)
               else
                bif r5.2 == 22 then
                 some ((r5.1.1 == 0) && ((r5.1.2 == 0) && true))
                else
                 some (false))
            (none))
          (none))
         (none))
        (none))
       (none))
      (none))
    (none)
theorem i7 : ItemOk Tryd.prog (.fn 7 [.d (.slice (.agg (.pair zI zP))), .d (.agg zP)] [.d .bool] s7) := item_fnM md7 ext7 (U := 9) (n := 4) noSpecial mixed Gc4K19_ok (fun x => by kernel_rfl)
noncomputable def Gc4K20 : List Ev.Item := .fn 7 [.d (.slice (.agg (.pair zI zP))), .d (.agg zP)] [.d .bool] s7 :: Gc4K19
theorem Gc4K20_ok : ∀ q ∈ Gc4K20, ItemOk Tryd.prog q := items_cons i7 Gc4K19_ok
end Go.Proofs.YtfmfiflpokogiaaDoor
