import Derived.Test.YtfmfiflpokogiaaDoorGc4
set_option linter.unusedSimpArgs false
set_option maxRecDepth 100000
namespace Go.Proofs.YtfmfiflpokogiaaDoor
open Go.Ev
noncomputable def s98 : (Int × Int) × Int × Int → Option (Int) := fun (f, most, mostDen) =>
 bif decide (f.2 > 0) then
  optE (s90 f) (fun r1 =>
   optE (s126 r1) (fun r2 =>
    bif win f.1 (wr (-most)) most then
     some (firstE [unl (r2 == 1) 3, unl (decide (f.2 ≤ mostDen)) 2])
    else
     some (firstE [unl (r2 == 1) 3, unl false 2]))
    (none))
   (none)
 else
  bif win f.1 (wr (-most)) most then
   some (firstE [unl false 3, unl (decide (f.2 ≤ mostDen)) 2])
  else
   some (firstE [unl false 3, unl false 2])
theorem i98 : ItemOk Tryd.prog (.fn 98 [.d (.agg zP), .d zI, .d zI] [.d zI] s98) := item_fnM md7 ext7 (U := 9) (n := 4) noSpecial mixed Gc4K17_ok (fun x => by kernel_rfl)
noncomputable def Gc5K1 : List Ev.Item := .fn 98 [.d (.agg zP), .d zI, .d zI] [.d zI] s98 :: Gc4K17
theorem Gc5K1_ok : ∀ q ∈ Gc5K1, ItemOk Tryd.prog q := items_cons i98 Gc4K17_ok
noncomputable def s97 : Int × Int → Option (Int) := fun f =>
 optE (s98 (f, 100000, 1000)) (fun r1 =>
  some (r1))
  (none)
theorem i97 : ItemOk Tryd.prog (.fn 97 [.d (.agg zP)] [.d zI] s97) := item_fnM md7 ext7 (U := 9) (n := 4) noSpecial mixed Gc5K1_ok (fun x => by kernel_rfl)
noncomputable def Gc5K2 : List Ev.Item := .fn 97 [.d (.agg zP)] [.d zI] s97 :: Gc5K1
theorem Gc5K2_ok : ∀ q ∈ Gc5K2, ItemOk Tryd.prog q := items_cons i97 Gc5K1_ok
noncomputable def s99 : Int × Int → Option (Int × Int) := fun (num, den) =>
 optE (s90 (num, den)) (fun r1 =>
  optE (s126 r1) (fun r2 =>
   bif !(r2 == 0) then
    bif !(r2 == 0) then
     some ((wr (Int.tdiv num r2), wr (Int.tdiv den r2)))
    else
     none
   else
    none)
   (none))
  (none)
theorem i99 : ItemOk Tryd.prog (.fn 99 [.d zI, .d zI] [.d (.agg zP)] s99) := item_fnM md7 ext7 (U := 9) (n := 4) noSpecial mixed Gc5K2_ok (fun x => by kernel_rfl)
noncomputable def Gc5K3 : List Ev.Item := .fn 99 [.d zI, .d zI] [.d (.agg zP)] s99 :: Gc5K2
theorem Gc5K3_ok : ∀ q ∈ Gc5K3, ItemOk Tryd.prog q := items_cons i99 Gc5K2_ok
@[reducible] def T48_0 : Tmpl := ⟨112, [(3, .ref 3 0 0 0)], [.own 9 109 36 (.agg zP), .val 10 zI, .val 41 zS, .val 42 zI, .val 43 zI, .cells 3 [.d (.pair zP zP)]], [], none⟩
@[reducible] def X48_0 : List (Ex × Tmpl) := [(.ret, ⟨112, [], [.val 4 (.slice (.agg zP)), .val 5 zI], [], none⟩), (.exit 0, ⟨112, [], [.own 9 109 36 (.agg zP)], [], none⟩)]
noncomputable def step48_0 : (List (Int × Int)) × Int × (List (Int × Int × Int × Int × Int)) × Int × Int × ((Int × Int) × Int × Int) → Option (((List (Int × Int)) × Int × (List (Int × Int × Int × Int × Int)) × Int × Int × ((Int × Int) × Int × Int)) ⊕ (((List (Int × Int)) × Int) ⊕ (List (Int × Int)))) := fun (out, den, t41, t42, t43, x0) =>
 bif decide (t43 < t42) then
  bif inBounds t43 t41.length then
   bif (t41.getD t43.toNat (0, 0, 0, 0, 0)).1 == 1 then
    optE (s99 (mx (mx 0 (wr ((wr ((t41.getD t43.toNat (0, 0, 0, 0, 0)).2.2.2.1 * den)) - (wr ((wr ((wr ((t41.getD t43.toNat (0, 0, 0, 0, 0)).2.2.1 * x0.2.1)) * x0.1.2)) - (wr ((wr ((t41.getD t43.toNat (0, 0, 0, 0, 0)).2.1 * x0.2.1)) * x0.1.2))))))) (wr ((wr ((wr ((wr ((t41.getD t43.toNat (0, 0, 0, 0, 0)).2.2.1 * x0.2.1)) * x0.1.2)) - (wr ((wr ((t41.getD t43.toNat (0, 0, 0, 0, 0)).2.1 * x0.2.1)) * x0.1.2)))) - (wr ((t41.getD t43.toNat (0, 0, 0, 0, 0)).2.2.2.2 * den)))), den)) (fun r4 =>
     bif decide (r4.1 > 1000000000) then
      some (.inr (.inl ([], 8)))
     else
      bif decide (r4.2 > 1000000000) then
       some (.inr (.inl ([], 8)))
      else
       bif room 16 (out.length + 1) then
        some (.inl (out ++ [r4], den, t41, t42, wr (t43 + 1), x0))
       else
        none)
     (none)
   else
    optE (s99 (mx (mx 0 (wr ((wr ((t41.getD t43.toNat (0, 0, 0, 0, 0)).2.2.2.1 * den)) - (wr ((wr ((wr ((t41.getD t43.toNat (0, 0, 0, 0, 0)).2.2.1 * x0.2.1)) * x0.1.2)) + (wr (x0.1.1 * x0.2.2))))))) (wr ((wr ((wr ((wr ((t41.getD t43.toNat (0, 0, 0, 0, 0)).2.2.1 * x0.2.1)) * x0.1.2)) + (wr (x0.1.1 * x0.2.2)))) - (wr ((t41.getD t43.toNat (0, 0, 0, 0, 0)).2.2.2.2 * den)))), den)) (fun r5 =>
     bif decide (r5.1 > 1000000000) then
      some (.inr (.inl ([], 8)))
     else
      bif decide (r5.2 > 1000000000) then
       some (.inr (.inl ([], 8)))
      else
       bif room 16 (out.length + 1) then
        some (.inl (out ++ [r5], den, t41, t42, wr (t43 + 1), x0))
       else
        none)
     (none)
  else
   none
 else
  some (.inr (.inr out))
theorem one48_0 : oneLoop Tryd.prog 48 0 = true := by kernel_rfl
theorem lp48_0 : ItemOk Tryd.prog (.loop 48 0 T48_0 X48_0 (loopVal step48_0)) := item_loopM md7 ext7 (U := 9) (n := 3) noSpecial mixed Gc5K3_ok one48_0 (fun x => by kernel_rfl)
noncomputable def Gc5K4 : List Ev.Item := .loop 48 0 T48_0 X48_0 (loopVal step48_0) :: Gc5K3
theorem Gc5K4_ok : ∀ q ∈ Gc5K4, ItemOk Tryd.prog q := items_cons lp48_0 Gc5K3_ok
noncomputable def s48 : (List (Int × Int × Int × Int × Int)) × ((Int × Int) × Int × Int) → Option ((List (Int × Int)) × Int) := fun (l, x0) =>
 optE (s18 l) (fun r1 =>
  optE (s97 x0.1) (fun r2 =>
   optE (s97 x0.2) (fun r3 =>
    bif (firstE [r1.2, r2, r3]) != 0 then
     some (([], firstE [r1.2, r2, r3]))
    else
     optE (loopVal step48_0 ([], wr (x0.1.2 * x0.2.2), l, (l.length : Int), 0, x0)) (fun e4 =>
      sumE e4 (fun e5 =>
       some (e5)) (fun e6 =>
       some ((e6, 0))))
      (none))
    (none))
   (none))
  (none)
theorem i48 : ItemOk Tryd.prog (.fn 48 [.d zS, .d (.agg (.pair zP zP))] [.d (.slice (.agg zP)), .d zI] s48) := item_fnM md7 ext7 (U := 9) (n := 4) noSpecial mixed Gc5K4_ok (fun x => by kernel_rfl)
noncomputable def Gc5K5 : List Ev.Item := .fn 48 [.d zS, .d (.agg (.pair zP zP))] [.d (.slice (.agg zP)), .d zI] s48 :: Gc5K4
theorem Gc5K5_ok : ∀ q ∈ Gc5K5, ItemOk Tryd.prog q := items_cons i48 Gc5K4_ok
noncomputable def s33 : Int × Int → Option (Bool) := fun f =>
 bif decide (f.2 > 0) then
  optE (s85 f) (fun r1 =>
   some (r1 == 1))
   (none)
 else
  some (false)
theorem i33 : ItemOk Tryd.prog (.fn 33 [.d (.agg zP)] [.d .bool] s33) := item_fnM md7 ext7 (U := 9) (n := 4) noSpecial mixed Gc5K5_ok (fun x => by kernel_rfl)
noncomputable def Gc5K6 : List Ev.Item := .fn 33 [.d (.agg zP)] [.d .bool] s33 :: Gc5K5
theorem Gc5K6_ok : ∀ q ∈ Gc5K6, ItemOk Tryd.prog q := items_cons i33 Gc5K5_ok
@[reducible] def T31_0 : Tmpl := ⟨35, [], [.own 3 9 36 (.agg zP), .val 4 zI], [], none⟩
@[reducible] def X31_0 : List (Ex × Tmpl) := [(.ret, ⟨35, [], [.val 2 zI], [], none⟩), (.exit 0, ⟨35, [], [], [], none⟩)]
noncomputable def step31_0 : (List (Int × Int)) × Int → Option (((List (Int × Int)) × Int) ⊕ ((Int) ⊕ (Unit))) := fun (parts, i) =>
 bif decide (i < 2) then
  bif inBounds i parts.length then
   optE (s33 (parts.getD i.toNat (0, 0))) (fun r1 =>
    bif !r1 then
     some (.inr (.inl 3))
    else
     bif inBounds i parts.length then
      bif !(win (parts.getD i.toNat (0, 0)).1 (-100000) 100000) then
       some (.inr (.inl 2))
      else
       bif inBounds i parts.length then
        bif decide ((parts.getD i.toNat (0, 0)).2 > 1000) then
         some (.inr (.inl 2))
        else
         some (.inl (parts, wr (i + 1)))
       else
        none
     else
      none)
    (none)
  else
   none
 else
  some (.inr (.inr ()))
theorem one31_0 : oneLoop Tryd.prog 31 0 = true := by kernel_rfl
theorem lp31_0 : ItemOk Tryd.prog (.loop 31 0 T31_0 X31_0 (loopVal step31_0)) := item_loopM md7 ext7 (U := 9) (n := 3) noSpecial mixed Gc5K6_ok one31_0 (fun x => by kernel_rfl)
noncomputable def Gc5K7 : List Ev.Item := .loop 31 0 T31_0 X31_0 (loopVal step31_0) :: Gc5K6
theorem Gc5K7_ok : ∀ q ∈ Gc5K7, ItemOk Tryd.prog q := items_cons lp31_0 Gc5K6_ok
noncomputable def s31 : (Int × Int) × Int × Int → Option (Int) := fun x0 =>
 optE (loopVal step31_0 ([x0.1, x0.2], 0)) (fun e1 =>
  sumE e1 (fun e2 =>
   some (e2)) (fun _ =>
   some (0)))
  (none)
theorem i31 : ItemOk Tryd.prog (.fn 31 [.d (.agg (.pair zP zP))] [.d zI] s31) := item_fnM md7 ext7 (U := 9) (n := 4) noSpecial mixed Gc5K7_ok (fun x => by kernel_rfl)
noncomputable def Gc5K8 : List Ev.Item := .fn 31 [.d (.agg (.pair zP zP))] [.d zI] s31 :: Gc5K7
theorem Gc5K8_ok : ∀ q ∈ Gc5K8, ItemOk Tryd.prog q := items_cons i31 Gc5K7_ok
noncomputable def s100 : (Int × Int × Int × Int × Int) × Bool → Option (Int × Int × Int) := fun (m, upper) =>
 bif m.1 == 1 then
  bif !upper then
   some ((0, wr (-(wr (m.2.2.1 - m.2.1))), wr (-m.2.2.2.1)))
  else
   some ((0, wr (m.2.2.1 - m.2.1), m.2.2.2.2))
 else
  bif !upper then
   some (((-1), wr (-m.2.2.1), wr (-m.2.2.2.1)))
  else
   some ((1, m.2.2.1, m.2.2.2.2))
theorem i100 : ItemOk Tryd.prog (.fn 100 [.d zA, .d .bool] [.d (.agg (.pair zI zP))] s100) := item_fnM md7 ext7 (U := 9) (n := 4) noSpecial mixed Gc5K8_ok (fun x => by kernel_rfl)
noncomputable def Gc5K9 : List Ev.Item := .fn 100 [.d zA, .d .bool] [.d (.agg (.pair zI zP))] s100 :: Gc5K8
theorem Gc5K9_ok : ∀ q ∈ Gc5K9, ItemOk Tryd.prog q := items_cons i100 Gc5K8_ok
noncomputable def s70 : Int × Int → Option (Int × Int) := fun (num, den) =>
 optE (s85 (num, den)) (fun r1 =>
  bif decide (den < 0) then
   bif !((wr (-r1)) == 0) then
    bif !((wr (-r1)) == 0) then
     some ((wr (Int.tdiv num (wr (-r1))), wr (Int.tdiv den (wr (-r1)))))
    else
     none
   else
    none
  else
   bif !(r1 == 0) then
    bif !(r1 == 0) then
     some ((wr (Int.tdiv num r1), wr (Int.tdiv den r1)))
    else
     none
   else
    none)
  (none)
theorem i70 : ItemOk Tryd.prog (.fn 70 [.d zI, .d zI] [.d (.agg zP)] s70) := item_fnM md7 ext7 (U := 9) (n := 4) noSpecial mixed Gc5K9_ok (fun x => by kernel_rfl)
noncomputable def Gc5K10 : List Ev.Item := .fn 70 [.d zI, .d zI] [.d (.agg zP)] s70 :: Gc5K9
theorem Gc5K10_ok : ∀ q ∈ Gc5K10, ItemOk Tryd.prog q := items_cons i70 Gc5K9_ok
@[reducible] def T49_0 : Tmpl := ⟨78, [(3, .ref 3 0 0 0)], [.val 0 zS, .own 5 76 36 (.agg zP), .val 6 zI, .cells 3 [.d (.pair zP zP)]], [], none⟩
@[reducible] def X49_0 : List (Ex × Tmpl) := [(.exit 0, ⟨78, [], [.own 5 76 36 (.agg zP)], [], none⟩)]
noncomputable def step49_0 : (List (Int × Int × Int × Int × Int)) × (List (Int × Int)) × Int × ((Int × Int) × Int × Int) → Option (((List (Int × Int × Int × Int × Int)) × (List (Int × Int)) × Int × ((Int × Int) × Int × Int)) ⊕ (List (Int × Int))) := fun (l, out, i, x0) =>
 bif decide (i < (l.length : Int)) then
  bif inBounds i l.length then
   optE (s100 ((l.getD i.toNat (0, 0, 0, 0, 0)), true)) (fun r1 =>
    bif inBounds i l.length then
     bif inBounds i l.length then
      optE (s70 (mx (mx 0 (wr ((wr ((l.getD i.toNat (0, 0, 0, 0, 0)).2.2.2.1 * (wr (x0.1.2 * x0.2.2)))) - (wr ((wr ((wr (r1.1 * x0.1.1)) * x0.2.2)) + (wr ((wr (r1.2.1 * x0.2.1)) * x0.1.2))))))) (wr ((wr ((wr ((wr (r1.1 * x0.1.1)) * x0.2.2)) + (wr ((wr (r1.2.1 * x0.2.1)) * x0.1.2)))) - (wr ((l.getD i.toNat (0, 0, 0, 0, 0)).2.2.2.2 * (wr (x0.1.2 * x0.2.2)))))), wr (x0.1.2 * x0.2.2))) (fun r2 =>
       bif room 16 (out.length + 1) then
        some (.inl (l, out ++ [r2], wr (i + 1), x0))
       else
        none)
       (none)
     else
      none
    else
     none)
    (none)
  else
   none
 else
  some (.inr out)
theorem one49_0 : oneLoop Tryd.prog 49 0 = true := by kernel_rfl
theorem lp49_0 : ItemOk Tryd.prog (.loop 49 0 T49_0 X49_0 (loopVal step49_0)) := item_loopM md7 ext7 (U := 9) (n := 3) noSpecial mixed Gc5K10_ok one49_0 (fun x => by kernel_rfl)
noncomputable def Gc5K11 : List Ev.Item := .loop 49 0 T49_0 X49_0 (loopVal step49_0) :: Gc5K10
theorem Gc5K11_ok : ∀ q ∈ Gc5K11, ItemOk Tryd.prog q := items_cons lp49_0 Gc5K10_ok
noncomputable def s49 : (List (Int × Int × Int × Int × Int)) × ((Int × Int) × Int × Int) → Option (List (Int × Int)) := fun (l, x0) =>
 optE (loopVal step49_0 (l, [], 0, x0)) (fun e1 =>
  some (e1))
  (none)
theorem i49 : ItemOk Tryd.prog (.fn 49 [.d zS, .d (.agg (.pair zP zP))] [.own 36 (.agg zP)] s49) := item_fnM md7 ext7 (U := 9) (n := 4) noSpecial mixed Gc5K11_ok (fun x => by kernel_rfl)
noncomputable def Gc5K12 : List Ev.Item := .fn 49 [.d zS, .d (.agg (.pair zP zP))] [.own 36 (.agg zP)] s49 :: Gc5K11
theorem Gc5K12_ok : ∀ q ∈ Gc5K12, ItemOk Tryd.prog q := items_cons i49 Gc5K11_ok
noncomputable def s50 : Int × Int → Option (Bool) := fun f =>
 bif win f.1 (-1000000000) 1000000000 then
  some (win f.2 1 1000000000)
 else
  some (false)
theorem i50 : ItemOk Tryd.prog (.fn 50 [.d (.agg zP)] [.d .bool] s50) := item_fnM md7 ext7 (U := 9) (n := 4) noSpecial mixed Gc5K12_ok (fun x => by kernel_rfl)
noncomputable def Gc5K13 : List Ev.Item := .fn 50 [.d (.agg zP)] [.d .bool] s50 :: Gc5K12
theorem Gc5K13_ok : ∀ q ∈ Gc5K13, ItemOk Tryd.prog q := items_cons i50 Gc5K12_ok
@[reducible] def T51_0 : Tmpl := ⟨26, [], [.val 0 (.slice (.agg zP)), .val 1 (.slice (.agg zP)), .val 5 zI], [], none⟩
@[reducible] def X51_0 : List (Ex × Tmpl) := [(.ret, ⟨26, [], [.val 4 .bool], [], none⟩), (.exit 0, ⟨26, [], [], [], none⟩)]
noncomputable def step51_0 : (List (Int × Int)) × (List (Int × Int)) × Int → Option (((List (Int × Int)) × (List (Int × Int)) × Int) ⊕ ((Bool) ⊕ (Unit))) := fun (a, b, i) =>
 bif decide (i < (a.length : Int)) then
  bif inBounds i a.length then
   bif inBounds i b.length then
    bif !(((a.getD i.toNat (0, 0)).1 == (b.getD i.toNat (0, 0)).1) && (((a.getD i.toNat (0, 0)).2 == (b.getD i.toNat (0, 0)).2) && true)) then
     some (.inr (.inl false))
    else
     some (.inl (a, b, wr (i + 1)))
   else
    none
  else
   none
 else
  some (.inr (.inr ()))
theorem one51_0 : oneLoop Tryd.prog 51 0 = true := by kernel_rfl
theorem lp51_0 : ItemOk Tryd.prog (.loop 51 0 T51_0 X51_0 (loopVal step51_0)) := item_loopM md7 ext7 (U := 9) (n := 3) noSpecial mixed Gc5K13_ok one51_0 (fun x => by kernel_rfl)
noncomputable def Gc5K14 : List Ev.Item := .loop 51 0 T51_0 X51_0 (loopVal step51_0) :: Gc5K13
theorem Gc5K14_ok : ∀ q ∈ Gc5K14, ItemOk Tryd.prog q := items_cons lp51_0 Gc5K13_ok
noncomputable def s51 : (List (Int × Int)) × (List (Int × Int)) → Option (Bool) := fun (a, b) =>
 bif (a.length : Int) != (b.length : Int) then
  some (false)
 else
  optE (loopVal step51_0 (a, b, 0)) (fun e1 =>
   sumE e1 (fun e2 =>
    some (e2)) (fun _ =>
    some (true)))
   (none)
theorem i51 : ItemOk Tryd.prog (.fn 51 [.d (.slice (.agg zP)), .d (.slice (.agg zP))] [.d .bool] s51) := item_fnM md7 ext7 (U := 9) (n := 4) noSpecial mixed Gc5K14_ok (fun x => by kernel_rfl)
noncomputable def Gc5K15 : List Ev.Item := .fn 51 [.d (.slice (.agg zP)), .d (.slice (.agg zP))] [.d .bool] s51 :: Gc5K14
theorem Gc5K15_ok : ∀ q ∈ Gc5K15, ItemOk Tryd.prog q := items_cons i51 Gc5K14_ok
@[reducible] def T10_0 : Tmpl := ⟨81, [], [.val 5 (.slice (.agg zP)), .val 6 zI, .own 8 41 36 (.agg zP), .val 9 zI], [], none⟩
@[reducible] def X10_0 : List (Ex × Tmpl) := [(.ret, ⟨81, [], [.val 4 .bool], [], none⟩), (.exit 0, ⟨81, [], [.val 5 (.slice (.agg zP)), .val 6 zI, .own 8 41 36 (.agg zP)], [], none⟩)]
noncomputable def step10_0 : (List (Int × Int)) × Int × (List (Int × Int)) × Int → Option (((List (Int × Int)) × Int × (List (Int × Int)) × Int) ⊕ ((Bool) ⊕ ((List (Int × Int)) × Int × (List (Int × Int))))) := fun (r0, e0, want, i) =>
 bif decide (i < (want.length : Int)) then
  bif inBounds i want.length then
   optE (s50 (want.getD i.toNat (0, 0))) (fun r6 =>
    bif !r6 then
     bif e0 == 8 then
      some (.inr (.inl ((r0.length : Int) == 0)))
     else
      some (.inr (.inl false))
    else
     some (.inl (r0, e0, want, wr (i + 1))))
    (none)
  else
   none
 else
  some (.inr (.inr (r0, e0, want)))
theorem one10_0 : oneLoop Tryd.prog 10 0 = true := by kernel_rfl
theorem lp10_0 : ItemOk Tryd.prog (.loop 10 0 T10_0 X10_0 (loopVal step10_0)) := item_loopM md7 ext7 (U := 9) (n := 3) noSpecial mixed Gc5K15_ok one10_0 (fun x => by kernel_rfl)
noncomputable def Gc5K16 : List Ev.Item := .loop 10 0 T10_0 X10_0 (loopVal step10_0) :: Gc5K15
theorem Gc5K16_ok : ∀ q ∈ Gc5K16, ItemOk Tryd.prog q := items_cons lp10_0 Gc5K15_ok
@[reducible] def T10_2 : Tmpl := ⟨81, [], [.val 5 (.slice (.agg zP)), .val 10 zI], [], none⟩
@[reducible] def X10_2 : List (Ex × Tmpl) := [(.ret, ⟨81, [], [.val 4 .bool], [], none⟩), (.exit 2, ⟨81, [], [], [], none⟩)]
noncomputable def step10_2 : (List (Int × Int)) × Int → Option (((List (Int × Int)) × Int) ⊕ ((Bool) ⊕ (Unit))) := fun (r0, i) =>
 bif decide (i < (r0.length : Int)) then
  bif inBounds i r0.length then
   bif decide ((r0.getD i.toNat (0, 0)).1 < 0) then
    some (.inr (.inl false))
   else
    some (.inl (r0, wr (i + 1)))
  else
   none
 else
  some (.inr (.inr ()))
theorem one10_2 : oneLoop Tryd.prog 10 2 = true := by kernel_rfl
theorem lp10_2 : ItemOk Tryd.prog (.loop 10 2 T10_2 X10_2 (loopVal step10_2)) := item_loopM md7 ext7 (U := 9) (n := 3) noSpecial mixed Gc5K16_ok one10_2 (fun x => by kernel_rfl)
noncomputable def Gc5K17 : List Ev.Item := .loop 10 2 T10_2 X10_2 (loopVal step10_2) :: Gc5K16
theorem Gc5K17_ok : ∀ q ∈ Gc5K17, ItemOk Tryd.prog q := items_cons lp10_2 Gc5K16_ok
noncomputable def s10 : (List (Int × Int × Int × Int × Int)) × ((Int × Int) × Int × Int) → Option (Bool) := fun (l, x0) =>
 bif !true then
  some (false)
 else
  bif decide ((l.length : Int) > 14) then
   some (true)
  else
   optE (s19 l) (fun r1 =>
    optE (s48 (r1, x0)) (fun r2 =>
     optE (s23 l) (fun r3 =>
      bif r3 == 0 then
       optE (s31 x0) (fun r4 =>
        bif r4 != 0 then
         bif r2.2 == r4 then
          some ((r2.1.length : Int) == 0)
         else
          some (false)
        else
         optE (s49 (l, x0)) (fun r5 =>
          optE (loopVal step10_0 (r2.1, r2.2, r5, 0)) (fun e6 =>
           sumE e6 (fun e7 =>
            some (e7)) (fun e8 =>
            bif e8.2.1 != 0 then
             some (false)
            else
             optE (s51 (e8.1, e8.2.2)) (fun r9 =>
              bif !r9 then
               some (false)
              else
               optE (loopVal step10_2 (e8.1, 0)) (fun e10 =>
                sumE e10 (fun e11 =>
                 some (e11)) (fun _ =>
                 some (true)))
                (none))
              (none)))
           (none))
          (none))
        (none)
      else
       bif r3 != 0 then
        bif r2.2 == r3 then
         some ((r2.1.length : Int) == 0)
        else
         some (false)
       else
        optE (s49 (l, x0)) (fun r13 =>
         optE (loopVal step10_0 (r2.1, r2.2, r13, 0)) (fun e14 =>
          sumE e14 (fun e15 =>
           some (e15)) (fun e16 =>
           bif e16.2.1 != 0 then
            some (false)
           else
            optE (s51 (e16.1, e16.2.2)) (fun r17 =>
             bif !r17 then
              some (false)
             else
              optE (loopVal step10_2 (e16.1, 0)) (fun e18 =>
               sumE e18 (fun e19 =>
                some (e19)) (fun _ =>
                some (true)))
               (none))
             (none)))
          (none))
         (none))
      (none))
     (none))
    (none)
theorem i10 : ItemOk Tryd.prog (.fn 10 [.d zS, .d (.agg (.pair zP zP))] [.d .bool] s10) := item_fnM md7 ext7 (U := 9) (n := 4) noSpecial mixed Gc5K17_ok (fun x => by kernel_rfl)
noncomputable def Gc5K18 : List Ev.Item := .fn 10 [.d zS, .d (.agg (.pair zP zP))] [.d .bool] s10 :: Gc5K17
theorem Gc5K18_ok : ∀ q ∈ Gc5K18, ItemOk Tryd.prog q := items_cons i10 Gc5K17_ok
end Go.Proofs.YtfmfiflpokogiaaDoor
