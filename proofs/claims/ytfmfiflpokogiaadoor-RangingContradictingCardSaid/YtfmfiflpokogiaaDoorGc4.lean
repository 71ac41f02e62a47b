import Derived.Test.YtfmfiflpokogiaaDoorGc3
set_option linter.unusedSimpArgs false
set_option maxRecDepth 100000
namespace Go.Proofs.YtfmfiflpokogiaaDoor
open Go.Ev
noncomputable def s55 : List (Int × Int × Int) → Option (List (Int × Int × Int)) := fun l =>
 bif room 24 (0 + l.length) then
  some (l)
 else
  none
theorem i55 : ItemOk Tryd.prog (.fn 55 [.d (.slice (.agg (.pair zI zP)))] [.own 166 (.agg (.pair zI zP))] s55) := item_fnM md7 ext7 (U := 9) (n := 4) noSpecial mixed Gc3K38_ok (fun x => by kernel_rfl)
noncomputable def Gc4K1 : List Ev.Item := .fn 55 [.d (.slice (.agg (.pair zI zP)))] [.own 166 (.agg (.pair zI zP))] s55 :: Gc3K38
theorem Gc4K1_ok : ∀ q ∈ Gc4K1, ItemOk Tryd.prog q := items_cons i55 Gc3K38_ok
noncomputable def s102 : Int → Option (Bool) := fun n =>
 some (win n 0 100000)
theorem i102 : ItemOk Tryd.prog (.fn 102 [.d zI] [.d .bool] s102) := item_fnM md7 ext7 (U := 9) (n := 4) noSpecial mixed Gc4K1_ok (fun x => by kernel_rfl)
theorem j102 : ItemOk Tryd.prog (.fn 102 [.d zI] [.d .bool] (fun x => some (win x 0 100000))) := item_imp i102 (by
 intro n y h
 rw [← h]; rfl)
noncomputable def Gc4K2 : List Ev.Item := .fn 102 [.d zI] [.d .bool] (fun x => some (win x 0 100000)) :: Gc4K1
theorem Gc4K2_ok : ∀ q ∈ Gc4K2, ItemOk Tryd.prog q := items_cons j102 Gc4K1_ok
@[reducible] def T54_0 : Tmpl := ⟨93, [(2, .ref 2 0 0 0), (5, .fn 102), (6, .ref 6 0 0 0)], [.val 26 (.slice (.agg (.pair zI zP))), .val 27 zI, .val 28 zI, .cells 2 [.d zP], .cells 6 [.d zP]], [], none⟩
@[reducible] def X54_0 : List (Ex × Tmpl) := [(.ret, ⟨93, [(2, .ref 2 0 0 0)], [.val 3 zI, .cells 2 [.d zP]], [], none⟩), (.exit 0, ⟨93, [(2, .ref 2 0 0 0), (6, .ref 6 0 0 0)], [.cells 2 [.d zP], .cells 6 [.d zP]], [], none⟩)]
noncomputable def step54_0 : (List (Int × Int × Int)) × Int × Int × (Int × Int) × (Int × Int) → Option (((List (Int × Int × Int)) × Int × Int × (Int × Int) × (Int × Int)) ⊕ ((Int × (Int × Int)) ⊕ ((Int × Int) × (Int × Int)))) := fun (t26, t27, t28, t2, out) =>
 bif decide (t28 < t27) then
  bif inBounds t28 t26.length then
   bif win (t26.getD t28.toNat (0, 0, 0)).1 0 100000 then
    bif win (t26.getD t28.toNat (0, 0, 0)).2.1 0 100000 then
     bif (firstE [unl (win (t26.getD t28.toNat (0, 0, 0)).2.2 0 100000) 2, unl (decide ((t26.getD t28.toNat (0, 0, 0)).2.1 ≤ (t26.getD t28.toNat (0, 0, 0)).2.2)) 9]) != 0 then
      some (.inr (.inl (firstE [unl (win (t26.getD t28.toNat (0, 0, 0)).2.2 0 100000) 2, unl (decide ((t26.getD t28.toNat (0, 0, 0)).2.1 ≤ (t26.getD t28.toNat (0, 0, 0)).2.2)) 9], (0, 0))))
     else
      some (.inl (t26, t27, wr (t28 + 1), t2, (mx out.1 (wr ((t26.getD t28.toNat (0, 0, 0)).2.1 - (t26.getD t28.toNat (0, 0, 0)).1)), mn out.2 (wr ((t26.getD t28.toNat (0, 0, 0)).2.2 - (t26.getD t28.toNat (0, 0, 0)).1)))))
    else
     bif (firstE [unl false 2, unl (decide ((t26.getD t28.toNat (0, 0, 0)).2.1 ≤ (t26.getD t28.toNat (0, 0, 0)).2.2)) 9]) != 0 then
      some (.inr (.inl (firstE [unl false 2, unl (decide ((t26.getD t28.toNat (0, 0, 0)).2.1 ≤ (t26.getD t28.toNat (0, 0, 0)).2.2)) 9], (0, 0))))
     else
      some (.inl (t26, t27, wr (t28 + 1), t2, (mx out.1 (wr ((t26.getD t28.toNat (0, 0, 0)).2.1 - (t26.getD t28.toNat (0, 0, 0)).1)), mn out.2 (wr ((t26.getD t28.toNat (0, 0, 0)).2.2 - (t26.getD t28.toNat (0, 0, 0)).1)))))
   else
    bif (firstE [unl false 2, unl (decide ((t26.getD t28.toNat (0, 0, 0)).2.1 ≤ (t26.getD t28.toNat (0, 0, 0)).2.2)) 9]) != 0 then
     some (.inr (.inl (firstE [unl false 2, unl (decide ((t26.getD t28.toNat (0, 0, 0)).2.1 ≤ (t26.getD t28.toNat (0, 0, 0)).2.2)) 9], (0, 0))))
    else
     some (.inl (t26, t27, wr (t28 + 1), t2, (mx out.1 (wr ((t26.getD t28.toNat (0, 0, 0)).2.1 - (t26.getD t28.toNat (0, 0, 0)).1)), mn out.2 (wr ((t26.getD t28.toNat (0, 0, 0)).2.2 - (t26.getD t28.toNat (0, 0, 0)).1)))))
  else
   none
 else
  some (.inr (.inr (t2, out)))
theorem one54_0 : oneLoop Tryd.prog 54 0 = true := by kernel_rfl
theorem lp54_0 : ItemOk Tryd.prog (.loop 54 0 T54_0 X54_0 (loopVal step54_0)) := item_loopM md7 ext7 (U := 9) (n := 3) noSpecial mixed Gc4K2_ok one54_0 (fun x => by kernel_rfl)
noncomputable def Gc4K3 : List Ev.Item := .loop 54 0 T54_0 X54_0 (loopVal step54_0) :: Gc4K2
theorem Gc4K3_ok : ∀ q ∈ Gc4K3, ItemOk Tryd.prog q := items_cons lp54_0 Gc4K2_ok
noncomputable def s54 : List (Int × Int × Int) → Option ((Int × Int) × Int) := fun l =>
 bif (firstE [unl (decide ((l.length : Int) > 0)) 10, unl (decide ((l.length : Int) ≤ 12)) 8]) != 0 then
  some (((0, 0), firstE [unl (decide ((l.length : Int) > 0)) 10, unl (decide ((l.length : Int) ≤ 12)) 8]))
 else
  optE (loopVal step54_0 (l, (l.length : Int), 0, (0, 0), ((-100000), 100000))) (fun e1 =>
   sumE e1 (fun e2 =>
    some ((e2.2, e2.1))) (fun e3 =>
    bif decide (e3.2.1 > e3.2.2) then
     some (((0, 0), 13))
    else
     some ((e3.2, 0))))
   (none)
theorem i54 : ItemOk Tryd.prog (.fn 54 [.d (.slice (.agg (.pair zI zP)))] [.d (.agg zP), .d zI] s54) := item_fnM md7 ext7 (U := 9) (n := 4) noSpecial mixed Gc4K3_ok (fun x => by kernel_rfl)
noncomputable def Gc4K4 : List Ev.Item := .fn 54 [.d (.slice (.agg (.pair zI zP)))] [.d (.agg zP), .d zI] s54 :: Gc4K3
theorem Gc4K4_ok : ∀ q ∈ Gc4K4, ItemOk Tryd.prog q := items_cons i54 Gc4K3_ok
@[reducible] def T56_0 : Tmpl := ⟨80, [(3, .ref 3 0 0 0)], [.own 9 77 46 zA, .val 39 zS, .val 40 zI, .val 41 zI, .cells 3 [.d zP]], [], none⟩
@[reducible] def X56_0 : List (Ex × Tmpl) := [(.ret, ⟨80, [], [.val 4 zS, .val 5 zI], [], none⟩), (.exit 0, ⟨80, [], [.own 9 77 46 zA], [], none⟩)]
noncomputable def step56_0 : (List (Int × Int × Int × Int × Int)) × (List (Int × Int × Int × Int × Int)) × Int × Int × (Int × Int) → Option (((List (Int × Int × Int × Int × Int)) × (List (Int × Int × Int × Int × Int)) × Int × Int × (Int × Int)) ⊕ (((List (Int × Int × Int × Int × Int)) × Int) ⊕ (List (Int × Int × Int × Int × Int)))) := fun (out, t39, t40, t41, delay) =>
 bif decide (t41 < t40) then
  bif inBounds t41 t39.length then
   bif (t39.getD t41.toNat (0, 0, 0, 0, 0)).1 == 0 then
    bif !(win (wr ((t39.getD t41.toNat (0, 0, 0, 0, 0)).2.2.2.1 - delay.2)) (wr (-100000)) 100000) then
     some (.inr (.inl ([], 8)))
    else
     bif !(win (wr ((t39.getD t41.toNat (0, 0, 0, 0, 0)).2.2.2.2 - delay.1)) (wr (-100000)) 100000) then
      some (.inr (.inl ([], 8)))
     else
      bif room 40 (out.length + 1) then
       some (.inl (out ++ [((t39.getD t41.toNat (0, 0, 0, 0, 0)).1, (t39.getD t41.toNat (0, 0, 0, 0, 0)).2.1, (t39.getD t41.toNat (0, 0, 0, 0, 0)).2.2.1, wr ((t39.getD t41.toNat (0, 0, 0, 0, 0)).2.2.2.1 - delay.2), wr ((t39.getD t41.toNat (0, 0, 0, 0, 0)).2.2.2.2 - delay.1))], t39, t40, wr (t41 + 1), delay))
      else
       none
   else
    bif !(win (t39.getD t41.toNat (0, 0, 0, 0, 0)).2.2.2.1 (wr (-100000)) 100000) then
     some (.inr (.inl ([], 8)))
    else
     bif !(win (t39.getD t41.toNat (0, 0, 0, 0, 0)).2.2.2.2 (wr (-100000)) 100000) then
      some (.inr (.inl ([], 8)))
     else
      bif room 40 (out.length + 1) then
       some (.inl (out ++ [(t39.getD t41.toNat (0, 0, 0, 0, 0))], t39, t40, wr (t41 + 1), delay))
      else
       none
  else
   none
 else
  some (.inr (.inr out))
theorem one56_0 : oneLoop Tryd.prog 56 0 = true := by kernel_rfl
theorem lp56_0 : ItemOk Tryd.prog (.loop 56 0 T56_0 X56_0 (loopVal step56_0)) := item_loopM md7 ext7 (U := 9) (n := 3) noSpecial mixed Gc4K4_ok one56_0 (fun x => by kernel_rfl)
noncomputable def Gc4K5 : List Ev.Item := .loop 56 0 T56_0 X56_0 (loopVal step56_0) :: Gc4K4
theorem Gc4K5_ok : ∀ q ∈ Gc4K5, ItemOk Tryd.prog q := items_cons lp56_0 Gc4K4_ok
noncomputable def s56 : (List (Int × Int × Int × Int × Int)) × (Int × Int) → Option ((List (Int × Int × Int × Int × Int)) × Int) := fun (l, delay) =>
 optE (s18 l) (fun r1 =>
  bif win delay.1 (wr (-100000)) 100000 then
   bif (firstE [r1.2, unl (win delay.2 (wr (-100000)) 100000) 2, unl (decide (delay.1 ≤ delay.2)) 9]) != 0 then
    some (([], firstE [r1.2, unl (win delay.2 (wr (-100000)) 100000) 2, unl (decide (delay.1 ≤ delay.2)) 9]))
   else
    optE (loopVal step56_0 ([], l, (l.length : Int), 0, delay)) (fun e2 =>
     sumE e2 (fun e3 =>
      some (e3)) (fun e4 =>
      some ((e4, 0))))
     (none)
  else
   bif (firstE [r1.2, unl false 2, unl (decide (delay.1 ≤ delay.2)) 9]) != 0 then
    some (([], firstE [r1.2, unl false 2, unl (decide (delay.1 ≤ delay.2)) 9]))
   else
    optE (loopVal step56_0 ([], l, (l.length : Int), 0, delay)) (fun e5 =>
     sumE e5 (fun e6 =>
      some (e6)) (fun e7 =>
      some ((e7, 0))))
     (none))
  (none)
theorem i56 : ItemOk Tryd.prog (.fn 56 [.d zS, .d (.agg zP)] [.d zS, .d zI] s56) := item_fnM md7 ext7 (U := 9) (n := 4) noSpecial mixed Gc4K5_ok (fun x => by kernel_rfl)
noncomputable def Gc4K6 : List Ev.Item := .fn 56 [.d zS, .d (.agg zP)] [.d zS, .d zI] s56 :: Gc4K5
theorem Gc4K6_ok : ∀ q ∈ Gc4K6, ItemOk Tryd.prog q := items_cons i56 Gc4K5_ok
@[reducible] def T57_0 : Tmpl := ⟨46, [], [.val 0 (.slice (.agg (.pair zI zP))), .val 3 zI], [], none⟩
@[reducible] def X57_0 : List (Ex × Tmpl) := [(.ret, ⟨46, [], [.val 2 zI], [], none⟩), (.exit 0, ⟨46, [], [], [], none⟩)]
noncomputable def step57_0 : (List (Int × Int × Int)) × Int → Option (((List (Int × Int × Int)) × Int) ⊕ ((Int) ⊕ (Unit))) := fun (l, i) =>
 bif decide (i < (l.length : Int)) then
  bif inBounds i l.length then
   bif inBounds i l.length then
    bif !(win (l.getD i.toNat (0, 0, 0)).1 0 100000) then
     some (.inr (.inl 2))
    else
     bif !(win (l.getD i.toNat (0, 0, 0)).2.1 0 100000) then
      some (.inr (.inl 2))
     else
      bif !(win (l.getD i.toNat (0, 0, 0)).2.2 0 100000) then
       some (.inr (.inl 2))
      else
       bif decide ((l.getD i.toNat (0, 0, 0)).2.1 > (l.getD i.toNat (0, 0, 0)).2.2) then
        some (.inr (.inl 9))
       else
        some (.inl (l, wr (i + 1)))
   else
    none
  else
   none
 else
  some (.inr (.inr ()))
theorem one57_0 : oneLoop Tryd.prog 57 0 = true := by kernel_rfl
theorem lp57_0 : ItemOk Tryd.prog (.loop 57 0 T57_0 X57_0 (loopVal step57_0)) := item_loopM md7 ext7 (U := 9) (n := 3) noSpecial mixed Gc4K6_ok one57_0 (fun x => by kernel_rfl)
noncomputable def Gc4K7 : List Ev.Item := .loop 57 0 T57_0 X57_0 (loopVal step57_0) :: Gc4K6
theorem Gc4K7_ok : ∀ q ∈ Gc4K7, ItemOk Tryd.prog q := items_cons lp57_0 Gc4K6_ok
noncomputable def s57 : List (Int × Int × Int) → Option (Int) := fun l =>
 bif (l.length : Int) == 0 then
  some (10)
 else
  bif decide ((l.length : Int) > 12) then
   some (8)
  else
   optE (loopVal step57_0 (l, 0)) (fun e1 =>
    sumE e1 (fun e2 =>
     some (e2)) (fun _ =>
     some (0)))
    (none)
theorem i57 : ItemOk Tryd.prog (.fn 57 [.d (.slice (.agg (.pair zI zP)))] [.d zI] s57) := item_fnM md7 ext7 (U := 9) (n := 4) noSpecial mixed Gc4K7_ok (fun x => by kernel_rfl)
noncomputable def Gc4K8 : List Ev.Item := .fn 57 [.d (.slice (.agg (.pair zI zP)))] [.d zI] s57 :: Gc4K7
theorem Gc4K8_ok : ∀ q ∈ Gc4K8, ItemOk Tryd.prog q := items_cons i57 Gc4K7_ok
@[reducible] def T58_0 : Tmpl := ⟨50, [(2, .ref 2 0 0 0), (4, .ref 4 0 0 0)], [.val 0 (.slice (.agg (.pair zI zP))), .val 5 zI, .cells 2 [.d zP], .cells 4 [.d zP]], [], none⟩
@[reducible] def X58_0 : List (Ex × Tmpl) := [(.exit 0, ⟨50, [(2, .ref 2 0 0 0), (4, .ref 4 0 0 0)], [.cells 2 [.d zP], .cells 4 [.d zP]], [], none⟩)]
noncomputable def step58_0 : (List (Int × Int × Int)) × Int × (Int × Int) × (Int × Int) → Option (((List (Int × Int × Int)) × Int × (Int × Int) × (Int × Int)) ⊕ ((Int × Int) × (Int × Int))) := fun (l, i, t2, out) =>
 bif decide (i < (l.length : Int)) then
  bif inBounds i l.length then
   bif inBounds i l.length then
    bif inBounds i l.length then
     bif inBounds i l.length then
      some (.inl (l, wr (i + 1), t2, (mx out.1 (wr ((l.getD i.toNat (0, 0, 0)).2.1 - (l.getD i.toNat (0, 0, 0)).1)), mn out.2 (wr ((l.getD i.toNat (0, 0, 0)).2.2 - (l.getD i.toNat (0, 0, 0)).1)))))
     else
      none
    else
     none
   else
    none
  else
   none
 else
  some (.inr (t2, out))
theorem one58_0 : oneLoop Tryd.prog 58 0 = true := by kernel_rfl
theorem lp58_0 : ItemOk Tryd.prog (.loop 58 0 T58_0 X58_0 (loopVal step58_0)) := item_loopM md7 ext7 (U := 9) (n := 3) noSpecial mixed Gc4K8_ok one58_0 (fun x => by kernel_rfl)
noncomputable def Gc4K9 : List Ev.Item := .loop 58 0 T58_0 X58_0 (loopVal step58_0) :: Gc4K8
theorem Gc4K9_ok : ∀ q ∈ Gc4K9, ItemOk Tryd.prog q := items_cons lp58_0 Gc4K8_ok
noncomputable def s58 : List (Int × Int × Int) → Option ((Int × Int) × Bool) := fun l =>
 optE (loopVal step58_0 (l, 0, (0, 0), ((-100000), 100000))) (fun e1 =>
  some ((e1.2, decide (e1.2.1 ≤ e1.2.2))))
  (none)
theorem i58 : ItemOk Tryd.prog (.fn 58 [.d (.slice (.agg (.pair zI zP)))] [.d (.agg zP), .d .bool] s58) := item_fnM md7 ext7 (U := 9) (n := 4) noSpecial mixed Gc4K9_ok (fun x => by kernel_rfl)
noncomputable def Gc4K10 : List Ev.Item := .fn 58 [.d (.slice (.agg (.pair zI zP)))] [.d (.agg zP), .d .bool] s58 :: Gc4K9
theorem Gc4K10_ok : ∀ q ∈ Gc4K10, ItemOk Tryd.prog q := items_cons i58 Gc4K9_ok
noncomputable def s23 : List (Int × Int × Int × Int × Int) → Option (Int) := fun l =>
 optE (s20 l) (fun r1 =>
  some (r1.2))
  (none)
theorem i23 : ItemOk Tryd.prog (.fn 23 [.d zS] [.d zI] s23) := item_fnM md7 ext7 (U := 9) (n := 4) noSpecial mixed Gc4K10_ok (fun x => by kernel_rfl)
noncomputable def Gc4K11 : List Ev.Item := .fn 23 [.d zS] [.d zI] s23 :: Gc4K10
theorem Gc4K11_ok : ∀ q ∈ Gc4K11, ItemOk Tryd.prog q := items_cons i23 Gc4K10_ok
noncomputable def s59 : Int × Int → Option (Int) := fun r0 =>
 bif !(win r0.1 (-100000) 100000) then
  some (2)
 else
  bif !(win r0.2 (-100000) 100000) then
   some (2)
  else
   bif decide (r0.1 > r0.2) then
    some (9)
   else
    some (0)
theorem i59 : ItemOk Tryd.prog (.fn 59 [.d (.agg zP)] [.d zI] s59) := item_fnM md7 ext7 (U := 9) (n := 4) noSpecial mixed Gc4K11_ok (fun x => by kernel_rfl)
noncomputable def Gc4K12 : List Ev.Item := .fn 59 [.d (.agg zP)] [.d zI] s59 :: Gc4K11
theorem Gc4K12_ok : ∀ q ∈ Gc4K12, ItemOk Tryd.prog q := items_cons i59 Gc4K11_ok
@[reducible] def T60_0 : Tmpl := ⟨52, [(3, .ref 3 0 0 0)], [.val 0 zS, .own 6 9 46 zA, .val 7 zI, .cells 3 [.d zP]], [], none⟩
@[reducible] def X60_0 : List (Ex × Tmpl) := [(.ret, ⟨52, [], [.val 4 zS, .val 5 .bool], [], none⟩), (.exit 0, ⟨52, [], [.own 6 9 46 zA], [], none⟩)]
noncomputable def step60_0 : (List (Int × Int × Int × Int × Int)) × (List (Int × Int × Int × Int × Int)) × Int × (Int × Int) → Option (((List (Int × Int × Int × Int × Int)) × (List (Int × Int × Int × Int × Int)) × Int × (Int × Int)) ⊕ (((List (Int × Int × Int × Int × Int)) × Bool) ⊕ (List (Int × Int × Int × Int × Int)))) := fun (l, out, i, delay) =>
 bif decide (i < (out.length : Int)) then
  bif inBounds i out.length then
   bif (out.getD i.toNat (0, 0, 0, 0, 0)).1 == 0 then
    bif inBounds i l.length then
     bif inBounds i l.length then
      bif inBounds i out.length then
       bif inBounds i (out.set i.toNat ((out.getD i.toNat (0, 0, 0, 0, 0)).1, (out.getD i.toNat (0, 0, 0, 0, 0)).2.1, (out.getD i.toNat (0, 0, 0, 0, 0)).2.2.1, wr ((l.getD i.toNat (0, 0, 0, 0, 0)).2.2.2.1 - delay.2), wr ((l.getD i.toNat (0, 0, 0, 0, 0)).2.2.2.2 - delay.1))).length then
        bif (mErr ((out.set i.toNat ((out.getD i.toNat (0, 0, 0, 0, 0)).1, (out.getD i.toNat (0, 0, 0, 0, 0)).2.1, (out.getD i.toNat (0, 0, 0, 0, 0)).2.2.1, wr ((l.getD i.toNat (0, 0, 0, 0, 0)).2.2.2.1 - delay.2), wr ((l.getD i.toNat (0, 0, 0, 0, 0)).2.2.2.2 - delay.1))).getD i.toNat (0, 0, 0, 0, 0))) != 0 then
         some (.inr (.inl ([], false)))
        else
         some (.inl (l, out.set i.toNat ((out.getD i.toNat (0, 0, 0, 0, 0)).1, (out.getD i.toNat (0, 0, 0, 0, 0)).2.1, (out.getD i.toNat (0, 0, 0, 0, 0)).2.2.1, wr ((l.getD i.toNat (0, 0, 0, 0, 0)).2.2.2.1 - delay.2), wr ((l.getD i.toNat (0, 0, 0, 0, 0)).2.2.2.2 - delay.1)), wr (i + 1), delay))
       else
        none
      else
       none
     else
      none
    else
     none
   else
    bif inBounds i out.length then
     bif (mErr (out.getD i.toNat (0, 0, 0, 0, 0))) != 0 then
      some (.inr (.inl ([], false)))
     else
      some (.inl (l, out, wr (i + 1), delay))
    else
     none
  else
   none
 else
  some (.inr (.inr out))
theorem one60_0 : oneLoop Tryd.prog 60 0 = true := by kernel_rfl
theorem lp60_0 : ItemOk Tryd.prog (.loop 60 0 T60_0 X60_0 (loopVal step60_0)) := item_loopM md7 ext7 (U := 9) (n := 3) noSpecial mixed Gc4K12_ok one60_0 (fun x => by kernel_rfl)
noncomputable def Gc4K13 : List Ev.Item := .loop 60 0 T60_0 X60_0 (loopVal step60_0) :: Gc4K12
theorem Gc4K13_ok : ∀ q ∈ Gc4K13, ItemOk Tryd.prog q := items_cons lp60_0 Gc4K12_ok
noncomputable def s60 : (List (Int × Int × Int × Int × Int)) × (Int × Int) → Option ((List (Int × Int × Int × Int × Int)) × Bool) := fun (l, delay) =>
 optE (s19 l) (fun r1 =>
  optE (loopVal step60_0 (l, r1, 0, delay)) (fun e2 =>
   sumE e2 (fun e3 =>
    some (e3)) (fun e4 =>
    some ((e4, true))))
   (none))
  (none)
theorem i60 : ItemOk Tryd.prog (.fn 60 [.d zS, .d (.agg zP)] [.d zS, .d .bool] s60) := item_fnM md7 ext7 (U := 9) (n := 4) noSpecial mixed Gc4K13_ok (fun x => by kernel_rfl)
noncomputable def Gc4K14 : List Ev.Item := .fn 60 [.d zS, .d (.agg zP)] [.d zS, .d .bool] s60 :: Gc4K13
theorem Gc4K14_ok : ∀ q ∈ Gc4K14, ItemOk Tryd.prog q := items_cons i60 Gc4K13_ok
@[reducible] def T61_0 : Tmpl := ⟨26, [], [.val 0 zS, .val 1 zS, .val 5 zI], [], none⟩
@[reducible] def X61_0 : List (Ex × Tmpl) := [(.ret, ⟨26, [], [.val 4 .bool], [], none⟩), (.exit 0, ⟨26, [], [], [], none⟩)]
noncomputable def step61_0 : (List (Int × Int × Int × Int × Int)) × (List (Int × Int × Int × Int × Int)) × Int → Option (((List (Int × Int × Int × Int × Int)) × (List (Int × Int × Int × Int × Int)) × Int) ⊕ ((Bool) ⊕ (Unit))) := fun (a, b, i) =>
 bif decide (i < (a.length : Int)) then
  bif inBounds i a.length then
   bif inBounds i b.length then
    bif !(((a.getD i.toNat (0, 0, 0, 0, 0)).1 == (b.getD i.toNat (0, 0, 0, 0, 0)).1) && (((a.getD i.toNat (0, 0, 0, 0, 0)).2.1 == (b.getD i.toNat (0, 0, 0, 0, 0)).2.1) && (((a.getD i.toNat (0, 0, 0, 0, 0)).2.2.1 == (b.getD i.toNat (0, 0, 0, 0, 0)).2.2.1) && ((((a.getD i.toNat (0, 0, 0, 0, 0)).2.2.2.1 == (b.getD i.toNat (0, 0, 0, 0, 0)).2.2.2.1) && (((a.getD i.toNat (0, 0, 0, 0, 0)).2.2.2.2 == (b.getD i.toNat (0, 0, 0, 0, 0)).2.2.2.2) && true)) && true)))) then
     some (.inr (.inl false))
    else
     some (.inl (a, b, wr (i + 1)))
   else
    none
  else
   none
 else
  some (.inr (.inr ()))
theorem one61_0 : oneLoop Tryd.prog 61 0 = true := by kernel_rfl
theorem lp61_0 : ItemOk Tryd.prog (.loop 61 0 T61_0 X61_0 (loopVal step61_0)) := item_loopM md7 ext7 (U := 9) (n := 3) noSpecial mixed Gc4K14_ok one61_0 (fun x => by kernel_rfl)
noncomputable def Gc4K15 : List Ev.Item := .loop 61 0 T61_0 X61_0 (loopVal step61_0) :: Gc4K14
theorem Gc4K15_ok : ∀ q ∈ Gc4K15, ItemOk Tryd.prog q := items_cons lp61_0 Gc4K14_ok
noncomputable def s61 : (List (Int × Int × Int × Int × Int)) × (List (Int × Int × Int × Int × Int)) → Option (Bool) := fun (a, b) =>
 bif (a.length : Int) != (b.length : Int) then
  some (false)
 else
  optE (loopVal step61_0 (a, b, 0)) (fun e1 =>
   sumE e1 (fun e2 =>
    some (e2)) (fun _ =>
    some (true)))
   (none)
theorem i61 : ItemOk Tryd.prog (.fn 61 [.d zS, .d zS] [.d .bool] s61) := item_fnM md7 ext7 (U := 9) (n := 4) noSpecial mixed Gc4K15_ok (fun x => by kernel_rfl)
noncomputable def Gc4K16 : List Ev.Item := .fn 61 [.d zS, .d zS] [.d .bool] s61 :: Gc4K15
theorem Gc4K16_ok : ∀ q ∈ Gc4K16, ItemOk Tryd.prog q := items_cons i61 Gc4K15_ok
noncomputable def s12 : (List (Int × Int × Int)) × (List (Int × Int × Int × Int × Int)) × (Int × Int) → Option (Bool) := fun (l, m, delay) =>
 bif !true then
  some (false)
 else
  bif decide ((l.length : Int) > 14) then
   some (true)
  else
   bif decide ((m.length : Int) > 14) then
    some (true)
   else
    optE (s55 l) (fun r1 =>
     optE (s54 r1) (fun r2 =>
      optE (s19 m) (fun r3 =>
       optE (s56 (r3, delay)) (fun r4 =>
        optE (s57 l) (fun r5 =>
         (fun (k1 : Unit → Option (Bool)) =>
           bif r5 != 0 then
            bif r2.2 != r5 then
             some (false)
            else
             k1 ()
           else
            optE (s58 l) (fun r12 =>
             (fun (k4 : Unit → Option (Bool)) =>
               bif r12.2 then
                bif r2.2 != 0 then
                 some (false)
                else
                 bif !((r2.1.1 == r12.1.1) && ((r2.1.2 == r12.1.2) && true)) then
                  some (false)
                 else
                  k4 ()
               else
                k4 ()) (fun _ =>
               bif !r12.2 then
                bif r2.2 != 13 then
                 some (false)
                else
                 k1 ()
               else
                optE (s23 m) (fun r19 =>
                 (fun (k5 : Unit → Option (Bool)) =>
                   bif r19 == 0 then
                    optE (s59 delay) (fun r20 =>
                     bif r20 != 0 then
                      bif r4.2 == r20 then
                       some ((r4.1.length : Int) == 0)
                      else
                       some (false)
                     else
                      k5 ())
                     (none)
                   else
                    bif r19 != 0 then
                     bif r4.2 == r19 then
                      some ((r4.1.length : Int) == 0)
                     else
                      some (false)
                    else
                     k5 ()) (fun _ =>
                   optE (s60 (m, delay)) (fun r21 =>
                    (fun (k6 : Unit → Option (Bool)) =>
                      bif r21.2 then
                       bif r4.2 == 0 then
                        optE (s61 (r4.1, r21.1)) (fun r22 =>
                         bif r22 then
                          some (true)
                         else
                          k6 ())
                         (none)
                       else
                        k6 ()
                      else
                       k6 ()) (fun _ =>
                      bif !r21.2 then
                       bif r4.2 == 8 then
                        some ((r4.1.length : Int) == 0)
                       else
                        some (false)
                      else
                       some (false)))
                    (none)))
                 (none)))
             (none)) (fun _ =>
           bif !((r2.1.1 == 0) && ((r2.1.2 == 0) && true)) then
            some (false)
           else
            optE (s23 m) (fun r6 =>
             (fun (k2 : Unit → Option (Bool)) =>
               bif r6 == 0 then
                optE (s59 delay) (fun r7 =>
                 bif r7 != 0 then
                  bif r4.2 == r7 then
                   some ((r4.1.length : Int) == 0)
                  else
                   some (false)
                 else
                  k2 ())
                 (none)
               else
                bif r6 != 0 then
                 bif r4.2 == r6 then
                  some ((r4.1.length : Int) == 0)
                 else
                  some (false)
                else
                 k2 ()) (fun _ =>
               optE (s60 (m, delay)) (fun r8 =>
                (fun (k3 : Unit → Option (Bool)) =>
                  bif r8.2 then
                   bif r4.2 == 0 then
                    optE (s61 (r4.1, r8.1)) (fun r9 =>
                     bif r9 then
                      some (true)
                     else
                      k3 ())
                     (none)
                   else
                    k3 ()
                  else
                   k3 ()) (fun _ =>
                  bif !r8.2 then
                   bif r4.2 == 8 then
                    some ((r4.1.length : Int) == 0)
                   else
                    some (false)
                  else
                   some (false)))
                (none)))
             (none)))
         (none))
        (none))
       (none))
      (none))
     (none)
theorem i12 : ItemOk Tryd.prog (.fn 12 [.d (.slice (.agg (.pair zI zP))), .d zS, .d (.agg zP)] [.d .bool] s12) := item_fnM md7 ext7 (U := 9) (n := 4) noSpecial mixed Gc4K16_ok (fun x => by kernel_rfl)
noncomputable def Gc4K17 : List Ev.Item := .fn 12 [.d (.slice (.agg (.pair zI zP))), .d zS, .d (.agg zP)] [.d .bool] s12 :: Gc4K16
theorem Gc4K17_ok : ∀ q ∈ Gc4K17, ItemOk Tryd.prog q := items_cons i12 Gc4K16_ok
end Go.Proofs.YtfmfiflpokogiaaDoor
