/- Printed by gen.py: specifications of functions. -/
import Derived.Test.YtcdpgjlaajdfmaaGreatDoorG2t
set_option linter.unusedSimpArgs false
set_option maxRecDepth 100000
namespace Go.Proofs.YtcdpgjlaajdfmaaGreatDoor
open Go.Ev
@[reducible] def T13_0 : Tmpl := ⟨22, [], [.val 0 (.slice (.agg zP)), .val 3 zI], [], none⟩
@[reducible] def X13_0 : List (Ex × Tmpl) := [(.ret, ⟨22, [], [.val 2 zI], [], none⟩), (.exit 0, ⟨22, [], [], [], none⟩)]
noncomputable def step13_0 : (List (Int × Int)) × Int → Option (((List (Int × Int)) × Int) ⊕ ((Int) ⊕ (Unit))) := fun (x0, i) =>
 bif decide (i < (x0.length : Int)) then
  bif inBounds i x0.length then
   optE (s44 ((x0.getD i.toNat (0, 0)), 2000)) (fun r1 =>
    bif r1 != 0 then
     some (.inr (.inl r1))
    else
     some (.inl (x0, wr (i + 1))))
    (none)
  else
   none
 else
  some (.inr (.inr ()))
theorem one13_0 : oneLoop Tryz.prog 13 0 = true := by kernel_rfl
theorem lp13_0 : ItemOk Tryz.prog (.loop 13 0 T13_0 X13_0 (loopVal step13_0)) := item_loopM md5 ext5 (U := 9) (n := 11) noSpecial mixed G2tK1_ok one13_0 (fun x => by kernel_rfl)
noncomputable def G21K1 : List Ev.Item := .loop 13 0 T13_0 X13_0 (loopVal step13_0) :: G2tK1
theorem G21K1_ok : ∀ q ∈ G21K1, ItemOk Tryz.prog q := items_cons lp13_0 G2tK1_ok
noncomputable def s13 : List (Int × Int) → Option (Int) := fun x0 =>
 bif decide ((x0.length : Int) > 400) then
  some (8)
 else
  optE (loopVal step13_0 (x0, 0)) (fun e1 =>
   sumE e1 (fun e2 =>
    some (e2)) (fun _ =>
    some (0)))
   (none)
theorem i13 : ItemOk Tryz.prog (.fn 13 [.d (.slice (.agg zP))] [.d zI] s13) := item_fnM md5 ext5 (U := 9) (n := 12) noSpecial mixed G21K1_ok (fun x => by kernel_rfl)
noncomputable def G21K2 : List Ev.Item := .fn 13 [.d (.slice (.agg zP))] [.d zI] s13 :: G21K1
theorem G21K2_ok : ∀ q ∈ G21K2, ItemOk Tryz.prog q := items_cons i13 G21K1_ok
noncomputable def s14 : Int × Int × Int → Option (Int) := fun p =>
 optE (s12 (p.1, 0, 4095)) (fun r1 =>
  bif !r1 then
   some (2)
  else
   optE (s12 (p.2.1, (-4096), 4096)) (fun r2 =>
    bif !r2 then
     some (2)
    else
     optE (s12 (p.2.2, (-4096), 4096)) (fun r3 =>
      bif !r3 then
       some (2)
      else
       some (0))
      (none))
    (none))
  (none)
theorem i14 : ItemOk Tryz.prog (.fn 14 [.d (.agg (.pair zI zP))] [.d zI] s14) := item_fnM md5 ext5 (U := 9) (n := 12) noSpecial mixed G21K2_ok (fun x => by kernel_rfl)
noncomputable def G21K3 : List Ev.Item := .fn 14 [.d (.agg (.pair zI zP))] [.d zI] s14 :: G21K2
theorem G21K3_ok : ∀ q ∈ G21K3, ItemOk Tryz.prog q := items_cons i14 G21K2_ok
@[reducible] def T15_0 : Tmpl := ⟨30, [(1, .ref 1 0 0 0)], [.val 3 zI, .cells 1 [.d (.pair (.slice zI) zI)]], [], none⟩
@[reducible] def X15_0 : List (Ex × Tmpl) := [(.ret, ⟨30, [], [.val 2 zI], [], none⟩), (.exit 0, ⟨30, [(1, .ref 1 0 0 0)], [.cells 1 [.d (.pair (.slice zI) zI)]], [], none⟩)]
noncomputable def step15_0 : Int × ((List Int) × Int) → Option ((Int × ((List Int) × Int)) ⊕ ((Int) ⊕ (((List Int) × Int)))) := fun (i, f) =>
 bif decide (i < (f.1.length : Int)) then
  bif inBounds i f.1.length then
   optE (s12 (f.1.getD i.toNat 0, (-100), 100)) (fun r1 =>
    bif !r1 then
     some (.inr (.inl 2))
    else
     some (.inl (wr (i + 1), f)))
    (none)
  else
   none
 else
  some (.inr (.inr f))
theorem one15_0 : oneLoop Tryz.prog 15 0 = true := by kernel_rfl
theorem lp15_0 : ItemOk Tryz.prog (.loop 15 0 T15_0 X15_0 (loopVal step15_0)) := item_loopM md5 ext5 (U := 9) (n := 11) noSpecial mixed G21K3_ok one15_0 (fun x => by kernel_rfl)
noncomputable def G21K4 : List Ev.Item := .loop 15 0 T15_0 X15_0 (loopVal step15_0) :: G21K3
theorem G21K4_ok : ∀ q ∈ G21K4, ItemOk Tryz.prog q := items_cons lp15_0 G21K3_ok
noncomputable def s15 : (List Int) × Int → Option (Int) := fun f =>
 bif (f.1.length : Int) == 0 then
  some (10)
 else
  bif decide ((f.1.length : Int) > 8) then
   some (8)
  else
   optE (loopVal step15_0 (0, f)) (fun e1 =>
    sumE e1 (fun e2 =>
     some (e2)) (fun e3 =>
     optE (s12 (e3.2, 1, 100)) (fun r4 =>
      bif !r4 then
       some (2)
      else
       some (0))
      (none)))
    (none)
theorem i15 : ItemOk Tryz.prog (.fn 15 [.d (.agg (.pair (.slice zI) zI))] [.d zI] s15) := item_fnM md5 ext5 (U := 9) (n := 12) noSpecial mixed G21K4_ok (fun x => by kernel_rfl)
noncomputable def G21K5 : List Ev.Item := .fn 15 [.d (.agg (.pair (.slice zI) zI))] [.d zI] s15 :: G21K4
theorem G21K5_ok : ∀ q ∈ G21K5, ItemOk Tryz.prog q := items_cons i15 G21K4_ok
noncomputable def s16 : Int × Int → Option (Int) := fun (n, by0) =>
 bif !(by0 == 0) then
  bif decide ((Int.tmod n by0) < 0) then
   some (wr ((Int.tmod n by0) + by0))
  else
   some (Int.tmod n by0)
 else
  none
theorem i16 : ItemOk Tryz.prog (.fn 16 [.d zI, .d zI] [.d zI] s16) := item_fnM md5 ext5 (U := 9) (n := 12) noSpecial mixed G21K5_ok (fun x => by kernel_rfl)
noncomputable def G21K6 : List Ev.Item := .fn 16 [.d zI, .d zI] [.d zI] s16 :: G21K5
theorem G21K6_ok : ∀ q ∈ G21K6, ItemOk Tryz.prog q := items_cons i16 G21K5_ok
noncomputable def s18 : List (Int × Int × (Int × Int) × (Int × Int) × (Int × Int) × (Int × Int) × (Int × Int) × (Int × Int) × (Int × Int) × Int × Int) → Option (List (Int × Int × (Int × Int) × (Int × Int) × (Int × Int) × (Int × Int) × (Int × Int) × (Int × Int) × (Int × Int) × Int × Int)) := fun l =>
 bif room 144 (0 + l.length) then
  some (l)
 else
  none
theorem i18 : ItemOk Tryz.prog (.fn 18 [.d (.slice (.agg (.pair zI (.pair zI (.pair zP (.pair zP (.pair zP (.pair zP (.pair zP (.pair zP (.pair zP zP)))))))))))] [.own 26 (.agg (.pair zI (.pair zI (.pair zP (.pair zP (.pair zP (.pair zP (.pair zP (.pair zP (.pair zP zP))))))))))] s18) := item_fnM md5 ext5 (U := 9) (n := 12) noSpecial mixed G21K6_ok (fun x => by kernel_rfl)
noncomputable def G21K7 : List Ev.Item := .fn 18 [.d (.slice (.agg (.pair zI (.pair zI (.pair zP (.pair zP (.pair zP (.pair zP (.pair zP (.pair zP (.pair zP zP)))))))))))] [.own 26 (.agg (.pair zI (.pair zI (.pair zP (.pair zP (.pair zP (.pair zP (.pair zP (.pair zP (.pair zP zP))))))))))] s18 :: G21K6
theorem G21K7_ok : ∀ q ∈ G21K7, ItemOk Tryz.prog q := items_cons i18 G21K6_ok
@[reducible] def T61_0 : Tmpl := ⟨15, [], [.val 5 (.slice zI), .val 6 zI, .val 7 zI], [], none⟩
@[reducible] def X61_0 : List (Ex × Tmpl) := [(.ret, ⟨15, [], [.val 2 zI], [], none⟩), (.exit 0, ⟨15, [], [], [], none⟩)]
noncomputable def step61_0 : (List Int) × Int × Int → Option (((List Int) × Int × Int) ⊕ ((Int) ⊕ (Unit))) := fun (t5, t6, t7) =>
 bif decide (t7 < t6) then
  bif inBounds t7 t5.length then
   bif (t5.getD t7.toNat 0) != 0 then
    some (.inr (.inl (t5.getD t7.toNat 0)))
   else
    some (.inl (t5, t6, wr (t7 + 1)))
  else
   none
 else
  some (.inr (.inr ()))
theorem one61_0 : oneLoop Tryz.prog 61 0 = true := by kernel_rfl
theorem lp61_0 : ItemOk Tryz.prog (.loop 61 0 T61_0 X61_0 (loopVal step61_0)) := item_loopM md5 ext5 (U := 9) (n := 11) noSpecial mixed G21K7_ok one61_0 (fun x => by kernel_rfl)
noncomputable def G21K8 : List Ev.Item := .loop 61 0 T61_0 X61_0 (loopVal step61_0) :: G21K7
theorem G21K8_ok : ∀ q ∈ G21K8, ItemOk Tryz.prog q := items_cons lp61_0 G21K7_ok
noncomputable def s61 : List Int → Option (Int) := fun l =>
 optE (loopVal step61_0 (l, (l.length : Int), 0)) (fun e1 =>
  sumE e1 (fun e2 =>
   some (e2)) (fun _ =>
   some (0)))
  (none)
theorem i61 : ItemOk Tryz.prog (.fn 61 [.d (.slice zI)] [.d zI] s61) := item_fnM md5 ext5 (U := 9) (n := 12) noSpecial mixed G21K8_ok (fun x => by kernel_rfl)
noncomputable def G21K9 : List Ev.Item := .fn 61 [.d (.slice zI)] [.d zI] s61 :: G21K8
theorem G21K9_ok : ∀ q ∈ G21K9, ItemOk Tryz.prog q := items_cons i61 G21K8_ok
noncomputable def s83 : Int × Int → Option (Int) := fun (near, counter) =>
 bif decide ((wr (near + (Int.tmod (wr (counter - near)) 1024))) < near) then
  bif decide ((wr ((wr ((wr (near + (Int.tmod (wr (counter - near)) 1024))) + 1024)) - 1024)) ≥ 0) then
   bif decide ((wr (near - (wr ((wr ((wr (near + (Int.tmod (wr (counter - near)) 1024))) + 1024)) - 1024)))) < (wr ((wr ((wr (near + (Int.tmod (wr (counter - near)) 1024))) + 1024)) - near))) then
    some (wr ((wr ((wr (near + (Int.tmod (wr (counter - near)) 1024))) + 1024)) - 1024))
   else
    some (wr ((wr (near + (Int.tmod (wr (counter - near)) 1024))) + 1024))
  else
   some (wr ((wr (near + (Int.tmod (wr (counter - near)) 1024))) + 1024))
 else
  bif decide ((wr ((wr (near + (Int.tmod (wr (counter - near)) 1024))) - 1024)) ≥ 0) then
   bif decide ((wr (near - (wr ((wr (near + (Int.tmod (wr (counter - near)) 1024))) - 1024)))) < (wr ((wr (near + (Int.tmod (wr (counter - near)) 1024))) - near))) then
    some (wr ((wr (near + (Int.tmod (wr (counter - near)) 1024))) - 1024))
   else
    some (wr (near + (Int.tmod (wr (counter - near)) 1024)))
  else
   some (wr (near + (Int.tmod (wr (counter - near)) 1024)))
theorem i83 : ItemOk Tryz.prog (.fn 83 [.d zI, .d zI] [.d zI] s83) := item_fnM md5 ext5 (U := 9) (n := 12) noSpecial mixed G21K9_ok (fun x => by kernel_rfl)
noncomputable def G21K10 : List Ev.Item := .fn 83 [.d zI, .d zI] [.d zI] s83 :: G21K9
theorem G21K10_ok : ∀ q ∈ G21K10, ItemOk Tryz.prog q := items_cons i83 G21K9_ok
@[reducible] def T60_0 : Tmpl := ⟨25, [], [.val 0 (.slice zI), .val 3 zI, .val 4 zI], [], none⟩
@[reducible] def X60_0 : List (Ex × Tmpl) := [(.exit 0, ⟨25, [], [.val 3 zI], [], none⟩)]
noncomputable def step60_0 : (List Int) × Int × Int → Option (((List Int) × Int × Int) ⊕ (Int)) := fun (x0, m, i) =>
 bif decide (i < (x0.length : Int)) then
  bif inBounds i x0.length then
   some (.inl (x0, mx m (x0.getD i.toNat 0), wr (i + 1)))
  else
   none
 else
  some (.inr m)
theorem one60_0 : oneLoop Tryz.prog 60 0 = true := by kernel_rfl
theorem lp60_0 : ItemOk Tryz.prog (.loop 60 0 T60_0 X60_0 (loopVal step60_0)) := item_loopM md5 ext5 (U := 9) (n := 11) noSpecial mixed G21K10_ok one60_0 (fun x => by kernel_rfl)
noncomputable def G21K11 : List Ev.Item := .loop 60 0 T60_0 X60_0 (loopVal step60_0) :: G21K10
theorem G21K11_ok : ∀ q ∈ G21K11, ItemOk Tryz.prog q := items_cons lp60_0 G21K10_ok
noncomputable def s60 : List Int → Option (Int) := fun x0 =>
 bif decide ((x0.length : Int) < 1) then
  none
 else
  bif inBounds 0 x0.length then
   optE (loopVal step60_0 (x0, x0.getD 0 0, 1)) (fun e1 =>
    some (e1))
    (none)
  else
   none
theorem i60 : ItemOk Tryz.prog (.fn 60 [.d (.slice zI)] [.d zI] s60) := item_fnM md5 ext5 (U := 9) (n := 12) noSpecial mixed G21K11_ok (fun x => by kernel_rfl)
noncomputable def G21K12 : List Ev.Item := .fn 60 [.d (.slice zI)] [.d zI] s60 :: G21K11
theorem G21K12_ok : ∀ q ∈ G21K12, ItemOk Tryz.prog q := items_cons i60 G21K11_ok
noncomputable def s49 : (List (Int × Int × Int × (Int × Int) × (Int × Int) × (Int × Int) × (Int × Int) × (Int × Int) × (Int × Int) × (Int × Int) × Int × Int)) × List Int → Option (Int) := fun r0 =>
 optE (s60 r0.2) (fun r1 =>
  some (r1))
  (none)
theorem i49 : ItemOk Tryz.prog (.fn 49 [.tgt (.pair (.map zI (.agg (.pair zI (.pair zI (.pair zP (.pair zP (.pair zP (.pair zP (.pair zP (.pair zP (.pair zP zP))))))))))) (.slice zI))] [.d zI] s49) := item_fnM md5 ext5 (U := 9) (n := 12) noSpecial mixed G21K12_ok (fun x => by kernel_rfl)
noncomputable def G21K13 : List Ev.Item := .fn 49 [.tgt (.pair (.map zI (.agg (.pair zI (.pair zI (.pair zP (.pair zP (.pair zP (.pair zP (.pair zP (.pair zP (.pair zP zP))))))))))) (.slice zI))] [.d zI] s49 :: G21K12
theorem G21K13_ok : ∀ q ∈ G21K13, ItemOk Tryz.prog q := items_cons i49 G21K12_ok
@[reducible] def T84_0 : Tmpl := ⟨25, [], [.val 0 (.slice zI), .val 3 zI, .val 4 zI], [], none⟩
@[reducible] def X84_0 : List (Ex × Tmpl) := [(.exit 0, ⟨25, [], [.val 3 zI], [], none⟩)]
noncomputable def step84_0 : (List Int) × Int × Int → Option (((List Int) × Int × Int) ⊕ (Int)) := fun (x0, m, i) =>
 bif decide (i < (x0.length : Int)) then
  bif inBounds i x0.length then
   some (.inl (x0, mn m (x0.getD i.toNat 0), wr (i + 1)))
  else
   none
 else
  some (.inr m)
theorem one84_0 : oneLoop Tryz.prog 84 0 = true := by kernel_rfl
theorem lp84_0 : ItemOk Tryz.prog (.loop 84 0 T84_0 X84_0 (loopVal step84_0)) := item_loopM md5 ext5 (U := 9) (n := 11) noSpecial mixed G21K13_ok one84_0 (fun x => by kernel_rfl)
noncomputable def G21K14 : List Ev.Item := .loop 84 0 T84_0 X84_0 (loopVal step84_0) :: G21K13
theorem G21K14_ok : ∀ q ∈ G21K14, ItemOk Tryz.prog q := items_cons lp84_0 G21K13_ok
noncomputable def s84 : List Int → Option (Int) := fun x0 =>
 bif decide ((x0.length : Int) < 1) then
  none
 else
  bif inBounds 0 x0.length then
   optE (loopVal step84_0 (x0, x0.getD 0 0, 1)) (fun e1 =>
    some (e1))
    (none)
  else
   none
theorem i84 : ItemOk Tryz.prog (.fn 84 [.d (.slice zI)] [.d zI] s84) := item_fnM md5 ext5 (U := 9) (n := 12) noSpecial mixed G21K14_ok (fun x => by kernel_rfl)
noncomputable def G21K15 : List Ev.Item := .fn 84 [.d (.slice zI)] [.d zI] s84 :: G21K14
theorem G21K15_ok : ∀ q ∈ G21K15, ItemOk Tryz.prog q := items_cons i84 G21K14_ok
noncomputable def s48 : (List (Int × Int × Int × (Int × Int) × (Int × Int) × (Int × Int) × (Int × Int) × (Int × Int) × (Int × Int) × (Int × Int) × Int × Int)) × List Int → Option (Int) := fun r0 =>
 optE (s84 r0.2) (fun r1 =>
  some (r1))
  (none)
theorem i48 : ItemOk Tryz.prog (.fn 48 [.tgt (.pair (.map zI (.agg (.pair zI (.pair zI (.pair zP (.pair zP (.pair zP (.pair zP (.pair zP (.pair zP (.pair zP zP))))))))))) (.slice zI))] [.d zI] s48) := item_fnM md5 ext5 (U := 9) (n := 12) noSpecial mixed G21K15_ok (fun x => by kernel_rfl)
noncomputable def G21K16 : List Ev.Item := .fn 48 [.tgt (.pair (.map zI (.agg (.pair zI (.pair zI (.pair zP (.pair zP (.pair zP (.pair zP (.pair zP (.pair zP (.pair zP zP))))))))))) (.slice zI))] [.d zI] s48 :: G21K15
theorem G21K16_ok : ∀ q ∈ G21K16, ItemOk Tryz.prog q := items_cons i48 G21K15_ok
@[reducible] def T47_0 : Tmpl := ⟨100, [(5, .ref 28 0 0 0)], [.val 6 .bool, .val 7 zI, .val 29 (.slice (.agg (.pair zI (.pair zI (.pair zP (.pair zP (.pair zP (.pair zP (.pair zP (.pair zP (.pair zP zP))))))))))), .val 30 zI, .val 31 zI, .cells 28 [.map 26 zI (.agg (.pair zI (.pair zI (.pair zP (.pair zP (.pair zP (.pair zP (.pair zP (.pair zP (.pair zP zP)))))))))), .own 83 3 zI]], [], none⟩
@[reducible] def X47_0 : List (Ex × Tmpl) := [(.ret, ⟨100, [(2, .nilptr)], [.val 3 zI], [], none⟩), (.exit 0, ⟨100, [(5, .ref 28 0 0 0)], [.val 6 .bool, .cells 28 [.map 26 zI (.agg (.pair zI (.pair zI (.pair zP (.pair zP (.pair zP (.pair zP (.pair zP (.pair zP (.pair zP zP)))))))))), .own 83 3 zI]], [], none⟩)]
noncomputable def step47_0 : Bool × Int × (List (Int × Int × (Int × Int) × (Int × Int) × (Int × Int) × (Int × Int) × (Int × Int) × (Int × Int) × (Int × Int) × Int × Int)) × Int × Int × ((List (Int × Int × Int × (Int × Int) × (Int × Int) × (Int × Int) × (Int × Int) × (Int × Int) × (Int × Int) × (Int × Int) × Int × Int)) × (List Int)) → Option ((Bool × Int × (List (Int × Int × (Int × Int) × (Int × Int) × (Int × Int) × (Int × Int) × (Int × Int) × (Int × Int) × (Int × Int) × Int × Int)) × Int × Int × ((List (Int × Int × Int × (Int × Int) × (Int × Int) × (Int × Int) × (Int × Int) × (Int × Int) × (Int × Int) × (Int × Int) × Int × Int)) × (List Int))) ⊕ ((Int) ⊕ (Bool × ((List (Int × Int × Int × (Int × Int) × (Int × Int) × (Int × Int) × (Int × Int) × (Int × Int) × (Int × Int) × (Int × Int) × Int × Int)) × (List Int))))) := fun (clash, last0, t29, t30, t31, r0) =>
 bif decide (t31 < t30) then
  bif inBounds t31 t29.length then
   optE (s40 (t29.getD t31.toNat (0, 0, (0, 0), (0, 0), (0, 0), (0, 0), (0, 0), (0, 0), (0, 0), 0, 0))) (fun r4 =>
    bif r4 != 0 then
     some (.inr (.inl r4))
    else
     bif t31 == 0 then
      bif clash then
       bif !(mapHas (wr ((t29.getD t31.toNat (0, 0, (0, 0), (0, 0), (0, 0), (0, 0), (0, 0), (0, 0), (0, 0), 0, 0)).1 + 1024)) r0.1) then
        bif room 8 (r0.2.length + 1) then
         some (.inl (true, wr ((t29.getD t31.toNat (0, 0, (0, 0), (0, 0), (0, 0), (0, 0), (0, 0), (0, 0), (0, 0), 0, 0)).1 + 1024), t29, t30, wr (t31 + 1), (mapPut (wr ((t29.getD t31.toNat (0, 0, (0, 0), (0, 0), (0, 0), (0, 0), (0, 0), (0, 0), (0, 0), 0, 0)).1 + 1024)) (t29.getD t31.toNat (0, 0, (0, 0), (0, 0), (0, 0), (0, 0), (0, 0), (0, 0), (0, 0), 0, 0)) r0.1, r0.2 ++ [wr ((t29.getD t31.toNat (0, 0, (0, 0), (0, 0), (0, 0), (0, 0), (0, 0), (0, 0), (0, 0), 0, 0)).1 + 1024)])))
        else
         none
       else
        bif room 8 (r0.2.length + 1) then
         some (.inl (true, wr ((t29.getD t31.toNat (0, 0, (0, 0), (0, 0), (0, 0), (0, 0), (0, 0), (0, 0), (0, 0), 0, 0)).1 + 1024), t29, t30, wr (t31 + 1), (r0.1, r0.2 ++ [wr ((t29.getD t31.toNat (0, 0, (0, 0), (0, 0), (0, 0), (0, 0), (0, 0), (0, 0), (0, 0), 0, 0)).1 + 1024)])))
        else
         none
      else
       bif mapHas (wr ((t29.getD t31.toNat (0, 0, (0, 0), (0, 0), (0, 0), (0, 0), (0, 0), (0, 0), (0, 0), 0, 0)).1 + 1024)) r0.1 then
        bif !(mapHas (wr ((t29.getD t31.toNat (0, 0, (0, 0), (0, 0), (0, 0), (0, 0), (0, 0), (0, 0), (0, 0), 0, 0)).1 + 1024)) r0.1) then
         bif room 8 (r0.2.length + 1) then
          some (.inl (!(((mapGet (wr ((t29.getD t31.toNat (0, 0, (0, 0), (0, 0), (0, 0), (0, 0), (0, 0), (0, 0), (0, 0), 0, 0)).1 + 1024)) (0, 0, (0, 0), (0, 0), (0, 0), (0, 0), (0, 0), (0, 0), (0, 0), 0, 0) r0.1).1 == (t29.getD t31.toNat (0, 0, (0, 0), (0, 0), (0, 0), (0, 0), (0, 0), (0, 0), (0, 0), 0, 0)).1) && (((mapGet (wr ((t29.getD t31.toNat (0, 0, (0, 0), (0, 0), (0, 0), (0, 0), (0, 0), (0, 0), (0, 0), 0, 0)).1 + 1024)) (0, 0, (0, 0), (0, 0), (0, 0), (0, 0), (0, 0), (0, 0), (0, 0), 0, 0) r0.1).2.1 == (t29.getD t31.toNat (0, 0, (0, 0), (0, 0), (0, 0), (0, 0), (0, 0), (0, 0), (0, 0), 0, 0)).2.1) && (((((mapGet (wr ((t29.getD t31.toNat (0, 0, (0, 0), (0, 0), (0, 0), (0, 0), (0, 0), (0, 0), (0, 0), 0, 0)).1 + 1024)) (0, 0, (0, 0), (0, 0), (0, 0), (0, 0), (0, 0), (0, 0), (0, 0), 0, 0) r0.1).2.2.1.1 == (t29.getD t31.toNat (0, 0, (0, 0), (0, 0), (0, 0), (0, 0), (0, 0), (0, 0), (0, 0), 0, 0)).2.2.1.1) && (((mapGet (wr ((t29.getD t31.toNat (0, 0, (0, 0), (0, 0), (0, 0), (0, 0), (0, 0), (0, 0), (0, 0), 0, 0)).1 + 1024)) (0, 0, (0, 0), (0, 0), (0, 0), (0, 0), (0, 0), (0, 0), (0, 0), 0, 0) r0.1).2.2.1.2 == (t29.getD t31.toNat (0, 0, (0, 0), (0, 0), (0, 0), (0, 0), (0, 0), (0, 0), (0, 0), 0, 0)).2.2.1.2) && true)) && ((((mapGet (wr ((t29.getD t31.toNat (0, 0, (0, 0), (0, 0), (0, 0), (0, 0), (0, 0), (0, 0), (0, 0), 0, 0)).1 + 1024)) (0, 0, (0, 0), (0, 0), (0, 0), (0, 0), (0, 0), (0, 0), (0, 0), 0, 0) r0.1).2.2.2.1.1 == (t29.getD t31.toNat (0, 0, (0, 0), (0, 0), (0, 0), (0, 0), (0, 0), (0, 0), (0, 0), 0, 0)).2.2.2.1.1) && (((mapGet (wr ((t29.getD t31.toNat (0, 0, (0, 0), (0, 0), (0, 0), (0, 0), (0, 0), (0, 0), (0, 0), 0, 0)).1 + 1024)) (0, 0, (0, 0), (0, 0), (0, 0), (0, 0), (0, 0), (0, 0), (0, 0), 0, 0) r0.1).2.2.2.1.2 == (t29.getD t31.toNat (0, 0, (0, 0), (0, 0), (0, 0), (0, 0), (0, 0), (0, 0), (0, 0), 0, 0)).2.2.2.1.2) && true)) && ((((mapGet (wr ((t29.getD t31.toNat (0, 0, (0, 0), (0, 0), (0, 0), (0, 0), (0, 0), (0, 0), (0, 0), 0, 0)).1 + 1024)) (0, 0, (0, 0), (0, 0), (0, 0), (0, 0), (0, 0), (0, 0), (0, 0), 0, 0) r0.1).2.2.2.2.1.1 == (t29.getD t31.toNat (0, 0, (0, 0), (0, 0), (0, 0), (0, 0), (0, 0), (0, 0), (0, 0), 0, 0)).2.2.2.2.1.1) && (((mapGet (wr ((t29.getD t31.toNat (0, 0, (0, 0), (0, 0), (0, 0), (0, 0), (0, 0), (0, 0), (0, 0), 0, 0)).1 + 1024)) (0, 0, (0, 0), (0, 0), (0, 0), (0, 0), (0, 0), (0, 0), (0, 0), 0, 0) r0.1).2.2.2.2.1.2 == (t29.getD t31.toNat (0, 0, (0, 0), (0, 0), (0, 0), (0, 0), (0, 0), (0, 0), (0, 0), 0, 0)).2.2.2.2.1.2) && true)) && ((((mapGet (wr ((t29.getD t31.toNat (0, 0, (0, 0), (0, 0), (0, 0), (0, 0), (0, 0), (0, 0), (0, 0), 0, 0)).1 + 1024)) (0, 0, (0, 0), (0, 0), (0, 0), (0, 0), (0, 0), (0, 0), (0, 0), 0, 0) r0.1).2.2.2.2.2.1.1 == (t29.getD t31.toNat (0, 0, (0, 0), (0, 0), (0, 0), (0, 0), (0, 0), (0, 0), (0, 0), 0, 0)).2.2.2.2.2.1.1) && (((mapGet (wr ((t29.getD t31.toNat (0, 0, (0, 0), (0, 0), (0, 0), (0, 0), (0, 0), (0, 0), (0, 0), 0, 0)).1 + 1024)) (0, 0, (0, 0), (0, 0), (0, 0), (0, 0), (0, 0), (0, 0), (0, 0), 0, 0) r0.1).2.2.2.2.2.1.2 == (t29.getD t31.toNat (0, 0, (0, 0), (0, 0), (0, 0), (0, 0), (0, 0), (0, 0), (0, 0), 0, 0)).2.2.2.2.2.1.2) && true)) && ((((mapGet (wr ((t29.getD t31.toNat (0, 0, (0, 0), (0, 0), (0, 0), (0, 0), (0, 0), (0, 0), (0, 0), 0, 0)).1 + 1024)) (0, 0, (0, 0), (0, 0), (0, 0), (0, 0), (0, 0), (0, 0), (0, 0), 0, 0) r0.1).2.2.2.2.2.2.1.1 == (t29.getD t31.toNat (0, 0, (0, 0), (0, 0), (0, 0), (0, 0), (0, 0), (0, 0), (0, 0), 0, 0)).2.2.2.2.2.2.1.1) && (((mapGet (wr ((t29.getD t31.toNat (0, 0, (0, 0), (0, 0), (0, 0), (0, 0), (0, 0), (0, 0), (0, 0), 0, 0)).1 + 1024)) (0, 0, (0, 0), (0, 0), (0, 0), (0, 0), (0, 0), (0, 0), (0, 0), 0, 0) r0.1).2.2.2.2.2.2.1.2 == (t29.getD t31.toNat (0, 0, (0, 0), (0, 0), (0, 0), (0, 0), (0, 0), (0, 0), (0, 0), 0, 0)).2.2.2.2.2.2.1.2) && true)) && ((((mapGet (wr ((t29.getD t31.toNat (0, 0, (0, 0), (0, 0), (0, 0), (0, 0), (0, 0), (0, 0), (0, 0), 0, 0)).1 + 1024)) (0, 0, (0, 0), (0, 0), (0, 0), (0, 0), (0, 0), (0, 0), (0, 0), 0, 0) r0.1).2.2.2.2.2.2.2.1.1 == (t29.getD t31.toNat (0, 0, (0, 0), (0, 0), (0, 0), (0, 0), (0, 0), (0, 0), (0, 0), 0, 0)).2.2.2.2.2.2.2.1.1) && (((mapGet (wr ((t29.getD t31.toNat (0, 0, (0, 0), (0, 0), (0, 0), (0, 0), (0, 0), (0, 0), (0, 0), 0, 0)).1 + 1024)) (0, 0, (0, 0), (0, 0), (0, 0), (0, 0), (0, 0), (0, 0), (0, 0), 0, 0) r0.1).2.2.2.2.2.2.2.1.2 == (t29.getD t31.toNat (0, 0, (0, 0), (0, 0), (0, 0), (0, 0), (0, 0), (0, 0), (0, 0), 0, 0)).2.2.2.2.2.2.2.1.2) && true)) && ((((mapGet (wr ((t29.getD t31.toNat (0, 0, (0, 0), (0, 0), (0, 0), (0, 0), (0, 0), (0, 0), (0, 0), 0, 0)).1 + 1024)) (0, 0, (0, 0), (0, 0), (0, 0), (0, 0), (0, 0), (0, 0), (0, 0), 0, 0) r0.1).2.2.2.2.2.2.2.2.1.1 == (t29.getD t31.toNat (0, 0, (0, 0), (0, 0), (0, 0), (0, 0), (0, 0), (0, 0), (0, 0), 0, 0)).2.2.2.2.2.2.2.2.1.1) && (((mapGet (wr ((t29.getD t31.toNat (0, 0, (0, 0), (0, 0), (0, 0), (0, 0), (0, 0), (0, 0), (0, 0), 0, 0)).1 + 1024)) (0, 0, (0, 0), (0, 0), (0, 0), (0, 0), (0, 0), (0, 0), (0, 0), 0, 0) r0.1).2.2.2.2.2.2.2.2.1.2 == (t29.getD t31.toNat (0, 0, (0, 0), (0, 0), (0, 0), (0, 0), (0, 0), (0, 0), (0, 0), 0, 0)).2.2.2.2.2.2.2.2.1.2) && true)) && ((((mapGet (wr ((t29.getD t31.toNat (0, 0, (0, 0), (0, 0), (0, 0), (0, 0), (0, 0), (0, 0), (0, 0), 0, 0)).1 + 1024)) (0, 0, (0, 0), (0, 0), (0, 0), (0, 0), (0, 0), (0, 0), (0, 0), 0, 0) r0.1).2.2.2.2.2.2.2.2.2.1 == (t29.getD t31.toNat (0, 0, (0, 0), (0, 0), (0, 0), (0, 0), (0, 0), (0, 0), (0, 0), 0, 0)).2.2.2.2.2.2.2.2.2.1) && (((mapGet (wr ((t29.getD t31.toNat (0, 0, (0, 0), (0, 0), (0, 0), (0, 0), (0, 0), (0, 0), (0, 0), 0, 0)).1 + 1024)) (0, 0, (0, 0), (0, 0), (0, 0), (0, 0), (0, 0), (0, 0), (0, 0), 0, 0) r0.1).2.2.2.2.2.2.2.2.2.2 == (t29.getD t31.toNat (0, 0, (0, 0), (0, 0), (0, 0), (0, 0), (0, 0), (0, 0), (0, 0), 0, 0)).2.2.2.2.2.2.2.2.2.2) && true)) && true)))))))) && true))), wr ((t29.getD t31.toNat (0, 0, (0, 0), (0, 0), (0, 0), (0, 0), (0, 0), (0, 0), (0, 0), 0, 0)).1 + 1024), t29, t30, wr (t31 + 1), (mapPut (wr ((t29.getD t31.toNat (0, 0, (0, 0), (0, 0), (0, 0), (0, 0), (0, 0), (0, 0), (0, 0), 0, 0)).1 + 1024)) (t29.getD t31.toNat (0, 0, (0, 0), (0, 0), (0, 0), (0, 0), (0, 0), (0, 0), (0, 0), 0, 0)) r0.1, r0.2 ++ [wr ((t29.getD t31.toNat (0, 0, (0, 0), (0, 0), (0, 0), (0, 0), (0, 0), (0, 0), (0, 0), 0, 0)).1 + 1024)])))
         else
          none
        else
         bif room 8 (r0.2.length + 1) then
          some (.inl (!(((mapGet (wr ((t29.getD t31.toNat (0, 0, (0, 0), (0, 0), (0, 0), (0, 0), (0, 0), (0, 0), (0, 0), 0, 0)).1 + 1024)) (0, 0, (0, 0), (0, 0), (0, 0), (0, 0), (0, 0), (0, 0), (0, 0), 0, 0) r0.1).1 == (t29.getD t31.toNat (0, 0, (0, 0), (0, 0), (0, 0), (0, 0), (0, 0), (0, 0), (0, 0), 0, 0)).1) && (((mapGet (wr ((t29.getD t31.toNat (0, 0, (0, 0), (0, 0), (0, 0), (0, 0), (0, 0), (0, 0), (0, 0), 0, 0)).1 + 1024)) (0, 0, (0, 0), (0, 0), (0, 0), (0, 0), (0, 0), (0, 0), (0, 0), 0, 0) r0.1).2.1 == (t29.getD t31.toNat (0, 0, (0, 0), (0, 0), (0, 0), (0, 0), (0, 0), (0, 0), (0, 0), 0, 0)).2.1) && (((((mapGet (wr ((t29.getD t31.toNat (0, 0, (0, 0), (0, 0), (0, 0), (0, 0), (0, 0), (0, 0), (0, 0), 0, 0)).1 + 1024)) (0, 0, (0, 0), (0, 0), (0, 0), (0, 0), (0, 0), (0, 0), (0, 0), 0, 0) r0.1).2.2.1.1 == (t29.getD t31.toNat (0, 0, (0, 0), (0, 0), (0, 0), (0, 0), (0, 0), (0, 0), (0, 0), 0, 0)).2.2.1.1) && (((mapGet (wr ((t29.getD t31.toNat (0, 0, (0, 0), (0, 0), (0, 0), (0, 0), (0, 0), (0, 0), (0, 0), 0, 0)).1 + 1024)) (0, 0, (0, 0), (0, 0), (0, 0), (0, 0), (0, 0), (0, 0), (0, 0), 0, 0) r0.1).2.2.1.2 == (t29.getD t31.toNat (0, 0, (0, 0), (0, 0), (0, 0), (0, 0), (0, 0), (0, 0), (0, 0), 0, 0)).2.2.1.2) && true)) && ((((mapGet (wr ((t29.getD t31.toNat (0, 0, (0, 0), (0, 0), (0, 0), (0, 0), (0, 0), (0, 0), (0, 0), 0, 0)).1 + 1024)) (0, 0, (0, 0), (0, 0), (0, 0), (0, 0), (0, 0), (0, 0), (0, 0), 0, 0) r0.1).2.2.2.1.1 == (t29.getD t31.toNat (0, 0, (0, 0), (0, 0), (0, 0), (0, 0), (0, 0), (0, 0), (0, 0), 0, 0)).2.2.2.1.1) && (((mapGet (wr ((t29.getD t31.toNat (0, 0, (0, 0), (0, 0), (0, 0), (0, 0), (0, 0), (0, 0), (0, 0), 0, 0)).1 + 1024)) (0, 0, (0, 0), (0, 0), (0, 0), (0, 0), (0, 0), (0, 0), (0, 0), 0, 0) r0.1).2.2.2.1.2 == (t29.getD t31.toNat (0, 0, (0, 0), (0, 0), (0, 0), (0, 0), (0, 0), (0, 0), (0, 0), 0, 0)).2.2.2.1.2) && true)) && ((((mapGet (wr ((t29.getD t31.toNat (0, 0, (0, 0), (0, 0), (0, 0), (0, 0), (0, 0), (0, 0), (0, 0), 0, 0)).1 + 1024)) (0, 0, (0, 0), (0, 0), (0, 0), (0, 0), (0, 0), (0, 0), (0, 0), 0, 0) r0.1).2.2.2.2.1.1 == (t29.getD t31.toNat (0, 0, (0, 0), (0, 0), (0, 0), (0, 0), (0, 0), (0, 0), (0, 0), 0, 0)).2.2.2.2.1.1) && (((mapGet (wr ((t29.getD t31.toNat (0, 0, (0, 0), (0, 0), (0, 0), (0, 0), (0, 0), (0, 0), (0, 0), 0, 0)).1 + 1024)) (0, 0, (0, 0), (0, 0), (0, 0), (0, 0), (0, 0), (0, 0), (0, 0), 0, 0) r0.1).2.2.2.2.1.2 == (t29.getD t31.toNat (0, 0, (0, 0), (0, 0), (0, 0), (0, 0), (0, 0), (0, 0), (0, 0), 0, 0)).2.2.2.2.1.2) && true)) && ((((mapGet (wr ((t29.getD t31.toNat (0, 0, (0, 0), (0, 0), (0, 0), (0, 0), (0, 0), (0, 0), (0, 0), 0, 0)).1 + 1024)) (0, 0, (0, 0), (0, 0), (0, 0), (0, 0), (0, 0), (0, 0), (0, 0), 0, 0) r0.1).2.2.2.2.2.1.1 == (t29.getD t31.toNat (0, 0, (0, 0), (0, 0), (0, 0), (0, 0), (0, 0), (0, 0), (0, 0), 0, 0)).2.2.2.2.2.1.1) && (((mapGet (wr ((t29.getD t31.toNat (0, 0, (0, 0), (0, 0), (0, 0), (0, 0), (0, 0), (0, 0), (0, 0), 0, 0)).1 + 1024)) (0, 0, (0, 0), (0, 0), (0, 0), (0, 0), (0, 0), (0, 0), (0, 0), 0, 0) r0.1).2.2.2.2.2.1.2 == (t29.getD t31.toNat (0, 0, (0, 0), (0, 0), (0, 0), (0, 0), (0, 0), (0, 0), (0, 0), 0, 0)).2.2.2.2.2.1.2) && true)) && ((((mapGet (wr ((t29.getD t31.toNat (0, 0, (0, 0), (0, 0), (0, 0), (0, 0), (0, 0), (0, 0), (0, 0), 0, 0)).1 + 1024)) (0, 0, (0, 0), (0, 0), (0, 0), (0, 0), (0, 0), (0, 0), (0, 0), 0, 0) r0.1).2.2.2.2.2.2.1.1 == (t29.getD t31.toNat (0, 0, (0, 0), (0, 0), (0, 0), (0, 0), (0, 0), (0, 0), (0, 0), 0, 0)).2.2.2.2.2.2.1.1) && (((mapGet (wr ((t29.getD t31.toNat (0, 0, (0, 0), (0, 0), (0, 0), (0, 0), (0, 0), (0, 0), (0, 0), 0, 0)).1 + 1024)) (0, 0, (0, 0), (0, 0), (0, 0), (0, 0), (0, 0), (0, 0), (0, 0), 0, 0) r0.1).2.2.2.2.2.2.1.2 == (t29.getD t31.toNat (0, 0, (0, 0), (0, 0), (0, 0), (0, 0), (0, 0), (0, 0), (0, 0), 0, 0)).2.2.2.2.2.2.1.2) && true)) && ((((mapGet (wr ((t29.getD t31.toNat (0, 0, (0, 0), (0, 0), (0, 0), (0, 0), (0, 0), (0, 0), (0, 0), 0, 0)).1 + 1024)) (0, 0, (0, 0), (0, 0), (0, 0), (0, 0), (0, 0), (0, 0), (0, 0), 0, 0) r0.1).2.2.2.2.2.2.2.1.1 == (t29.getD t31.toNat (0, 0, (0, 0), (0, 0), (0, 0), (0, 0), (0, 0), (0, 0), (0, 0), 0, 0)).2.2.2.2.2.2.2.1.1) && (((mapGet (wr ((t29.getD t31.toNat (0, 0, (0, 0), (0, 0), (0, 0), (0, 0), (0, 0), (0, 0), (0, 0), 0, 0)).1 + 1024)) (0, 0, (0, 0), (0, 0), (0, 0), (0, 0), (0, 0), (0, 0), (0, 0), 0, 0) r0.1).2.2.2.2.2.2.2.1.2 == (t29.getD t31.toNat (0, 0, (0, 0), (0, 0), (0, 0), (0, 0), (0, 0), (0, 0), (0, 0), 0, 0)).2.2.2.2.2.2.2.1.2) && true)) && ((((mapGet (wr ((t29.getD t31.toNat (0, 0, (0, 0), (0, 0), (0, 0), (0, 0), (0, 0), (0, 0), (0, 0), 0, 0)).1 + 1024)) (0, 0, (0, 0), (0, 0), (0, 0), (0, 0), (0, 0), (0, 0), (0, 0), 0, 0) r0.1).2.2.2.2.2.2.2.2.1.1 == (t29.getD t31.toNat (0, 0, (0, 0), (0, 0), (0, 0), (0, 0), (0, 0), (0, 0), (0, 0), 0, 0)).2.2.2.2.2.2.2.2.1.1) && (((mapGet (wr ((t29.getD t31.toNat (0, 0, (0, 0), (0, 0), (0, 0), (0, 0), (0, 0), (0, 0), (0, 0), 0, 0)).1 + 1024)) (0, 0, (0, 0), (0, 0), (0, 0), (0, 0), (0, 0), (0, 0), (0, 0), 0, 0) r0.1).2.2.2.2.2.2.2.2.1.2 == (t29.getD t31.toNat (0, 0, (0, 0), (0, 0), (0, 0), (0, 0), (0, 0), (0, 0), (0, 0), 0, 0)).2.2.2.2.2.2.2.2.1.2) && true)) && ((((mapGet (wr ((t29.getD t31.toNat (0, 0, (0, 0), (0, 0), (0, 0), (0, 0), (0, 0), (0, 0), (0, 0), 0, 0)).1 + 1024)) (0, 0, (0, 0), (0, 0), (0, 0), (0, 0), (0, 0), (0, 0), (0, 0), 0, 0) r0.1).2.2.2.2.2.2.2.2.2.1 == (t29.getD t31.toNat (0, 0, (0, 0), (0, 0), (0, 0), (0, 0), (0, 0), (0, 0), (0, 0), 0, 0)).2.2.2.2.2.2.2.2.2.1) && (((mapGet (wr ((t29.getD t31.toNat (0, 0, (0, 0), (0, 0), (0, 0), (0, 0), (0, 0), (0, 0), (0, 0), 0, 0)).1 + 1024)) (0, 0, (0, 0), (0, 0), (0, 0), (0, 0), (0, 0), (0, 0), (0, 0), 0, 0) r0.1).2.2.2.2.2.2.2.2.2.2 == (t29.getD t31.toNat (0, 0, (0, 0), (0, 0), (0, 0), (0, 0), (0, 0), (0, 0), (0, 0), 0, 0)).2.2.2.2.2.2.2.2.2.2) && true)) && true)))))))) && true))), wr ((t29.getD t31.toNat (0, 0, (0, 0), (0, 0), (0, 0), (0, 0), (0, 0), (0, 0), (0, 0), 0, 0)).1 + 1024), t29, t30, wr (t31 + 1), (r0.1, r0.2 ++ [wr ((t29.getD t31.toNat (0, 0, (0, 0), (0, 0), (0, 0), (0, 0), (0, 0), (0, 0), (0, 0), 0, 0)).1 + 1024)])))
         else
          none
       else
        bif !(mapHas (wr ((t29.getD t31.toNat (0, 0, (0, 0), (0, 0), (0, 0), (0, 0), (0, 0), (0, 0), (0, 0), 0, 0)).1 + 1024)) r0.1) then
         bif room 8 (r0.2.length + 1) then
          some (.inl (false, wr ((t29.getD t31.toNat (0, 0, (0, 0), (0, 0), (0, 0), (0, 0), (0, 0), (0, 0), (0, 0), 0, 0)).1 + 1024), t29, t30, wr (t31 + 1), (mapPut (wr ((t29.getD t31.toNat (0, 0, (0, 0), (0, 0), (0, 0), (0, 0), (0, 0), (0, 0), (0, 0), 0, 0)).1 + 1024)) (t29.getD t31.toNat (0, 0, (0, 0), (0, 0), (0, 0), (0, 0), (0, 0), (0, 0), (0, 0), 0, 0)) r0.1, r0.2 ++ [wr ((t29.getD t31.toNat (0, 0, (0, 0), (0, 0), (0, 0), (0, 0), (0, 0), (0, 0), (0, 0), 0, 0)).1 + 1024)])))
         else
          none
        else
         bif room 8 (r0.2.length + 1) then
          some (.inl (false, wr ((t29.getD t31.toNat (0, 0, (0, 0), (0, 0), (0, 0), (0, 0), (0, 0), (0, 0), (0, 0), 0, 0)).1 + 1024), t29, t30, wr (t31 + 1), (r0.1, r0.2 ++ [wr ((t29.getD t31.toNat (0, 0, (0, 0), (0, 0), (0, 0), (0, 0), (0, 0), (0, 0), (0, 0), 0, 0)).1 + 1024)])))
         else
          none
     else
      optE (s83 (last0, (t29.getD t31.toNat (0, 0, (0, 0), (0, 0), (0, 0), (0, 0), (0, 0), (0, 0), (0, 0), 0, 0)).1)) (fun r5 =>
       bif clash then
        bif !(mapHas r5 r0.1) then
         bif room 8 (r0.2.length + 1) then
          some (.inl (true, r5, t29, t30, wr (t31 + 1), (mapPut r5 (t29.getD t31.toNat (0, 0, (0, 0), (0, 0), (0, 0), (0, 0), (0, 0), (0, 0), (0, 0), 0, 0)) r0.1, r0.2 ++ [r5])))
         else
          none
        else
         bif room 8 (r0.2.length + 1) then
          some (.inl (true, r5, t29, t30, wr (t31 + 1), (r0.1, r0.2 ++ [r5])))
         else
          none
       else
        bif mapHas r5 r0.1 then
         bif !(mapHas r5 r0.1) then
          bif room 8 (r0.2.length + 1) then
           some (.inl (!(((mapGet r5 (0, 0, (0, 0), (0, 0), (0, 0), (0, 0), (0, 0), (0, 0), (0, 0), 0, 0) r0.1).1 == (t29.getD t31.toNat (0, 0, (0, 0), (0, 0), (0, 0), (0, 0), (0, 0), (0, 0), (0, 0), 0, 0)).1) && (((mapGet r5 (0, 0, (0, 0), (0, 0), (0, 0), (0, 0), (0, 0), (0, 0), (0, 0), 0, 0) r0.1).2.1 == (t29.getD t31.toNat (0, 0, (0, 0), (0, 0), (0, 0), (0, 0), (0, 0), (0, 0), (0, 0), 0, 0)).2.1) && (((((mapGet r5 (0, 0, (0, 0), (0, 0), (0, 0), (0, 0), (0, 0), (0, 0), (0, 0), 0, 0) r0.1).2.2.1.1 == (t29.getD t31.toNat (0, 0, (0, 0), (0, 0), (0, 0), (0, 0), (0, 0), (0, 0), (0, 0), 0, 0)).2.2.1.1) && (((mapGet r5 (0, 0, (0, 0), (0, 0), (0, 0), (0, 0), (0, 0), (0, 0), (0, 0), 0, 0) r0.1).2.2.1.2 == (t29.getD t31.toNat (0, 0, (0, 0), (0, 0), (0, 0), (0, 0), (0, 0), (0, 0), (0, 0), 0, 0)).2.2.1.2) && true)) && ((((mapGet r5 (0, 0, (0, 0), (0, 0), (0, 0), (0, 0), (0, 0), (0, 0), (0, 0), 0, 0) r0.1).2.2.2.1.1 == (t29.getD t31.toNat (0, 0, (0, 0), (0, 0), (0, 0), (0, 0), (0, 0), (0, 0), (0, 0), 0, 0)).2.2.2.1.1) && (((mapGet r5 (0, 0, (0, 0), (0, 0), (0, 0), (0, 0), (0, 0), (0, 0), (0, 0), 0, 0) r0.1).2.2.2.1.2 == (t29.getD t31.toNat (0, 0, (0, 0), (0, 0), (0, 0), (0, 0), (0, 0), (0, 0), (0, 0), 0, 0)).2.2.2.1.2) && true)) && ((((mapGet r5 (0, 0, (0, 0), (0, 0), (0, 0), (0, 0), (0, 0), (0, 0), (0, 0), 0, 0) r0.1).2.2.2.2.1.1 == (t29.getD t31.toNat (0, 0, (0, 0), (0, 0), (0, 0), (0, 0), (0, 0), (0, 0), (0, 0), 0, 0)).2.2.2.2.1.1) && (((mapGet r5 (0, 0, (0, 0), (0, 0), (0, 0), (0, 0), (0, 0), (0, 0), (0, 0), 0, 0) r0.1).2.2.2.2.1.2 == (t29.getD t31.toNat (0, 0, (0, 0), (0, 0), (0, 0), (0, 0), (0, 0), (0, 0), (0, 0), 0, 0)).2.2.2.2.1.2) && true)) && ((((mapGet r5 (0, 0, (0, 0), (0, 0), (0, 0), (0, 0), (0, 0), (0, 0), (0, 0), 0, 0) r0.1).2.2.2.2.2.1.1 == (t29.getD t31.toNat (0, 0, (0, 0), (0, 0), (0, 0), (0, 0), (0, 0), (0, 0), (0, 0), 0, 0)).2.2.2.2.2.1.1) && (((mapGet r5 (0, 0, (0, 0), (0, 0), (0, 0), (0, 0), (0, 0), (0, 0), (0, 0), 0, 0) r0.1).2.2.2.2.2.1.2 == (t29.getD t31.toNat (0, 0, (0, 0), (0, 0), (0, 0), (0, 0), (0, 0), (0, 0), (0, 0), 0, 0)).2.2.2.2.2.1.2) && true)) && ((((mapGet r5 (0, 0, (0, 0), (0, 0), (0, 0), (0, 0), (0, 0), (0, 0), (0, 0), 0, 0) r0.1).2.2.2.2.2.2.1.1 == (t29.getD t31.toNat (0, 0, (0, 0), (0, 0), (0, 0), (0, 0), (0, 0), (0, 0), (0, 0), 0, 0)).2.2.2.2.2.2.1.1) && (((mapGet r5 (0, 0, (0, 0), (0, 0), (0, 0), (0, 0), (0, 0), (0, 0), (0, 0), 0, 0) r0.1).2.2.2.2.2.2.1.2 == (t29.getD t31.toNat (0, 0, (0, 0), (0, 0), (0, 0), (0, 0), (0, 0), (0, 0), (0, 0), 0, 0)).2.2.2.2.2.2.1.2) && true)) && ((((mapGet r5 (0, 0, (0, 0), (0, 0), (0, 0), (0, 0), (0, 0), (0, 0), (0, 0), 0, 0) r0.1).2.2.2.2.2.2.2.1.1 == (t29.getD t31.toNat (0, 0, (0, 0), (0, 0), (0, 0), (0, 0), (0, 0), (0, 0), (0, 0), 0, 0)).2.2.2.2.2.2.2.1.1) && (((mapGet r5 (0, 0, (0, 0), (0, 0), (0, 0), (0, 0), (0, 0), (0, 0), (0, 0), 0, 0) r0.1).2.2.2.2.2.2.2.1.2 == (t29.getD t31.toNat (0, 0, (0, 0), (0, 0), (0, 0), (0, 0), (0, 0), (0, 0), (0, 0), 0, 0)).2.2.2.2.2.2.2.1.2) && true)) && ((((mapGet r5 (0, 0, (0, 0), (0, 0), (0, 0), (0, 0), (0, 0), (0, 0), (0, 0), 0, 0) r0.1).2.2.2.2.2.2.2.2.1.1 == (t29.getD t31.toNat (0, 0, (0, 0), (0, 0), (0, 0), (0, 0), (0, 0), (0, 0), (0, 0), 0, 0)).2.2.2.2.2.2.2.2.1.1) && (((mapGet r5 (0, 0, (0, 0), (0, 0), (0, 0), (0, 0), (0, 0), (0, 0), (0, 0), 0, 0) r0.1).2.2.2.2.2.2.2.2.1.2 == (t29.getD t31.toNat (0, 0, (0, 0), (0, 0), (0, 0), (0, 0), (0, 0), (0, 0), (0, 0), 0, 0)).2.2.2.2.2.2.2.2.1.2) && true)) && ((((mapGet r5 (0, 0, (0, 0), (0, 0), (0, 0), (0, 0), (0, 0), (0, 0), (0, 0), 0, 0) r0.1).2.2.2.2.2.2.2.2.2.1 == (t29.getD t31.toNat (0, 0, (0, 0), (0, 0), (0, 0), (0, 0), (0, 0), (0, 0), (0, 0), 0, 0)).2.2.2.2.2.2.2.2.2.1) && (((mapGet r5 (0, 0, (0, 0), (0, 0), (0, 0), (0, 0), (0, 0), (0, 0), (0, 0), 0, 0) r0.1).2.2.2.2.2.2.2.2.2.2 == (t29.getD t31.toNat (0, 0, (0, 0), (0, 0), (0, 0), (0, 0), (0, 0), (0, 0), (0, 0), 0, 0)).2.2.2.2.2.2.2.2.2.2) && true)) && true)))))))) && true))), r5, t29, t30, wr (t31 + 1), (mapPut r5 (t29.getD t31.toNat (0, 0, (0, 0), (0, 0), (0, 0), (0, 0), (0, 0), (0, 0), (0, 0), 0, 0)) r0.1, r0.2 ++ [r5])))
          else
           none
         else
          bif room 8 (r0.2.length + 1) then
           some (.inl (!(((mapGet r5 (0, 0, (0, 0), (0, 0), (0, 0), (0, 0), (0, 0), (0, 0), (0, 0), 0, 0) r0.1).1 == (t29.getD t31.toNat (0, 0, (0, 0), (0, 0), (0, 0), (0, 0), (0, 0), (0, 0), (0, 0), 0, 0)).1) && (((mapGet r5 (0, 0, (0, 0), (0, 0), (0, 0), (0, 0), (0, 0), (0, 0), (0, 0), 0, 0) r0.1).2.1 == (t29.getD t31.toNat (0, 0, (0, 0), (0, 0), (0, 0), (0, 0), (0, 0), (0, 0), (0, 0), 0, 0)).2.1) && (((((mapGet r5 (0, 0, (0, 0), (0, 0), (0, 0), (0, 0), (0, 0), (0, 0), (0, 0), 0, 0) r0.1).2.2.1.1 == (t29.getD t31.toNat (0, 0, (0, 0), (0, 0), (0, 0), (0, 0), (0, 0), (0, 0), (0, 0), 0, 0)).2.2.1.1) && (((mapGet r5 (0, 0, (0, 0), (0, 0), (0, 0), (0, 0), (0, 0), (0, 0), (0, 0), 0, 0) r0.1).2.2.1.2 == (t29.getD t31.toNat (0, 0, (0, 0), (0, 0), (0, 0), (0, 0), (0, 0), (0, 0), (0, 0), 0, 0)).2.2.1.2) && true)) && ((((mapGet r5 (0, 0, (0, 0), (0, 0), (0, 0), (0, 0), (0, 0), (0, 0), (0, 0), 0, 0) r0.1).2.2.2.1.1 == (t29.getD t31.toNat (0, 0, (0, 0), (0, 0), (0, 0), (0, 0), (0, 0), (0, 0), (0, 0), 0, 0)).2.2.2.1.1) && (((mapGet r5 (0, 0, (0, 0), (0, 0), (0, 0), (0, 0), (0, 0), (0, 0), (0, 0), 0, 0) r0.1).2.2.2.1.2 == (t29.getD t31.toNat (0, 0, (0, 0), (0, 0), (0, 0), (0, 0), (0, 0), (0, 0), (0, 0), 0, 0)).2.2.2.1.2) && true)) && ((((mapGet r5 (0, 0, (0, 0), (0, 0), (0, 0), (0, 0), (0, 0), (0, 0), (0, 0), 0, 0) r0.1).2.2.2.2.1.1 == (t29.getD t31.toNat (0, 0, (0, 0), (0, 0), (0, 0), (0, 0), (0, 0), (0, 0), (0, 0), 0, 0)).2.2.2.2.1.1) && (((mapGet r5 (0, 0, (0, 0), (0, 0), (0, 0), (0, 0), (0, 0), (0, 0), (0, 0), 0, 0) r0.1).2.2.2.2.1.2 == (t29.getD t31.toNat (0, 0, (0, 0), (0, 0), (0, 0), (0, 0), (0, 0), (0, 0), (0, 0), 0, 0)).2.2.2.2.1.2) && true)) && ((((mapGet r5 (0, 0, (0, 0), (0, 0), (0, 0), (0, 0), (0, 0), (0, 0), (0, 0), 0, 0) r0.1).2.2.2.2.2.1.1 == (t29.getD t31.toNat (0, 0, (0, 0), (0, 0), (0, 0), (0, 0), (0, 0), (0, 0), (0, 0), 0, 0)).2.2.2.2.2.1.1) && (((mapGet r5 (0, 0, (0, 0), (0, 0), (0, 0), (0, 0), (0, 0), (0, 0), (0, 0), 0, 0) r0.1).2.2.2.2.2.1.2 == (t29.getD t31.toNat (0, 0, (0, 0), (0, 0), (0, 0), (0, 0), (0, 0), (0, 0), (0, 0), 0, 0)).2.2.2.2.2.1.2) && true)) && ((((mapGet r5 (0, 0, (0, 0), (0, 0), (0, 0), (0, 0), (0, 0), (0, 0), (0, 0), 0, 0) r0.1).2.2.2.2.2.2.1.1 == (t29.getD t31.toNat (0, 0, (0, 0), (0, 0), (0, 0), (0, 0), (0, 0), (0, 0), (0, 0), 0, 0)).2.2.2.2.2.2.1.1) && (((mapGet r5 (0, 0, (0, 0), (0, 0), (0, 0), (0, 0), (0, 0), (0, 0), (0, 0), 0, 0) r0.1).2.2.2.2.2.2.1.2 == (t29.getD t31.toNat (0, 0, (0, 0), (0, 0), (0, 0), (0, 0), (0, 0), (0, 0), (0, 0), 0, 0)).2.2.2.2.2.2.1.2) && true)) && ((((mapGet r5 (0, 0, (0, 0), (0, 0), (0, 0), (0, 0), (0, 0), (0, 0), (0, 0), 0, 0) r0.1).2.2.2.2.2.2.2.1.1 == (t29.getD t31.toNat (0, 0, (0, 0), (0, 0), (0, 0), (0, 0), (0, 0), (0, 0), (0, 0), 0, 0)).2.2.2.2.2.2.2.1.1) && (((mapGet r5 (0, 0, (0, 0), (0, 0), (0, 0), (0, 0), (0, 0), (0, 0), (0, 0), 0, 0) r0.1).2.2.2.2.2.2.2.1.2 == (t29.getD t31.toNat (0, 0, (0, 0), (0, 0), (0, 0), (0, 0), (0, 0), (0, 0), (0, 0), 0, 0)).2.2.2.2.2.2.2.1.2) && true)) && ((((mapGet r5 (0, 0, (0, 0), (0, 0), (0, 0), (0, 0), (0, 0), (0, 0), (0, 0), 0, 0) r0.1).2.2.2.2.2.2.2.2.1.1 == (t29.getD t31.toNat (0, 0, (0, 0), (0, 0), (0, 0), (0, 0), (0, 0), (0, 0), (0, 0), 0, 0)).2.2.2.2.2.2.2.2.1.1) && (((mapGet r5 (0, 0, (0, 0), (0, 0), (0, 0), (0, 0), (0, 0), (0, 0), (0, 0), 0, 0) r0.1).2.2.2.2.2.2.2.2.1.2 == (t29.getD t31.toNat (0, 0, (0, 0), (0, 0), (0, 0), (0, 0), (0, 0), (0, 0), (0, 0), 0, 0)).2.2.2.2.2.2.2.2.1.2) && true)) && ((((mapGet r5 (0, 0, (0, 0), (0, 0), (0, 0), (0, 0), (0, 0), (0, 0), (0, 0), 0, 0) r0.1).2.2.2.2.2.2.2.2.2.1 == (t29.getD t31.toNat (0, 0, (0, 0), (0, 0), (0, 0), (0, 0), (0, 0), (0, 0), (0, 0), 0, 0)).2.2.2.2.2.2.2.2.2.1) && (((mapGet r5 (0, 0, (0, 0), (0, 0), (0, 0), (0, 0), (0, 0), (0, 0), (0, 0), 0, 0) r0.1).2.2.2.2.2.2.2.2.2.2 == (t29.getD t31.toNat (0, 0, (0, 0), (0, 0), (0, 0), (0, 0), (0, 0), (0, 0), (0, 0), 0, 0)).2.2.2.2.2.2.2.2.2.2) && true)) && true)))))))) && true))), r5, t29, t30, wr (t31 + 1), (r0.1, r0.2 ++ [r5])))
          else
           none
        else
         bif !(mapHas r5 r0.1) then
          bif room 8 (r0.2.length + 1) then
           some (.inl (false, r5, t29, t30, wr (t31 + 1), (mapPut r5 (t29.getD t31.toNat (0, 0, (0, 0), (0, 0), (0, 0), (0, 0), (0, 0), (0, 0), (0, 0), 0, 0)) r0.1, r0.2 ++ [r5])))
          else
           none
         else
          bif room 8 (r0.2.length + 1) then
           some (.inl (false, r5, t29, t30, wr (t31 + 1), (r0.1, r0.2 ++ [r5])))
          else
           none)
       (none))
    (none)
  else
   none
 else
  some (.inr (.inr (clash, r0)))
theorem one47_0 : oneLoop Tryz.prog 47 0 = true := by kernel_rfl
theorem lp47_0 : ItemOk Tryz.prog (.loop 47 0 T47_0 X47_0 (loopVal step47_0)) := item_loopM md5 ext5 (U := 9) (n := 11) noSpecial mixed G21K16_ok one47_0 (fun x => by kernel_rfl)
noncomputable def G21K17 : List Ev.Item := .loop 47 0 T47_0 X47_0 (loopVal step47_0) :: G21K16
theorem G21K17_ok : ∀ q ∈ G21K17, ItemOk Tryz.prog q := items_cons lp47_0 G21K16_ok
noncomputable def s47 : List (Int × Int × (Int × Int) × (Int × Int) × (Int × Int) × (Int × Int) × (Int × Int) × (Int × Int) × (Int × Int) × Int × Int) → Option ((Option ((List (Int × Int × Int × (Int × Int) × (Int × Int) × (Int × Int) × (Int × Int) × (Int × Int) × (Int × Int) × (Int × Int) × Int × Int)) × List Int)) × Int) := fun l =>
 optE (s63 (decide ((l.length : Int) > 0), 10)) (fun r1 =>
  optE (s63 (decide ((l.length : Int) ≤ 30), 8)) (fun r2 =>
   optE (s61 [r1, r2]) (fun r3 =>
    bif r3 != 0 then
     some ((none, r3))
    else
     optE (loopVal step47_0 (false, 0, l, (l.length : Int), 0, ([], []))) (fun e4 =>
      sumE e4 (fun e5 =>
       some ((none, e5))) (fun e6 =>
       optE (s49 e6.2) (fun r7 =>
        optE (s48 e6.2) (fun r8 =>
         optE (s63 (decide ((wr (r7 - r8)) < 40), 8)) (fun r9 =>
          optE (s63 (!e6.1, 13)) (fun r10 =>
           optE (s61 [r9, r10]) (fun r11 =>
            some ((some e6.2, r11)))
            (none))
           (none))
          (none))
         (none))
        (none)))
      (none))
    (none))
   (none))
  (none)
theorem i47 : ItemOk Tryz.prog (.fn 47 [.d (.slice (.agg (.pair zI (.pair zI (.pair zP (.pair zP (.pair zP (.pair zP (.pair zP (.pair zP (.pair zP zP)))))))))))] [.ptr (.pair (.map zI (.agg (.pair zI (.pair zI (.pair zP (.pair zP (.pair zP (.pair zP (.pair zP (.pair zP (.pair zP zP))))))))))) (.slice zI)), .d zI] s47) := item_fnM md5 ext5 (U := 9) (n := 12) noSpecial mixed G21K17_ok (fun x => by kernel_rfl)
noncomputable def G21K18 : List Ev.Item := .fn 47 [.d (.slice (.agg (.pair zI (.pair zI (.pair zP (.pair zP (.pair zP (.pair zP (.pair zP (.pair zP (.pair zP zP)))))))))))] [.ptr (.pair (.map zI (.agg (.pair zI (.pair zI (.pair zP (.pair zP (.pair zP (.pair zP (.pair zP (.pair zP (.pair zP zP))))))))))) (.slice zI)), .d zI] s47 :: G21K17
theorem G21K18_ok : ∀ q ∈ G21K18, ItemOk Tryz.prog q := items_cons i47 G21K17_ok
@[reducible] def T50_0 : Tmpl := ⟨31, [], [.ptr 0 (.pair (.map zI (.agg (.pair zI (.pair zI (.pair zP (.pair zP (.pair zP (.pair zP (.pair zP (.pair zP (.pair zP zP))))))))))) (.slice zI)), .own 3 29 3 zI, .val 4 zI], [], none⟩
@[reducible] def X50_0 : List (Ex × Tmpl) := [(.exit 0, ⟨31, [], [.own 3 29 3 zI], [], none⟩)]
noncomputable def step50_0 : ((List (Int × Int × Int × (Int × Int) × (Int × Int) × (Int × Int) × (Int × Int) × (Int × Int) × (Int × Int) × (Int × Int) × Int × Int)) × List Int) × (List Int) × Int → Option ((((List (Int × Int × Int × (Int × Int) × (Int × Int) × (Int × Int) × (Int × Int) × (Int × Int) × (Int × Int) × (Int × Int) × Int × Int)) × List Int) × (List Int) × Int) ⊕ (List Int)) := fun (r0, out, n) =>
 optE (s49 r0) (fun r2 =>
  bif decide (n ≤ r2) then
   bif !(mapHas n r0.1) then
    bif room 8 (out.length + 1) then
     some (.inl (r0, out ++ [n], wr (n + 1)))
    else
     none
   else
    some (.inl (r0, out, wr (n + 1)))
  else
   some (.inr out))
  (none)
theorem one50_0 : oneLoop Tryz.prog 50 0 = true := by kernel_rfl
theorem lp50_0 : ItemOk Tryz.prog (.loop 50 0 T50_0 X50_0 (loopVal step50_0)) := item_loopM md5 ext5 (U := 9) (n := 11) noSpecial mixed G21K18_ok one50_0 (fun x => by kernel_rfl)
noncomputable def G21K19 : List Ev.Item := .loop 50 0 T50_0 X50_0 (loopVal step50_0) :: G21K18
theorem G21K19_ok : ∀ q ∈ G21K19, ItemOk Tryz.prog q := items_cons lp50_0 G21K18_ok
noncomputable def s50 : (List (Int × Int × Int × (Int × Int) × (Int × Int) × (Int × Int) × (Int × Int) × (Int × Int) × (Int × Int) × (Int × Int) × Int × Int)) × List Int → Option (List Int) := fun r0 =>
 optE (s48 r0) (fun r1 =>
  optE (loopVal step50_0 (r0, [], r1)) (fun e2 =>
   some (e2))
   (none))
  (none)
theorem i50 : ItemOk Tryz.prog (.fn 50 [.tgt (.pair (.map zI (.agg (.pair zI (.pair zI (.pair zP (.pair zP (.pair zP (.pair zP (.pair zP (.pair zP (.pair zP zP))))))))))) (.slice zI))] [.own 3 zI] s50) := item_fnM md5 ext5 (U := 9) (n := 12) noSpecial mixed G21K19_ok (fun x => by kernel_rfl)
noncomputable def G21K20 : List Ev.Item := .fn 50 [.tgt (.pair (.map zI (.agg (.pair zI (.pair zI (.pair zP (.pair zP (.pair zP (.pair zP (.pair zP (.pair zP (.pair zP zP))))))))))) (.slice zI))] [.own 3 zI] s50 :: G21K19
theorem G21K20_ok : ∀ q ∈ G21K20, ItemOk Tryz.prog q := items_cons i50 G21K19_ok
@[reducible] def T17_0 : Tmpl := ⟨99, [(2, .ref 2 0 0 0), (6, .ref 6 0 0 0)], [.ptr 4 (.pair (.map zI (.agg (.pair zI (.pair zI (.pair zP (.pair zP (.pair zP (.pair zP (.pair zP (.pair zP (.pair zP zP))))))))))) (.slice zI)), .val 7 zI, .cells 2 [.d (.pair zI (.pair (.slice (.agg zP)) (.slice (.agg zP))))], .cells 6 [.d zI, .own 43 23 (.agg zP), .own 95 57 (.agg zP)]], [], none⟩
@[reducible] def X17_0 : List (Ex × Tmpl) := [(.exit 0, ⟨99, [(2, .ref 2 0 0 0), (6, .ref 6 0 0 0)], [.ptr 4 (.pair (.map zI (.agg (.pair zI (.pair zI (.pair zP (.pair zP (.pair zP (.pair zP (.pair zP (.pair zP (.pair zP zP))))))))))) (.slice zI)), .cells 2 [.d (.pair zI (.pair (.slice (.agg zP)) (.slice (.agg zP))))], .cells 6 [.d zI, .own 43 23 (.agg zP), .own 95 57 (.agg zP)]], [], none⟩)]
noncomputable def step17_0 : ((List (Int × Int × Int × (Int × Int) × (Int × Int) × (Int × Int) × (Int × Int) × (Int × Int) × (Int × Int) × (Int × Int) × Int × Int)) × List Int) × Int × (Int × (List (Int × Int)) × List (Int × Int)) × (Int × (List (Int × Int)) × (List (Int × Int))) → Option ((((List (Int × Int × Int × (Int × Int) × (Int × Int) × (Int × Int) × (Int × Int) × (Int × Int) × (Int × Int) × (Int × Int) × Int × Int)) × List Int) × Int × (Int × (List (Int × Int)) × List (Int × Int)) × (Int × (List (Int × Int)) × (List (Int × Int)))) ⊕ (((List (Int × Int × Int × (Int × Int) × (Int × Int) × (Int × Int) × (Int × Int) × (Int × Int) × (Int × Int) × (Int × Int) × Int × Int)) × List Int) × (Int × (List (Int × Int)) × List (Int × Int)) × (Int × (List (Int × Int)) × (List (Int × Int))))) := fun (r0, n, t2, out) =>
 optE (s49 r0) (fun r4 =>
  bif decide (n ≤ r4) then
   bif room 16 (out.2.1.length + 8) then
    some (.inl (r0, wr (n + 1), t2, (out.1, out.2.1 ++ [(mapGet n (0, 0, (0, 0), (0, 0), (0, 0), (0, 0), (0, 0), (0, 0), (0, 0), 0, 0) r0.1).2.2.1, (mapGet n (0, 0, (0, 0), (0, 0), (0, 0), (0, 0), (0, 0), (0, 0), (0, 0), 0, 0) r0.1).2.2.2.1, (mapGet n (0, 0, (0, 0), (0, 0), (0, 0), (0, 0), (0, 0), (0, 0), (0, 0), 0, 0) r0.1).2.2.2.2.1, (mapGet n (0, 0, (0, 0), (0, 0), (0, 0), (0, 0), (0, 0), (0, 0), (0, 0), 0, 0) r0.1).2.2.2.2.2.1, (mapGet n (0, 0, (0, 0), (0, 0), (0, 0), (0, 0), (0, 0), (0, 0), (0, 0), 0, 0) r0.1).2.2.2.2.2.2.1, (mapGet n (0, 0, (0, 0), (0, 0), (0, 0), (0, 0), (0, 0), (0, 0), (0, 0), 0, 0) r0.1).2.2.2.2.2.2.2.1, (mapGet n (0, 0, (0, 0), (0, 0), (0, 0), (0, 0), (0, 0), (0, 0), (0, 0), 0, 0) r0.1).2.2.2.2.2.2.2.2.1, (mapGet n (0, 0, (0, 0), (0, 0), (0, 0), (0, 0), (0, 0), (0, 0), (0, 0), 0, 0) r0.1).2.2.2.2.2.2.2.2.2], out.2.2)))
   else
    none
  else
   some (.inr (r0, t2, out)))
  (none)
theorem one17_0 : oneLoop Tryz.prog 17 0 = true := by kernel_rfl
theorem lp17_0 : ItemOk Tryz.prog (.loop 17 0 T17_0 X17_0 (loopVal step17_0)) := item_loopM md5 ext5 (U := 9) (n := 11) noSpecial mixed G21K20_ok one17_0 (fun x => by kernel_rfl)
noncomputable def G21K21 : List Ev.Item := .loop 17 0 T17_0 X17_0 (loopVal step17_0) :: G21K20
theorem G21K21_ok : ∀ q ∈ G21K21, ItemOk Tryz.prog q := items_cons lp17_0 G21K20_ok
@[reducible] def T17_2 : Tmpl := ⟨99, [(2, .ref 2 0 0 0), (6, .ref 6 0 0 0)], [.own 46 46 3 zI, .val 47 zI, .val 48 zI, .cells 2 [.d (.pair zI (.pair (.slice (.agg zP)) (.slice (.agg zP))))], .cells 6 [.d zI, .own 43 23 (.agg zP), .own 95 57 (.agg zP)]], [], none⟩
@[reducible] def X17_2 : List (Ex × Tmpl) := [(.exit 2, ⟨99, [(2, .ref 2 0 0 0), (6, .ref 6 0 0 0)], [.cells 2 [.d (.pair zI (.pair (.slice (.agg zP)) (.slice (.agg zP))))], .cells 6 [.d zI, .own 43 23 (.agg zP), .own 95 57 (.agg zP)]], [], none⟩)]
noncomputable def step17_2 : (List Int) × Int × Int × (Int × (List (Int × Int)) × List (Int × Int)) × (Int × (List (Int × Int)) × (List (Int × Int))) → Option (((List Int) × Int × Int × (Int × (List (Int × Int)) × List (Int × Int)) × (Int × (List (Int × Int)) × (List (Int × Int)))) ⊕ ((Int × (List (Int × Int)) × List (Int × Int)) × (Int × (List (Int × Int)) × (List (Int × Int))))) := fun (t46, t47, t48, t2, out) =>
 bif decide (t48 < t47) then
  bif inBounds t48 t46.length then
   bif decide ((out.2.2.length : Int) > 0) then
    bif inBounds (wr ((out.2.2.length : Int) - 1)) out.2.2.length then
     bif (wr ((out.2.2.getD (wr ((out.2.2.length : Int) - 1)).toNat (0, 0)).2 + 1)) == (wr ((wr ((t46.getD t48.toNat 0) - out.1)) * 8)) then
      bif inBounds (wr ((out.2.2.length : Int) - 1)) out.2.2.length then
       some (.inl (t46, t47, wr (t48 + 1), t2, (out.1, out.2.1, out.2.2.set (wr ((out.2.2.length : Int) - 1)).toNat ((out.2.2.getD (wr ((out.2.2.length : Int) - 1)).toNat (0, 0)).1, wr ((wr ((wr ((wr ((t46.getD t48.toNat 0) - out.1)) + 1)) * 8)) - 1)))))
      else
       none
     else
      bif room 16 (out.2.2.length + 1) then
       some (.inl (t46, t47, wr (t48 + 1), t2, (out.1, out.2.1, out.2.2 ++ [(wr ((wr ((t46.getD t48.toNat 0) - out.1)) * 8), wr ((wr ((wr ((wr ((t46.getD t48.toNat 0) - out.1)) + 1)) * 8)) - 1))])))
      else
       none
    else
     none
   else
    bif room 16 (out.2.2.length + 1) then
     some (.inl (t46, t47, wr (t48 + 1), t2, (out.1, out.2.1, out.2.2 ++ [(wr ((wr ((t46.getD t48.toNat 0) - out.1)) * 8), wr ((wr ((wr ((wr ((t46.getD t48.toNat 0) - out.1)) + 1)) * 8)) - 1))])))
    else
     none
  else
   none
 else
  some (.inr (t2, out))
theorem one17_2 : oneLoop Tryz.prog 17 2 = true := by kernel_rfl
theorem lp17_2 : ItemOk Tryz.prog (.loop 17 2 T17_2 X17_2 (loopVal step17_2)) := item_loopM md5 ext5 (U := 9) (n := 11) noSpecial mixed G21K21_ok one17_2 (fun x => by kernel_rfl)
noncomputable def G21K22 : List Ev.Item := .loop 17 2 T17_2 X17_2 (loopVal step17_2) :: G21K21
theorem G21K22_ok : ∀ q ∈ G21K22, ItemOk Tryz.prog q := items_cons lp17_2 G21K21_ok
noncomputable def s17 : List (Int × Int × (Int × Int) × (Int × Int) × (Int × Int) × (Int × Int) × (Int × Int) × (Int × Int) × (Int × Int) × Int × Int) → Option ((Int × (List (Int × Int)) × List (Int × Int)) × Int) := fun l =>
 optE (s47 l) (fun r1 =>
  optE (r1.1) (fun q2 =>
   bif r1.2 != 0 then
    some (((0, [], []), r1.2))
   else
    optE (s48 q2) (fun r3 =>
     optE (loopVal step17_0 (q2, r3, (0, [], []), (r3, [], []))) (fun e4 =>
      optE (s50 e4.1) (fun r5 =>
       optE (loopVal step17_2 (r5, (r5.length : Int), 0, e4.2.1, e4.2.2)) (fun e6 =>
        some ((e6.2, 0)))
        (none))
       (none))
      (none))
     (none))
   (bif r1.2 != 0 then
     some (((0, [], []), r1.2))
   else
    none))
  (none)
theorem i17 : ItemOk Tryz.prog (.fn 17 [.d (.slice (.agg (.pair zI (.pair zI (.pair zP (.pair zP (.pair zP (.pair zP (.pair zP (.pair zP (.pair zP zP)))))))))))] [.d (.agg (.pair zI (.pair (.slice (.agg zP)) (.slice (.agg zP))))), .d zI] s17) := item_fnM md5 ext5 (U := 9) (n := 12) noSpecial mixed G21K22_ok (fun x => by kernel_rfl)
noncomputable def G21K23 : List Ev.Item := .fn 17 [.d (.slice (.agg (.pair zI (.pair zI (.pair zP (.pair zP (.pair zP (.pair zP (.pair zP (.pair zP (.pair zP zP)))))))))))] [.d (.agg (.pair zI (.pair (.slice (.agg zP)) (.slice (.agg zP))))), .d zI] s17 :: G21K22
theorem G21K23_ok : ∀ q ∈ G21K23, ItemOk Tryz.prog q := items_cons i17 G21K22_ok
@[reducible] def T19_0 : Tmpl := ⟨18, [], [.val 0 (.slice zI), .val 1 zI, .val 5 zI], [], none⟩
@[reducible] def X19_0 : List (Ex × Tmpl) := [(.ret, ⟨18, [], [.val 4 .bool], [], none⟩), (.exit 0, ⟨18, [], [], [], none⟩)]
noncomputable def step19_0 : (List Int) × Int × Int → Option (((List Int) × Int × Int) ⊕ ((Bool) ⊕ (Unit))) := fun (l, n, i) =>
 bif decide (i < (l.length : Int)) then
  bif inBounds i l.length then
   bif (l.getD i.toNat 0) == n then
    some (.inr (.inl true))
   else
    some (.inl (l, n, wr (i + 1)))
  else
   none
 else
  some (.inr (.inr ()))
theorem one19_0 : oneLoop Tryz.prog 19 0 = true := by kernel_rfl
theorem lp19_0 : ItemOk Tryz.prog (.loop 19 0 T19_0 X19_0 (loopVal step19_0)) := item_loopM md5 ext5 (U := 9) (n := 11) noSpecial mixed G21K23_ok one19_0 (fun x => by kernel_rfl)
noncomputable def G21K24 : List Ev.Item := .loop 19 0 T19_0 X19_0 (loopVal step19_0) :: G21K23
theorem G21K24_ok : ∀ q ∈ G21K24, ItemOk Tryz.prog q := items_cons lp19_0 G21K23_ok
noncomputable def s19 : (List Int) × Int → Option (Bool) := fun (l, n) =>
 optE (loopVal step19_0 (l, n, 0)) (fun e1 =>
  sumE e1 (fun e2 =>
   some (e2)) (fun _ =>
   some (false)))
  (none)
theorem i19 : ItemOk Tryz.prog (.fn 19 [.d (.slice zI), .d zI] [.d .bool] s19) := item_fnM md5 ext5 (U := 9) (n := 12) noSpecial mixed G21K24_ok (fun x => by kernel_rfl)
noncomputable def G21K25 : List Ev.Item := .fn 19 [.d (.slice zI), .d zI] [.d .bool] s19 :: G21K24
theorem G21K25_ok : ∀ q ∈ G21K25, ItemOk Tryz.prog q := items_cons i19 G21K24_ok
noncomputable def s21 : List (Int × Int) → Option (List (Int × Int)) := fun l =>
 bif room 16 (0 + l.length) then
  some (l)
 else
  none
theorem i21 : ItemOk Tryz.prog (.fn 21 [.d (.slice (.agg zP))] [.own 23 (.agg zP)] s21) := item_fnM md5 ext5 (U := 9) (n := 12) noSpecial mixed G21K25_ok (fun x => by kernel_rfl)
noncomputable def G21K26 : List Ev.Item := .fn 21 [.d (.slice (.agg zP))] [.own 23 (.agg zP)] s21 :: G21K25
theorem G21K26_ok : ∀ q ∈ G21K26, ItemOk Tryz.prog q := items_cons i21 G21K25_ok
noncomputable def s90 : Int → Option (Bool) := fun n =>
 optE (s64 (n, (-4096), 4096)) (fun r1 =>
  some (r1))
  (none)
theorem i90 : ItemOk Tryz.prog (.fn 90 [.d zI] [.d .bool] s90) := item_fnM md5 ext5 (U := 9) (n := 12) noSpecial mixed G21K26_ok (fun x => by kernel_rfl)
noncomputable def G21K27 : List Ev.Item := .fn 90 [.d zI] [.d .bool] s90 :: G21K26
theorem G21K27_ok : ∀ q ∈ G21K27, ItemOk Tryz.prog q := items_cons i90 G21K26_ok
noncomputable def s62 : Int × Int × Int → Option (Int) := fun p =>
 optE (s64 (p.1, 0, 4095)) (fun r1 =>
  bif r1 then
   optE (s90 p.2.1) (fun r2 =>
    bif r2 then
     optE (s90 p.2.2) (fun r3 =>
      optE (s63 (r3, 2)) (fun r4 =>
       some (r4))
       (none))
      (none)
    else
     optE (s63 (false, 2)) (fun r5 =>
      some (r5))
      (none))
    (none)
  else
   optE (s63 (false, 2)) (fun r6 =>
    some (r6))
    (none))
  (none)
theorem i62 : ItemOk Tryz.prog (.fn 62 [.d (.agg (.pair zI zP))] [.d zI] s62) := item_fnM md5 ext5 (U := 9) (n := 12) noSpecial mixed G21K27_ok (fun x => by kernel_rfl)
noncomputable def G21K28 : List Ev.Item := .fn 62 [.d (.agg (.pair zI zP))] [.d zI] s62 :: G21K27
theorem G21K28_ok : ∀ q ∈ G21K28, ItemOk Tryz.prog q := items_cons i62 G21K27_ok
noncomputable def s96 : Int × Int → Option (Bool) := fun g =>
 optE (s81 g) (fun r1 =>
  some (!r1))
  (none)
theorem i96 : ItemOk Tryz.prog (.fn 96 [.d (.agg zP)] [.d .bool] s96) := item_fnM md5 ext5 (U := 9) (n := 12) noSpecial mixed G21K28_ok (fun x => by kernel_rfl)
noncomputable def G21K29 : List Ev.Item := .fn 96 [.d (.agg zP)] [.d .bool] s96 :: G21K28
theorem G21K29_ok : ∀ q ∈ G21K29, ItemOk Tryz.prog q := items_cons i96 G21K28_ok
@[reducible] def T112_0 : Tmpl := ⟨19, [(1, .fn 96)], [.val 0 (.slice (.agg zP)), .val 7 zI, .val 8 zI], [], none⟩
@[reducible] def X112_0 : List (Ex × Tmpl) := [(.ret, ⟨19, [], [.val 4 zI], [], none⟩), (.exit 0, ⟨19, [], [], [], none⟩)]
noncomputable def step112_0 : (List (Int × Int)) × Int × Int → Option (((List (Int × Int)) × Int × Int) ⊕ ((Int) ⊕ (Unit))) := fun (s, t7, t8) =>
 bif decide (t8 < t7) then
  bif inBounds t8 s.length then
   optE (s96 (s.getD t8.toNat (0, 0))) (fun r1 =>
    bif r1 then
     some (.inr (.inl t8))
    else
     some (.inl (s, t7, wr (t8 + 1))))
    (none)
  else
   none
 else
  some (.inr (.inr ()))
theorem one112_0 : oneLoop Tryz.prog 112 0 = true := by kernel_rfl
theorem lp112_0 : ItemOk Tryz.prog (.loop 112 0 T112_0 X112_0 (loopVal step112_0)) := item_loopM md5 ext5 (U := 9) (n := 9) noSpecial mixed G21K29_ok one112_0 (fun x => by kernel_rfl)
noncomputable def G21K30 : List Ev.Item := .loop 112 0 T112_0 X112_0 (loopVal step112_0) :: G21K29
theorem G21K30_ok : ∀ q ∈ G21K30, ItemOk Tryz.prog q := items_cons lp112_0 G21K29_ok
noncomputable def s71 : List (Int × Int) → Option (Int) := fun x0 =>
 optE (loopVal step112_0 (x0, (x0.length : Int), 0)) (fun e1 =>
  sumE e1 (fun e2 =>
   optE (s63 (decide ((x0.length : Int) ≤ 400), 8)) (fun r4 =>
    optE (s63 (!(decide (e2 ≥ 0)), 2)) (fun r5 =>
     optE (s61 [r4, r5]) (fun r6 =>
      some (r6))
      (none))
     (none))
    (none)) (fun _ =>
   optE (s63 (decide ((x0.length : Int) ≤ 400), 8)) (fun r7 =>
    optE (s63 (true, 2)) (fun r8 =>
     optE (s61 [r7, r8]) (fun r9 =>
      some (r9))
      (none))
     (none))
    (none)))
  (none)
theorem i71 : ItemOk Tryz.prog (.fn 71 [.d (.slice (.agg zP))] [.d zI] s71) := item_fnM md5 ext5 (U := 9) (n := 12) noSpecial mixed G21K30_ok (fun x => by kernel_rfl)
noncomputable def G21K31 : List Ev.Item := .fn 71 [.d (.slice (.agg zP))] [.d zI] s71 :: G21K30
theorem G21K31_ok : ∀ q ∈ G21K31, ItemOk Tryz.prog q := items_cons i71 G21K30_ok
@[reducible] def T72_0 : Tmpl := ⟨24, [], [.own 3 21 121 .zc, .val 6 (.slice (.agg zP)), .val 7 zI, .val 8 zI], [], none⟩
@[reducible] def X72_0 : List (Ex × Tmpl) := [(.exit 0, ⟨24, [], [.own 3 21 121 .zc], [], none⟩)]
noncomputable def step72_0 : (List (Int × Int)) × (List (Int × Int)) × Int × Int → Option (((List (Int × Int)) × (List (Int × Int)) × Int × Int) ⊕ (List (Int × Int))) := fun (out, t6, t7, t8) =>
 bif decide (t8 < t7) then
  bif inBounds t8 t6.length then
   bif small24 (t6.getD t8.toNat (0, 0)).1 then
    bif small24 (t6.getD t8.toNat (0, 0)).2 then
     bif room 8 (out.length + 1) then
      some (.inl (out ++ [(t6.getD t8.toNat (0, 0))], t6, t7, wr (t8 + 1)))
     else
      none
    else
     none
   else
    none
  else
   none
 else
  some (.inr out)
theorem one72_0 : oneLoop Tryz.prog 72 0 = true := by kernel_rfl
theorem lp72_0 : ItemOk Tryz.prog (.loop 72 0 T72_0 X72_0 (loopVal step72_0)) := item_loopM md5 ext5 (U := 9) (n := 11) noSpecial mixed G21K31_ok one72_0 (fun x => by kernel_rfl)
noncomputable def G21K32 : List Ev.Item := .loop 72 0 T72_0 X72_0 (loopVal step72_0) :: G21K31
theorem G21K32_ok : ∀ q ∈ G21K32, ItemOk Tryz.prog q := items_cons lp72_0 G21K31_ok
noncomputable def s72 : List (Int × Int) → Option (List (Int × Int)) := fun x0 =>
 optE (loopVal step72_0 ([], x0, (x0.length : Int), 0)) (fun e1 =>
  some (e1))
  (none)
theorem i72 : ItemOk Tryz.prog (.fn 72 [.d (.slice (.agg zP))] [.own 121 .zc] s72) := item_fnM md5 ext5 (U := 9) (n := 12) noSpecial mixed G21K32_ok (fun x => by kernel_rfl)
noncomputable def G21K33 : List Ev.Item := .fn 72 [.d (.slice (.agg zP))] [.own 121 .zc] s72 :: G21K32
theorem G21K33_ok : ∀ q ∈ G21K33, ItemOk Tryz.prog q := items_cons i72 G21K32_ok
noncomputable def s110 : Int → Option (Int) := fun n =>
 bif decide ((Int.tmod n 4096) < 0) then
  some (wr ((Int.tmod n 4096) + 4096))
 else
  some (Int.tmod n 4096)
theorem i110 : ItemOk Tryz.prog (.fn 110 [.d zI] [.d zI] s110) := item_fnM md5 ext5 (U := 9) (n := 12) noSpecial mixed G21K33_ok (fun x => by kernel_rfl)
noncomputable def G21K34 : List Ev.Item := .fn 110 [.d zI] [.d zI] s110 :: G21K33
theorem G21K34_ok : ∀ q ∈ G21K34, ItemOk Tryz.prog q := items_cons i110 G21K33_ok
noncomputable def s91 : (Int × Int × Int) × Int → Option (Int) := fun (p, n) =>
 optE (s110 (wr ((wr (p.1 + (wr (n * p.2.1)))) + (wr ((wr (Int.tdiv (wr (n * (wr (n - 1)))) 2)) * p.2.2))))) (fun r1 =>
  some (r1))
  (none)
theorem i91 : ItemOk Tryz.prog (.fn 91 [.d (.agg (.pair zI zP)), .d zI] [.d zI] s91) := item_fnM md5 ext5 (U := 9) (n := 12) noSpecial mixed G21K34_ok (fun x => by kernel_rfl)
noncomputable def G21K35 : List Ev.Item := .fn 91 [.d (.agg (.pair zI zP)), .d zI] [.d zI] s91 :: G21K34
theorem G21K35_ok : ∀ q ∈ G21K35, ItemOk Tryz.prog q := items_cons i91 G21K34_ok
noncomputable def s65 : (Int × Int × Int) × Int → Option (Int) := fun (p, n) =>
 optE (s91 (p, n)) (fun r1 =>
  some (Int.tmod (wr (Int.tdiv (wr (r1 + 512)) 1024)) 4))
  (none)
theorem i65 : ItemOk Tryz.prog (.fn 65 [.d (.agg (.pair zI zP)), .d zI] [.d zI] s65) := item_fnM md5 ext5 (U := 9) (n := 12) noSpecial mixed G21K35_ok (fun x => by kernel_rfl)
noncomputable def G21K36 : List Ev.Item := .fn 65 [.d (.agg (.pair zI zP)), .d zI] [.d zI] s65 :: G21K35
theorem G21K36_ok : ∀ q ∈ G21K36, ItemOk Tryz.prog q := items_cons i65 G21K35_ok
noncomputable def s68 : Int × Int → Option (Int × Int) := fun z =>
 some (z)
theorem i68 : ItemOk Tryz.prog (.fn 68 [.d .zc] [.d (.agg zP)] s68) := item_fnM md5 ext5 (U := 9) (n := 12) noSpecial mixed G21K36_ok (fun x => by kernel_rfl)
noncomputable def G21K37 : List Ev.Item := .fn 68 [.d .zc] [.d (.agg zP)] s68 :: G21K36
theorem G21K37_ok : ∀ q ∈ G21K37, ItemOk Tryz.prog q := items_cons i68 G21K36_ok
@[reducible] def T85_0 : Tmpl := ⟨19, [], [.own 3 16 23 (.agg zP), .val 6 (.slice .zc), .val 7 zI, .val 8 zI], [], none⟩
@[reducible] def X85_0 : List (Ex × Tmpl) := [(.exit 0, ⟨19, [], [.own 3 16 23 (.agg zP)], [], none⟩)]
noncomputable def step85_0 : (List (Int × Int)) × (List (Int × Int)) × Int × Int → Option (((List (Int × Int)) × (List (Int × Int)) × Int × Int) ⊕ (List (Int × Int))) := fun (out, t6, t7, t8) =>
 bif decide (t8 < t7) then
  bif inBounds t8 t6.length then
   optE (s68 (t6.getD t8.toNat (0, 0))) (fun r1 =>
    bif room 16 (out.length + 1) then
     some (.inl (out ++ [r1], t6, t7, wr (t8 + 1)))
    else
     none)
    (none)
  else
   none
 else
  some (.inr out)
theorem one85_0 : oneLoop Tryz.prog 85 0 = true := by kernel_rfl
theorem lp85_0 : ItemOk Tryz.prog (.loop 85 0 T85_0 X85_0 (loopVal step85_0)) := item_loopM md5 ext5 (U := 9) (n := 11) noSpecial mixed G21K37_ok one85_0 (fun x => by kernel_rfl)
noncomputable def G21K38 : List Ev.Item := .loop 85 0 T85_0 X85_0 (loopVal step85_0) :: G21K37
theorem G21K38_ok : ∀ q ∈ G21K38, ItemOk Tryz.prog q := items_cons lp85_0 G21K37_ok
noncomputable def s85 : List (Int × Int) → Option (List (Int × Int)) := fun s =>
 optE (loopVal step85_0 ([], s, (s.length : Int), 0)) (fun e1 =>
  some (e1))
  (none)
theorem i85 : ItemOk Tryz.prog (.fn 85 [.d (.slice .zc)] [.own 23 (.agg zP)] s85) := item_fnM md5 ext5 (U := 9) (n := 12) noSpecial mixed G21K38_ok (fun x => by kernel_rfl)
noncomputable def G21K39 : List Ev.Item := .fn 85 [.d (.slice .zc)] [.own 23 (.agg zP)] s85 :: G21K38
theorem G21K39_ok : ∀ q ∈ G21K39, ItemOk Tryz.prog q := items_cons i85 G21K38_ok
noncomputable def s52 : Int → Option (Int × Int) := fun turns =>
 bif inBounds (Int.tmod turns 4) 4 then
  some (([(1, 0), (0, (-1)), ((-1), 0), (0, 1)].getD (Int.tmod turns 4).toNat (0, 0)))
 else
  none
theorem i52 : ItemOk Tryz.prog (.fn 52 [.d zI] [.d .zc] s52) := item_fnM md5 ext5 (U := 9) (n := 12) noSpecial mixed G21K39_ok (fun x => by kernel_rfl)
noncomputable def G21K40 : List Ev.Item := .fn 52 [.d zI] [.d .zc] s52 :: G21K39
theorem G21K40_ok : ∀ q ∈ G21K40, ItemOk Tryz.prog q := items_cons i52 G21K39_ok
@[reducible] def T51_0 : Tmpl := ⟨41, [(2, .fn 52), (3, .ref 3 0 0 0)], [.own 9 21 121 .zc, .val 23 zI, .val 24 zI, .cells 3 [.d (.pair zI zP)]], [], none⟩
@[reducible] def X51_0 : List (Ex × Tmpl) := [(.exit 0, ⟨41, [], [.own 9 21 121 .zc], [], none⟩)]
noncomputable def step51_0 : (List (Int × Int)) × Int × Int × (Int × Int × Int) → Option (((List (Int × Int)) × Int × Int × (Int × Int × Int)) ⊕ (List (Int × Int))) := fun (s, t23, t24, p) =>
 bif decide (t24 < t23) then
  bif inBounds t24 s.length then
   optE (s65 (p, t24)) (fun r5 =>
    optE (s52 r5) (fun r6 =>
     bif (small24 (((s.getD t24.toNat (0, 0)).1 * r6.1) - ((s.getD t24.toNat (0, 0)).2 * r6.2))) && (small24 (((s.getD t24.toNat (0, 0)).1 * r6.2) + ((s.getD t24.toNat (0, 0)).2 * r6.1))) then
      bif inBounds t24 s.length then
       some (.inl (s.set t24.toNat (((s.getD t24.toNat (0, 0)).1 * r6.1) - ((s.getD t24.toNat (0, 0)).2 * r6.2), ((s.getD t24.toNat (0, 0)).1 * r6.2) + ((s.getD t24.toNat (0, 0)).2 * r6.1)), t23, wr (t24 + 1), p))
      else
       none
     else
      none)
     (none))
    (none)
  else
   none
 else
  some (.inr s)
theorem one51_0 : oneLoop Tryz.prog 51 0 = true := by kernel_rfl
theorem lp51_0 : ItemOk Tryz.prog (.loop 51 0 T51_0 X51_0 (loopVal step51_0)) := item_loopM md5 ext5 (U := 9) (n := 10) noSpecial mixed G21K40_ok one51_0 (fun x => by kernel_rfl)
noncomputable def G21K41 : List Ev.Item := .loop 51 0 T51_0 X51_0 (loopVal step51_0) :: G21K40
theorem G21K41_ok : ∀ q ∈ G21K41, ItemOk Tryz.prog q := items_cons lp51_0 G21K40_ok
noncomputable def s20 : (Int × Int × Int) × (List (Int × Int)) → Option ((List (Int × Int)) × Int) := fun (p, x0) =>
 optE (s62 p) (fun r1 =>
  optE (s71 x0) (fun r2 =>
   optE (s61 [r1, r2]) (fun r3 =>
    bif r3 != 0 then
     some (([], r3))
    else
     optE (s72 x0) (fun r4 =>
      optE (loopVal step51_0 (r4, (r4.length : Int), 0, p)) (fun e5 =>
       optE (s85 e5) (fun r6 =>
        some ((r6, 0)))
        (none))
       (none))
      (none))
    (none))
   (none))
  (none)
theorem i20 : ItemOk Tryz.prog (.fn 20 [.d (.agg (.pair zI zP)), .d (.slice (.agg zP))] [.own 23 (.agg zP), .d zI] s20) := item_fnM md5 ext5 (U := 9) (n := 12) noSpecial mixed G21K41_ok (fun x => by kernel_rfl)
noncomputable def G21K42 : List Ev.Item := .fn 20 [.d (.agg (.pair zI zP)), .d (.slice (.agg zP))] [.own 23 (.agg zP), .d zI] s20 :: G21K41
theorem G21K42_ok : ∀ q ∈ G21K42, ItemOk Tryz.prog q := items_cons i20 G21K41_ok
noncomputable def s23 : (List Int) × Int → Option ((List Int) × Int) := fun f =>
 optE (s54 f.1) (fun r1 =>
  some ((r1, f.2)))
  (none)
theorem i23 : ItemOk Tryz.prog (.fn 23 [.d (.agg (.pair (.slice zI) zI))] [.d (.agg (.pair (.slice zI) zI))] s23) := item_fnM md5 ext5 (U := 9) (n := 12) noSpecial mixed G21K42_ok (fun x => by kernel_rfl)
noncomputable def G21K43 : List Ev.Item := .fn 23 [.d (.agg (.pair (.slice zI) zI))] [.d (.agg (.pair (.slice zI) zI))] s23 :: G21K42
theorem G21K43_ok : ∀ q ∈ G21K43, ItemOk Tryz.prog q := items_cons i23 G21K42_ok
noncomputable def s94 : Int → Option (Bool) := fun n =>
 optE (s64 (n, (-100), 100)) (fun r1 =>
  some (r1))
  (none)
theorem i94 : ItemOk Tryz.prog (.fn 94 [.d zI] [.d .bool] s94) := item_fnM md5 ext5 (U := 9) (n := 12) noSpecial mixed G21K43_ok (fun x => by kernel_rfl)
noncomputable def G21K44 : List Ev.Item := .fn 94 [.d zI] [.d .bool] s94 :: G21K43
theorem G21K44_ok : ∀ q ∈ G21K44, ItemOk Tryz.prog q := items_cons i94 G21K43_ok
noncomputable def s93 : Int → Option (Bool) := fun n =>
 optE (s94 n) (fun r1 =>
  some (!r1))
  (none)
theorem i93 : ItemOk Tryz.prog (.fn 93 [.d zI] [.d .bool] s93) := item_fnM md5 ext5 (U := 9) (n := 12) noSpecial mixed G21K44_ok (fun x => by kernel_rfl)
noncomputable def G21K45 : List Ev.Item := .fn 93 [.d zI] [.d .bool] s93 :: G21K44
theorem G21K45_ok : ∀ q ∈ G21K45, ItemOk Tryz.prog q := items_cons i93 G21K44_ok
@[reducible] def T111_0 : Tmpl := ⟨19, [(1, .fn 93)], [.val 0 (.slice zI), .val 7 zI, .val 8 zI], [], none⟩
@[reducible] def X111_0 : List (Ex × Tmpl) := [(.ret, ⟨19, [], [.val 4 zI], [], none⟩), (.exit 0, ⟨19, [], [], [], none⟩)]
noncomputable def step111_0 : (List Int) × Int × Int → Option (((List Int) × Int × Int) ⊕ ((Int) ⊕ (Unit))) := fun (s, t7, t8) =>
 bif decide (t8 < t7) then
  bif inBounds t8 s.length then
   optE (s93 (s.getD t8.toNat 0)) (fun r1 =>
    bif r1 then
     some (.inr (.inl t8))
    else
     some (.inl (s, t7, wr (t8 + 1))))
    (none)
  else
   none
 else
  some (.inr (.inr ()))
theorem one111_0 : oneLoop Tryz.prog 111 0 = true := by kernel_rfl
theorem lp111_0 : ItemOk Tryz.prog (.loop 111 0 T111_0 X111_0 (loopVal step111_0)) := item_loopM md5 ext5 (U := 9) (n := 9) noSpecial mixed G21K45_ok one111_0 (fun x => by kernel_rfl)
noncomputable def G21K46 : List Ev.Item := .loop 111 0 T111_0 X111_0 (loopVal step111_0) :: G21K45
theorem G21K46_ok : ∀ q ∈ G21K46, ItemOk Tryz.prog q := items_cons lp111_0 G21K45_ok
noncomputable def s66 : (List Int) × Int → Option (Int) := fun f =>
 optE (loopVal step111_0 (f.1, (f.1.length : Int), 0)) (fun e1 =>
  sumE e1 (fun e2 =>
   optE (s63 (decide ((f.1.length : Int) > 0), 10)) (fun r4 =>
    optE (s63 (decide ((f.1.length : Int) ≤ 8), 8)) (fun r5 =>
     bif !(decide (e2 ≥ 0)) then
      optE (s64 (f.2, 1, 100)) (fun r6 =>
       optE (s63 (r6, 2)) (fun r7 =>
        optE (s61 [r4, r5, r7]) (fun r8 =>
         some (r8))
         (none))
        (none))
       (none)
     else
      optE (s63 (false, 2)) (fun r9 =>
       optE (s61 [r4, r5, r9]) (fun r10 =>
        some (r10))
        (none))
       (none))
     (none))
    (none)) (fun _ =>
   optE (s63 (decide ((f.1.length : Int) > 0), 10)) (fun r11 =>
    optE (s63 (decide ((f.1.length : Int) ≤ 8), 8)) (fun r12 =>
     optE (s64 (f.2, 1, 100)) (fun r13 =>
      optE (s63 (r13, 2)) (fun r14 =>
       optE (s61 [r11, r12, r14]) (fun r15 =>
        some (r15))
        (none))
       (none))
      (none))
     (none))
    (none)))
  (none)
theorem i66 : ItemOk Tryz.prog (.fn 66 [.d (.agg (.pair (.slice zI) zI))] [.d zI] s66) := item_fnM md5 ext5 (U := 9) (n := 12) noSpecial mixed G21K46_ok (fun x => by kernel_rfl)
noncomputable def G21K47 : List Ev.Item := .fn 66 [.d (.agg (.pair (.slice zI) zI))] [.d zI] s66 :: G21K46
theorem G21K47_ok : ∀ q ∈ G21K47, ItemOk Tryz.prog q := items_cons i66 G21K46_ok
@[reducible] def T69_0 : Tmpl := ⟨21, [], [.own 3 18 121 .zc, .val 7 (.slice zI), .val 8 zI, .val 9 zI], [], none⟩
@[reducible] def X69_0 : List (Ex × Tmpl) := [(.exit 0, ⟨21, [], [.own 3 18 121 .zc], [], none⟩)]
noncomputable def step69_0 : (List (Int × Int)) × (List Int) × Int × Int → Option (((List (Int × Int)) × (List Int) × Int × Int) ⊕ (List (Int × Int))) := fun (out, t7, t8, t9) =>
 bif decide (t9 < t8) then
  bif inBounds t9 t7.length then
   bif small24 (t7.getD t9.toNat 0) then
    bif room 8 (out.length + 1) then
     some (.inl (out ++ [(t7.getD t9.toNat 0, 0)], t7, t8, wr (t9 + 1)))
    else
     none
   else
    none
  else
   none
 else
  some (.inr out)
theorem one69_0 : oneLoop Tryz.prog 69 0 = true := by kernel_rfl
theorem lp69_0 : ItemOk Tryz.prog (.loop 69 0 T69_0 X69_0 (loopVal step69_0)) := item_loopM md5 ext5 (U := 9) (n := 11) noSpecial mixed G21K47_ok one69_0 (fun x => by kernel_rfl)
noncomputable def G21K48 : List Ev.Item := .loop 69 0 T69_0 X69_0 (loopVal step69_0) :: G21K47
theorem G21K48_ok : ∀ q ∈ G21K48, ItemOk Tryz.prog q := items_cons lp69_0 G21K47_ok
noncomputable def s69 : (List Int) × Int → Option (List (Int × Int)) := fun f =>
 optE (loopVal step69_0 ([], f.1, (f.1.length : Int), 0)) (fun e1 =>
  some (e1))
  (none)
theorem i69 : ItemOk Tryz.prog (.fn 69 [.d (.agg (.pair (.slice zI) zI))] [.own 121 .zc] s69) := item_fnM md5 ext5 (U := 9) (n := 12) noSpecial mixed G21K48_ok (fun x => by kernel_rfl)
noncomputable def G21K49 : List Ev.Item := .fn 69 [.d (.agg (.pair (.slice zI) zI))] [.own 121 .zc] s69 :: G21K48
theorem G21K49_ok : ∀ q ∈ G21K49, ItemOk Tryz.prog q := items_cons i69 G21K48_ok
@[reducible] def T86_0 : Tmpl := ⟨32, [], [.val 0 (.slice .zc), .val 2 zI, .val 7 .zc, .val 10 (.slice .zc), .val 11 zI, .val 12 zI], [], none⟩
@[reducible] def X86_0 : List (Ex × Tmpl) := [(.exit 0, ⟨32, [], [.val 7 .zc], [], none⟩)]
noncomputable def step86_0 : (List (Int × Int)) × Int × (Int × Int) × (List (Int × Int)) × Int × Int → Option (((List (Int × Int)) × Int × (Int × Int) × (List (Int × Int)) × Int × Int) ⊕ (Int × Int)) := fun (s, n, sum, t10, t11, t12) =>
 bif decide (t12 < t11) then
  bif inBounds t12 t10.length then
   bif decide (n ≥ t12) then
    bif inBounds (wr (n - t12)) s.length then
     bif (small24 (((t10.getD t12.toNat (0, 0)).1 * (s.getD (wr (n - t12)).toNat (0, 0)).1) - ((t10.getD t12.toNat (0, 0)).2 * (s.getD (wr (n - t12)).toNat (0, 0)).2))) && (small24 (((t10.getD t12.toNat (0, 0)).1 * (s.getD (wr (n - t12)).toNat (0, 0)).2) + ((t10.getD t12.toNat (0, 0)).2 * (s.getD (wr (n - t12)).toNat (0, 0)).1))) then
      bif (small24 (sum.1 + (((t10.getD t12.toNat (0, 0)).1 * (s.getD (wr (n - t12)).toNat (0, 0)).1) - ((t10.getD t12.toNat (0, 0)).2 * (s.getD (wr (n - t12)).toNat (0, 0)).2)))) && (small24 (sum.2 + (((t10.getD t12.toNat (0, 0)).1 * (s.getD (wr (n - t12)).toNat (0, 0)).2) + ((t10.getD t12.toNat (0, 0)).2 * (s.getD (wr (n - t12)).toNat (0, 0)).1)))) then
       some (.inl (s, n, (sum.1 + (((t10.getD t12.toNat (0, 0)).1 * (s.getD (wr (n - t12)).toNat (0, 0)).1) - ((t10.getD t12.toNat (0, 0)).2 * (s.getD (wr (n - t12)).toNat (0, 0)).2)), sum.2 + (((t10.getD t12.toNat (0, 0)).1 * (s.getD (wr (n - t12)).toNat (0, 0)).2) + ((t10.getD t12.toNat (0, 0)).2 * (s.getD (wr (n - t12)).toNat (0, 0)).1))), t10, t11, wr (t12 + 1)))
      else
       none
     else
      none
    else
     none
   else
    some (.inl (s, n, sum, t10, t11, wr (t12 + 1)))
  else
   none
 else
  some (.inr sum)
theorem one86_0 : oneLoop Tryz.prog 86 0 = true := by kernel_rfl
theorem lp86_0 : ItemOk Tryz.prog (.loop 86 0 T86_0 X86_0 (loopVal step86_0)) := item_loopM md5 ext5 (U := 9) (n := 11) noSpecial mixed G21K49_ok one86_0 (fun x => by kernel_rfl)
noncomputable def G21K50 : List Ev.Item := .loop 86 0 T86_0 X86_0 (loopVal step86_0) :: G21K49
theorem G21K50_ok : ∀ q ∈ G21K50, ItemOk Tryz.prog q := items_cons lp86_0 G21K49_ok
noncomputable def s86 : (List (Int × Int)) × (List (Int × Int)) × Int → Option (Int × Int) := fun (s, c, n) =>
 optE (loopVal step86_0 (s, n, (0, 0), c, (c.length : Int), 0)) (fun e1 =>
  some (e1))
  (none)
theorem i86 : ItemOk Tryz.prog (.fn 86 [.d (.slice .zc), .d (.slice .zc), .d zI] [.d .zc] s86) := item_fnM md5 ext5 (U := 9) (n := 12) noSpecial mixed G21K50_ok (fun x => by kernel_rfl)
noncomputable def G21K51 : List Ev.Item := .fn 86 [.d (.slice .zc), .d (.slice .zc), .d zI] [.d .zc] s86 :: G21K50
theorem G21K51_ok : ∀ q ∈ G21K51, ItemOk Tryz.prog q := items_cons i86 G21K50_ok
noncomputable def s87 : Int × Int → Option (Int) := fun (n, by0) =>
 bif decide (n < 0) then
  bif !(by0 == 0) then
   some (wr (-(wr (Int.tdiv (wr ((wr (by0 - 1)) - n)) by0))))
  else
   none
 else
  bif !(by0 == 0) then
   some (wr (Int.tdiv n by0))
  else
   none
theorem i87 : ItemOk Tryz.prog (.fn 87 [.d zI, .d zI] [.d zI] s87) := item_fnM md5 ext5 (U := 9) (n := 12) noSpecial mixed G21K51_ok (fun x => by kernel_rfl)
noncomputable def G21K52 : List Ev.Item := .fn 87 [.d zI, .d zI] [.d zI] s87 :: G21K51
theorem G21K52_ok : ∀ q ∈ G21K52, ItemOk Tryz.prog q := items_cons i87 G21K51_ok
@[reducible] def T53_0 : Tmpl := ⟨57, [(3, .ref 3 0 0 0)], [.val 2 zI, .val 9 (.slice .zc), .val 10 (.slice .zc), .own 11 55 23 (.agg zP), .val 12 zI, .cells 3 [.d (.pair (.slice zI) zI)]], [], none⟩
@[reducible] def X53_0 : List (Ex × Tmpl) := [(.exit 0, ⟨57, [], [.own 11 55 23 (.agg zP)], [], none⟩)]
noncomputable def step53_0 : Int × (List (Int × Int)) × (List (Int × Int)) × (List (Int × Int)) × Int × ((List Int) × Int) → Option ((Int × (List (Int × Int)) × (List (Int × Int)) × (List (Int × Int)) × Int × ((List Int) × Int)) ⊕ (List (Int × Int))) := fun (by0, s, c, out, n, f) =>
 bif decide (n < (s.length : Int)) then
  optE (s86 (s, c, n)) (fun r8 =>
   optE (s68 r8) (fun r9 =>
    optE (s87 (r9.1, f.2)) (fun r10 =>
     optE (s87 (r9.2, f.2)) (fun r11 =>
      bif room 16 (out.length + 1) then
       some (.inl (by0, s, c, out ++ [(r10, r11)], wr (n + by0), f))
      else
       none)
      (none))
     (none))
    (none))
   (none)
 else
  some (.inr out)
theorem one53_0 : oneLoop Tryz.prog 53 0 = true := by kernel_rfl
theorem lp53_0 : ItemOk Tryz.prog (.loop 53 0 T53_0 X53_0 (loopVal step53_0)) := item_loopM md5 ext5 (U := 9) (n := 11) noSpecial mixed G21K52_ok one53_0 (fun x => by kernel_rfl)
noncomputable def G21K53 : List Ev.Item := .loop 53 0 T53_0 X53_0 (loopVal step53_0) :: G21K52
theorem G21K53_ok : ∀ q ∈ G21K53, ItemOk Tryz.prog q := items_cons lp53_0 G21K52_ok
noncomputable def s53 : ((List Int) × Int) × (List (Int × Int)) × Int → Option ((List (Int × Int)) × Int) := fun (f, x0, by0) =>
 optE (s66 f) (fun r1 =>
  optE (s71 x0) (fun r2 =>
   optE (s64 (by0, 1, 400)) (fun r3 =>
    optE (s63 (r3, 2)) (fun r4 =>
     optE (s61 [r1, r2, r4]) (fun r5 =>
      bif r5 != 0 then
       some (([], r5))
      else
       optE (s72 x0) (fun r6 =>
        optE (s69 f) (fun r7 =>
         optE (loopVal step53_0 (by0, r6, r7, [], 0, f)) (fun e8 =>
          some ((e8, 0)))
          (none))
         (none))
        (none))
      (none))
     (none))
    (none))
   (none))
  (none)
theorem i53 : ItemOk Tryz.prog (.fn 53 [.d (.agg (.pair (.slice zI) zI)), .d (.slice (.agg zP)), .d zI] [.own 23 (.agg zP), .d zI] s53) := item_fnM md5 ext5 (U := 9) (n := 12) noSpecial mixed G21K53_ok (fun x => by kernel_rfl)
noncomputable def G21K54 : List Ev.Item := .fn 53 [.d (.agg (.pair (.slice zI) zI)), .d (.slice (.agg zP)), .d zI] [.own 23 (.agg zP), .d zI] s53 :: G21K53
theorem G21K54_ok : ∀ q ∈ G21K54, ItemOk Tryz.prog q := items_cons i53 G21K53_ok
noncomputable def s22 : ((List Int) × Int) × (List (Int × Int)) → Option ((List (Int × Int)) × Int) := fun (f, x0) =>
 optE (s53 (f, x0, 1)) (fun r1 =>
  some (r1))
  (none)
theorem i22 : ItemOk Tryz.prog (.fn 22 [.d (.agg (.pair (.slice zI) zI)), .d (.slice (.agg zP))] [.own 23 (.agg zP), .d zI] s22) := item_fnM md5 ext5 (U := 9) (n := 12) noSpecial mixed G21K54_ok (fun x => by kernel_rfl)
noncomputable def G21K55 : List Ev.Item := .fn 22 [.d (.agg (.pair (.slice zI) zI)), .d (.slice (.agg zP))] [.own 23 (.agg zP), .d zI] s22 :: G21K54
theorem G21K55_ok : ∀ q ∈ G21K55, ItemOk Tryz.prog q := items_cons i22 G21K54_ok
noncomputable def s88 : (Int × Int × Int) × Int → Option (Int) := fun (p, n) =>
 optE (s16 (wr ((wr (p.1 + (wr (n * p.2.1)))) + (wr ((wr (Int.tdiv (wr (n * (wr (n - 1)))) 2)) * p.2.2))), 4096)) (fun r1 =>
  some (r1))
  (none)
theorem i88 : ItemOk Tryz.prog (.fn 88 [.d (.agg (.pair zI zP)), .d zI] [.d zI] s88) := item_fnM md5 ext5 (U := 9) (n := 12) noSpecial mixed G21K55_ok (fun x => by kernel_rfl)
noncomputable def G21K56 : List Ev.Item := .fn 88 [.d (.agg (.pair zI zP)), .d zI] [.d zI] s88 :: G21K55
theorem G21K56_ok : ∀ q ∈ G21K56, ItemOk Tryz.prog q := items_cons i88 G21K55_ok
noncomputable def s55 : Int × Int → Option (Int) := fun (n, by0) =>
 bif !(by0 == 0) then
  bif !(by0 == 0) then
   bif decide ((Int.tmod n by0) < 0) then
    some (wr ((wr (Int.tdiv n by0)) - 1))
   else
    some (wr (Int.tdiv n by0))
  else
   none
 else
  none
theorem i55 : ItemOk Tryz.prog (.fn 55 [.d zI, .d zI] [.d zI] s55) := item_fnM md5 ext5 (U := 9) (n := 12) noSpecial mixed G21K56_ok (fun x => by kernel_rfl)
noncomputable def G21K57 : List Ev.Item := .fn 55 [.d zI, .d zI] [.d zI] s55 :: G21K56
theorem G21K57_ok : ∀ q ∈ G21K57, ItemOk Tryz.prog q := items_cons i55 G21K56_ok
noncomputable def s58 : (Int × Int × Int) × Int → Option (Int) := fun (p, n) =>
 optE (s88 (p, n)) (fun r1 =>
  optE (s55 (wr (r1 + 512), 1024)) (fun r2 =>
   optE (s16 (r2, 4)) (fun r3 =>
    some (r3))
    (none))
   (none))
  (none)
theorem i58 : ItemOk Tryz.prog (.fn 58 [.d (.agg (.pair zI zP)), .d zI] [.d zI] s58) := item_fnM md5 ext5 (U := 9) (n := 12) noSpecial mixed G21K57_ok (fun x => by kernel_rfl)
noncomputable def G21K58 : List Ev.Item := .fn 58 [.d (.agg (.pair zI zP)), .d zI] [.d zI] s58 :: G21K57
theorem G21K58_ok : ∀ q ∈ G21K58, ItemOk Tryz.prog q := items_cons i58 G21K57_ok
noncomputable def s56 : (Int × Int) × (Int × Int) → Option (Int × Int) := fun (a, b) =>
 some ((wr ((wr (a.1 * b.1)) - (wr (a.2 * b.2))), wr ((wr (a.1 * b.2)) + (wr (a.2 * b.1)))))
theorem i56 : ItemOk Tryz.prog (.fn 56 [.d (.agg zP), .d (.agg zP)] [.d (.agg zP)] s56) := item_fnM md5 ext5 (U := 9) (n := 12) noSpecial mixed G21K58_ok (fun x => by kernel_rfl)
noncomputable def G21K59 : List Ev.Item := .fn 56 [.d (.agg zP), .d (.agg zP)] [.d (.agg zP)] s56 :: G21K58
theorem G21K59_ok : ∀ q ∈ G21K59, ItemOk Tryz.prog q := items_cons i56 G21K58_ok
@[reducible] def T57_0 : Tmpl := ⟨16, [(2, .ref 2 0 0 0), (3, .ref 3 0 0 0)], [.val 0 zI, .val 4 zI, .cells 2 [.d zP], .cells 3 [.d zP]], [], none⟩
@[reducible] def X57_0 : List (Ex × Tmpl) := [(.exit 0, ⟨16, [(2, .ref 2 0 0 0), (3, .ref 3 0 0 0)], [.cells 2 [.d zP], .cells 3 [.d zP]], [], none⟩)]
noncomputable def step57_0 : Int × Int × (Int × Int) × (Int × Int) → Option ((Int × Int × (Int × Int) × (Int × Int)) ⊕ ((Int × Int) × (Int × Int))) := fun (n, k, t2, out) =>
 optE (s16 (n, 4)) (fun r1 =>
  bif decide (k < r1) then
   optE (s56 (out, (0, 1))) (fun r2 =>
    some (.inl (n, wr (k + 1), t2, r2)))
    (none)
  else
   some (.inr (t2, out)))
  (none)
theorem one57_0 : oneLoop Tryz.prog 57 0 = true := by kernel_rfl
theorem lp57_0 : ItemOk Tryz.prog (.loop 57 0 T57_0 X57_0 (loopVal step57_0)) := item_loopM md5 ext5 (U := 9) (n := 11) noSpecial mixed G21K59_ok one57_0 (fun x => by kernel_rfl)
noncomputable def G21K60 : List Ev.Item := .loop 57 0 T57_0 X57_0 (loopVal step57_0) :: G21K59
theorem G21K60_ok : ∀ q ∈ G21K60, ItemOk Tryz.prog q := items_cons lp57_0 G21K59_ok
noncomputable def s57 : Int → Option (Int × Int) := fun n =>
 optE (loopVal step57_0 (n, 0, (0, 0), (1, 0))) (fun e1 =>
  some (e1.2))
  (none)
theorem i57 : ItemOk Tryz.prog (.fn 57 [.d zI] [.d (.agg zP)] s57) := item_fnM md5 ext5 (U := 9) (n := 12) noSpecial mixed G21K60_ok (fun x => by kernel_rfl)
noncomputable def G21K61 : List Ev.Item := .fn 57 [.d zI] [.d (.agg zP)] s57 :: G21K60
theorem G21K61_ok : ∀ q ∈ G21K61, ItemOk Tryz.prog q := items_cons i57 G21K60_ok
@[reducible] def T26_0 : Tmpl := ⟨30, [(3, .ref 3 0 0 0)], [.val 1 (.slice (.agg zP)), .val 2 zI, .own 7 28 23 (.agg zP), .val 8 zI, .cells 3 [.d (.pair zI zP)]], [], none⟩
@[reducible] def X26_0 : List (Ex × Tmpl) := [(.exit 0, ⟨30, [], [.own 7 28 23 (.agg zP)], [], none⟩)]
noncomputable def step26_0 : (List (Int × Int)) × Int × (List (Int × Int)) × Int × (Int × Int × Int) → Option (((List (Int × Int)) × Int × (List (Int × Int)) × Int × (Int × Int × Int)) ⊕ (List (Int × Int))) := fun (x0, sign, out, n, p) =>
 bif decide (n < (x0.length : Int)) then
  bif inBounds n x0.length then
   optE (s58 (p, n)) (fun r1 =>
    optE (s57 (wr (sign * r1))) (fun r2 =>
     optE (s56 ((x0.getD n.toNat (0, 0)), r2)) (fun r3 =>
      bif room 16 (out.length + 1) then
       some (.inl (x0, sign, out ++ [r3], wr (n + 1), p))
      else
       none)
      (none))
     (none))
    (none)
  else
   none
 else
  some (.inr out)
theorem one26_0 : oneLoop Tryz.prog 26 0 = true := by kernel_rfl
theorem lp26_0 : ItemOk Tryz.prog (.loop 26 0 T26_0 X26_0 (loopVal step26_0)) := item_loopM md5 ext5 (U := 9) (n := 11) noSpecial mixed G21K61_ok one26_0 (fun x => by kernel_rfl)
noncomputable def G21K62 : List Ev.Item := .loop 26 0 T26_0 X26_0 (loopVal step26_0) :: G21K61
theorem G21K62_ok : ∀ q ∈ G21K62, ItemOk Tryz.prog q := items_cons lp26_0 G21K61_ok
noncomputable def s26 : (Int × Int × Int) × (List (Int × Int)) × Int → Option (List (Int × Int)) := fun (p, x0, sign) =>
 optE (loopVal step26_0 (x0, sign, [], 0, p)) (fun e1 =>
  some (e1))
  (none)
theorem i26 : ItemOk Tryz.prog (.fn 26 [.d (.agg (.pair zI zP)), .d (.slice (.agg zP)), .d zI] [.own 23 (.agg zP)] s26) := item_fnM md5 ext5 (U := 9) (n := 12) noSpecial mixed G21K62_ok (fun x => by kernel_rfl)
noncomputable def G21K63 : List Ev.Item := .fn 26 [.d (.agg (.pair zI zP)), .d (.slice (.agg zP)), .d zI] [.own 23 (.agg zP)] s26 :: G21K62
theorem G21K63_ok : ∀ q ∈ G21K63, ItemOk Tryz.prog q := items_cons i26 G21K62_ok
@[reducible] def T25_2 : Tmpl := ⟨71, [(2, .ref 2 0 0 0)], [.val 1 (.slice (.agg zP)), .own 5 69 23 (.agg zP), .val 6 zI, .val 7 zI, .val 8 zI, .val 9 zI, .cells 2 [.d (.pair (.slice zI) zI)]], [], none⟩
@[reducible] def X25_2 : List (Ex × Tmpl) := [(.exit 2, ⟨71, [(2, .ref 2 0 0 0)], [.val 1 (.slice (.agg zP)), .own 5 69 23 (.agg zP), .val 6 zI, .val 7 zI, .val 8 zI, .cells 2 [.d (.pair (.slice zI) zI)]], [], none⟩)]
noncomputable def step25_2 : (List (Int × Int)) × (List (Int × Int)) × Int × Int × Int × Int × ((List Int) × Int) → Option (((List (Int × Int)) × (List (Int × Int)) × Int × Int × Int × Int × ((List Int) × Int)) ⊕ ((List (Int × Int)) × (List (Int × Int)) × Int × Int × Int × ((List Int) × Int))) := fun (x0, out, n, re, im, k, f) =>
 bif decide (k < (f.1.length : Int)) then
  bif decide (k ≤ n) then
   bif inBounds k f.1.length then
    bif inBounds (wr (n - k)) x0.length then
     bif inBounds k f.1.length then
      bif inBounds (wr (n - k)) x0.length then
       some (.inl (x0, out, n, wr (re + (wr ((f.1.getD k.toNat 0) * (x0.getD (wr (n - k)).toNat (0, 0)).1))), wr (im + (wr ((f.1.getD k.toNat 0) * (x0.getD (wr (n - k)).toNat (0, 0)).2))), wr (k + 1), f))
      else
       none
     else
      none
    else
     none
   else
    none
  else
   some (.inr (x0, out, n, re, im, f))
 else
  some (.inr (x0, out, n, re, im, f))
theorem one25_2 : oneLoop Tryz.prog 25 2 = true := by kernel_rfl
theorem lp25_2 : ItemOk Tryz.prog (.loop 25 2 T25_2 X25_2 (loopVal step25_2)) := item_loopM md5 ext5 (U := 9) (n := 11) noSpecial mixed G21K63_ok one25_2 (fun x => by kernel_rfl)
noncomputable def G21K64 : List Ev.Item := .loop 25 2 T25_2 X25_2 (loopVal step25_2) :: G21K63
theorem G21K64_ok : ∀ q ∈ G21K64, ItemOk Tryz.prog q := items_cons lp25_2 G21K63_ok
@[reducible] def T25_0 : Tmpl := ⟨71, [(2, .ref 2 0 0 0)], [.val 1 (.slice (.agg zP)), .own 5 69 23 (.agg zP), .val 6 zI, .cells 2 [.d (.pair (.slice zI) zI)]], [], none⟩
@[reducible] def X25_0 : List (Ex × Tmpl) := [(.exit 0, ⟨71, [], [.own 5 69 23 (.agg zP)], [], none⟩)]
noncomputable def step25_0 : (List (Int × Int)) × (List (Int × Int)) × Int × ((List Int) × Int) → Option (((List (Int × Int)) × (List (Int × Int)) × Int × ((List Int) × Int)) ⊕ (List (Int × Int))) := fun (x0, out, n, f) =>
 bif decide (n < (x0.length : Int)) then
  optE (loopVal step25_2 (x0, out, n, 0, 0, 0, f)) (fun e1 =>
   optE (s55 (e1.2.2.2.1, e1.2.2.2.2.2.2)) (fun r2 =>
    optE (s55 (e1.2.2.2.2.1, e1.2.2.2.2.2.2)) (fun r3 =>
     bif room 16 (e1.2.1.length + 1) then
      some (.inl (e1.1, e1.2.1 ++ [(r2, r3)], wr (e1.2.2.1 + 1), e1.2.2.2.2.2))
     else
      none)
     (none))
    (none))
   (none)
 else
  some (.inr out)
theorem one25_0 : oneLoop Tryz.prog 25 0 = true := by kernel_rfl
theorem lp25_0 : ItemOk Tryz.prog (.loop 25 0 T25_0 X25_0 (loopVal step25_0)) := item_loopM md5 ext5 (U := 9) (n := 11) noSpecial mixed G21K64_ok one25_0 (fun x => by kernel_rfl)
noncomputable def G21K65 : List Ev.Item := .loop 25 0 T25_0 X25_0 (loopVal step25_0) :: G21K64
theorem G21K65_ok : ∀ q ∈ G21K65, ItemOk Tryz.prog q := items_cons lp25_0 G21K64_ok
noncomputable def s25 : ((List Int) × Int) × (List (Int × Int)) → Option (List (Int × Int)) := fun (f, x0) =>
 optE (loopVal step25_0 (x0, [], 0, f)) (fun e1 =>
  some (e1))
  (none)
theorem i25 : ItemOk Tryz.prog (.fn 25 [.d (.agg (.pair (.slice zI) zI)), .d (.slice (.agg zP))] [.own 23 (.agg zP)] s25) := item_fnM md5 ext5 (U := 9) (n := 12) noSpecial mixed G21K65_ok (fun x => by kernel_rfl)
noncomputable def G21K66 : List Ev.Item := .fn 25 [.d (.agg (.pair (.slice zI) zI)), .d (.slice (.agg zP))] [.own 23 (.agg zP)] s25 :: G21K65
theorem G21K66_ok : ∀ q ∈ G21K66, ItemOk Tryz.prog q := items_cons i25 G21K65_ok
@[reducible] def T24_0 : Tmpl := ⟨26, [], [.val 0 (.slice (.agg zP)), .val 1 (.slice (.agg zP)), .val 5 zI], [], none⟩
@[reducible] def X24_0 : List (Ex × Tmpl) := [(.ret, ⟨26, [], [.val 4 .bool], [], none⟩), (.exit 0, ⟨26, [], [], [], none⟩)]
noncomputable def step24_0 : (List (Int × Int)) × (List (Int × Int)) × Int → Option (((List (Int × Int)) × (List (Int × Int)) × Int) ⊕ ((Bool) ⊕ (Unit))) := fun (a, b, i) =>
 bif decide (i < (a.length : Int)) then
  bif inBounds i a.length then
   bif inBounds i b.length then
    bif !(((a.getD i.toNat (0, 0)).1 == (b.getD i.toNat (0, 0)).1) && (((a.getD i.toNat (0, 0)).2 == (b.getD i.toNat (0, 0)).2) && true)) then
     some (.inr (.inl false))
    else
     some (.inl (a, b, wr (i + 1)))
   else
    none
  else
   none
 else
  some (.inr (.inr ()))
theorem one24_0 : oneLoop Tryz.prog 24 0 = true := by kernel_rfl
theorem lp24_0 : ItemOk Tryz.prog (.loop 24 0 T24_0 X24_0 (loopVal step24_0)) := item_loopM md5 ext5 (U := 9) (n := 11) noSpecial mixed G21K66_ok one24_0 (fun x => by kernel_rfl)
noncomputable def G21K67 : List Ev.Item := .loop 24 0 T24_0 X24_0 (loopVal step24_0) :: G21K66
theorem G21K67_ok : ∀ q ∈ G21K67, ItemOk Tryz.prog q := items_cons lp24_0 G21K66_ok
noncomputable def s24 : (List (Int × Int)) × (List (Int × Int)) → Option (Bool) := fun (a, b) =>
 bif (a.length : Int) != (b.length : Int) then
  some (false)
 else
  optE (loopVal step24_0 (a, b, 0)) (fun e1 =>
   sumE e1 (fun e2 =>
    some (e2)) (fun _ =>
    some (true)))
   (none)
theorem i24 : ItemOk Tryz.prog (.fn 24 [.d (.slice (.agg zP)), .d (.slice (.agg zP))] [.d .bool] s24) := item_fnM md5 ext5 (U := 9) (n := 12) noSpecial mixed G21K67_ok (fun x => by kernel_rfl)
noncomputable def G21K68 : List Ev.Item := .fn 24 [.d (.slice (.agg zP)), .d (.slice (.agg zP))] [.d .bool] s24 :: G21K67
theorem G21K68_ok : ∀ q ∈ G21K68, ItemOk Tryz.prog q := items_cons i24 G21K67_ok
@[reducible] def T4_0 : Tmpl := ⟨306, [(3, .ref 3 0 0 0), (4, .ref 4 0 0 0), (5, .ref 5 0 0 0)], [.val 7 zI, .own 8 136 26 (.agg (.pair zI (.pair zI (.pair zP (.pair zP (.pair zP (.pair zP (.pair zP (.pair zP (.pair zP zP)))))))))), .val 9 zI, .cells 3 [.d (.pair zI (.pair (.slice (.agg zP)) (.slice zI)))], .cells 4 [.d (.pair zI zP)], .cells 5 [.d (.pair (.slice zI) zI)]], [], none⟩
@[reducible] def X4_0 : List (Ex × Tmpl) := [(.ret, ⟨306, [], [.val 6 .bool], [], none⟩), (.exit 0, ⟨306, [(3, .ref 3 0 0 0), (4, .ref 4 0 0 0), (5, .ref 5 0 0 0)], [.own 8 136 26 (.agg (.pair zI (.pair zI (.pair zP (.pair zP (.pair zP (.pair zP (.pair zP (.pair zP (.pair zP zP)))))))))), .cells 3 [.d (.pair zI (.pair (.slice (.agg zP)) (.slice zI)))], .cells 4 [.d (.pair zI zP)], .cells 5 [.d (.pair (.slice zI) zI)]], [], none⟩)]
noncomputable def step4_0 : Int × (List (Int × Int × (Int × Int) × (Int × Int) × (Int × Int) × (Int × Int) × (Int × Int) × (Int × Int) × (Int × Int) × Int × Int)) × Int × (Int × (List (Int × Int)) × List Int) × (Int × Int × Int) × ((List Int) × Int) → Option ((Int × (List (Int × Int × (Int × Int) × (Int × Int) × (Int × Int) × (Int × Int) × (Int × Int) × (Int × Int) × (Int × Int) × Int × Int)) × Int × (Int × (List (Int × Int)) × List Int) × (Int × Int × Int) × ((List Int) × Int)) ⊕ ((Bool) ⊕ ((List (Int × Int × (Int × Int) × (Int × Int) × (Int × Int) × (Int × Int) × (Int × Int) × (Int × Int) × (Int × Int) × Int × Int)) × (Int × (List (Int × Int)) × List Int) × (Int × Int × Int) × ((List Int) × Int)))) := fun (count, l, i, x0, p, f) =>
 bif decide (i < (x0.2.2.length : Int)) then
  bif inBounds i x0.2.2.length then
   optE (s12 (x0.2.2.getD i.toNat 0, 0, wr (count - 1))) (fun r5 =>
    bif !r5 then
     some (.inr (.inl true))
    else
     optE (s16 (wr (x0.1 + (x0.2.2.getD i.toNat 0)), 1024)) (fun r6 =>
      bif inBounds (wr ((wr ((x0.2.2.getD i.toNat 0) * 8)) + 0)) x0.2.1.length then
       bif inBounds (wr ((wr ((x0.2.2.getD i.toNat 0) * 8)) + 1)) x0.2.1.length then
        bif inBounds (wr ((wr ((x0.2.2.getD i.toNat 0) * 8)) + 2)) x0.2.1.length then
         bif inBounds (wr ((wr ((x0.2.2.getD i.toNat 0) * 8)) + 3)) x0.2.1.length then
          bif inBounds (wr ((wr ((x0.2.2.getD i.toNat 0) * 8)) + 4)) x0.2.1.length then
           bif inBounds (wr ((wr ((x0.2.2.getD i.toNat 0) * 8)) + 5)) x0.2.1.length then
            bif inBounds (wr ((wr ((x0.2.2.getD i.toNat 0) * 8)) + 6)) x0.2.1.length then
             bif inBounds (wr ((wr ((x0.2.2.getD i.toNat 0) * 8)) + 7)) x0.2.1.length then
              optE (s6 (r6, wr (1 + (x0.2.2.getD i.toNat 0)), (x0.2.1.getD (wr ((wr ((x0.2.2.getD i.toNat 0) * 8)) + 0)).toNat (0, 0)), (x0.2.1.getD (wr ((wr ((x0.2.2.getD i.toNat 0) * 8)) + 1)).toNat (0, 0)), (x0.2.1.getD (wr ((wr ((x0.2.2.getD i.toNat 0) * 8)) + 2)).toNat (0, 0)), (x0.2.1.getD (wr ((wr ((x0.2.2.getD i.toNat 0) * 8)) + 3)).toNat (0, 0)), (x0.2.1.getD (wr ((wr ((x0.2.2.getD i.toNat 0) * 8)) + 4)).toNat (0, 0)), (x0.2.1.getD (wr ((wr ((x0.2.2.getD i.toNat 0) * 8)) + 5)).toNat (0, 0)), (x0.2.1.getD (wr ((wr ((x0.2.2.getD i.toNat 0) * 8)) + 6)).toNat (0, 0)), (x0.2.1.getD (wr ((wr ((x0.2.2.getD i.toNat 0) * 8)) + 7)).toNat (0, 0)).1, (x0.2.1.getD (wr ((wr ((x0.2.2.getD i.toNat 0) * 8)) + 7)).toNat (0, 0)).2)) (fun r7 =>
               optE (s7 r7) (fun r8 =>
                bif r8.2 != 0 then
                 some (.inr (.inl false))
                else
                 bif !((r8.1.1 == r6) && ((r8.1.2.1 == (wr (1 + (x0.2.2.getD i.toNat 0)))) && ((((r8.1.2.2.1.1 == (x0.2.1.getD (wr ((wr ((x0.2.2.getD i.toNat 0) * 8)) + 0)).toNat (0, 0)).1) && ((r8.1.2.2.1.2 == (x0.2.1.getD (wr ((wr ((x0.2.2.getD i.toNat 0) * 8)) + 0)).toNat (0, 0)).2) && true)) && (((r8.1.2.2.2.1.1 == (x0.2.1.getD (wr ((wr ((x0.2.2.getD i.toNat 0) * 8)) + 1)).toNat (0, 0)).1) && ((r8.1.2.2.2.1.2 == (x0.2.1.getD (wr ((wr ((x0.2.2.getD i.toNat 0) * 8)) + 1)).toNat (0, 0)).2) && true)) && (((r8.1.2.2.2.2.1.1 == (x0.2.1.getD (wr ((wr ((x0.2.2.getD i.toNat 0) * 8)) + 2)).toNat (0, 0)).1) && ((r8.1.2.2.2.2.1.2 == (x0.2.1.getD (wr ((wr ((x0.2.2.getD i.toNat 0) * 8)) + 2)).toNat (0, 0)).2) && true)) && (((r8.1.2.2.2.2.2.1.1 == (x0.2.1.getD (wr ((wr ((x0.2.2.getD i.toNat 0) * 8)) + 3)).toNat (0, 0)).1) && ((r8.1.2.2.2.2.2.1.2 == (x0.2.1.getD (wr ((wr ((x0.2.2.getD i.toNat 0) * 8)) + 3)).toNat (0, 0)).2) && true)) && (((r8.1.2.2.2.2.2.2.1.1 == (x0.2.1.getD (wr ((wr ((x0.2.2.getD i.toNat 0) * 8)) + 4)).toNat (0, 0)).1) && ((r8.1.2.2.2.2.2.2.1.2 == (x0.2.1.getD (wr ((wr ((x0.2.2.getD i.toNat 0) * 8)) + 4)).toNat (0, 0)).2) && true)) && (((r8.1.2.2.2.2.2.2.2.1.1 == (x0.2.1.getD (wr ((wr ((x0.2.2.getD i.toNat 0) * 8)) + 5)).toNat (0, 0)).1) && ((r8.1.2.2.2.2.2.2.2.1.2 == (x0.2.1.getD (wr ((wr ((x0.2.2.getD i.toNat 0) * 8)) + 5)).toNat (0, 0)).2) && true)) && (((r8.1.2.2.2.2.2.2.2.2.1.1 == (x0.2.1.getD (wr ((wr ((x0.2.2.getD i.toNat 0) * 8)) + 6)).toNat (0, 0)).1) && ((r8.1.2.2.2.2.2.2.2.2.1.2 == (x0.2.1.getD (wr ((wr ((x0.2.2.getD i.toNat 0) * 8)) + 6)).toNat (0, 0)).2) && true)) && (((r8.1.2.2.2.2.2.2.2.2.2.1 == (x0.2.1.getD (wr ((wr ((x0.2.2.getD i.toNat 0) * 8)) + 7)).toNat (0, 0)).1) && ((r8.1.2.2.2.2.2.2.2.2.2.2 == (x0.2.1.getD (wr ((wr ((x0.2.2.getD i.toNat 0) * 8)) + 7)).toNat (0, 0)).2) && true)) && true)))))))) && true))) then
                  some (.inr (.inl false))
                 else
                  bif room 144 (l.length + 1) then
                   some (.inl (count, l ++ [r8.1], wr (i + 1), x0, p, f))
                  else
                   none)
                (none))
               (none)
             else
              none
            else
             none
           else
            none
          else
           none
         else
          none
        else
         none
       else
        none
      else
       none)
      (none))
    (none)
  else
   none
 else
  some (.inr (.inr (l, x0, p, f)))
theorem one4_0 : oneLoop Tryz.prog 4 0 = true := by kernel_rfl
theorem lp4_0 : ItemOk Tryz.prog (.loop 4 0 T4_0 X4_0 (loopVal step4_0)) := item_loopM md5 ext5 (U := 40) (n := 11) noSpecial mixed G21K68_ok one4_0 (fun x => by kernel_rfl)
noncomputable def G21K69 : List Ev.Item := .loop 4 0 T4_0 X4_0 (loopVal step4_0) :: G21K68
theorem G21K69_ok : ∀ q ∈ G21K69, ItemOk Tryz.prog q := items_cons lp4_0 G21K68_ok
@[reducible] def T4_4 : Tmpl := ⟨306, [(3, .ref 3 0 0 0), (4, .ref 4 0 0 0), (5, .ref 5 0 0 0), (15, .ref 15 0 0 0)], [.val 17 zI, .val 18 zI, .val 19 zI, .cells 3 [.d (.pair zI (.pair (.slice (.agg zP)) (.slice zI)))], .cells 4 [.d (.pair zI zP)], .cells 5 [.d (.pair (.slice zI) zI)], .cells 15 [.d (.pair zI (.pair (.slice (.agg zP)) (.slice (.agg zP))))]], [], none⟩
@[reducible] def X4_4 : List (Ex × Tmpl) := [(.exit 4, ⟨306, [(3, .ref 3 0 0 0), (4, .ref 4 0 0 0), (5, .ref 5 0 0 0), (15, .ref 15 0 0 0)], [.val 17 zI, .val 18 zI, .cells 3 [.d (.pair zI (.pair (.slice (.agg zP)) (.slice zI)))], .cells 4 [.d (.pair zI zP)], .cells 5 [.d (.pair (.slice zI) zI)], .cells 15 [.d (.pair zI (.pair (.slice (.agg zP)) (.slice (.agg zP))))]], [], none⟩)]
noncomputable def step4_4 : Int × Int × Int × (Int × (List (Int × Int)) × List Int) × (Int × Int × Int) × ((List Int) × Int) × (Int × (List (Int × Int)) × List (Int × Int)) → Option ((Int × Int × Int × (Int × (List (Int × Int)) × List Int) × (Int × Int × Int) × ((List Int) × Int) × (Int × (List (Int × Int)) × List (Int × Int))) ⊕ (Int × Int × (Int × (List (Int × Int)) × List Int) × (Int × Int × Int) × ((List Int) × Int) × (Int × (List (Int × Int)) × List (Int × Int)))) := fun (lo, hi, i, x0, p, f, s) =>
 bif decide (i < (x0.2.2.length : Int)) then
  bif inBounds i x0.2.2.length then
   bif inBounds i x0.2.2.length then
    some (.inl (mn lo (x0.2.2.getD i.toNat 0), mx hi (x0.2.2.getD i.toNat 0), wr (i + 1), x0, p, f, s))
   else
    none
  else
   none
 else
  some (.inr (lo, hi, x0, p, f, s))
theorem one4_4 : oneLoop Tryz.prog 4 4 = true := by kernel_rfl
theorem lp4_4 : ItemOk Tryz.prog (.loop 4 4 T4_4 X4_4 (loopVal step4_4)) := item_loopM md5 ext5 (U := 40) (n := 11) noSpecial mixed G21K69_ok one4_4 (fun x => by kernel_rfl)
noncomputable def G21K70 : List Ev.Item := .loop 4 4 T4_4 X4_4 (loopVal step4_4) :: G21K69
theorem G21K70_ok : ∀ q ∈ G21K70, ItemOk Tryz.prog q := items_cons lp4_4 G21K69_ok
@[reducible] def T4_8 : Tmpl := ⟨306, [(3, .ref 3 0 0 0), (4, .ref 4 0 0 0), (5, .ref 5 0 0 0), (15, .ref 15 0 0 0)], [.val 17 zI, .val 18 zI, .val 20 zI, .val 21 .bool, .val 22 zI, .cells 3 [.d (.pair zI (.pair (.slice (.agg zP)) (.slice zI)))], .cells 4 [.d (.pair zI zP)], .cells 5 [.d (.pair (.slice zI) zI)], .cells 15 [.d (.pair zI (.pair (.slice (.agg zP)) (.slice (.agg zP))))]], [], none⟩
@[reducible] def X4_8 : List (Ex × Tmpl) := [(.exit 8, ⟨306, [(3, .ref 3 0 0 0), (4, .ref 4 0 0 0), (5, .ref 5 0 0 0), (15, .ref 15 0 0 0)], [.val 17 zI, .val 18 zI, .val 20 zI, .val 21 .bool, .cells 3 [.d (.pair zI (.pair (.slice (.agg zP)) (.slice zI)))], .cells 4 [.d (.pair zI zP)], .cells 5 [.d (.pair (.slice zI) zI)], .cells 15 [.d (.pair zI (.pair (.slice (.agg zP)) (.slice (.agg zP))))]], [], none⟩)]
noncomputable def step4_8 : Int × Int × Int × Bool × Int × (Int × (List (Int × Int)) × List Int) × (Int × Int × Int) × ((List Int) × Int) × (Int × (List (Int × Int)) × List (Int × Int)) → Option ((Int × Int × Int × Bool × Int × (Int × (List (Int × Int)) × List Int) × (Int × Int × Int) × ((List Int) × Int) × (Int × (List (Int × Int)) × List (Int × Int))) ⊕ (Int × Int × Int × Bool × (Int × (List (Int × Int)) × List Int) × (Int × Int × Int) × ((List Int) × Int) × (Int × (List (Int × Int)) × List (Int × Int)))) := fun (lo, hi, n, in0, i, x0, p, f, s) =>
 bif decide (i < (s.2.2.length : Int)) then
  bif in0 then
   some (.inl (lo, hi, n, true, wr (i + 1), x0, p, f, s))
  else
   bif inBounds i s.2.2.length then
    bif inBounds i s.2.2.length then
     optE (s12 (n, (s.2.2.getD i.toNat (0, 0)).1, (s.2.2.getD i.toNat (0, 0)).2)) (fun r12 =>
      some (.inl (lo, hi, n, r12, wr (i + 1), x0, p, f, s)))
      (none)
    else
     none
   else
    none
 else
  some (.inr (lo, hi, n, in0, x0, p, f, s))
theorem one4_8 : oneLoop Tryz.prog 4 8 = true := by kernel_rfl
theorem lp4_8 : ItemOk Tryz.prog (.loop 4 8 T4_8 X4_8 (loopVal step4_8)) := item_loopM md5 ext5 (U := 40) (n := 11) noSpecial mixed G21K70_ok one4_8 (fun x => by kernel_rfl)
noncomputable def G21K71 : List Ev.Item := .loop 4 8 T4_8 X4_8 (loopVal step4_8) :: G21K70
theorem G21K71_ok : ∀ q ∈ G21K71, ItemOk Tryz.prog q := items_cons lp4_8 G21K70_ok
@[reducible] def T4_6 : Tmpl := ⟨306, [(3, .ref 3 0 0 0), (4, .ref 4 0 0 0), (5, .ref 5 0 0 0), (15, .ref 15 0 0 0)], [.val 17 zI, .val 18 zI, .val 20 zI, .cells 3 [.d (.pair zI (.pair (.slice (.agg zP)) (.slice zI)))], .cells 4 [.d (.pair zI zP)], .cells 5 [.d (.pair (.slice zI) zI)], .cells 15 [.d (.pair zI (.pair (.slice (.agg zP)) (.slice (.agg zP))))]], [], none⟩
@[reducible] def X4_6 : List (Ex × Tmpl) := [(.ret, ⟨306, [], [.val 6 .bool], [], none⟩), (.exit 6, ⟨306, [(3, .ref 3 0 0 0), (4, .ref 4 0 0 0), (5, .ref 5 0 0 0), (15, .ref 15 0 0 0)], [.val 17 zI, .val 18 zI, .cells 3 [.d (.pair zI (.pair (.slice (.agg zP)) (.slice zI)))], .cells 4 [.d (.pair zI zP)], .cells 5 [.d (.pair (.slice zI) zI)], .cells 15 [.d (.pair zI (.pair (.slice (.agg zP)) (.slice (.agg zP))))]], [], none⟩)]
noncomputable def step4_6 : Int × Int × Int × (Int × (List (Int × Int)) × List Int) × (Int × Int × Int) × ((List Int) × Int) × (Int × (List (Int × Int)) × List (Int × Int)) → Option ((Int × Int × Int × (Int × (List (Int × Int)) × List Int) × (Int × Int × Int) × ((List Int) × Int) × (Int × (List (Int × Int)) × List (Int × Int))) ⊕ ((Bool) ⊕ (Int × Int × (Int × (List (Int × Int)) × List Int) × (Int × Int × Int) × ((List Int) × Int) × (Int × (List (Int × Int)) × List (Int × Int))))) := fun (lo, hi, n, x0, p, f, s) =>
 bif decide (n < (s.2.1.length : Int)) then
  optE (loopVal step4_8 (lo, hi, n, false, 0, x0, p, f, s)) (fun e12 =>
   optE (s19 (e12.2.2.2.2.1.2.2, wr (e12.1 + (wr (Int.tdiv e12.2.2.1 8))))) (fun r13 =>
    bif e12.2.2.2.1 == r13 then
     some (.inr (.inl false))
    else
     bif r13 then
      bif inBounds e12.2.2.1 e12.2.2.2.2.2.2.2.2.1.length then
       bif inBounds (wr ((wr (e12.1 * 8)) + e12.2.2.1)) e12.2.2.2.2.1.2.1.length then
        bif !(((e12.2.2.2.2.2.2.2.2.1.getD e12.2.2.1.toNat (0, 0)).1 == (e12.2.2.2.2.1.2.1.getD (wr ((wr (e12.1 * 8)) + e12.2.2.1)).toNat (0, 0)).1) && (((e12.2.2.2.2.2.2.2.2.1.getD e12.2.2.1.toNat (0, 0)).2 == (e12.2.2.2.2.1.2.1.getD (wr ((wr (e12.1 * 8)) + e12.2.2.1)).toNat (0, 0)).2) && true)) then
         some (.inr (.inl false))
        else
         some (.inl (e12.1, e12.2.1, wr (e12.2.2.1 + 1), e12.2.2.2.2.1, e12.2.2.2.2.2.1, e12.2.2.2.2.2.2.1, e12.2.2.2.2.2.2.2))
       else
        none
      else
       none
     else
      some (.inl (e12.1, e12.2.1, wr (e12.2.2.1 + 1), e12.2.2.2.2.1, e12.2.2.2.2.2.1, e12.2.2.2.2.2.2.1, e12.2.2.2.2.2.2.2)))
    (none))
   (none)
 else
  some (.inr (.inr (lo, hi, x0, p, f, s)))
theorem one4_6 : oneLoop Tryz.prog 4 6 = true := by kernel_rfl
theorem lp4_6 : ItemOk Tryz.prog (.loop 4 6 T4_6 X4_6 (loopVal step4_6)) := item_loopM md5 ext5 (U := 40) (n := 11) noSpecial mixed G21K71_ok one4_6 (fun x => by kernel_rfl)
noncomputable def G21K72 : List Ev.Item := .loop 4 6 T4_6 X4_6 (loopVal step4_6) :: G21K71
theorem G21K72_ok : ∀ q ∈ G21K72, ItemOk Tryz.prog q := items_cons lp4_6 G21K71_ok
noncomputable def s4 : (Int × (List (Int × Int)) × List Int) × (Int × Int × Int) × ((List Int) × Int) → Option (Bool) := fun (x0, p, f) =>
 bif !true then
  some (false)
 else
  optE (s12 (x0.1, 0, 1023)) (fun r1 =>
   bif !r1 then
    some (true)
   else
    bif decide ((x0.2.1.length : Int) > 96) then
     some (true)
    else
     bif (Int.tmod (x0.2.1.length : Int) 8) != 0 then
      some (true)
     else
      bif (x0.2.2.length : Int) == 0 then
       some (true)
      else
       bif decide ((x0.2.2.length : Int) > 30) then
        some (true)
       else
        optE (s13 x0.2.1) (fun r2 =>
         bif r2 != 0 then
          some (true)
         else
          optE (s14 p) (fun r3 =>
           bif r3 != 0 then
            some (true)
           else
            optE (s15 f) (fun r4 =>
             bif r4 != 0 then
              some (true)
             else
              optE (loopVal step4_0 (wr (Int.tdiv (x0.2.1.length : Int) 8), [], 0, x0, p, f)) (fun e5 =>
               sumE e5 (fun e6 =>
                some (e6)) (fun e7 =>
                optE (s18 e7.1) (fun r8 =>
                 optE (s17 r8) (fun r9 =>
                  bif r9.2 != 0 then
                   some (false)
                  else
                   bif inBounds 0 e7.2.1.2.2.length then
                    bif inBounds 0 e7.2.1.2.2.length then
                     optE (loopVal step4_4 (e7.2.1.2.2.getD 0 0, e7.2.1.2.2.getD 0 0, 0, e7.2.1, e7.2.2.1, e7.2.2.2, r9.1)) (fun e10 =>
                      bif (e10.2.2.2.2.2.2.1.length : Int) != (wr ((wr ((wr (e10.2.1 - e10.1)) + 1)) * 8)) then
                       some (false)
                      else
                       optE (s16 (wr ((wr (e10.2.2.2.2.2.1 - e10.2.2.1.1)) - e10.1), 1024)) (fun r11 =>
                        bif r11 != 0 then
                         some (false)
                        else
                         optE (loopVal step4_6 (e10.1, e10.2.1, 0, e10.2.2.1, e10.2.2.2.1, e10.2.2.2.2.1, e10.2.2.2.2.2)) (fun e12 =>
                          sumE e12 (fun e13 =>
                           some (e13)) (fun e14 =>
                           bif decide ((e14.2.2.2.2.2.2.2.length : Int) > 0) then
                            some (true)
                           else
                            bif (decide (0 ≤ (wr (e14.1 * 8)))) && ((decide ((wr (e14.1 * 8)) ≤ (wr ((wr (e14.2.1 + 1)) * 8)))) && (decide ((wr ((wr (e14.2.1 + 1)) * 8)) ≤ (e14.2.2.1.2.1.length : Int)))) then
                             optE (s21 e14.2.2.2.2.2.2.1) (fun r15 =>
                              optE (s20 (e14.2.2.2.1, r15)) (fun r16 =>
                               bif r16.2 != 0 then
                                some (false)
                               else
                                bif (r16.1.length : Int) != (((e14.2.2.1.2.1.take (wr ((wr (e14.2.1 + 1)) * 8)).toNat).drop (wr (e14.1 * 8)).toNat).length : Int) then
                                 some (false)
                                else
                                 optE (s13 r16.1) (fun r17 =>
                                  bif r17 != 0 then
                                   some (false)
                                  else
                                   optE (s23 e14.2.2.2.2.1) (fun r18 =>
                                    optE (s22 (r18, r16.1)) (fun r19 =>
                                     bif r19.2 == 0 then
                                      optE (s26 (e14.2.2.2.1, (e14.2.2.1.2.1.take (wr ((wr (e14.2.1 + 1)) * 8)).toNat).drop (wr (e14.1 * 8)).toNat, (-1))) (fun r20 =>
                                       optE (s25 (e14.2.2.2.2.1, r20)) (fun r21 =>
                                        optE (s24 (r19.1, r21)) (fun r22 =>
                                         some (r22))
                                         (none))
                                        (none))
                                       (none)
                                     else
                                      some (false))
                                     (none))
                                    (none))
                                  (none))
                               (none))
                              (none)
                            else
                             none))
                          (none))
                        (none))
                      (none)
                    else
                     none
                   else
                    none)
                  (none))
                 (none)))
               (none))
             (none))
           (none))
         (none))
   (none)
theorem i4 : ItemOk Tryz.prog (.fn 4 [.d (.agg (.pair zI (.pair (.slice (.agg zP)) (.slice zI)))), .d (.agg (.pair zI zP)), .d (.agg (.pair (.slice zI) zI))] [.d .bool] s4) := item_fnM md5 ext5 (U := 40) (n := 12) noSpecial mixed G21K72_ok (fun x => by kernel_rfl)
noncomputable def G21K73 : List Ev.Item := .fn 4 [.d (.agg (.pair zI (.pair (.slice (.agg zP)) (.slice zI)))), .d (.agg (.pair zI zP)), .d (.agg (.pair (.slice zI) zI))] [.d .bool] s4 :: G21K72
theorem G21K73_ok : ∀ q ∈ G21K73, ItemOk Tryz.prog q := items_cons i4 G21K72_ok
end Go.Proofs.YtcdpgjlaajdfmaaGreatDoor
