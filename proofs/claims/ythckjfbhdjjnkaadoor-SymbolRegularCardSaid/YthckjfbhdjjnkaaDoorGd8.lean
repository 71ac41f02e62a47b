/- Printed by gen.py: specifications of functions. -/
import Derived.Test.YthckjfbhdjjnkaaDoorGd7
set_option linter.unusedSimpArgs false
set_option maxRecDepth 100000
namespace Go.Proofs.YthckjfbhdjjnkaaDoor
open Go.Ev
@[reducible] def T121_0 : Tmpl := ⟨66, [(0, .mref 2900), (2, .ref 3901 0 0 0), (16002, .ref 1002 0 0 0), (16013, .mref 2900), (48000002, .ref 1002 0 0 0)], [.val 4 zI, .cells 3901 [.rf 3900 0 0 0], .cells 1002 [.own 900 52 (.agg (.pair zI (.pair zI (.pair .bool zP))))], .cells 3900 [.d (.pair (.pair (.slice zI) (.pair zI zF)) (.pair (.slice zI) (.pair (.slice (.agg (.pair zI (.pair zI (.pair .bool zP))))) (.pair zI (.pair zI (.pair zI (.pair zI .bool)))))))]], [14, 5, 20], some (2900, .ready)⟩
@[reducible] def X121_0 : List (Ex × Tmpl) := [(.exit 0, ⟨66, [(16002, .ref 1002 0 0 0), (16013, .mref 2900), (48000002, .ref 1002 0 0 0)], [.cells 1002 [.own 900 52 (.agg (.pair zI (.pair zI (.pair .bool zP))))]], [14, 5, 20], some (2900, .ready)⟩)]
noncomputable def Lp120_0 : LpI := lpOf Tryd.prog 120 0 false
noncomputable def step121_0 : Int × Unit × (List (Int × Int × Bool × Int × Int)) × (((List Int) × Int × Int × Int × Int × Int) × (List Int) × (List (Int × Int × Bool × Int × Int)) × Int × Int × Int × Int × Bool) → Option (LpI × ((Int × Unit × (List (Int × Int × Bool × Int × Int)) × (((List Int) × Int × Int × Int × Int × Int) × (List Int) × (List (Int × Int × Bool × Int × Int)) × Int × Int × Int × Int × Bool)) ⊕ ((List (Int × Int × Bool × Int × Int))))) := fun (at0, _, s, t3900) =>
 bif decide ((wr (at0 + (t3900.1.1.length : Int))) ≤ (t3900.2.1.length : Int)) then
  optE (s86 (t3900.1.1, t3900.2.1, at0)) (fun r4 =>
   bif decide (r4.1 > t3900.1.2.2.1) then
    bif decide (r4.2 ≤ t3900.1.2.2.1) then
     bif room 40 (s.length + 1) then
      some (Lp120_0, .inl (wr (at0 + 1), (), s ++ [(0, at0, true, r4.2, 0)], t3900))
     else
      none
    else
     some (Lp120_0, .inl (wr (at0 + 1), (), s, t3900))
   else
    bif decide (r4.1 ≤ t3900.1.2.2.1) then
     bif room 40 (s.length + 1) then
      some (Lp120_0, .inl (wr (at0 + 1), (), s ++ [(0, at0, false, r4.1, 0)], t3900))
     else
      none
    else
     some (Lp120_0, .inl (wr (at0 + 1), (), s, t3900)))
   (none)
 else
  some (Lp120_0, .inr s)
theorem one121_0 : oneLoop Tryd.prog 121 0 = true := by kernel_rfl
theorem lp121_0 : ItemOk Tryd.prog (.loopI 121 0 Lp120_0 T121_0 X121_0 (loopVal (strip Lp120_0 step121_0))) := item_loopI md4 ext4 (U := 9) (n := 8) noSpecial mixed Gd7K25_ok one121_0 (fun x => by kernel_rfl)
noncomputable def Gd8K1 : List Ev.Item := .loopI 121 0 Lp120_0 T121_0 X121_0 (loopVal (strip Lp120_0 step121_0)) :: Gd7K25
theorem Gd8K1_ok : ∀ q ∈ Gd8K1, ItemOk Tryd.prog q := items_cons lp121_0 Gd7K25_ok
noncomputable def s32 : ((List Int) × Int × Int × Int × Int × Int) × (List Int) → Option ((List (Int × Int × Bool × Int × Int)) × Int) := fun (r0, soft) =>
 optE (s18 r0) (fun r1 =>
  optE (s85 soft) (fun r2 =>
   optE (s80 [r1, r2]) (fun r3 =>
    bif r3 != 0 then
     bif r3 != 0 then
      some (([], r3))
     else
      none
    else
     optE (onlyAt Lp120_0 Lp120_0 <| loopVal (strip Lp120_0 step121_0) (0, (), [], (r0, soft, [], 0, 0, 0, 0, false))) (fun e4 =>
      some ((e4, 0)))
      (none))
    (none))
   (none))
  (none)
theorem i32 : ItemOk Tryd.prog (.fn 32 [.d (.agg (.pair (.slice zI) (.pair zI zF))), .d (.slice zI)] [.own 52 (.agg (.pair zI (.pair zI (.pair .bool zP)))), .d zI] s32) := item_fnM md4 ext4 (U := 9) (n := 12) noSpecial mixed Gd8K1_ok (fun x => by kernel_rfl)
noncomputable def Gd8K2 : List Ev.Item := .fn 32 [.d (.agg (.pair (.slice zI) (.pair zI zF))), .d (.slice zI)] [.own 52 (.agg (.pair zI (.pair zI (.pair .bool zP)))), .d zI] s32 :: Gd8K1
theorem Gd8K2_ok : ∀ q ∈ Gd8K2, ItemOk Tryd.prog q := items_cons i32 Gd8K1_ok
noncomputable def s33 : ((List Int) × Int × Int × Int × Int × Int) × (List Int) → Option (Int) := fun (r0, l) =>
 optE (s20 r0) (fun r1 =>
  bif r1 != 0 then
   some (r1)
  else
   optE (s30 l) (fun r2 =>
    some (r2))
    (none))
  (none)
theorem i33 : ItemOk Tryd.prog (.fn 33 [.d (.agg (.pair (.slice zI) (.pair zI zF))), .d (.slice zI)] [.d zI] s33) := item_fnM md4 ext4 (U := 9) (n := 12) noSpecial mixed Gd8K2_ok (fun x => by kernel_rfl)
noncomputable def Gd8K3 : List Ev.Item := .fn 33 [.d (.agg (.pair (.slice zI) (.pair zI zF))), .d (.slice zI)] [.d zI] s33 :: Gd8K2
theorem Gd8K3_ok : ∀ q ∈ Gd8K3, ItemOk Tryd.prog q := items_cons i33 Gd8K2_ok
noncomputable def s91 : ((List Int) × Int × Int × Int × Int × Int) × (List Int) × Int → Option ((Int × Int × Bool × Int × Int) × Bool) := fun (r0, l, at0) =>
 optE (s31 (r0.1, l, at0)) (fun r1 =>
  bif decide (r1.1 ≤ r0.2.2.1) then
   some (((0, at0, false, r1.1, 0), true))
  else
   some (((0, at0, true, r1.2, 0), decide (r1.2 ≤ r0.2.2.1))))
  (none)
theorem i91 : ItemOk Tryd.prog (.fn 91 [.d (.agg (.pair (.slice zI) (.pair zI zF))), .d (.slice zI), .d zI] [.d (.agg (.pair zI (.pair zI (.pair .bool zP)))), .d .bool] s91) := item_fnM md4 ext4 (U := 9) (n := 12) noSpecial mixed Gd8K3_ok (fun x => by kernel_rfl)
noncomputable def Gd8K4 : List Ev.Item := .fn 91 [.d (.agg (.pair (.slice zI) (.pair zI zF))), .d (.slice zI), .d zI] [.d (.agg (.pair zI (.pair zI (.pair .bool zP)))), .d .bool] s91 :: Gd8K3
theorem Gd8K4_ok : ∀ q ∈ Gd8K4, ItemOk Tryd.prog q := items_cons i91 Gd8K3_ok
@[reducible] def T35_0 : Tmpl := ⟨32, [(2, .ref 2 0 0 0)], [.val 1 (.slice zI), .own 5 30 52 (.agg (.pair zI (.pair zI (.pair .bool zP)))), .val 6 zI, .cells 2 [.d (.pair (.slice zI) (.pair zI zF))]], [], none⟩
@[reducible] def X35_0 : List (Ex × Tmpl) := [(.exit 0, ⟨32, [], [.own 5 30 52 (.agg (.pair zI (.pair zI (.pair .bool zP))))], [], none⟩)]
noncomputable def step35_0 : (List Int) × (List (Int × Int × Bool × Int × Int)) × Int × ((List Int) × Int × Int × Int × Int × Int) → Option (((List Int) × (List (Int × Int × Bool × Int × Int)) × Int × ((List Int) × Int × Int × Int × Int × Int)) ⊕ (List (Int × Int × Bool × Int × Int))) := fun (l, out, at0, r0) =>
 bif decide ((wr (at0 + (r0.1.length : Int))) ≤ (l.length : Int)) then
  optE (s91 (r0, l, at0)) (fun r1 =>
   bif r1.2 then
    bif room 40 (out.length + 1) then
     some (.inl (l, out ++ [r1.1], wr (at0 + 1), r0))
    else
     none
   else
    some (.inl (l, out, wr (at0 + 1), r0)))
   (none)
 else
  some (.inr out)
theorem one35_0 : oneLoop Tryd.prog 35 0 = true := by kernel_rfl
theorem lp35_0 : ItemOk Tryd.prog (.loop 35 0 T35_0 X35_0 (loopVal step35_0)) := item_loopM md4 ext4 (U := 9) (n := 11) noSpecial mixed Gd8K4_ok one35_0 (fun x => by kernel_rfl)
noncomputable def Gd8K5 : List Ev.Item := .loop 35 0 T35_0 X35_0 (loopVal step35_0) :: Gd8K4
theorem Gd8K5_ok : ∀ q ∈ Gd8K5, ItemOk Tryd.prog q := items_cons lp35_0 Gd8K4_ok
noncomputable def s35 : ((List Int) × Int × Int × Int × Int × Int) × (List Int) → Option (List (Int × Int × Bool × Int × Int)) := fun (r0, l) =>
 optE (loopVal step35_0 (l, [], 0, r0)) (fun e1 =>
  some (e1))
  (none)
theorem i35 : ItemOk Tryd.prog (.fn 35 [.d (.agg (.pair (.slice zI) (.pair zI zF))), .d (.slice zI)] [.own 52 (.agg (.pair zI (.pair zI (.pair .bool zP))))] s35) := item_fnM md4 ext4 (U := 9) (n := 12) noSpecial mixed Gd8K5_ok (fun x => by kernel_rfl)
noncomputable def Gd8K6 : List Ev.Item := .fn 35 [.d (.agg (.pair (.slice zI) (.pair zI zF))), .d (.slice zI)] [.own 52 (.agg (.pair zI (.pair zI (.pair .bool zP))))] s35 :: Gd8K5
theorem Gd8K6_ok : ∀ q ∈ Gd8K6, ItemOk Tryd.prog q := items_cons i35 Gd8K5_ok
@[reducible] def T34_0 : Tmpl := ⟨26, [], [.val 0 (.slice (.agg (.pair zI (.pair zI (.pair .bool zP))))), .val 1 (.slice (.agg (.pair zI (.pair zI (.pair .bool zP))))), .val 5 zI], [], none⟩
@[reducible] def X34_0 : List (Ex × Tmpl) := [(.ret, ⟨26, [], [.val 4 .bool], [], none⟩), (.exit 0, ⟨26, [], [], [], none⟩)]
noncomputable def step34_0 : (List (Int × Int × Bool × Int × Int)) × (List (Int × Int × Bool × Int × Int)) × Int → Option (((List (Int × Int × Bool × Int × Int)) × (List (Int × Int × Bool × Int × Int)) × Int) ⊕ ((Bool) ⊕ (Unit))) := fun (a, b, i) =>
 bif decide (i < (a.length : Int)) then
  bif inBounds i a.length then
   bif inBounds i b.length then
    bif !(((a.getD i.toNat (0, 0, false, 0, 0)).1 == (b.getD i.toNat (0, 0, false, 0, 0)).1) && (((a.getD i.toNat (0, 0, false, 0, 0)).2.1 == (b.getD i.toNat (0, 0, false, 0, 0)).2.1) && (((a.getD i.toNat (0, 0, false, 0, 0)).2.2.1 == (b.getD i.toNat (0, 0, false, 0, 0)).2.2.1) && (((a.getD i.toNat (0, 0, false, 0, 0)).2.2.2.1 == (b.getD i.toNat (0, 0, false, 0, 0)).2.2.2.1) && (((a.getD i.toNat (0, 0, false, 0, 0)).2.2.2.2 == (b.getD i.toNat (0, 0, false, 0, 0)).2.2.2.2) && true))))) then
     some (.inr (.inl false))
    else
     some (.inl (a, b, wr (i + 1)))
   else
    none
  else
   none
 else
  some (.inr (.inr ()))
theorem one34_0 : oneLoop Tryd.prog 34 0 = true := by kernel_rfl
theorem lp34_0 : ItemOk Tryd.prog (.loop 34 0 T34_0 X34_0 (loopVal step34_0)) := item_loopM md4 ext4 (U := 9) (n := 11) noSpecial mixed Gd8K6_ok one34_0 (fun x => by kernel_rfl)
noncomputable def Gd8K7 : List Ev.Item := .loop 34 0 T34_0 X34_0 (loopVal step34_0) :: Gd8K6
theorem Gd8K7_ok : ∀ q ∈ Gd8K7, ItemOk Tryd.prog q := items_cons lp34_0 Gd8K6_ok
noncomputable def s34 : (List (Int × Int × Bool × Int × Int)) × (List (Int × Int × Bool × Int × Int)) → Option (Bool) := fun (a, b) =>
 bif (a.length : Int) != (b.length : Int) then
  some (false)
 else
  optE (loopVal step34_0 (a, b, 0)) (fun e1 =>
   sumE e1 (fun e2 =>
    some (e2)) (fun _ =>
    some (true)))
   (none)
theorem i34 : ItemOk Tryd.prog (.fn 34 [.d (.slice (.agg (.pair zI (.pair zI (.pair .bool zP))))), .d (.slice (.agg (.pair zI (.pair zI (.pair .bool zP)))))] [.d .bool] s34) := item_fnM md4 ext4 (U := 9) (n := 12) noSpecial mixed Gd8K7_ok (fun x => by kernel_rfl)
noncomputable def Gd8K8 : List Ev.Item := .fn 34 [.d (.slice (.agg (.pair zI (.pair zI (.pair .bool zP))))), .d (.slice (.agg (.pair zI (.pair zI (.pair .bool zP)))))] [.d .bool] s34 :: Gd8K7
theorem Gd8K8_ok : ∀ q ∈ Gd8K8, ItemOk Tryd.prog q := items_cons i34 Gd8K7_ok
noncomputable def s4 : ((List Int) × Int × Int × Int × Int × Int) × (List Int) → Option (Bool) := fun (r0, soft) =>
 bif !true then
  some (false)
 else
  optE (s16 r0.1) (fun r1 =>
   bif !r1 then
    some (true)
   else
    optE (s17 soft) (fun r2 =>
     bif !r2 then
      some (true)
     else
      optE (s19 r0) (fun r3 =>
       optE (s22 soft) (fun r4 =>
        optE (s32 (r3, r4)) (fun r5 =>
         optE (s33 (r0, soft)) (fun r6 =>
          bif r6 != 0 then
           bif r5.2 == r6 then
            some ((r5.1.length : Int) == 0)
           else
            some (false)
          else
           bif r5.2 == 0 then
            optE (s35 (r0, soft)) (fun r7 =>
             optE (s34 (r5.1, r7)) (fun r8 =>
              some (r8))
              (none))
             (none)
           else
            some (false))
          (none))
         (none))
        (none))
       (none))
     (none))
   (none)
theorem i4 : ItemOk Tryd.prog (.fn 4 [.d (.agg (.pair (.slice zI) (.pair zI zF))), .d (.slice zI)] [.d .bool] s4) := item_fnM md4 ext4 (U := 9) (n := 12) noSpecial mixed Gd8K8_ok (fun x => by kernel_rfl)
noncomputable def Gd8K9 : List Ev.Item := .fn 4 [.d (.agg (.pair (.slice zI) (.pair zI zF))), .d (.slice zI)] [.d .bool] s4 :: Gd8K8
theorem Gd8K9_ok : ∀ q ∈ Gd8K9, ItemOk Tryd.prog q := items_cons i4 Gd8K8_ok
end Go.Proofs.YthckjfbhdjjnkaaDoor
