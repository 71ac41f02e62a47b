/- Printed by gen.py: specifications of functions. -/
import Derived.Test.YthckjfbhdjjnkaaGp7
set_option linter.unusedSimpArgs false
set_option maxRecDepth 100000
namespace Go.Proofs.Ythckjfbhdjjnkaa
open Go.Ev
noncomputable def s8 : Int × Int → Option (Int) := fun (n, by0) =>
 bif !(by0 == 0) then
  bif decide ((Int.tmod n by0) < 0) then
   some (wr ((Int.tmod n by0) + by0))
  else
   some (Int.tmod n by0)
 else
  none
theorem i8 : ItemOk Try.prog (.fn 8 [.d zI, .d zI] [.d zI] s8) := item_fnM md4 ext4 (U := 9) (n := 12) noSpecial mixed Gp7K16_ok (fun x => by kernel_rfl)
noncomputable def Gp8K1 : List Ev.Item := .fn 8 [.d zI, .d zI] [.d zI] s8 :: Gp7K16
theorem Gp8K1_ok : ∀ q ∈ Gp8K1, ItemOk Try.prog q := items_cons i8 Gp7K16_ok
noncomputable def s9 : (Int × Int) × Int → Option (Int × Int) := fun (g, quarter) =>
 optE (s8 (quarter, 4)) (fun r1 =>
  bif r1 == 1 then
   some ((wr (-g.2), g.1))
  else
   bif r1 == 2 then
    some ((wr (-g.1), wr (-g.2)))
   else
    bif r1 == 3 then
     some ((g.2, wr (-g.1)))
    else
     some (g))
  (none)
theorem i9 : ItemOk Try.prog (.fn 9 [.d (.agg zP), .d zI] [.d (.agg zP)] s9) := item_fnM md4 ext4 (U := 9) (n := 12) noSpecial mixed Gp8K1_ok (fun x => by kernel_rfl)
noncomputable def Gp8K2 : List Ev.Item := .fn 9 [.d (.agg zP), .d zI] [.d (.agg zP)] s9 :: Gp8K1
theorem Gp8K2_ok : ∀ q ∈ Gp8K2, ItemOk Try.prog q := items_cons i9 Gp8K1_ok
noncomputable def s11 : List (Int × Int) → Option (List (Int × Int)) := fun l =>
 bif room 16 (0 + l.length) then
  some (l)
 else
  none
theorem i11 : ItemOk Try.prog (.fn 11 [.d (.slice (.agg zP))] [.own 36 (.agg zP)] s11) := item_fnM md4 ext4 (U := 9) (n := 12) noSpecial mixed Gp8K2_ok (fun x => by kernel_rfl)
noncomputable def Gp8K3 : List Ev.Item := .fn 11 [.d (.slice (.agg zP))] [.own 36 (.agg zP)] s11 :: Gp8K2
theorem Gp8K3_ok : ∀ q ∈ Gp8K3, ItemOk Try.prog q := items_cons i11 Gp8K2_ok
@[reducible] def T12_0 : Tmpl := ⟨26, [], [.val 0 (.slice (.agg zP)), .val 1 (.slice (.agg zP)), .val 5 zI], [], none⟩
@[reducible] def X12_0 : List (Ex × Tmpl) := [(.ret, ⟨26, [], [.val 4 .bool], [], none⟩), (.exit 0, ⟨26, [], [], [], none⟩)]
noncomputable def step12_0 : (List (Int × Int)) × (List (Int × Int)) × Int → Option (((List (Int × Int)) × (List (Int × Int)) × Int) ⊕ ((Bool) ⊕ (Unit))) := fun (a, b, i) =>
 bif decide (i < (a.length : Int)) then
  bif inBounds i a.length then
   bif inBounds i b.length then
    bif !(((a.getD i.toNat (0, 0)).1 == (b.getD i.toNat (0, 0)).1) && (((a.getD i.toNat (0, 0)).2 == (b.getD i.toNat (0, 0)).2) && true)) then
     some (.inr (.inl false))
    else
     some (.inl (a, b, wr (i + 1)))
   else
    none
  else
   none
 else
  some (.inr (.inr ()))
theorem one12_0 : oneLoop Try.prog 12 0 = true := by kernel_rfl
theorem lp12_0 : ItemOk Try.prog (.loop 12 0 T12_0 X12_0 (loopVal step12_0)) := item_loopM md4 ext4 (U := 9) (n := 11) noSpecial mixed Gp8K3_ok one12_0 (fun x => by kernel_rfl)
noncomputable def Gp8K4 : List Ev.Item := .loop 12 0 T12_0 X12_0 (loopVal step12_0) :: Gp8K3
theorem Gp8K4_ok : ∀ q ∈ Gp8K4, ItemOk Try.prog q := items_cons lp12_0 Gp8K3_ok
noncomputable def s12 : (List (Int × Int)) × (List (Int × Int)) → Option (Bool) := fun (a, b) =>
 bif (a.length : Int) != (b.length : Int) then
  some (false)
 else
  optE (loopVal step12_0 (a, b, 0)) (fun e1 =>
   sumE e1 (fun e2 =>
    some (e2)) (fun _ =>
    some (true)))
   (none)
theorem i12 : ItemOk Try.prog (.fn 12 [.d (.slice (.agg zP)), .d (.slice (.agg zP))] [.d .bool] s12) := item_fnM md4 ext4 (U := 9) (n := 12) noSpecial mixed Gp8K4_ok (fun x => by kernel_rfl)
noncomputable def Gp8K5 : List Ev.Item := .fn 12 [.d (.slice (.agg zP)), .d (.slice (.agg zP))] [.d .bool] s12 :: Gp8K4
theorem Gp8K5_ok : ∀ q ∈ Gp8K5, ItemOk Try.prog q := items_cons i12 Gp8K4_ok
@[reducible] def T17_0 : Tmpl := ⟨22, [], [.val 0 (.slice zI), .own 3 20 3 zI, .val 4 zI], [], none⟩
@[reducible] def X17_0 : List (Ex × Tmpl) := [(.exit 0, ⟨22, [], [.own 3 20 3 zI], [], none⟩)]
noncomputable def step17_0 : (List Int) × (List Int) × Int → Option (((List Int) × (List Int) × Int) ⊕ (List Int)) := fun (bits, out, i) =>
 bif decide (i < (bits.length : Int)) then
  bif inBounds i bits.length then
   bif room 8 (out.length + 1) then
    some (.inl (bits, out ++ [wr (7 * (wr (1 - (wr (2 * (bits.getD i.toNat 0))))))], wr (i + 1)))
   else
    none
  else
   none
 else
  some (.inr out)
theorem one17_0 : oneLoop Try.prog 17 0 = true := by kernel_rfl
theorem lp17_0 : ItemOk Try.prog (.loop 17 0 T17_0 X17_0 (loopVal step17_0)) := item_loopM md4 ext4 (U := 9) (n := 11) noSpecial mixed Gp8K5_ok one17_0 (fun x => by kernel_rfl)
noncomputable def Gp8K6 : List Ev.Item := .loop 17 0 T17_0 X17_0 (loopVal step17_0) :: Gp8K5
theorem Gp8K6_ok : ∀ q ∈ Gp8K6, ItemOk Try.prog q := items_cons lp17_0 Gp8K5_ok
noncomputable def s17 : List Int → Option (List Int) := fun bits =>
 optE (loopVal step17_0 (bits, [], 0)) (fun e1 =>
  some (e1))
  (none)
theorem i17 : ItemOk Try.prog (.fn 17 [.d (.slice zI)] [.own 3 zI] s17) := item_fnM md4 ext4 (U := 9) (n := 12) noSpecial mixed Gp8K6_ok (fun x => by kernel_rfl)
noncomputable def Gp8K7 : List Ev.Item := .fn 17 [.d (.slice zI)] [.own 3 zI] s17 :: Gp8K6
theorem Gp8K7_ok : ∀ q ∈ Gp8K7, ItemOk Try.prog q := items_cons i17 Gp8K6_ok
@[reducible] def T22_0 : Tmpl := ⟨26, [], [.val 0 (.slice zI), .val 1 (.slice zI), .val 5 zI], [], none⟩
@[reducible] def X22_0 : List (Ex × Tmpl) := [(.ret, ⟨26, [], [.val 4 .bool], [], none⟩), (.exit 0, ⟨26, [], [], [], none⟩)]
noncomputable def step22_0 : (List Int) × (List Int) × Int → Option (((List Int) × (List Int) × Int) ⊕ ((Bool) ⊕ (Unit))) := fun (a, b, i) =>
 bif decide (i < (a.length : Int)) then
  bif inBounds i a.length then
   bif inBounds i b.length then
    bif (a.getD i.toNat 0) != (b.getD i.toNat 0) then
     some (.inr (.inl false))
    else
     some (.inl (a, b, wr (i + 1)))
   else
    none
  else
   none
 else
  some (.inr (.inr ()))
theorem one22_0 : oneLoop Try.prog 22 0 = true := by kernel_rfl
theorem lp22_0 : ItemOk Try.prog (.loop 22 0 T22_0 X22_0 (loopVal step22_0)) := item_loopM md4 ext4 (U := 9) (n := 11) noSpecial mixed Gp8K7_ok one22_0 (fun x => by kernel_rfl)
noncomputable def Gp8K8 : List Ev.Item := .loop 22 0 T22_0 X22_0 (loopVal step22_0) :: Gp8K7
theorem Gp8K8_ok : ∀ q ∈ Gp8K8, ItemOk Try.prog q := items_cons lp22_0 Gp8K7_ok
noncomputable def s22 : (List Int) × (List Int) → Option (Bool) := fun (a, b) =>
 bif (a.length : Int) != (b.length : Int) then
  some (false)
 else
  optE (loopVal step22_0 (a, b, 0)) (fun e1 =>
   sumE e1 (fun e2 =>
    some (e2)) (fun _ =>
    some (true)))
   (none)
theorem i22 : ItemOk Try.prog (.fn 22 [.d (.slice zI), .d (.slice zI)] [.d .bool] s22) := item_fnM md4 ext4 (U := 9) (n := 12) noSpecial mixed Gp8K8_ok (fun x => by kernel_rfl)
noncomputable def Gp8K9 : List Ev.Item := .fn 22 [.d (.slice zI), .d (.slice zI)] [.d .bool] s22 :: Gp8K8
theorem Gp8K9_ok : ∀ q ∈ Gp8K9, ItemOk Try.prog q := items_cons i22 Gp8K8_ok
@[reducible] def T23_0 : Tmpl := ⟨26, [], [.val 0 (.slice (.agg (.pair zI (.pair zI (.pair .bool zP))))), .val 1 (.slice (.agg (.pair zI (.pair zI (.pair .bool zP))))), .val 5 zI], [], none⟩
@[reducible] def X23_0 : List (Ex × Tmpl) := [(.ret, ⟨26, [], [.val 4 .bool], [], none⟩), (.exit 0, ⟨26, [], [], [], none⟩)]
noncomputable def step23_0 : (List (Int × Int × Bool × Int × Int)) × (List (Int × Int × Bool × Int × Int)) × Int → Option (((List (Int × Int × Bool × Int × Int)) × (List (Int × Int × Bool × Int × Int)) × Int) ⊕ ((Bool) ⊕ (Unit))) := fun (a, b, i) =>
 bif decide (i < (a.length : Int)) then
  bif inBounds i a.length then
   bif inBounds i b.length then
    bif !(((a.getD i.toNat (0, 0, false, 0, 0)).1 == (b.getD i.toNat (0, 0, false, 0, 0)).1) && (((a.getD i.toNat (0, 0, false, 0, 0)).2.1 == (b.getD i.toNat (0, 0, false, 0, 0)).2.1) && (((a.getD i.toNat (0, 0, false, 0, 0)).2.2.1 == (b.getD i.toNat (0, 0, false, 0, 0)).2.2.1) && (((a.getD i.toNat (0, 0, false, 0, 0)).2.2.2.1 == (b.getD i.toNat (0, 0, false, 0, 0)).2.2.2.1) && (((a.getD i.toNat (0, 0, false, 0, 0)).2.2.2.2 == (b.getD i.toNat (0, 0, false, 0, 0)).2.2.2.2) && true))))) then
     some (.inr (.inl false))
    else
     some (.inl (a, b, wr (i + 1)))
   else
    none
  else
   none
 else
  some (.inr (.inr ()))
theorem one23_0 : oneLoop Try.prog 23 0 = true := by kernel_rfl
theorem lp23_0 : ItemOk Try.prog (.loop 23 0 T23_0 X23_0 (loopVal step23_0)) := item_loopM md4 ext4 (U := 9) (n := 11) noSpecial mixed Gp8K9_ok one23_0 (fun x => by kernel_rfl)
noncomputable def Gp8K10 : List Ev.Item := .loop 23 0 T23_0 X23_0 (loopVal step23_0) :: Gp8K9
theorem Gp8K10_ok : ∀ q ∈ Gp8K10, ItemOk Try.prog q := items_cons lp23_0 Gp8K9_ok
noncomputable def s23 : (List (Int × Int × Bool × Int × Int)) × (List (Int × Int × Bool × Int × Int)) → Option (Bool) := fun (a, b) =>
 bif (a.length : Int) != (b.length : Int) then
  some (false)
 else
  optE (loopVal step23_0 (a, b, 0)) (fun e1 =>
   sumE e1 (fun e2 =>
    some (e2)) (fun _ =>
    some (true)))
   (none)
theorem i23 : ItemOk Try.prog (.fn 23 [.d (.slice (.agg (.pair zI (.pair zI (.pair .bool zP))))), .d (.slice (.agg (.pair zI (.pair zI (.pair .bool zP)))))] [.d .bool] s23) := item_fnM md4 ext4 (U := 9) (n := 12) noSpecial mixed Gp8K10_ok (fun x => by kernel_rfl)
noncomputable def Gp8K11 : List Ev.Item := .fn 23 [.d (.slice (.agg (.pair zI (.pair zI (.pair .bool zP))))), .d (.slice (.agg (.pair zI (.pair zI (.pair .bool zP)))))] [.d .bool] s23 :: Gp8K10
theorem Gp8K11_ok : ∀ q ∈ Gp8K11, ItemOk Try.prog q := items_cons i23 Gp8K10_ok
@[reducible] def T25_0 : Tmpl := ⟨68, [], [.val 0 (.slice (.agg (.pair zI (.pair .bool (.pair zI (.slice zI)))))), .val 1 (.slice (.agg (.pair zI (.pair .bool (.pair zI (.slice zI)))))), .val 5 zI], [], none⟩
@[reducible] def X25_0 : List (Ex × Tmpl) := [(.ret, ⟨68, [], [.val 4 .bool], [], none⟩), (.exit 0, ⟨68, [], [], [], none⟩)]
noncomputable def step25_0 : (List (Int × Bool × Int × List Int)) × (List (Int × Bool × Int × List Int)) × Int → Option (((List (Int × Bool × Int × List Int)) × (List (Int × Bool × Int × List Int)) × Int) ⊕ ((Bool) ⊕ (Unit))) := fun (a, b, i) =>
 bif decide (i < (a.length : Int)) then
  bif inBounds i a.length then
   bif inBounds i b.length then
    bif (a.getD i.toNat (0, false, 0, [])).1 != (b.getD i.toNat (0, false, 0, [])).1 then
     some (.inr (.inl false))
    else
     bif inBounds i a.length then
      bif inBounds i b.length then
       bif !((a.getD i.toNat (0, false, 0, [])).2.1 == (b.getD i.toNat (0, false, 0, [])).2.1) then
        some (.inr (.inl false))
       else
        bif inBounds i a.length then
         bif inBounds i b.length then
          bif (a.getD i.toNat (0, false, 0, [])).2.2.1 != (b.getD i.toNat (0, false, 0, [])).2.2.1 then
           some (.inr (.inl false))
          else
           bif inBounds i a.length then
            bif inBounds i b.length then
             optE (s22 ((a.getD i.toNat (0, false, 0, [])).2.2.2, (b.getD i.toNat (0, false, 0, [])).2.2.2)) (fun r1 =>
              bif !r1 then
               some (.inr (.inl false))
              else
               some (.inl (a, b, wr (i + 1))))
              (none)
            else
             none
           else
            none
         else
          none
        else
         none
      else
       none
     else
      none
   else
    none
  else
   none
 else
  some (.inr (.inr ()))
theorem one25_0 : oneLoop Try.prog 25 0 = true := by kernel_rfl
theorem lp25_0 : ItemOk Try.prog (.loop 25 0 T25_0 X25_0 (loopVal step25_0)) := item_loopM md4 ext4 (U := 9) (n := 11) noSpecial mixed Gp8K11_ok one25_0 (fun x => by kernel_rfl)
noncomputable def Gp8K12 : List Ev.Item := .loop 25 0 T25_0 X25_0 (loopVal step25_0) :: Gp8K11
theorem Gp8K12_ok : ∀ q ∈ Gp8K12, ItemOk Try.prog q := items_cons lp25_0 Gp8K11_ok
noncomputable def s25 : (List (Int × Bool × Int × List Int)) × (List (Int × Bool × Int × List Int)) → Option (Bool) := fun (a, b) =>
 bif (a.length : Int) != (b.length : Int) then
  some (false)
 else
  optE (loopVal step25_0 (a, b, 0)) (fun e1 =>
   sumE e1 (fun e2 =>
    some (e2)) (fun _ =>
    some (true)))
   (none)
theorem i25 : ItemOk Try.prog (.fn 25 [.d (.slice (.agg (.pair zI (.pair .bool (.pair zI (.slice zI)))))), .d (.slice (.agg (.pair zI (.pair .bool (.pair zI (.slice zI))))))] [.d .bool] s25) := item_fnM md4 ext4 (U := 9) (n := 12) noSpecial mixed Gp8K12_ok (fun x => by kernel_rfl)
noncomputable def Gp8K13 : List Ev.Item := .fn 25 [.d (.slice (.agg (.pair zI (.pair .bool (.pair zI (.slice zI)))))), .d (.slice (.agg (.pair zI (.pair .bool (.pair zI (.slice zI))))))] [.d .bool] s25 :: Gp8K12
theorem Gp8K13_ok : ∀ q ∈ Gp8K13, ItemOk Try.prog q := items_cons i25 Gp8K12_ok
@[reducible] def T3_2 : Tmpl := ⟨251, [(2, .ref 2 0 0 0), (3, .ref 3 0 0 0), (5, .ref 5 0 0 0)], [.own 6 906 36 (.agg zP), .own 7 907 36 (.agg zP), .val 8 zI, .val 9 zI, .cells 2 [.d (.pair (.slice zI) (.pair zI zF))], .cells 3 [.d (.pair (.slice zI) (.pair zI zP))], .cells 5 [.d (.pair zI zP)]], [], none⟩
@[reducible] def X3_2 : List (Ex × Tmpl) := [(.exit 2, ⟨251, [(2, .ref 2 0 0 0), (3, .ref 3 0 0 0), (5, .ref 5 0 0 0)], [.own 6 101 36 (.agg zP), .own 7 109 36 (.agg zP), .val 8 zI, .cells 2 [.d (.pair (.slice zI) (.pair zI zF))], .cells 3 [.d (.pair (.slice zI) (.pair zI zP))], .cells 5 [.d (.pair zI zP)]], [], none⟩)]
noncomputable def step3_2 : (List (Int × Int)) × (List (Int × Int)) × Int × Int × ((List Int) × Int × Int × Int × Int × Int) × ((List Int) × Int × Int × Int) × (Int × Int × Int) → Option (((List (Int × Int)) × (List (Int × Int)) × Int × Int × ((List Int) × Int × Int × Int × Int × Int) × ((List Int) × Int × Int × Int) × (Int × Int × Int)) ⊕ ((List (Int × Int)) × (List (Int × Int)) × Int × ((List Int) × Int × Int × Int × Int × Int) × ((List Int) × Int × Int × Int) × (Int × Int × Int))) := fun (own, sent, i, k, r0, x0, p) =>
 bif decide (k < x0.2.1) then
  bif inBounds i x0.1.length then
   bif room 16 (own.length + 1) then
    optE (s8 (x0.2.2.2, 4)) (fun r6 =>
     optE (s9 ((wr (x0.2.2.1 * (wr (1 - (wr (2 * (x0.1.getD i.toNat 0)))))), 0), r6)) (fun r7 =>
      bif room 16 (sent.length + 1) then
       some (.inl (own ++ [(wr (x0.2.2.1 * (wr (1 - (wr (2 * (x0.1.getD i.toNat 0)))))), 0)], sent ++ [r7], i, wr (k + 1), r0, x0, p))
      else
       none)
      (none))
     (none)
   else
    none
  else
   none
 else
  some (.inr (own, sent, i, r0, x0, p))
theorem one3_2 : oneLoop Try.prog 3 2 = true := by kernel_rfl
theorem lp3_2 : ItemOk Try.prog (.loop 3 2 T3_2 X3_2 (loopVal step3_2)) := item_loopM md4 ext4 (U := 9) (n := 11) noSpecial mixed Gp8K13_ok one3_2 (fun x => by kernel_rfl)
noncomputable def Gp8K14 : List Ev.Item := .loop 3 2 T3_2 X3_2 (loopVal step3_2) :: Gp8K13
theorem Gp8K14_ok : ∀ q ∈ Gp8K14, ItemOk Try.prog q := items_cons lp3_2 Gp8K13_ok
@[reducible] def T3_0 : Tmpl := ⟨251, [(2, .ref 2 0 0 0), (3, .ref 3 0 0 0), (5, .ref 5 0 0 0)], [.own 6 906 36 (.agg zP), .own 7 907 36 (.agg zP), .val 8 zI, .cells 2 [.d (.pair (.slice zI) (.pair zI zF))], .cells 3 [.d (.pair (.slice zI) (.pair zI zP))], .cells 5 [.d (.pair zI zP)]], [], none⟩
@[reducible] def X3_0 : List (Ex × Tmpl) := [(.exit 0, ⟨251, [(2, .ref 2 0 0 0), (3, .ref 3 0 0 0), (5, .ref 5 0 0 0)], [.own 6 101 36 (.agg zP), .own 7 109 36 (.agg zP), .cells 2 [.d (.pair (.slice zI) (.pair zI zF))], .cells 3 [.d (.pair (.slice zI) (.pair zI zP))], .cells 5 [.d (.pair zI zP)]], [], none⟩)]
noncomputable def step3_0 : (List (Int × Int)) × (List (Int × Int)) × Int × ((List Int) × Int × Int × Int × Int × Int) × ((List Int) × Int × Int × Int) × (Int × Int × Int) → Option (((List (Int × Int)) × (List (Int × Int)) × Int × ((List Int) × Int × Int × Int × Int × Int) × ((List Int) × Int × Int × Int) × (Int × Int × Int)) ⊕ ((List (Int × Int)) × (List (Int × Int)) × ((List Int) × Int × Int × Int × Int × Int) × ((List Int) × Int × Int × Int) × (Int × Int × Int))) := fun (own, sent, i, r0, x0, p) =>
 bif decide (i < (x0.1.length : Int)) then
  optE (loopVal step3_2 (own, sent, i, 0, r0, x0, p)) (fun e6 =>
   some (.inl (e6.1, e6.2.1, wr (e6.2.2.1 + 1), e6.2.2.2.1, e6.2.2.2.2.1, e6.2.2.2.2.2)))
   (none)
 else
  some (.inr (own, sent, r0, x0, p))
theorem one3_0 : oneLoop Try.prog 3 0 = true := by kernel_rfl
theorem lp3_0 : ItemOk Try.prog (.loop 3 0 T3_0 X3_0 (loopVal step3_0)) := item_loopM md4 ext4 (U := 9) (n := 11) noSpecial mixed Gp8K14_ok one3_0 (fun x => by kernel_rfl)
noncomputable def Gp8K15 : List Ev.Item := .loop 3 0 T3_0 X3_0 (loopVal step3_0) :: Gp8K14
theorem Gp8K15_ok : ∀ q ∈ Gp8K15, ItemOk Try.prog q := items_cons lp3_0 Gp8K14_ok
@[reducible] def T3_4 : Tmpl := ⟨251, [(2, .ref 2 0 0 0), (3, .ref 3 0 0 0)], [.val 17 (.slice (.agg zP)), .own 19 206 3 zI, .val 20 zI, .cells 2 [.d (.pair (.slice zI) (.pair zI zF))], .cells 3 [.d (.pair (.slice zI) (.pair zI zP))]], [], none⟩
@[reducible] def X3_4 : List (Ex × Tmpl) := [(.ret, ⟨251, [], [.val 4 .bool], [], none⟩), (.exit 4, ⟨251, [(2, .ref 2 0 0 0), (3, .ref 3 0 0 0)], [.own 19 206 3 zI, .cells 2 [.d (.pair (.slice zI) (.pair zI zF))], .cells 3 [.d (.pair (.slice zI) (.pair zI zP))]], [], none⟩)]
noncomputable def step3_4 : (List (Int × Int)) × (List Int) × Int × ((List Int) × Int × Int × Int × Int × Int) × ((List Int) × Int × Int × Int) → Option (((List (Int × Int)) × (List Int) × Int × ((List Int) × Int × Int × Int × Int × Int) × ((List Int) × Int × Int × Int)) ⊕ ((Bool) ⊕ ((List Int) × ((List Int) × Int × Int × Int × Int × Int) × ((List Int) × Int × Int × Int)))) := fun (sums, soft, i, r0, x0) =>
 bif decide (i < (sums.length : Int)) then
  bif inBounds i sums.length then
   optE (s16 ((sums.getD i.toNat (0, 0)), wr (x0.2.1 * x0.2.2.1))) (fun r17 =>
    bif r17.2 != 0 then
     some (.inr (.inl false))
    else
     bif r17.1.2 != 0 then
      some (.inr (.inl false))
     else
      bif room 8 (soft.length + 1) then
       some (.inl (sums, soft ++ [r17.1.1], wr (i + 1), r0, x0))
      else
       none)
    (none)
  else
   none
 else
  some (.inr (.inr (soft, r0, x0)))
theorem one3_4 : oneLoop Try.prog 3 4 = true := by kernel_rfl
theorem lp3_4 : ItemOk Try.prog (.loop 3 4 T3_4 X3_4 (loopVal step3_4)) := item_loopM md4 ext4 (U := 9) (n := 11) noSpecial mixed Gp8K15_ok one3_4 (fun x => by kernel_rfl)
noncomputable def Gp8K16 : List Ev.Item := .loop 3 4 T3_4 X3_4 (loopVal step3_4) :: Gp8K15
theorem Gp8K16_ok : ∀ q ∈ Gp8K16, ItemOk Try.prog q := items_cons lp3_4 Gp8K15_ok
noncomputable def s3 : ((List Int) × Int × Int × Int × Int × Int) × ((List Int) × Int × Int × Int) → Option (Bool) := fun (r0, x0) =>
 bif !true then
  some (false)
 else
  bif decide ((r0.1.length : Int) > 32) then
   some (true)
  else
   optE (s5 r0) (fun r1 =>
    bif r1 != 0 then
     some (true)
    else
     bif (x0.1.length : Int) == 0 then
      some (true)
     else
      bif decide ((x0.1.length : Int) > 100) then
       some (true)
      else
       optE (s6 x0.1) (fun r2 =>
        bif !r2 then
         some (true)
        else
         optE (s7 (x0.2.1, 1, 4)) (fun r3 =>
          bif !r3 then
           some (true)
          else
           optE (s7 (x0.2.2.1, 1, 2000)) (fun r4 =>
            bif !r4 then
             some (true)
            else
             optE (s8 (x0.2.2.2, 4)) (fun r5 =>
              optE (loopVal step3_0 ([], [], 0, r0, x0, (wr (1024 * r5), 0, 0))) (fun e6 =>
               optE (s11 e6.2.1) (fun r7 =>
                optE (s10 (e6.2.2.2.2, r7)) (fun r8 =>
                 bif r8.2 != 0 then
                  some (false)
                 else
                  optE (s12 (r8.1, e6.1)) (fun r9 =>
                   bif !r9 then
                    some (false)
                   else
                    optE (s11 e6.2.1) (fun r10 =>
                     optE (s13 r10) (fun r11 =>
                      optE (s11 e6.2.1) (fun r12 =>
                       optE (s14 (r12, e6.2.2.2.1.2.1)) (fun r13 =>
                        optE (s11 r8.1) (fun r14 =>
                         optE (s15 (r14, e6.2.2.2.1.2.1, 0)) (fun r15 =>
                          bif r11.2 != 0 then
                           some (false)
                          else
                           optE (s8 (e6.2.2.2.1.2.2.2, 2)) (fun r16 =>
                            bif r11.1 != r16 then
                             some (false)
                            else
                             bif r13.2 != 0 then
                              some (false)
                             else
                              bif r13.1 != 0 then
                               some (false)
                              else
                               bif r15.2 != 0 then
                                some (false)
                               else
                                bif (r15.1.length : Int) != (e6.2.2.2.1.1.length : Int) then
                                 some (false)
                                else
                                 optE (loopVal step3_4 (r15.1, [], 0, e6.2.2.1, e6.2.2.2.1)) (fun e17 =>
                                  sumE e17 (fun e18 =>
                                   some (e18)) (fun e19 =>
                                   optE (s17 e19.2.2.1) (fun r20 =>
                                    optE (s19 e19.2.1) (fun r21 =>
                                     optE (s20 e19.1) (fun r22 =>
                                      optE (s18 (r21, r22)) (fun r23 =>
                                       optE (s19 e19.2.1) (fun r24 =>
                                        optE (s20 e19.1) (fun r25 =>
                                         optE (s21 (r24, r25)) (fun r26 =>
                                          optE (s22 (e19.1, r20)) (fun r27 =>
                                           bif r27 then
                                            bif r23.2 == 0 then
                                             optE (s24 (e19.2.1, r20)) (fun r28 =>
                                              optE (s23 (r23.1, r28)) (fun r29 =>
                                               bif r29 then
                                                bif r26.2 == 0 then
                                                 optE (s26 (e19.2.1, r20)) (fun r30 =>
                                                  optE (s25 (r26.1, r30)) (fun r31 =>
                                                   some (r31))
                                                   (none))
                                                  (none)
                                                else
                                                 some (false)
                                               else
                                                some (false))
                                               (none))
                                              (none)
                                            else
                                             some (false)
                                           else
                                            some (false))
                                           (none))
                                          (none))
                                         (none))
                                        (none))
                                       (none))
                                      (none))
                                     (none))
                                    (none)))
                                  (none))
                            (none))
                          (none))
                         (none))
                        (none))
                       (none))
                      (none))
                     (none))
                   (none))
                 (none))
                (none))
               (none))
              (none))
            (none))
          (none))
        (none))
    (none)
theorem i3 : ItemOk Try.prog (.fn 3 [.d (.agg (.pair (.slice zI) (.pair zI zF))), .d (.agg (.pair (.slice zI) (.pair zI zP)))] [.d .bool] s3) := item_fnM md4 ext4 (U := 9) (n := 12) noSpecial mixed Gp8K16_ok (fun x => by kernel_rfl)
noncomputable def Gp8K17 : List Ev.Item := .fn 3 [.d (.agg (.pair (.slice zI) (.pair zI zF))), .d (.agg (.pair (.slice zI) (.pair zI zP)))] [.d .bool] s3 :: Gp8K16
theorem Gp8K17_ok : ∀ q ∈ Gp8K17, ItemOk Try.prog q := items_cons i3 Gp8K16_ok
end Go.Proofs.Ythckjfbhdjjnkaa
