/- Printed by gen.py: specifications of functions. -/
import Derived.Test.YthckjfbhdjjnkaaGp6
set_option linter.unusedSimpArgs false
set_option maxRecDepth 100000
namespace Go.Proofs.Ythckjfbhdjjnkaa
open Go.Ev
noncomputable def s93 : Int → Option (Int) := fun n =>
 bif decide (n > 0) then
  some (0)
 else
  bif decide (n < 0) then
   some (1)
  else
   some ((-1))
theorem i93 : ItemOk Try.prog (.fn 93 [.d zI] [.d zI] s93) := item_fnM md4 ext4 (U := 9) (n := 12) noSpecial mixed Gp6K22_ok (fun x => by kernel_rfl)
noncomputable def Gp7K1 : List Ev.Item := .fn 93 [.d zI] [.d zI] s93 :: Gp6K22
theorem Gp7K1_ok : ∀ q ∈ Gp7K1, ItemOk Try.prog q := items_cons i93 Gp6K22_ok
@[reducible] def T80_0 : Tmpl := ⟨45, [(6, .ref 6 0 0 0), (7, .ref 7 0 0 0)], [.val 0 (.slice zI), .val 1 (.slice zI), .val 2 zI, .val 8 zI, .arrp 6 zI 2 zP, .arrp 7 zI 2 zP], [], none⟩
@[reducible] def X80_0 : List (Ex × Tmpl) := [(.exit 0, ⟨45, [(6, .ref 6 0 0 0), (7, .ref 7 0 0 0)], [.arrp 6 zI 2 zP, .arrp 7 zI 2 zP], [], none⟩)]
noncomputable def step80_0 : (List Int) × (List Int) × Int × Int × (Int × Int) × (Int × Int) → Option (((List Int) × (List Int) × Int × Int × (Int × Int) × (Int × Int)) ⊕ ((Int × Int) × (Int × Int))) := fun (m, l, at0, i, t6, out) =>
 bif decide (i < (m.length : Int)) then
  bif inBounds (wr (at0 + i)) l.length then
   optE (s93 (l.getD (wr (at0 + i)).toNat 0)) (fun r1 =>
    bif inBounds i m.length then
     bif r1 != (m.getD i.toNat 0) then
      bif inBounds i m.length then
       bif r1 != (wr (1 - (m.getD i.toNat 0))) then
        some (.inl (m, l, at0, wr (i + 1), t6, (wr (out.1 + 1), wr (out.2 + 1))))
       else
        some (.inl (m, l, at0, wr (i + 1), t6, (wr (out.1 + 1), out.2)))
      else
       none
     else
      bif inBounds i m.length then
       bif r1 != (wr (1 - (m.getD i.toNat 0))) then
        some (.inl (m, l, at0, wr (i + 1), t6, (out.1, wr (out.2 + 1))))
       else
        some (.inl (m, l, at0, wr (i + 1), t6, out))
      else
       none
    else
     none)
    (none)
  else
   none
 else
  some (.inr (t6, out))
theorem one80_0 : oneLoop Try.prog 80 0 = true := by kernel_rfl
theorem lp80_0 : ItemOk Try.prog (.loop 80 0 T80_0 X80_0 (loopVal step80_0)) := item_loopM md4 ext4 (U := 9) (n := 11) noSpecial mixed Gp7K1_ok one80_0 (fun x => by kernel_rfl)
noncomputable def Gp7K2 : List Ev.Item := .loop 80 0 T80_0 X80_0 (loopVal step80_0) :: Gp7K1
theorem Gp7K2_ok : ∀ q ∈ Gp7K2, ItemOk Try.prog q := items_cons lp80_0 Gp7K1_ok
noncomputable def s80 : (List Int) × (List Int) × Int → Option (Int × Int) := fun (m, l, at0) =>
 optE (loopVal step80_0 (m, l, at0, 0, (0, 0), (0, 0))) (fun e1 =>
  some (e1.2))
  (none)
theorem i80 : ItemOk Try.prog (.fn 80 [.d (.slice zI), .d (.slice zI), .d zI] [.d (.agg zP)] s80) := item_fnM md4 ext4 (U := 9) (n := 12) noSpecial mixed Gp7K2_ok (fun x => by kernel_rfl)
noncomputable def Gp7K3 : List Ev.Item := .fn 80 [.d (.slice zI), .d (.slice zI), .d zI] [.d (.agg zP)] s80 :: Gp7K2
theorem Gp7K3_ok : ∀ q ∈ Gp7K3, ItemOk Try.prog q := items_cons i80 Gp7K2_ok
noncomputable def s62 : ((List Int) × Int × Int × Int × Int × Int) × (List Int) × Int → Option ((Int × Int × Bool × Int × Int) × Bool) := fun (r0, l, at0) =>
 optE (s80 (r0.1, l, at0)) (fun r1 =>
  bif decide (r1.1 ≤ r0.2.2.1) then
   some (((0, at0, false, r1.1, 0), true))
  else
   some (((0, at0, true, r1.2, 0), decide (r1.2 ≤ r0.2.2.1))))
  (none)
theorem i62 : ItemOk Try.prog (.fn 62 [.d (.agg (.pair (.slice zI) (.pair zI zF))), .d (.slice zI), .d zI] [.d (.agg (.pair zI (.pair zI (.pair .bool zP)))), .d .bool] s62) := item_fnM md4 ext4 (U := 9) (n := 12) noSpecial mixed Gp7K3_ok (fun x => by kernel_rfl)
noncomputable def Gp7K4 : List Ev.Item := .fn 62 [.d (.agg (.pair (.slice zI) (.pair zI zF))), .d (.slice zI), .d zI] [.d (.agg (.pair zI (.pair zI (.pair .bool zP)))), .d .bool] s62 :: Gp7K3
theorem Gp7K4_ok : ∀ q ∈ Gp7K4, ItemOk Try.prog q := items_cons i62 Gp7K3_ok
@[reducible] def T46_0 : Tmpl := ⟨32, [(3, .ref 3 0 0 0), (6, .ref 6 0 0 0)], [.val 1 (.slice zI), .val 8 zI, .cells 3 [.d (.pair (.slice zI) (.pair zI zF))], .cells 6 [.d (.pair zI (.pair zI (.pair .bool zP)))]], [], none⟩
@[reducible] def X46_0 : List (Ex × Tmpl) := [(.ret, ⟨32, [(6, .ref 6 0 0 0)], [.val 7 .bool, .cells 6 [.d (.pair zI (.pair zI (.pair .bool zP)))]], [], none⟩), (.exit 0, ⟨32, [(6, .ref 6 0 0 0)], [.cells 6 [.d (.pair zI (.pair zI (.pair .bool zP)))]], [], none⟩)]
noncomputable def step46_0 : (List Int) × Int × ((List Int) × Int × Int × Int × Int × Int) × (Int × Int × Bool × Int × Int) → Option (((List Int) × Int × ((List Int) × Int × Int × Int × Int × Int) × (Int × Int × Bool × Int × Int)) ⊕ ((Bool × (Int × Int × Bool × Int × Int)) ⊕ ((Int × Int × Bool × Int × Int)))) := fun (l, at0, r0, t6) =>
 bif decide ((wr (at0 + (r0.1.length : Int))) ≤ (l.length : Int)) then
  optE (s62 (r0, l, at0)) (fun r1 =>
   bif r1.2 then
    some (.inr (.inl (true, r1.1)))
   else
    some (.inl (l, wr (at0 + 1), r0, t6)))
   (none)
 else
  some (.inr (.inr t6))
theorem one46_0 : oneLoop Try.prog 46 0 = true := by kernel_rfl
theorem lp46_0 : ItemOk Try.prog (.loop 46 0 T46_0 X46_0 (loopVal step46_0)) := item_loopM md4 ext4 (U := 9) (n := 11) noSpecial mixed Gp7K4_ok one46_0 (fun x => by kernel_rfl)
noncomputable def Gp7K5 : List Ev.Item := .loop 46 0 T46_0 X46_0 (loopVal step46_0) :: Gp7K4
theorem Gp7K5_ok : ∀ q ∈ Gp7K5, ItemOk Try.prog q := items_cons lp46_0 Gp7K4_ok
noncomputable def s46 : ((List Int) × Int × Int × Int × Int × Int) × (List Int) × Int → Option ((Int × Int × Bool × Int × Int) × Bool) := fun (r0, l, from0) =>
 optE (loopVal step46_0 (l, from0, r0, (0, 0, false, 0, 0))) (fun e1 =>
  sumE e1 (fun e2 =>
   some ((e2.2, e2.1))) (fun _ =>
   some (((0, 0, false, 0, 0), false))))
  (none)
theorem i46 : ItemOk Try.prog (.fn 46 [.d (.agg (.pair (.slice zI) (.pair zI zF))), .d (.slice zI), .d zI] [.d (.agg (.pair zI (.pair zI (.pair .bool zP)))), .d .bool] s46) := item_fnM md4 ext4 (U := 9) (n := 12) noSpecial mixed Gp7K5_ok (fun x => by kernel_rfl)
noncomputable def Gp7K6 : List Ev.Item := .fn 46 [.d (.agg (.pair (.slice zI) (.pair zI zF))), .d (.slice zI), .d zI] [.d (.agg (.pair zI (.pair zI (.pair .bool zP)))), .d .bool] s46 :: Gp7K5
theorem Gp7K6_ok : ∀ q ∈ Gp7K6, ItemOk Try.prog q := items_cons i46 Gp7K5_ok
noncomputable def s64 : ((List Int) × Int × Int × Int × Int × Int) × (List Int) × Int × Bool → Option (Int) := fun (r0, l, at0, inverted) =>
 optE (s80 (r0.1, l, at0)) (fun r1 =>
  bif inverted then
   some (r1.2)
  else
   some (r1.1))
  (none)
theorem i64 : ItemOk Try.prog (.fn 64 [.d (.agg (.pair (.slice zI) (.pair zI zF))), .d (.slice zI), .d zI, .d .bool] [.d zI] s64) := item_fnM md4 ext4 (U := 9) (n := 12) noSpecial mixed Gp7K6_ok (fun x => by kernel_rfl)
noncomputable def Gp7K7 : List Ev.Item := .fn 64 [.d (.agg (.pair (.slice zI) (.pair zI zF))), .d (.slice zI), .d zI, .d .bool] [.d zI] s64 :: Gp7K6
theorem Gp7K7_ok : ∀ q ∈ Gp7K7, ItemOk Try.prog q := items_cons i64 Gp7K6_ok
@[reducible] def T63_0 : Tmpl := ⟨48, [(4, .ref 4 0 0 0)], [.val 1 (.slice zI), .val 2 zI, .val 3 .bool, .val 10 zI, .cells 4 [.d (.pair (.slice zI) (.pair zI zF))]], [], none⟩
@[reducible] def X63_0 : List (Ex × Tmpl) := [(.ret, ⟨48, [], [.val 8 zI, .val 9 .bool], [], none⟩), (.exit 0, ⟨48, [], [], [], none⟩)]
noncomputable def step63_0 : (List Int) × Int × Bool × Int × ((List Int) × Int × Int × Int × Int × Int) → Option (((List Int) × Int × Bool × Int × ((List Int) × Int × Int × Int × Int × Int)) ⊕ ((Int × Bool) ⊕ (Unit))) := fun (l, x0, inverted, d, r0) =>
 bif decide (d ≤ r0.2.2.2.2.2) then
  optE (s64 (r0, l, wr (x0 - d), inverted)) (fun r2 =>
   bif decide (r2 ≤ r0.2.2.1) then
    some (.inr (.inl (wr (-d), true)))
   else
    optE (s64 (r0, l, wr (x0 + d), inverted)) (fun r3 =>
     bif decide (r3 ≤ r0.2.2.1) then
      some (.inr (.inl (d, true)))
     else
      some (.inl (l, x0, inverted, wr (d + 1), r0)))
     (none))
   (none)
 else
  some (.inr (.inr ()))
theorem one63_0 : oneLoop Try.prog 63 0 = true := by kernel_rfl
theorem lp63_0 : ItemOk Try.prog (.loop 63 0 T63_0 X63_0 (loopVal step63_0)) := item_loopM md4 ext4 (U := 9) (n := 11) noSpecial mixed Gp7K7_ok one63_0 (fun x => by kernel_rfl)
noncomputable def Gp7K8 : List Ev.Item := .loop 63 0 T63_0 X63_0 (loopVal step63_0) :: Gp7K7
theorem Gp7K8_ok : ∀ q ∈ Gp7K8, ItemOk Try.prog q := items_cons lp63_0 Gp7K7_ok
noncomputable def s63 : ((List Int) × Int × Int × Int × Int × Int) × (List Int) × Int × Bool → Option (Int × Bool) := fun (r0, l, x0, inverted) =>
 optE (s64 (r0, l, x0, inverted)) (fun r1 =>
  bif decide (r1 ≤ r0.2.2.1) then
   some ((0, true))
  else
   optE (loopVal step63_0 (l, x0, inverted, 1, r0)) (fun e2 =>
    sumE e2 (fun e3 =>
     some (e3)) (fun _ =>
     some ((0, false))))
    (none))
  (none)
theorem i63 : ItemOk Try.prog (.fn 63 [.d (.agg (.pair (.slice zI) (.pair zI zF))), .d (.slice zI), .d zI, .d .bool] [.d zI, .d .bool] s63) := item_fnM md4 ext4 (U := 9) (n := 12) noSpecial mixed Gp7K8_ok (fun x => by kernel_rfl)
noncomputable def Gp7K9 : List Ev.Item := .fn 63 [.d (.agg (.pair (.slice zI) (.pair zI zF))), .d (.slice zI), .d zI, .d .bool] [.d zI, .d .bool] s63 :: Gp7K8
theorem Gp7K9_ok : ∀ q ∈ Gp7K9, ItemOk Try.prog q := items_cons i63 Gp7K8_ok
@[reducible] def T47_0 : Tmpl := ⟨112, [(3, .ref 3 0 0 0), (5, .ref 5 0 0 0)], [.val 1 (.slice zI), .own 8 110 88 (.agg (.pair zI (.pair zI (.pair .bool zP)))), .val 9 zI, .val 10 zI, .val 11 zI, .cells 3 [.d (.pair (.slice zI) (.pair zI zF))], .cells 5 [.d (.pair zI (.pair zI (.pair .bool zP)))]], [], none⟩
@[reducible] def X47_0 : List (Ex × Tmpl) := [(.ret, ⟨112, [], [.val 6 zI, .own 7 105 88 (.agg (.pair zI (.pair zI (.pair .bool zP))))], [], none⟩)]
noncomputable def step47_0 : (List Int) × (List (Int × Int × Bool × Int × Int)) × Int × Int × Int × ((List Int) × Int × Int × Int × Int × Int) × (Int × Int × Bool × Int × Int) → Option (((List Int) × (List (Int × Int × Bool × Int × Int)) × Int × Int × Int × ((List Int) × Int × Int × Int × Int × Int) × (Int × Int × Bool × Int × Int)) ⊕ (Int × (List (Int × Int × Bool × Int × Int)))) := fun (l, out, last0, count, misses, r0, first0) =>
 bif decide ((wr ((wr ((wr (last0 + r0.2.1)) + r0.2.2.2.2.2)) + (r0.1.length : Int))) > (l.length : Int)) then
  some (.inr ((-1), out))
 else
  optE (s63 (r0, l, wr (last0 + r0.2.1), first0.2.2.1)) (fun r1 =>
   bif r1.2 then
    bif decide (count < r0.2.2.2.1) then
     optE (s64 (r0, l, wr ((wr (last0 + r0.2.1)) + r1.1), first0.2.2.1)) (fun r2 =>
      bif room 40 (out.length + 1) then
       some (.inl (l, out ++ [(1, wr ((wr (last0 + r0.2.1)) + r1.1), first0.2.2.1, r2, r1.1)], wr ((wr (last0 + r0.2.1)) + r1.1), wr (count + 1), 0, r0, first0))
      else
       none)
      (none)
    else
     optE (s64 (r0, l, wr ((wr (last0 + r0.2.1)) + r1.1), first0.2.2.1)) (fun r3 =>
      bif room 40 (out.length + 1) then
       some (.inl (l, out ++ [(2, wr ((wr (last0 + r0.2.1)) + r1.1), first0.2.2.1, r3, r1.1)], wr ((wr (last0 + r0.2.1)) + r1.1), count, 0, r0, first0))
      else
       none)
      (none)
   else
    optE (s64 (r0, l, wr (last0 + r0.2.1), first0.2.2.1)) (fun r4 =>
     bif decide (count < r0.2.2.2.1) then
      bif room 40 (out.length + 1) then
       some (.inr (wr (last0 + 1), out ++ [(4, wr (last0 + r0.2.1), first0.2.2.1, r4, 0)]))
      else
       none
     else
      bif decide ((wr (misses + 1)) > r0.2.2.2.2.1) then
       bif room 40 (out.length + 1) then
        some (.inr (wr (last0 + r0.2.1), out ++ [(4, wr (last0 + r0.2.1), first0.2.2.1, r4, 0)]))
       else
        none
      else
       bif room 40 (out.length + 1) then
        some (.inl (l, out ++ [(3, wr (last0 + r0.2.1), first0.2.2.1, r4, 0)], wr (last0 + r0.2.1), count, wr (misses + 1), r0, first0))
       else
        none)
     (none))
   (none)
theorem one47_0 : oneLoop Try.prog 47 0 = true := by kernel_rfl
theorem lp47_0 : ItemOk Try.prog (.loop 47 0 T47_0 X47_0 (loopVal step47_0)) := item_loopM md4 ext4 (U := 9) (n := 11) noSpecial mixed Gp7K9_ok one47_0 (fun x => by kernel_rfl)
noncomputable def Gp7K10 : List Ev.Item := .loop 47 0 T47_0 X47_0 (loopVal step47_0) :: Gp7K9
theorem Gp7K10_ok : ∀ q ∈ Gp7K10, ItemOk Try.prog q := items_cons lp47_0 Gp7K9_ok
noncomputable def s47 : ((List Int) × Int × Int × Int × Int × Int) × (List Int) × (Int × Int × Bool × Int × Int) → Option (Int × (List (Int × Int × Bool × Int × Int))) := fun (r0, l, first0) =>
 optE (loopVal step47_0 (l, [], first0.2.1, 1, 0, r0, first0)) (fun e1 =>
  some (e1))
  (none)
theorem i47 : ItemOk Try.prog (.fn 47 [.d (.agg (.pair (.slice zI) (.pair zI zF))), .d (.slice zI), .d (.agg (.pair zI (.pair zI (.pair .bool zP))))] [.d zI, .own 88 (.agg (.pair zI (.pair zI (.pair .bool zP))))] s47) := item_fnM md4 ext4 (U := 9) (n := 12) noSpecial mixed Gp7K10_ok (fun x => by kernel_rfl)
noncomputable def Gp7K11 : List Ev.Item := .fn 47 [.d (.agg (.pair (.slice zI) (.pair zI zF))), .d (.slice zI), .d (.agg (.pair zI (.pair zI (.pair .bool zP))))] [.d zI, .own 88 (.agg (.pair zI (.pair zI (.pair .bool zP))))] s47 :: Gp7K10
theorem Gp7K11_ok : ∀ q ∈ Gp7K11, ItemOk Try.prog q := items_cons i47 Gp7K10_ok
@[reducible] def T24_0 : Tmpl := ⟨39, [(2, .ref 2 0 0 0)], [.val 1 (.slice zI), .own 5 34 88 (.agg (.pair zI (.pair zI (.pair .bool zP)))), .val 6 zI, .cells 2 [.d (.pair (.slice zI) (.pair zI zF))]], [], none⟩
@[reducible] def X24_0 : List (Ex × Tmpl) := [(.ret, ⟨39, [], [.own 4 34 88 (.agg (.pair zI (.pair zI (.pair .bool zP))))], [], none⟩)]
noncomputable def step24_0 : (List Int) × (List (Int × Int × Bool × Int × Int)) × Int × ((List Int) × Int × Int × Int × Int × Int) → Option (((List Int) × (List (Int × Int × Bool × Int × Int)) × Int × ((List Int) × Int × Int × Int × Int × Int)) ⊕ (List (Int × Int × Bool × Int × Int))) := fun (l, out, from0, r0) =>
 optE (s46 (r0, l, from0)) (fun r1 =>
  bif !r1.2 then
   some (.inr out)
  else
   bif room 40 (out.length + 1) then
    optE (s47 (r0, l, r1.1)) (fun r2 =>
     bif room 40 ((out ++ [r1.1]).length + r2.2.length) then
      bif decide (r2.1 < 0) then
       some (.inr ((out ++ [r1.1]) ++ r2.2))
      else
       some (.inl (l, (out ++ [r1.1]) ++ r2.2, r2.1, r0))
     else
      none)
     (none)
   else
    none)
  (none)
theorem one24_0 : oneLoop Try.prog 24 0 = true := by kernel_rfl
theorem lp24_0 : ItemOk Try.prog (.loop 24 0 T24_0 X24_0 (loopVal step24_0)) := item_loopM md4 ext4 (U := 9) (n := 11) noSpecial mixed Gp7K11_ok one24_0 (fun x => by kernel_rfl)
noncomputable def Gp7K12 : List Ev.Item := .loop 24 0 T24_0 X24_0 (loopVal step24_0) :: Gp7K11
theorem Gp7K12_ok : ∀ q ∈ Gp7K12, ItemOk Try.prog q := items_cons lp24_0 Gp7K11_ok
noncomputable def s24 : ((List Int) × Int × Int × Int × Int × Int) × (List Int) → Option (List (Int × Int × Bool × Int × Int)) := fun (r0, l) =>
 optE (loopVal step24_0 (l, [], 0, r0)) (fun e1 =>
  some (e1))
  (none)
theorem i24 : ItemOk Try.prog (.fn 24 [.d (.agg (.pair (.slice zI) (.pair zI zF))), .d (.slice zI)] [.own 88 (.agg (.pair zI (.pair zI (.pair .bool zP))))] s24) := item_fnM md4 ext4 (U := 9) (n := 12) noSpecial mixed Gp7K12_ok (fun x => by kernel_rfl)
noncomputable def Gp7K13 : List Ev.Item := .fn 24 [.d (.agg (.pair (.slice zI) (.pair zI zF))), .d (.slice zI)] [.own 88 (.agg (.pair zI (.pair zI (.pair .bool zP))))] s24 :: Gp7K12
theorem Gp7K13_ok : ∀ q ∈ Gp7K13, ItemOk Try.prog q := items_cons i24 Gp7K12_ok
@[reducible] def T26_2 : Tmpl := ⟨77, [(2, .ref 2 0 0 0), (8, .ref 8 0 0 0), (9, .ref 9 0 0 0), (10, .ref 10 0 0 0)], [.val 1 (.slice zI), .own 5 15 88 (.agg (.pair zI (.pair zI (.pair .bool zP)))), .own 6 75 90 (.agg (.pair zI (.pair .bool (.pair zI (.slice zI))))), .val 7 zI, .val 11 zI, .cells 2 [.d (.pair (.slice zI) (.pair zI zF))], .cells 8 [.d (.pair zI (.pair zI (.pair .bool zP)))], .cells 9 [.d (.pair zI (.pair zI (.pair .bool zP)))], .cells 10 [.d zI, .d .bool, .d zI, .own 70 3 zI]], [], none⟩
@[reducible] def X26_2 : List (Ex × Tmpl) := [(.exit 2, ⟨77, [(2, .ref 2 0 0 0), (10, .ref 10 0 0 0)], [.val 1 (.slice zI), .own 5 15 88 (.agg (.pair zI (.pair zI (.pair .bool zP)))), .own 6 75 90 (.agg (.pair zI (.pair .bool (.pair zI (.slice zI))))), .val 7 zI, .cells 2 [.d (.pair (.slice zI) (.pair zI zF))], .cells 10 [.d zI, .d .bool, .d zI, .own 70 3 zI]], [], none⟩)]
noncomputable def step26_2 : (List Int) × (List (Int × Int × Bool × Int × Int)) × (List (Int × Bool × Int × List Int)) × Int × Int × ((List Int) × Int × Int × Int × Int × Int) × (Int × Int × Bool × Int × Int) × (Int × Int × Bool × Int × Int) × (Int × Bool × Int × (List Int)) → Option (((List Int) × (List (Int × Int × Bool × Int × Int)) × (List (Int × Bool × Int × List Int)) × Int × Int × ((List Int) × Int × Int × Int × Int × Int) × (Int × Int × Bool × Int × Int) × (Int × Int × Bool × Int × Int) × (Int × Bool × Int × (List Int))) ⊕ ((List Int) × (List (Int × Int × Bool × Int × Int)) × (List (Int × Bool × Int × List Int)) × Int × ((List Int) × Int × Int × Int × Int × Int) × (Int × Bool × Int × (List Int)))) := fun (l, marks, out, i, k, r0, a, b, f) =>
 bif decide (k < b.2.1) then
  bif inBounds k l.length then
   bif a.2.2.1 then
    bif room 8 (f.2.2.2.length + 1) then
     some (.inl (l, marks, out, i, wr (k + 1), r0, a, b, (f.1, f.2.1, f.2.2.1, f.2.2.2 ++ [wr (-(l.getD k.toNat 0))])))
    else
     none
   else
    bif room 8 (f.2.2.2.length + 1) then
     some (.inl (l, marks, out, i, wr (k + 1), r0, a, b, (f.1, f.2.1, f.2.2.1, f.2.2.2 ++ [l.getD k.toNat 0])))
    else
     none
  else
   none
 else
  some (.inr (l, marks, out, i, r0, f))
theorem one26_2 : oneLoop Try.prog 26 2 = true := by kernel_rfl
theorem lp26_2 : ItemOk Try.prog (.loop 26 2 T26_2 X26_2 (loopVal step26_2)) := item_loopM md4 ext4 (U := 9) (n := 11) noSpecial mixed Gp7K13_ok one26_2 (fun x => by kernel_rfl)
noncomputable def Gp7K14 : List Ev.Item := .loop 26 2 T26_2 X26_2 (loopVal step26_2) :: Gp7K13
theorem Gp7K14_ok : ∀ q ∈ Gp7K14, ItemOk Try.prog q := items_cons lp26_2 Gp7K13_ok
@[reducible] def T26_0 : Tmpl := ⟨77, [(2, .ref 2 0 0 0)], [.val 1 (.slice zI), .own 5 15 88 (.agg (.pair zI (.pair zI (.pair .bool zP)))), .own 6 75 90 (.agg (.pair zI (.pair .bool (.pair zI (.slice zI))))), .val 7 zI, .cells 2 [.d (.pair (.slice zI) (.pair zI zF))]], [], none⟩
@[reducible] def X26_0 : List (Ex × Tmpl) := [(.exit 0, ⟨77, [], [.own 6 75 90 (.agg (.pair zI (.pair .bool (.pair zI (.slice zI)))))], [], none⟩)]
noncomputable def step26_0 : (List Int) × (List (Int × Int × Bool × Int × Int)) × (List (Int × Bool × Int × List Int)) × Int × ((List Int) × Int × Int × Int × Int × Int) → Option (((List Int) × (List (Int × Int × Bool × Int × Int)) × (List (Int × Bool × Int × List Int)) × Int × ((List Int) × Int × Int × Int × Int × Int)) ⊕ (List (Int × Bool × Int × List Int))) := fun (l, marks, out, i, r0) =>
 bif decide (i < (marks.length : Int)) then
  bif inBounds (wr (i - 1)) marks.length then
   bif inBounds i marks.length then
    bif (marks.getD i.toNat (0, 0, false, 0, 0)).1 == 0 then
     some (.inl (l, marks, out, wr (i + 1), r0))
    else
     bif (marks.getD i.toNat (0, 0, false, 0, 0)).1 == 4 then
      some (.inl (l, marks, out, wr (i + 1), r0))
     else
      optE (loopVal step26_2 (l, marks, out, i, wr ((marks.getD (wr (i - 1)).toNat (0, 0, false, 0, 0)).2.1 + (r0.1.length : Int)), r0, (marks.getD (wr (i - 1)).toNat (0, 0, false, 0, 0)), (marks.getD i.toNat (0, 0, false, 0, 0)), ((marks.getD (wr (i - 1)).toNat (0, 0, false, 0, 0)).2.1, (marks.getD (wr (i - 1)).toNat (0, 0, false, 0, 0)).2.2.1, (marks.getD i.toNat (0, 0, false, 0, 0)).2.2.2.2, []))) (fun e2 =>
       bif room 48 (e2.2.2.1.length + 1) then
        some (.inl (e2.1, e2.2.1, e2.2.2.1 ++ [e2.2.2.2.2.2], wr (e2.2.2.2.1 + 1), e2.2.2.2.2.1))
       else
        none)
       (none)
   else
    none
  else
   none
 else
  some (.inr out)
theorem one26_0 : oneLoop Try.prog 26 0 = true := by kernel_rfl
theorem lp26_0 : ItemOk Try.prog (.loop 26 0 T26_0 X26_0 (loopVal step26_0)) := item_loopM md4 ext4 (U := 9) (n := 11) noSpecial mixed Gp7K14_ok one26_0 (fun x => by kernel_rfl)
noncomputable def Gp7K15 : List Ev.Item := .loop 26 0 T26_0 X26_0 (loopVal step26_0) :: Gp7K14
theorem Gp7K15_ok : ∀ q ∈ Gp7K15, ItemOk Try.prog q := items_cons lp26_0 Gp7K14_ok
noncomputable def s26 : ((List Int) × Int × Int × Int × Int × Int) × (List Int) → Option (List (Int × Bool × Int × List Int)) := fun (r0, l) =>
 optE (s24 (r0, l)) (fun r1 =>
  optE (loopVal step26_0 (l, r1, [], 1, r0)) (fun e2 =>
   some (e2))
   (none))
  (none)
theorem i26 : ItemOk Try.prog (.fn 26 [.d (.agg (.pair (.slice zI) (.pair zI zF))), .d (.slice zI)] [.own 90 (.agg (.pair zI (.pair .bool (.pair zI (.slice zI)))))] s26) := item_fnM md4 ext4 (U := 9) (n := 12) noSpecial mixed Gp7K15_ok (fun x => by kernel_rfl)
noncomputable def Gp7K16 : List Ev.Item := .fn 26 [.d (.agg (.pair (.slice zI) (.pair zI zF))), .d (.slice zI)] [.own 90 (.agg (.pair zI (.pair .bool (.pair zI (.slice zI)))))] s26 :: Gp7K15
theorem Gp7K16_ok : ∀ q ∈ Gp7K16, ItemOk Try.prog q := items_cons i26 Gp7K15_ok
end Go.Proofs.Ythckjfbhdjjnkaa
