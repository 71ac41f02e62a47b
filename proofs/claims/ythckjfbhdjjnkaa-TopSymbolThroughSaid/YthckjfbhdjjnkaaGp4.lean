/- Printed by gen.py: specifications of functions. -/
import Derived.Test.YthckjfbhdjjnkaaGp3
set_option linter.unusedSimpArgs false
set_option maxRecDepth 100000
namespace Go.Proofs.Ythckjfbhdjjnkaa
open Go.Ev
noncomputable def s38 : (List (Int × Int)) × Int → Option (Int) := fun (l, length) =>
 optE (s33 l) (fun r1 =>
  optE (s40 (length, 1, 16)) (fun r2 =>
   optE (s39 (r2, 2)) (fun r3 =>
    optE (s37 [r1, r3]) (fun r4 =>
     some (r4))
     (none))
    (none))
   (none))
  (none)
theorem i38 : ItemOk Try.prog (.fn 38 [.d (.slice (.agg zP)), .d zI] [.d zI] s38) := item_fnM md4 ext4 (U := 9) (n := 12) noSpecial mixed Gp3K7_ok (fun x => by kernel_rfl)
noncomputable def Gp4K1 : List Ev.Item := .fn 38 [.d (.slice (.agg zP)), .d zI] [.d zI] s38 :: Gp3K7
theorem Gp4K1_ok : ∀ q ∈ Gp4K1, ItemOk Try.prog q := items_cons i38 Gp3K7_ok
@[reducible] def T59_0 : Tmpl := ⟨29, [(2, .ref 2 0 0 0)], [.val 3 .zc, .val 6 (.slice (.agg zP)), .val 7 zI, .val 8 zI, .cells 2 [.d zP]], [], none⟩
@[reducible] def X59_0 : List (Ex × Tmpl) := [(.exit 0, ⟨29, [(2, .ref 2 0 0 0)], [.val 3 .zc, .cells 2 [.d zP]], [], none⟩)]
noncomputable def step59_0 : (Int × Int) × (List (Int × Int)) × Int × Int × (Int × Int) → Option (((Int × Int) × (List (Int × Int)) × Int × Int × (Int × Int)) ⊕ ((Int × Int) × (Int × Int))) := fun (out, t6, t7, t8, t2) =>
 bif decide (t8 < t7) then
  bif inBounds t8 t6.length then
   bif small24 (t6.getD t8.toNat (0, 0)).1 then
    bif small24 (t6.getD t8.toNat (0, 0)).2 then
     bif (small24 (out.1 + (t6.getD t8.toNat (0, 0)).1)) && (small24 (out.2 + (t6.getD t8.toNat (0, 0)).2)) then
      some (.inl ((out.1 + (t6.getD t8.toNat (0, 0)).1, out.2 + (t6.getD t8.toNat (0, 0)).2), t6, t7, wr (t8 + 1), t2))
     else
      none
    else
     none
   else
    none
  else
   none
 else
  some (.inr (out, t2))
theorem one59_0 : oneLoop Try.prog 59 0 = true := by kernel_rfl
theorem lp59_0 : ItemOk Try.prog (.loop 59 0 T59_0 X59_0 (loopVal step59_0)) := item_loopM md4 ext4 (U := 9) (n := 11) noSpecial mixed Gp4K1_ok one59_0 (fun x => by kernel_rfl)
noncomputable def Gp4K2 : List Ev.Item := .loop 59 0 T59_0 X59_0 (loopVal step59_0) :: Gp4K1
theorem Gp4K2_ok : ∀ q ∈ Gp4K2, ItemOk Try.prog q := items_cons lp59_0 Gp4K1_ok
noncomputable def s59 : List (Int × Int) → Option (Int × Int) := fun l =>
 optE (loopVal step59_0 ((0, 0), l, (l.length : Int), 0, (0, 0))) (fun e1 =>
  some (e1.1))
  (none)
theorem i59 : ItemOk Try.prog (.fn 59 [.d (.slice (.agg zP))] [.d (.agg zP)] s59) := item_fnM md4 ext4 (U := 9) (n := 12) noSpecial mixed Gp4K2_ok (fun x => by kernel_rfl)
noncomputable def Gp4K3 : List Ev.Item := .fn 59 [.d (.slice (.agg zP))] [.d (.agg zP)] s59 :: Gp4K2
theorem Gp4K3_ok : ∀ q ∈ Gp4K3, ItemOk Try.prog q := items_cons i59 Gp4K2_ok
@[reducible] def T41_0 : Tmpl := ⟨30, [], [.val 0 (.slice (.agg zP)), .val 1 zI, .own 7 28 36 (.agg zP), .val 8 zI], [], none⟩
@[reducible] def X41_0 : List (Ex × Tmpl) := [(.exit 0, ⟨30, [], [.own 7 28 36 (.agg zP)], [], none⟩)]
noncomputable def step41_0 : (List (Int × Int)) × Int × (List (Int × Int)) × Int → Option (((List (Int × Int)) × Int × (List (Int × Int)) × Int) ⊕ (List (Int × Int))) := fun (l, length, out, at0) =>
 bif decide ((wr (at0 + length)) ≤ (l.length : Int)) then
  bif (decide (0 ≤ at0)) && ((decide (at0 ≤ (wr (at0 + length)))) && (decide ((wr (at0 + length)) ≤ (l.length : Int)))) then
   optE (s59 ((l.take (wr (at0 + length)).toNat).drop at0.toNat)) (fun r1 =>
    bif room 16 (out.length + 1) then
     some (.inl (l, length, out ++ [r1], wr (at0 + length)))
    else
     none)
    (none)
  else
   none
 else
  some (.inr out)
theorem one41_0 : oneLoop Try.prog 41 0 = true := by kernel_rfl
theorem lp41_0 : ItemOk Try.prog (.loop 41 0 T41_0 X41_0 (loopVal step41_0)) := item_loopM md4 ext4 (U := 9) (n := 11) noSpecial mixed Gp4K3_ok one41_0 (fun x => by kernel_rfl)
noncomputable def Gp4K4 : List Ev.Item := .loop 41 0 T41_0 X41_0 (loopVal step41_0) :: Gp4K3
theorem Gp4K4_ok : ∀ q ∈ Gp4K4, ItemOk Try.prog q := items_cons lp41_0 Gp4K3_ok
noncomputable def s41 : (List (Int × Int)) × Int × Int → Option (List (Int × Int)) := fun (l, length, offset) =>
 optE (loopVal step41_0 (l, length, [], offset)) (fun e1 =>
  some (e1))
  (none)
theorem i41 : ItemOk Try.prog (.fn 41 [.d (.slice (.agg zP)), .d zI, .d zI] [.own 36 (.agg zP)] s41) := item_fnM md4 ext4 (U := 9) (n := 12) noSpecial mixed Gp4K4_ok (fun x => by kernel_rfl)
noncomputable def Gp4K5 : List Ev.Item := .fn 41 [.d (.slice (.agg zP)), .d zI, .d zI] [.own 36 (.agg zP)] s41 :: Gp4K4
theorem Gp4K5_ok : ∀ q ∈ Gp4K5, ItemOk Try.prog q := items_cons i41 Gp4K4_ok
@[reducible] def T34_2 : Tmpl := ⟨51, [], [.val 0 (.slice (.agg zP)), .val 1 zI, .val 7 zI, .own 8 48 3 zI, .val 10 zI, .val 25 zI, .val 26 zI, .val 34 (.slice (.agg zP)), .val 35 zI, .val 36 zI], [], none⟩
@[reducible] def X34_2 : List (Ex × Tmpl) := [(.exit 2, ⟨51, [], [.val 0 (.slice (.agg zP)), .val 1 zI, .val 7 zI, .own 8 48 3 zI, .val 10 zI, .val 25 zI, .val 26 zI], [], none⟩)]
noncomputable def step34_2 : (List (Int × Int)) × Int × Int × (List Int) × Int × Int × Int × (List (Int × Int)) × Int × Int → Option (((List (Int × Int)) × Int × Int × (List Int) × Int × Int × Int × (List (Int × Int)) × Int × Int) ⊕ ((List (Int × Int)) × Int × Int × (List Int) × Int × Int × Int)) := fun (l, length, count, out, total, t25, t26, t34, t35, t36) =>
 bif decide (t36 < t35) then
  bif inBounds t36 t34.length then
   optE (s58 (t34.getD t36.toNat (0, 0))) (fun r4 =>
    some (.inl (l, length, count, out, wr (total + r4), t25, t26, t34, t35, wr (t36 + 1))))
    (none)
  else
   none
 else
  some (.inr (l, length, count, out, total, t25, t26))
theorem one34_2 : oneLoop Try.prog 34 2 = true := by kernel_rfl
theorem lp34_2 : ItemOk Try.prog (.loop 34 2 T34_2 X34_2 (loopVal step34_2)) := item_loopM md4 ext4 (U := 9) (n := 11) noSpecial mixed Gp4K5_ok one34_2 (fun x => by kernel_rfl)
noncomputable def Gp4K6 : List Ev.Item := .loop 34 2 T34_2 X34_2 (loopVal step34_2) :: Gp4K5
theorem Gp4K6_ok : ∀ q ∈ Gp4K6, ItemOk Try.prog q := items_cons lp34_2 Gp4K5_ok
@[reducible] def T34_0 : Tmpl := ⟨51, [], [.val 0 (.slice (.agg zP)), .val 1 zI, .val 7 zI, .own 8 48 3 zI, .val 25 zI, .val 26 zI], [], none⟩
@[reducible] def X34_0 : List (Ex × Tmpl) := [(.exit 0, ⟨51, [], [.own 8 48 3 zI], [], none⟩)]
noncomputable def step34_0 : (List (Int × Int)) × Int × Int × (List Int) × Int × Int → Option (((List (Int × Int)) × Int × Int × (List Int) × Int × Int) ⊕ (List Int)) := fun (l, length, count, out, t25, t26) =>
 bif decide (t26 < t25) then
  optE (s41 (l, length, t26)) (fun r3 =>
   bif (decide (0 ≤ count)) && (decide (count ≤ (r3.length : Int))) then
    optE (loopVal step34_2 (l, length, count, out, 0, t25, t26, r3.take count.toNat, ((r3.take count.toNat).length : Int), 0)) (fun e4 =>
     bif room 8 (e4.2.2.2.1.length + 1) then
      some (.inl (e4.1, e4.2.1, e4.2.2.1, e4.2.2.2.1 ++ [e4.2.2.2.2.1], e4.2.2.2.2.2.1, wr (e4.2.2.2.2.2.2 + 1)))
     else
      none)
     (none)
   else
    none)
   (none)
 else
  some (.inr out)
theorem one34_0 : oneLoop Try.prog 34 0 = true := by kernel_rfl
theorem lp34_0 : ItemOk Try.prog (.loop 34 0 T34_0 X34_0 (loopVal step34_0)) := item_loopM md4 ext4 (U := 9) (n := 11) noSpecial mixed Gp4K6_ok one34_0 (fun x => by kernel_rfl)
noncomputable def Gp4K7 : List Ev.Item := .loop 34 0 T34_0 X34_0 (loopVal step34_0) :: Gp4K6
theorem Gp4K7_ok : ∀ q ∈ Gp4K7, ItemOk Try.prog q := items_cons lp34_0 Gp4K6_ok
noncomputable def s34 : (List (Int × Int)) × Int → Option ((List Int) × Int) := fun (l, length) =>
 optE (s38 (l, length)) (fun r1 =>
  bif r1 != 0 then
   some (([], r1))
  else
   optE (s41 (l, length, wr (length - 1))) (fun r2 =>
    optE (loopVal step34_0 (l, length, (r2.length : Int), [], length, 0)) (fun e3 =>
     some ((e3, 0)))
     (none))
    (none))
  (none)
theorem i34 : ItemOk Try.prog (.fn 34 [.d (.slice (.agg zP)), .d zI] [.own 3 zI, .d zI] s34) := item_fnM md4 ext4 (U := 9) (n := 12) noSpecial mixed Gp4K7_ok (fun x => by kernel_rfl)
noncomputable def Gp4K8 : List Ev.Item := .fn 34 [.d (.slice (.agg zP)), .d zI] [.own 3 zI, .d zI] s34 :: Gp4K7
theorem Gp4K8_ok : ∀ q ∈ Gp4K8, ItemOk Try.prog q := items_cons i34 Gp4K7_ok
@[reducible] def T36_0 : Tmpl := ⟨25, [], [.val 0 (.slice zI), .val 3 zI, .val 4 zI], [], none⟩
@[reducible] def X36_0 : List (Ex × Tmpl) := [(.exit 0, ⟨25, [], [.val 3 zI], [], none⟩)]
noncomputable def step36_0 : (List Int) × Int × Int → Option (((List Int) × Int × Int) ⊕ (Int)) := fun (x0, m, i) =>
 bif decide (i < (x0.length : Int)) then
  bif inBounds i x0.length then
   some (.inl (x0, mx m (x0.getD i.toNat 0), wr (i + 1)))
  else
   none
 else
  some (.inr m)
theorem one36_0 : oneLoop Try.prog 36 0 = true := by kernel_rfl
theorem lp36_0 : ItemOk Try.prog (.loop 36 0 T36_0 X36_0 (loopVal step36_0)) := item_loopM md4 ext4 (U := 9) (n := 11) noSpecial mixed Gp4K8_ok one36_0 (fun x => by kernel_rfl)
noncomputable def Gp4K9 : List Ev.Item := .loop 36 0 T36_0 X36_0 (loopVal step36_0) :: Gp4K8
theorem Gp4K9_ok : ∀ q ∈ Gp4K9, ItemOk Try.prog q := items_cons lp36_0 Gp4K8_ok
noncomputable def s36 : List Int → Option (Int) := fun x0 =>
 bif decide ((x0.length : Int) < 1) then
  none
 else
  bif inBounds 0 x0.length then
   optE (loopVal step36_0 (x0, x0.getD 0 0, 1)) (fun e1 =>
    some (e1))
    (none)
  else
   none
theorem i36 : ItemOk Try.prog (.fn 36 [.d (.slice zI)] [.d zI] s36) := item_fnM md4 ext4 (U := 9) (n := 12) noSpecial mixed Gp4K9_ok (fun x => by kernel_rfl)
noncomputable def Gp4K10 : List Ev.Item := .fn 36 [.d (.slice zI)] [.d zI] s36 :: Gp4K9
theorem Gp4K10_ok : ∀ q ∈ Gp4K10, ItemOk Try.prog q := items_cons i36 Gp4K9_ok
@[reducible] def T35_0 : Tmpl := ⟨19, [], [.val 0 (.slice zI), .val 1 zI, .val 7 zI, .val 8 zI], [], none⟩
@[reducible] def X35_0 : List (Ex × Tmpl) := [(.ret, ⟨19, [], [.val 4 zI], [], none⟩), (.exit 0, ⟨19, [], [], [], none⟩)]
noncomputable def step35_0 : (List Int) × Int × Int × Int → Option (((List Int) × Int × Int × Int) ⊕ ((Int) ⊕ (Unit))) := fun (s, v, t7, t8) =>
 bif decide (t8 < t7) then
  bif inBounds t8 s.length then
   bif v == (s.getD t8.toNat 0) then
    some (.inr (.inl t8))
   else
    some (.inl (s, v, t7, wr (t8 + 1)))
  else
   none
 else
  some (.inr (.inr ()))
theorem one35_0 : oneLoop Try.prog 35 0 = true := by kernel_rfl
theorem lp35_0 : ItemOk Try.prog (.loop 35 0 T35_0 X35_0 (loopVal step35_0)) := item_loopM md4 ext4 (U := 9) (n := 11) noSpecial mixed Gp4K10_ok one35_0 (fun x => by kernel_rfl)
noncomputable def Gp4K11 : List Ev.Item := .loop 35 0 T35_0 X35_0 (loopVal step35_0) :: Gp4K10
theorem Gp4K11_ok : ∀ q ∈ Gp4K11, ItemOk Try.prog q := items_cons lp35_0 Gp4K10_ok
noncomputable def s35 : (List Int) × Int → Option (Int) := fun (s, v) =>
 optE (loopVal step35_0 (s, v, (s.length : Int), 0)) (fun e1 =>
  sumE e1 (fun e2 =>
   some (e2)) (fun _ =>
   some ((-1))))
  (none)
theorem i35 : ItemOk Try.prog (.fn 35 [.d (.slice zI), .d zI] [.d zI] s35) := item_fnM md4 ext4 (U := 9) (n := 12) noSpecial mixed Gp4K11_ok (fun x => by kernel_rfl)
noncomputable def Gp4K12 : List Ev.Item := .fn 35 [.d (.slice zI), .d zI] [.d zI] s35 :: Gp4K11
theorem Gp4K12_ok : ∀ q ∈ Gp4K12, ItemOk Try.prog q := items_cons i35 Gp4K11_ok
noncomputable def s14 : (List (Int × Int)) × Int → Option (Int × Int) := fun (l, length) =>
 optE (s34 (l, length)) (fun r1 =>
  bif r1.2 != 0 then
   some ((0, r1.2))
  else
   optE (s36 r1.1) (fun r2 =>
    optE (s35 (r1.1, r2)) (fun r3 =>
     some ((r3, 0)))
     (none))
    (none))
  (none)
theorem i14 : ItemOk Try.prog (.fn 14 [.d (.slice (.agg zP)), .d zI] [.d zI, .d zI] s14) := item_fnM md4 ext4 (U := 9) (n := 12) noSpecial mixed Gp4K12_ok (fun x => by kernel_rfl)
noncomputable def Gp4K13 : List Ev.Item := .fn 14 [.d (.slice (.agg zP)), .d zI] [.d zI, .d zI] s14 :: Gp4K12
theorem Gp4K13_ok : ∀ q ∈ Gp4K13, ItemOk Try.prog q := items_cons i14 Gp4K12_ok
noncomputable def s15 : (List (Int × Int)) × Int × Int → Option ((List (Int × Int)) × Int) := fun (l, length, offset) =>
 optE (s38 (l, length)) (fun r1 =>
  optE (s40 (offset, 0, wr (length - 1))) (fun r2 =>
   optE (s39 (r2, 2)) (fun r3 =>
    optE (s37 [r1, r3]) (fun r4 =>
     bif r4 != 0 then
      some (([], r4))
     else
      optE (s41 (l, length, offset)) (fun r5 =>
       some ((r5, 0)))
       (none))
     (none))
    (none))
   (none))
  (none)
theorem i15 : ItemOk Try.prog (.fn 15 [.d (.slice (.agg zP)), .d zI, .d zI] [.own 36 (.agg zP), .d zI] s15) := item_fnM md4 ext4 (U := 9) (n := 12) noSpecial mixed Gp4K13_ok (fun x => by kernel_rfl)
noncomputable def Gp4K14 : List Ev.Item := .fn 15 [.d (.slice (.agg zP)), .d zI, .d zI] [.own 36 (.agg zP), .d zI] s15 :: Gp4K13
theorem Gp4K14_ok : ∀ q ∈ Gp4K14, ItemOk Try.prog q := items_cons i15 Gp4K13_ok
end Go.Proofs.Ythckjfbhdjjnkaa
