/- Printed by gen.py: specifications of functions. -/
import Derived.Test.YthckjfbhdjjnkaaDoorGd1
set_option linter.unusedSimpArgs false
set_option maxRecDepth 100000
namespace Go.Proofs.YthckjfbhdjjnkaaDoor
open Go.Ev
noncomputable def s17 : List Int → Option (Bool) := fun l =>
 bif decide ((l.length : Int) ≤ 120) then
  some (true)
 else
  bif decide ((l.length : Int) > 600) then
   some (decide ((l.length : Int) ≤ 602))
  else
   some (false)
theorem i17 : ItemOk Tryd.prog (.fn 17 [.d (.slice zI)] [.d .bool] s17) := item_fnM md4 ext4 (U := 9) (n := 12) noSpecial mixed Gd1K5_ok (fun x => by kernel_rfl)
noncomputable def Gd2K1 : List Ev.Item := .fn 17 [.d (.slice zI)] [.d .bool] s17 :: Gd1K5
theorem Gd2K1_ok : ∀ q ∈ Gd2K1, ItemOk Tryd.prog q := items_cons i17 Gd1K5_ok
noncomputable def s22 : List Int → Option (List Int) := fun l =>
 bif room 8 (0 + l.length) then
  some (l)
 else
  none
theorem i22 : ItemOk Tryd.prog (.fn 22 [.d (.slice zI)] [.own 3 zI] s22) := item_fnM md4 ext4 (U := 9) (n := 12) noSpecial mixed Gd2K1_ok (fun x => by kernel_rfl)
noncomputable def Gd2K2 : List Ev.Item := .fn 22 [.d (.slice zI)] [.own 3 zI] s22 :: Gd2K1
theorem Gd2K2_ok : ∀ q ∈ Gd2K2, ItemOk Tryd.prog q := items_cons i22 Gd2K1_ok
@[reducible] def T80_0 : Tmpl := ⟨15, [], [.val 5 (.slice zI), .val 6 zI, .val 7 zI], [], none⟩
@[reducible] def X80_0 : List (Ex × Tmpl) := [(.ret, ⟨15, [], [.val 2 zI], [], none⟩), (.exit 0, ⟨15, [], [], [], none⟩)]
noncomputable def step80_0 : (List Int) × Int × Int → Option (((List Int) × Int × Int) ⊕ ((Int) ⊕ (Unit))) := fun (t5, t6, t7) =>
 bif decide (t7 < t6) then
  bif inBounds t7 t5.length then
   bif (t5.getD t7.toNat 0) != 0 then
    some (.inr (.inl (t5.getD t7.toNat 0)))
   else
    some (.inl (t5, t6, wr (t7 + 1)))
  else
   none
 else
  some (.inr (.inr ()))
theorem one80_0 : oneLoop Tryd.prog 80 0 = true := by kernel_rfl
theorem lp80_0 : ItemOk Tryd.prog (.loop 80 0 T80_0 X80_0 (loopVal step80_0)) := item_loopM md4 ext4 (U := 9) (n := 11) noSpecial mixed Gd2K2_ok one80_0 (fun x => by kernel_rfl)
noncomputable def Gd2K3 : List Ev.Item := .loop 80 0 T80_0 X80_0 (loopVal step80_0) :: Gd2K2
theorem Gd2K3_ok : ∀ q ∈ Gd2K3, ItemOk Tryd.prog q := items_cons lp80_0 Gd2K2_ok
noncomputable def s80 : List Int → Option (Int) := fun l =>
 optE (loopVal step80_0 (l, (l.length : Int), 0)) (fun e1 =>
  sumE e1 (fun e2 =>
   some (e2)) (fun _ =>
   some (0)))
  (none)
theorem i80 : ItemOk Tryd.prog (.fn 80 [.d (.slice zI)] [.d zI] s80) := item_fnM md4 ext4 (U := 9) (n := 12) noSpecial mixed Gd2K3_ok (fun x => by kernel_rfl)
noncomputable def Gd2K4 : List Ev.Item := .fn 80 [.d (.slice zI)] [.d zI] s80 :: Gd2K3
theorem Gd2K4_ok : ∀ q ∈ Gd2K4, ItemOk Tryd.prog q := items_cons i80 Gd2K3_ok
@[reducible] def T145_0 : Tmpl := ⟨19, [], [.val 0 (.slice zI), .val 1 (.clo 135 (.pair (.ptr (.clo 93 .unit)) .unit)), .val 7 zI, .val 8 zI], [], none⟩
@[reducible] def X145_0 : List (Ex × Tmpl) := [(.ret, ⟨19, [], [.val 4 zI], [], none⟩), (.exit 0, ⟨19, [], [], [], none⟩)]
noncomputable def step145_0 : (List Int) × (Unit × Unit) × Int × Int → Option (((List Int) × (Unit × Unit) × Int × Int) ⊕ ((Int) ⊕ (Unit))) := fun (s, f, t7, t8) =>
 bif decide (t8 < t7) then
  bif inBounds t8 s.length then
   optE (s93 (s.getD t8.toNat 0)) (fun r2 =>
    bif !r2 then
     some (.inr (.inl t8))
    else
     some (.inl (s, f, t7, wr (t8 + 1))))
    (none)
  else
   none
 else
  some (.inr (.inr ()))
theorem one145_0 : oneLoop Tryd.prog 145 0 = true := by kernel_rfl
theorem lp145_0 : ItemOk Tryd.prog (.loop 145 0 T145_0 X145_0 (loopVal step145_0)) := item_loopM md4 ext4 (U := 9) (n := 8) noSpecial mixed Gd2K4_ok one145_0 (fun x => by kernel_rfl)
noncomputable def Gd2K5 : List Ev.Item := .loop 145 0 T145_0 X145_0 (loopVal step145_0) :: Gd2K4
theorem Gd2K5_ok : ∀ q ∈ Gd2K5, ItemOk Tryd.prog q := items_cons lp145_0 Gd2K4_ok
noncomputable def s92 : List Int → Option (Int) := fun l =>
 optE (s82 (decide ((l.length : Int) ≤ 600), 8)) (fun r1 =>
  optE (loopVal step145_0 (l, ((), ()), (l.length : Int), 0)) (fun e2 =>
   sumE e2 (fun e3 =>
    optE (s82 (!(decide (e3 ≥ 0)), 2)) (fun r5 =>
     optE (s80 [r1, r5]) (fun r6 =>
      some (r6))
      (none))
     (none)) (fun _ =>
    optE (s82 (true, 2)) (fun r7 =>
     optE (s80 [r1, r7]) (fun r8 =>
      some (r8))
      (none))
     (none)))
   (none))
  (none)
theorem i92 : ItemOk Tryd.prog (.fn 92 [.d (.slice zI)] [.d zI] s92) := item_fnM md4 ext4 (U := 9) (n := 12) noSpecial mixed Gd2K5_ok (fun x => by kernel_rfl)
noncomputable def Gd2K6 : List Ev.Item := .fn 92 [.d (.slice zI)] [.d zI] s92 :: Gd2K5
theorem Gd2K6_ok : ∀ q ∈ Gd2K6, ItemOk Tryd.prog q := items_cons i92 Gd2K5_ok
@[reducible] def T37_0 : Tmpl := ⟨41, [], [.own 7 38 3 zI, .val 22 (.slice zI), .val 23 zI, .val 24 zI], [], none⟩
@[reducible] def X37_0 : List (Ex × Tmpl) := [(.exit 0, ⟨41, [], [.own 7 38 3 zI], [], none⟩)]
noncomputable def step37_0 : (List Int) × (List Int) × Int × Int → Option (((List Int) × (List Int) × Int × Int) ⊕ (List Int)) := fun (out, t22, t23, t24) =>
 bif decide (t24 < t23) then
  bif inBounds t24 t22.length then
   bif inBounds t24 out.length then
    bif room 8 (out.length + 1) then
     some (.inl (out ++ [Int.tmod (wr ((out.getD t24.toNat 0) + (t22.getD t24.toNat 0))) 4], t22, t23, wr (t24 + 1)))
    else
     none
   else
    none
  else
   none
 else
  some (.inr out)
theorem one37_0 : oneLoop Tryd.prog 37 0 = true := by kernel_rfl
theorem lp37_0 : ItemOk Tryd.prog (.loop 37 0 T37_0 X37_0 (loopVal step37_0)) := item_loopM md4 ext4 (U := 9) (n := 11) noSpecial mixed Gd2K6_ok one37_0 (fun x => by kernel_rfl)
noncomputable def Gd2K9 : List Ev.Item := .loop 37 0 T37_0 X37_0 (loopVal step37_0) :: Gd2K6
theorem Gd2K9_ok : ∀ q ∈ Gd2K9, ItemOk Tryd.prog q := items_cons lp37_0 Gd2K6_ok
noncomputable def s37 : Int × (List Int) → Option ((List Int) × Int) := fun (start, differences) =>
 optE (s93 start) (fun r1 =>
  optE (s82 (r1, 2)) (fun r2 =>
   optE (s92 differences) (fun r3 =>
    optE (s80 [r2, r3]) (fun r4 =>
     bif r4 != 0 then
      some (([], r4))
     else
      optE (loopVal step37_0 ([start], differences, (differences.length : Int), 0)) (fun e5 =>
       some ((e5, 0)))
       (none))
     (none))
    (none))
   (none))
  (none)
theorem i37 : ItemOk Tryd.prog (.fn 37 [.d zI, .d (.slice zI)] [.own 3 zI, .d zI] s37) := item_fnM md4 ext4 (U := 9) (n := 12) noSpecial mixed Gd2K9_ok (fun x => by kernel_rfl)
noncomputable def Gd2K10 : List Ev.Item := .fn 37 [.d zI, .d (.slice zI)] [.own 3 zI, .d zI] s37 :: Gd2K9
theorem Gd2K10_ok : ∀ q ∈ Gd2K10, ItemOk Tryd.prog q := items_cons i37 Gd2K9_ok
noncomputable def s28 : Int × Int × Int → Option (Bool) := fun (n, lo, hi) =>
 bif decide (lo ≤ n) then
  some (decide (n ≤ hi))
 else
  some (false)
theorem i28 : ItemOk Tryd.prog (.fn 28 [.d zI, .d zI, .d zI] [.d .bool] s28) := item_fnM md4 ext4 (U := 9) (n := 12) noSpecial mixed Gd2K10_ok (fun x => by kernel_rfl)
noncomputable def Gd2K11 : List Ev.Item := .fn 28 [.d zI, .d zI, .d zI] [.d .bool] s28 :: Gd2K10
theorem Gd2K11_ok : ∀ q ∈ Gd2K11, ItemOk Tryd.prog q := items_cons i28 Gd2K10_ok
@[reducible] def T26_0 : Tmpl := ⟨26, [], [.val 0 (.slice zI), .val 1 (.slice zI), .val 5 zI], [], none⟩
@[reducible] def X26_0 : List (Ex × Tmpl) := [(.ret, ⟨26, [], [.val 4 .bool], [], none⟩), (.exit 0, ⟨26, [], [], [], none⟩)]
noncomputable def step26_0 : (List Int) × (List Int) × Int → Option (((List Int) × (List Int) × Int) ⊕ ((Bool) ⊕ (Unit))) := fun (a, b, i) =>
 bif decide (i < (a.length : Int)) then
  bif inBounds i a.length then
   bif inBounds i b.length then
    bif (a.getD i.toNat 0) != (b.getD i.toNat 0) then
     some (.inr (.inl false))
    else
     some (.inl (a, b, wr (i + 1)))
   else
    none
  else
   none
 else
  some (.inr (.inr ()))
theorem one26_0 : oneLoop Tryd.prog 26 0 = true := by kernel_rfl
theorem lp26_0 : ItemOk Tryd.prog (.loop 26 0 T26_0 X26_0 (loopVal step26_0)) := item_loopM md4 ext4 (U := 9) (n := 11) noSpecial mixed Gd2K11_ok one26_0 (fun x => by kernel_rfl)
noncomputable def Gd2K17 : List Ev.Item := .loop 26 0 T26_0 X26_0 (loopVal step26_0) :: Gd2K11
theorem Gd2K17_ok : ∀ q ∈ Gd2K17, ItemOk Tryd.prog q := items_cons lp26_0 Gd2K11_ok
noncomputable def s26 : (List Int) × (List Int) → Option (Bool) := fun (a, b) =>
 bif (a.length : Int) != (b.length : Int) then
  some (false)
 else
  optE (loopVal step26_0 (a, b, 0)) (fun e1 =>
   sumE e1 (fun e2 =>
    some (e2)) (fun _ =>
    some (true)))
   (none)
theorem i26 : ItemOk Tryd.prog (.fn 26 [.d (.slice zI), .d (.slice zI)] [.d .bool] s26) := item_fnM md4 ext4 (U := 9) (n := 12) noSpecial mixed Gd2K17_ok (fun x => by kernel_rfl)
noncomputable def Gd2K18 : List Ev.Item := .fn 26 [.d (.slice zI), .d (.slice zI)] [.d .bool] s26 :: Gd2K17
theorem Gd2K18_ok : ∀ q ∈ Gd2K18, ItemOk Tryd.prog q := items_cons i26 Gd2K17_ok
end Go.Proofs.YthckjfbhdjjnkaaDoor
