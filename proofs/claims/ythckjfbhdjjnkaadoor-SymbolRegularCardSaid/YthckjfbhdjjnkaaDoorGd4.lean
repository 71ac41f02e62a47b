/- Printed by gen.py: specifications of functions. -/
import Derived.Test.YthckjfbhdjjnkaaDoorGd3
set_option linter.unusedSimpArgs false
set_option maxRecDepth 100000
namespace Go.Proofs.YthckjfbhdjjnkaaDoor
open Go.Ev
@[reducible] def T145_0a : Tmpl := ⟨19, [], [.val 0 (.slice zI), .val 1 (.clo 135 (.pair (.ptr (.clo 119 .unit)) .unit)), .val 7 zI, .val 8 zI], [], none⟩
@[reducible] def X145_0a : List (Ex × Tmpl) := [(.ret, ⟨19, [], [.val 4 zI], [], none⟩), (.exit 0, ⟨19, [], [], [], none⟩)]
noncomputable def step145_0a : (List Int) × (Unit × Unit) × Int × Int → Option (((List Int) × (Unit × Unit) × Int × Int) ⊕ ((Int) ⊕ (Unit))) := fun (s, f, t7, t8) =>
 bif decide (t8 < t7) then
  bif inBounds t8 s.length then
   optE (s119 (s.getD t8.toNat 0)) (fun r2 =>
    bif !r2 then
     some (.inr (.inl t8))
    else
     some (.inl (s, f, t7, wr (t8 + 1))))
    (none)
  else
   none
 else
  some (.inr (.inr ()))
theorem one145_0a : oneLoop Tryd.prog 145 0 = true := by kernel_rfl
theorem lp145_0a : ItemOk Tryd.prog (.loop 145 0 T145_0a X145_0a (loopVal step145_0a)) := item_loopM md4 ext4 (U := 9) (n := 8) noSpecial mixed Gd3K18_ok one145_0a (fun x => by kernel_rfl)
noncomputable def Gd4K2 : List Ev.Item := .loop 145 0 T145_0a X145_0a (loopVal step145_0a) :: Gd3K18
theorem Gd4K2_ok : ∀ q ∈ Gd4K2, ItemOk Tryd.prog q := items_cons lp145_0a Gd3K18_ok
noncomputable def s85 : List Int → Option (Int) := fun l =>
 optE (s82 (decide ((l.length : Int) ≤ 600), 8)) (fun r1 =>
  optE (loopVal step145_0a (l, ((), ()), (l.length : Int), 0)) (fun e2 =>
   sumE e2 (fun e3 =>
    optE (s82 (!(decide (e3 ≥ 0)), 2)) (fun r5 =>
     optE (s80 [r1, r5]) (fun r6 =>
      some (r6))
      (none))
     (none)) (fun _ =>
    optE (s82 (true, 2)) (fun r7 =>
     optE (s80 [r1, r7]) (fun r8 =>
      some (r8))
      (none))
     (none)))
   (none))
  (none)
theorem i85 : ItemOk Tryd.prog (.fn 85 [.d (.slice zI)] [.d zI] s85) := item_fnM md4 ext4 (U := 9) (n := 12) noSpecial mixed Gd4K2_ok (fun x => by kernel_rfl)
noncomputable def Gd4K3 : List Ev.Item := .fn 85 [.d (.slice zI)] [.d zI] s85 :: Gd4K2
theorem Gd4K3_ok : ∀ q ∈ Gd4K3, ItemOk Tryd.prog q := items_cons i85 Gd4K2_ok
@[reducible] def T30_0 : Tmpl := ⟨19, [], [.val 0 (.slice zI), .val 3 zI], [], none⟩
@[reducible] def X30_0 : List (Ex × Tmpl) := [(.ret, ⟨19, [], [.val 2 zI], [], none⟩), (.exit 0, ⟨19, [], [], [], none⟩)]
noncomputable def step30_0 : (List Int) × Int → Option (((List Int) × Int) ⊕ ((Int) ⊕ (Unit))) := fun (l, i) =>
 bif decide (i < (l.length : Int)) then
  bif inBounds i l.length then
   optE (s28 (l.getD i.toNat 0, (-7), 7)) (fun r1 =>
    bif !r1 then
     some (.inr (.inl 2))
    else
     some (.inl (l, wr (i + 1))))
    (none)
  else
   none
 else
  some (.inr (.inr ()))
theorem one30_0 : oneLoop Tryd.prog 30 0 = true := by kernel_rfl
theorem lp30_0 : ItemOk Tryd.prog (.loop 30 0 T30_0 X30_0 (loopVal step30_0)) := item_loopM md4 ext4 (U := 9) (n := 11) noSpecial mixed Gd4K3_ok one30_0 (fun x => by kernel_rfl)
noncomputable def Gd4K14 : List Ev.Item := .loop 30 0 T30_0 X30_0 (loopVal step30_0) :: Gd4K3
theorem Gd4K14_ok : ∀ q ∈ Gd4K14, ItemOk Tryd.prog q := items_cons lp30_0 Gd4K3_ok
noncomputable def s30 : List Int → Option (Int) := fun l =>
 bif decide ((l.length : Int) > 600) then
  some (8)
 else
  optE (loopVal step30_0 (l, 0)) (fun e1 =>
   sumE e1 (fun e2 =>
    some (e2)) (fun _ =>
    some (0)))
   (none)
theorem i30 : ItemOk Tryd.prog (.fn 30 [.d (.slice zI)] [.d zI] s30) := item_fnM md4 ext4 (U := 9) (n := 12) noSpecial mixed Gd4K14_ok (fun x => by kernel_rfl)
noncomputable def Gd4K15 : List Ev.Item := .fn 30 [.d (.slice zI)] [.d zI] s30 :: Gd4K14
theorem Gd4K15_ok : ∀ q ∈ Gd4K15, ItemOk Tryd.prog q := items_cons i30 Gd4K14_ok
noncomputable def s87 : Int → Option (Int) := fun n =>
 bif decide (n > 0) then
  some (0)
 else
  bif decide (n < 0) then
   some (1)
  else
   some ((-1))
theorem i87 : ItemOk Tryd.prog (.fn 87 [.d zI] [.d zI] s87) := item_fnM md4 ext4 (U := 9) (n := 12) noSpecial mixed Gd4K15_ok (fun x => by kernel_rfl)
noncomputable def Gd4K16 : List Ev.Item := .fn 87 [.d zI] [.d zI] s87 :: Gd4K15
theorem Gd4K16_ok : ∀ q ∈ Gd4K16, ItemOk Tryd.prog q := items_cons i87 Gd4K15_ok
noncomputable def s64 : Int × Int → Option (Int) := fun z =>
 bif decide (z.1 > 0) then
  bif decide (z.2 ≥ 0) then
   some (0)
  else
   bif decide (z.2 > 0) then
    bif decide (z.1 ≤ 0) then
     some (1)
    else
     bif decide (z.1 < 0) then
      bif decide (z.2 ≤ 0) then
       some (2)
      else
       some (3)
     else
      some (3)
   else
    bif decide (z.1 < 0) then
     bif decide (z.2 ≤ 0) then
      some (2)
     else
      some (3)
    else
     some (3)
 else
  bif decide (z.2 > 0) then
   bif decide (z.1 ≤ 0) then
    some (1)
   else
    bif decide (z.1 < 0) then
     bif decide (z.2 ≤ 0) then
      some (2)
     else
      some (3)
    else
     some (3)
  else
   bif decide (z.1 < 0) then
    bif decide (z.2 ≤ 0) then
     some (2)
    else
     some (3)
   else
    some (3)
theorem i64 : ItemOk Tryd.prog (.fn 64 [.d (.agg zP)] [.d zI] s64) := item_fnM md4 ext4 (U := 9) (n := 12) noSpecial mixed Gd4K16_ok (fun x => by kernel_rfl)
noncomputable def Gd4K21 : List Ev.Item := .fn 64 [.d (.agg zP)] [.d zI] s64 :: Gd4K16
theorem Gd4K21_ok : ∀ q ∈ Gd4K21, ItemOk Tryd.prog q := items_cons i64 Gd4K16_ok
end Go.Proofs.YthckjfbhdjjnkaaDoor
