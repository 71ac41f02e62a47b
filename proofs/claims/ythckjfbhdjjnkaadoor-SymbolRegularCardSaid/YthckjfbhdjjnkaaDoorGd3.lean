/- Printed by gen.py: specifications of functions. -/
import Derived.Test.YthckjfbhdjjnkaaDoorGd2
set_option linter.unusedSimpArgs false
set_option maxRecDepth 100000
namespace Go.Proofs.YthckjfbhdjjnkaaDoor
open Go.Ev
noncomputable def s124 : (Int × Int) × (Int × Int) → Option (Int × Int) := fun (a, b) =>
 some ((wr (a.1 + b.1), wr (a.2 + b.2)))
theorem i124 : ItemOk Tryd.prog (.fn 124 [.d (.agg zP), .d (.agg zP)] [.d (.agg zP)] s124) := item_fnM md4 ext4 (U := 9) (n := 12) noSpecial mixed Gd2K18_ok (fun x => by kernel_rfl)
noncomputable def Gd3K13 : List Ev.Item := .fn 124 [.d (.agg zP), .d (.agg zP)] [.d (.agg zP)] s124 :: Gd2K18
theorem Gd3K13_ok : ∀ q ∈ Gd3K13, ItemOk Tryd.prog q := items_cons i124 Gd2K18_ok
@[reducible] def T99_0 : Tmpl := ⟨23, [(6, .ref 6 0 0 0), (7, .ref 7 0 0 0)], [.val 0 (.slice (.agg zP)), .val 1 zI, .val 2 zI, .val 8 zI, .cells 6 [.d zP], .cells 7 [.d zP]], [], none⟩
@[reducible] def X99_0 : List (Ex × Tmpl) := [(.exit 0, ⟨23, [(6, .ref 6 0 0 0), (7, .ref 7 0 0 0)], [.cells 6 [.d zP], .cells 7 [.d zP]], [], none⟩)]
noncomputable def step99_0 : (List (Int × Int)) × Int × Int × Int × (Int × Int) × (Int × Int) → Option (((List (Int × Int)) × Int × Int × Int × (Int × Int) × (Int × Int)) ⊕ ((Int × Int) × (Int × Int))) := fun (l, from0, count, i, t6, out) =>
 bif decide (i < count) then
  bif inBounds (wr (from0 + i)) l.length then
   optE (s124 (out, (l.getD (wr (from0 + i)).toNat (0, 0)))) (fun r1 =>
    some (.inl (l, from0, count, wr (i + 1), t6, r1)))
    (none)
  else
   none
 else
  some (.inr (t6, out))
theorem one99_0 : oneLoop Tryd.prog 99 0 = true := by kernel_rfl
theorem lp99_0 : ItemOk Tryd.prog (.loop 99 0 T99_0 X99_0 (loopVal step99_0)) := item_loopM md4 ext4 (U := 9) (n := 11) noSpecial mixed Gd3K13_ok one99_0 (fun x => by kernel_rfl)
noncomputable def Gd3K14 : List Ev.Item := .loop 99 0 T99_0 X99_0 (loopVal step99_0) :: Gd3K13
theorem Gd3K14_ok : ∀ q ∈ Gd3K14, ItemOk Tryd.prog q := items_cons lp99_0 Gd3K13_ok
noncomputable def s99 : (List (Int × Int)) × Int × Int → Option (Int × Int) := fun (l, from0, count) =>
 optE (loopVal step99_0 (l, from0, count, 0, (0, 0), (0, 0))) (fun e1 =>
  some (e1.2))
  (none)
theorem i99 : ItemOk Tryd.prog (.fn 99 [.d (.slice (.agg zP)), .d zI, .d zI] [.d (.agg zP)] s99) := item_fnM md4 ext4 (U := 9) (n := 12) noSpecial mixed Gd3K14_ok (fun x => by kernel_rfl)
noncomputable def Gd3K15 : List Ev.Item := .fn 99 [.d (.slice (.agg zP)), .d zI, .d zI] [.d (.agg zP)] s99 :: Gd3K14
theorem Gd3K15_ok : ∀ q ∈ Gd3K15, ItemOk Tryd.prog q := items_cons i99 Gd3K14_ok
noncomputable def s98 : Int × Int → Option (Int) := fun a =>
 some (wr ((wr (a.1 * a.1)) + (wr (a.2 * a.2))))
theorem i98 : ItemOk Tryd.prog (.fn 98 [.d (.agg zP)] [.d zI] s98) := item_fnM md4 ext4 (U := 9) (n := 12) noSpecial mixed Gd3K15_ok (fun x => by kernel_rfl)
noncomputable def Gd3K16 : List Ev.Item := .fn 98 [.d (.agg zP)] [.d zI] s98 :: Gd3K15
theorem Gd3K16_ok : ∀ q ∈ Gd3K16, ItemOk Tryd.prog q := items_cons i98 Gd3K15_ok
@[reducible] def T46_0 : Tmpl := ⟨57, [(2, .ref 2 0 0 0)], [.val 1 (.slice (.agg zP)), .own 5 20 3 zI, .val 6 zI, .cells 2 [.d zP]], [], none⟩
@[reducible] def X46_0 : List (Ex × Tmpl) := [(.exit 0, ⟨57, [], [.own 5 20 3 zI], [], none⟩)]
noncomputable def step46_0 : (List (Int × Int)) × (List Int) × Int × (Int × Int) → Option (((List (Int × Int)) × (List Int) × Int × (Int × Int)) ⊕ (List Int)) := fun (l, out, p, t) =>
 bif decide ((wr (p + t.1)) ≤ (l.length : Int)) then
  bif room 8 (out.length + 1) then
   optE (s99 (l, p, wr (Int.tdiv t.1 2))) (fun r1 =>
    optE (s98 r1) (fun r2 =>
     optE (s99 (l, wr (p + (wr (Int.tdiv t.1 2))), wr (Int.tdiv t.1 2))) (fun r3 =>
      optE (s98 r3) (fun r4 =>
       bif decide (r4 > (wr (r2 + t.2))) then
        some (.inl (l, out ++ [p], wr ((wr (p + t.1)) + 1), t))
       else
        bif decide (r2 > (wr (r4 + t.2))) then
         some (.inl (l, out ++ [p], wr ((wr (p + t.1)) - 1), t))
        else
         some (.inl (l, out ++ [p], wr (p + t.1), t)))
       (none))
      (none))
     (none))
    (none)
  else
   none
 else
  some (.inr out)
theorem one46_0 : oneLoop Tryd.prog 46 0 = true := by kernel_rfl
theorem lp46_0 : ItemOk Tryd.prog (.loop 46 0 T46_0 X46_0 (loopVal step46_0)) := item_loopM md4 ext4 (U := 9) (n := 11) noSpecial mixed Gd3K16_ok one46_0 (fun x => by kernel_rfl)
noncomputable def Gd3K17 : List Ev.Item := .loop 46 0 T46_0 X46_0 (loopVal step46_0) :: Gd3K16
theorem Gd3K17_ok : ∀ q ∈ Gd3K17, ItemOk Tryd.prog q := items_cons lp46_0 Gd3K16_ok
noncomputable def s46 : (Int × Int) × (List (Int × Int)) → Option (List Int) := fun (t, l) =>
 optE (loopVal step46_0 (l, [], 0, t)) (fun e1 =>
  some (e1))
  (none)
theorem i46 : ItemOk Tryd.prog (.fn 46 [.d (.agg zP), .d (.slice (.agg zP))] [.own 3 zI] s46) := item_fnM md4 ext4 (U := 9) (n := 12) noSpecial mixed Gd3K17_ok (fun x => by kernel_rfl)
noncomputable def Gd3K18 : List Ev.Item := .fn 46 [.d (.agg zP), .d (.slice (.agg zP))] [.own 3 zI] s46 :: Gd3K17
theorem Gd3K18_ok : ∀ q ∈ Gd3K18, ItemOk Tryd.prog q := items_cons i46 Gd3K17_ok
end Go.Proofs.YthckjfbhdjjnkaaDoor
