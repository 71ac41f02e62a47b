/- Printed by gen.py: specifications of functions. -/
import Derived.Test.YthabingkfmlbbaaGreatGm1
set_option linter.unusedSimpArgs false
set_option maxRecDepth 100000
namespace Go.Proofs.YthabingkfmlbbaaGreat
open Go.Ev
@[reducible] def T74_0 : Tmpl := ⟨41, [(2, .ref 2 0 0 0)], [.own 5 39 3 zI, .val 7 zI, .cells 2 [.d (.pair zI (.pair zP zP))]], [], none⟩
@[reducible] def X74_0 : List (Ex × Tmpl) := [(.exit 0, ⟨41, [], [.own 5 39 3 zI], [], none⟩)]
noncomputable def step74_0 : (List Int) × Int × (Int × (Int × Int) × Int × Int) → Option (((List Int) × Int × (Int × (Int × Int) × Int × Int)) ⊕ (List Int)) := fun (out, p, d) =>
 bif decide (p ≤ d.2.1.2) then
  bif room 8 (out.length + 1) then
   some (.inl (out ++ [p], wr (p + d.1), d))
  else
   none
 else
  some (.inr out)
theorem one74_0 : oneLoop Tryz.prog 74 0 = true := by kernel_rfl
theorem lp74_0 : ItemOk Tryz.prog (.loop 74 0 T74_0 X74_0 (loopVal step74_0)) := item_loopM md5 ext5 (U := 9) (n := 11) noSpecial mixed Gm1K15_ok one74_0 (fun x => by kernel_rfl)
noncomputable def Gm2K1 : List Ev.Item := .loop 74 0 T74_0 X74_0 (loopVal step74_0) :: Gm1K15
theorem Gm2K1_ok : ∀ q ∈ Gm2K1, ItemOk Tryz.prog q := items_cons lp74_0 Gm1K15_ok
noncomputable def s74 : (Int × (Int × Int) × Int × Int) × Int → Option (List Int) := fun (d, target) =>
 bif !(d.1 == 0) then
  bif !(d.1 == 0) then
   optE (loopVal step74_0 ([], wr (d.2.1.1 + (Int.tmod (wr ((Int.tmod (wr (target - d.2.1.1)) d.1) + d.1)) d.1)), d)) (fun e1 =>
    some (e1))
    (none)
  else
   none
 else
  none
theorem i74 : ItemOk Tryz.prog (.fn 74 [.d (.agg (.pair zI (.pair zP zP))), .d zI] [.own 3 zI] s74) := item_fnM md5 ext5 (U := 9) (n := 12) noSpecial mixed Gm2K1_ok (fun x => by kernel_rfl)
noncomputable def Gm2K2 : List Ev.Item := .fn 74 [.d (.agg (.pair zI (.pair zP zP))), .d zI] [.own 3 zI] s74 :: Gm2K1
theorem Gm2K2_ok : ∀ q ∈ Gm2K2, ItemOk Tryz.prog q := items_cons i74 Gm2K1_ok
@[reducible] def T41_0 : Tmpl := ⟨49, [(2, .ref 2 0 0 0)], [.val 1 (.slice zI), .own 5 11 90 (.agg (.pair (.slice zI) (.slice zI))), .val 6 zI, .cells 2 [.d (.pair zI (.pair zP zP))]], [], none⟩
@[reducible] def X41_0 : List (Ex × Tmpl) := [(.exit 0, ⟨49, [], [.own 5 11 90 (.agg (.pair (.slice zI) (.slice zI)))], [], none⟩)]
noncomputable def step41_0 : (List Int) × (List ((List Int) × List Int)) × Int × (Int × (Int × Int) × Int × Int) → Option (((List Int) × (List ((List Int) × List Int)) × Int × (Int × (Int × Int) × Int × Int)) ⊕ (List ((List Int) × List Int))) := fun (targets, out, i, d) =>
 bif decide (i ≥ 0) then
  bif inBounds i targets.length then
   optE (s74 (d, targets.getD i.toNat 0)) (fun r1 =>
    bif (decide (0 ≤ (r1.length : Int))) && ((decide ((r1.length : Int) = (r1.length : Int))) && (room 8 (r1.length : Int).toNat)) then
     bif decide ((wr (i + 1)) < (targets.length : Int)) then
      bif inBounds (wr (i + 1)) out.length then
       optE (s75 (r1, (out.getD (wr (i + 1)).toNat ([], [])), d.2.2.2)) (fun r2 =>
        bif inBounds i out.length then
         some (.inl (targets, out.set i.toNat (r1, r2), wr (i - 1), d))
        else
         none)
        (none)
      else
       none
     else
      bif inBounds i out.length then
       some (.inl (targets, out.set i.toNat (r1, List.replicate (r1.length : Int).toNat (0 : Int)), wr (i - 1), d))
      else
       none
    else
     none)
    (none)
  else
   none
 else
  some (.inr out)
theorem one41_0 : oneLoop Tryz.prog 41 0 = true := by kernel_rfl
theorem lp41_0 : ItemOk Tryz.prog (.loop 41 0 T41_0 X41_0 (loopVal step41_0)) := item_loopM md5 ext5 (U := 9) (n := 11) noSpecial mixed Gm2K2_ok one41_0 (fun x => by kernel_rfl)
noncomputable def Gm2K3 : List Ev.Item := .loop 41 0 T41_0 X41_0 (loopVal step41_0) :: Gm2K2
theorem Gm2K3_ok : ∀ q ∈ Gm2K3, ItemOk Tryz.prog q := items_cons lp41_0 Gm2K2_ok
noncomputable def s41 : (Int × (Int × Int) × Int × Int) × (List Int) → Option (List ((List Int) × List Int)) := fun (d, targets) =>
 bif (decide (0 ≤ (targets.length : Int))) && ((decide ((targets.length : Int) = (targets.length : Int))) && (room 48 (targets.length : Int).toNat)) then
  optE (loopVal step41_0 (targets, List.replicate (targets.length : Int).toNat ([], []), wr ((targets.length : Int) - 1), d)) (fun e1 =>
   some (e1))
   (none)
 else
  none
theorem i41 : ItemOk Tryz.prog (.fn 41 [.d (.agg (.pair zI (.pair zP zP))), .d (.slice zI)] [.own 90 (.agg (.pair (.slice zI) (.slice zI)))] s41) := item_fnM md5 ext5 (U := 9) (n := 12) noSpecial mixed Gm2K3_ok (fun x => by kernel_rfl)
noncomputable def Gm2K4 : List Ev.Item := .fn 41 [.d (.agg (.pair zI (.pair zP zP))), .d (.slice zI)] [.own 90 (.agg (.pair (.slice zI) (.slice zI)))] s41 :: Gm2K3
theorem Gm2K4_ok : ∀ q ∈ Gm2K4, ItemOk Tryz.prog q := items_cons i41 Gm2K3_ok
noncomputable def s42 : (Int × (Int × Int) × Int × Int) × (List ((List Int) × List Int)) → Option (Int) := fun (d, l) =>
 bif (l.length : Int) == 0 then
  some (0)
 else
  bif inBounds 0 l.length then
   optE (s75 ([d.2.2.1], (l.getD 0 ([], [])), d.2.2.2)) (fun r1 =>
    bif inBounds 0 r1.length then
     some (r1.getD 0 0)
    else
     none)
    (none)
  else
   none
theorem i42 : ItemOk Tryz.prog (.fn 42 [.d (.agg (.pair zI (.pair zP zP))), .d (.slice (.agg (.pair (.slice zI) (.slice zI))))] [.d zI] s42) := item_fnM md5 ext5 (U := 9) (n := 12) noSpecial mixed Gm2K4_ok (fun x => by kernel_rfl)
noncomputable def Gm2K5 : List Ev.Item := .fn 42 [.d (.agg (.pair zI (.pair zP zP))), .d (.slice (.agg (.pair (.slice zI) (.slice zI))))] [.d zI] s42 :: Gm2K4
theorem Gm2K5_ok : ∀ q ∈ Gm2K5, ItemOk Tryz.prog q := items_cons i42 Gm2K4_ok
@[reducible] def T16_2 : Tmpl := ⟨88, [(2, .ref 2 0 0 0), (14, .ref 14 0 0 0)], [.val 9 zI, .own 10 84 3 zI, .val 11 zI, .val 12 zI, .val 15 zI, .own 33 24 90 (.agg (.pair (.slice zI) (.slice zI))), .val 34 zI, .val 35 zI, .cells 2 [.d (.pair zI (.pair zP zP))], .cells 14 [.d (.pair (.slice zI) (.slice zI))]], [], none⟩
@[reducible] def X16_2 : List (Ex × Tmpl) := [(.exit 2, ⟨88, [(2, .ref 2 0 0 0), (14, .ref 14 0 0 0)], [.val 9 zI, .own 10 84 3 zI, .val 15 zI, .own 33 24 90 (.agg (.pair (.slice zI) (.slice zI))), .val 34 zI, .val 35 zI, .cells 2 [.d (.pair zI (.pair zP zP))], .cells 14 [.d (.pair (.slice zI) (.slice zI))]], [], none⟩)]
noncomputable def step16_2 : Int × (List Int) × Int × Int × Int × (List ((List Int) × List Int)) × Int × Int × (Int × (Int × Int) × Int × Int) × ((List Int) × List Int) → Option ((Int × (List Int) × Int × Int × Int × (List ((List Int) × List Int)) × Int × Int × (Int × (Int × Int) × Int × Int) × ((List Int) × List Int)) ⊕ (Int × (List Int) × Int × (List ((List Int) × List Int)) × Int × Int × (Int × (Int × Int) × Int × Int) × ((List Int) × List Int))) := fun (travel, out, now, left, i, t33, t34, t35, d, s) =>
 bif inBounds i s.1.length then
  bif inBounds i s.1.length then
   bif inBounds i s.2.length then
    bif (wr ((mx (wr ((s.1.getD i.toNat 0) - now)) (wr (now - (s.1.getD i.toNat 0)))) + (s.2.getD i.toNat 0))) != left then
     some (.inl (travel, out, now, left, wr (i + 1), t33, t34, t35, d, s))
    else
     some (.inr (travel, out, i, t33, t34, t35, d, s))
   else
    none
  else
   none
 else
  none
theorem one16_2 : oneLoop Tryz.prog 16 2 = true := by kernel_rfl
theorem lp16_2 : ItemOk Tryz.prog (.loop 16 2 T16_2 X16_2 (loopVal step16_2)) := item_loopM md5 ext5 (U := 9) (n := 11) noSpecial mixed Gm2K5_ok one16_2 (fun x => by kernel_rfl)
noncomputable def Gm2K6 : List Ev.Item := .loop 16 2 T16_2 X16_2 (loopVal step16_2) :: Gm2K5
theorem Gm2K6_ok : ∀ q ∈ Gm2K6, ItemOk Tryz.prog q := items_cons lp16_2 Gm2K5_ok
@[reducible] def T16_0 : Tmpl := ⟨88, [(2, .ref 2 0 0 0)], [.val 9 zI, .own 10 84 3 zI, .val 11 zI, .val 12 zI, .own 33 24 90 (.agg (.pair (.slice zI) (.slice zI))), .val 34 zI, .val 35 zI, .cells 2 [.d (.pair zI (.pair zP zP))]], [], none⟩
@[reducible] def X16_0 : List (Ex × Tmpl) := [(.exit 0, ⟨88, [], [.val 9 zI, .own 10 84 3 zI], [], none⟩)]
noncomputable def step16_0 : Int × (List Int) × Int × Int × (List ((List Int) × List Int)) × Int × Int × (Int × (Int × Int) × Int × Int) → Option ((Int × (List Int) × Int × Int × (List ((List Int) × List Int)) × Int × Int × (Int × (Int × Int) × Int × Int)) ⊕ (Int × (List Int))) := fun (travel, out, now, left, t33, t34, t35, d) =>
 bif decide (t35 < t34) then
  bif inBounds t35 t33.length then
   optE (s43 ((t33.getD t35.toNat ([], [])).1, wr (now - d.2.2.2))) (fun r4 =>
    optE (loopVal step16_2 (travel, out, now, left, r4, t33, t34, t35, d, (t33.getD t35.toNat ([], [])))) (fun e5 =>
     bif inBounds e5.2.2.1 e5.2.2.2.2.2.2.2.1.length then
      bif inBounds e5.2.2.1 e5.2.2.2.2.2.2.2.2.length then
       bif room 8 (e5.2.1.length + 1) then
        some (.inl (e5.1, e5.2.1 ++ [e5.2.2.2.2.2.2.2.1.getD e5.2.2.1.toNat 0], e5.2.2.2.2.2.2.2.1.getD e5.2.2.1.toNat 0, e5.2.2.2.2.2.2.2.2.getD e5.2.2.1.toNat 0, e5.2.2.2.1, e5.2.2.2.2.1, wr (e5.2.2.2.2.2.1 + 1), e5.2.2.2.2.2.2.1))
       else
        none
      else
       none
     else
      none)
     (none))
    (none)
  else
   none
 else
  some (.inr (travel, out))
theorem one16_0 : oneLoop Tryz.prog 16 0 = true := by kernel_rfl
theorem lp16_0 : ItemOk Tryz.prog (.loop 16 0 T16_0 X16_0 (loopVal step16_0)) := item_loopM md5 ext5 (U := 9) (n := 11) noSpecial mixed Gm2K6_ok one16_0 (fun x => by kernel_rfl)
noncomputable def Gm2K7 : List Ev.Item := .loop 16 0 T16_0 X16_0 (loopVal step16_0) :: Gm2K6
theorem Gm2K7_ok : ∀ q ∈ Gm2K7, ItemOk Tryz.prog q := items_cons lp16_0 Gm2K6_ok
noncomputable def s16 : (Int × (Int × Int) × Int × Int) × (List Int) → Option ((List Int) × Int × Int) := fun (d, targets) =>
 optE (s40 (d, targets)) (fun r1 =>
  bif r1 != 0 then
   some (([], 0, r1))
  else
   optE (s41 (d, targets)) (fun r2 =>
    optE (s42 (d, r2)) (fun r3 =>
     bif decide (r3 ≥ 576460752303423488) then
      some (([], 0, 12))
     else
      optE (loopVal step16_0 (r3, [], d.2.2.1, r3, r2, (r2.length : Int), 0, d)) (fun e4 =>
       some ((e4.2, e4.1, 0)))
       (none))
     (none))
    (none))
  (none)
theorem i16 : ItemOk Tryz.prog (.fn 16 [.d (.agg (.pair zI (.pair zP zP))), .d (.slice zI)] [.own 3 zI, .d zI, .d zI] s16) := item_fnM md5 ext5 (U := 9) (n := 12) noSpecial mixed Gm2K7_ok (fun x => by kernel_rfl)
noncomputable def Gm2K8 : List Ev.Item := .fn 16 [.d (.agg (.pair zI (.pair zP zP))), .d (.slice zI)] [.own 3 zI, .d zI, .d zI] s16 :: Gm2K7
theorem Gm2K8_ok : ∀ q ∈ Gm2K8, ItemOk Tryz.prog q := items_cons i16 Gm2K7_ok
end Go.Proofs.YthabingkfmlbbaaGreat
