/- Printed by gen.py: specifications of functions. -/
import Derived.Test.YthabingkfmlbbaaGm1
set_option linter.unusedSimpArgs false
set_option maxRecDepth 100000
namespace Go.Proofs.Ythabingkfmlbbaa
open Go.Ev
@[reducible] def T43_0 : Tmpl := ⟨41, [(2, .ref 2 0 0 0)], [.own 5 39 3 zI, .val 7 zI, .cells 2 [.d (.pair zI (.pair zP zP))]], [], none⟩
@[reducible] def X43_0 : List (Ex × Tmpl) := [(.exit 0, ⟨41, [], [.own 5 39 3 zI], [], none⟩)]
noncomputable def step43_0 : (List Int) × Int × (Int × (Int × Int) × Int × Int) → Option (((List Int) × Int × (Int × (Int × Int) × Int × Int)) ⊕ (List Int)) := fun (out, p, d) =>
 bif decide (p ≤ d.2.1.2) then
  bif room 8 (out.length + 1) then
   some (.inl (out ++ [p], wr (p + d.1), d))
  else
   none
 else
  some (.inr out)
theorem one43_0 : oneLoop Try.prog 43 0 = true := by kernel_rfl
theorem lp43_0 : ItemOk Try.prog (.loop 43 0 T43_0 X43_0 (loopVal step43_0)) := item_loopM md5 ext5 (U := 9) (n := 11) noSpecial mixed Gm1K15_ok one43_0 (fun x => by kernel_rfl)
noncomputable def Gm2K1 : List Ev.Item := .loop 43 0 T43_0 X43_0 (loopVal step43_0) :: Gm1K15
theorem Gm2K1_ok : ∀ q ∈ Gm2K1, ItemOk Try.prog q := items_cons lp43_0 Gm1K15_ok
noncomputable def s43 : (Int × (Int × Int) × Int × Int) × Int → Option (List Int) := fun (d, target) =>
 bif !(d.1 == 0) then
  bif !(d.1 == 0) then
   optE (loopVal step43_0 ([], wr (d.2.1.1 + (Int.tmod (wr ((Int.tmod (wr (target - d.2.1.1)) d.1) + d.1)) d.1)), d)) (fun e1 =>
    some (e1))
    (none)
  else
   none
 else
  none
theorem i43 : ItemOk Try.prog (.fn 43 [.d (.agg (.pair zI (.pair zP zP))), .d zI] [.own 3 zI] s43) := item_fnM md5 ext5 (U := 9) (n := 12) noSpecial mixed Gm2K1_ok (fun x => by kernel_rfl)
noncomputable def Gm2K2 : List Ev.Item := .fn 43 [.d (.agg (.pair zI (.pair zP zP))), .d zI] [.own 3 zI] s43 :: Gm2K1
theorem Gm2K2_ok : ∀ q ∈ Gm2K2, ItemOk Try.prog q := items_cons i43 Gm2K1_ok
@[reducible] def T29_0 : Tmpl := ⟨49, [(2, .ref 2 0 0 0)], [.val 1 (.slice zI), .own 5 11 62 (.agg (.pair (.slice zI) (.slice zI))), .val 6 zI, .cells 2 [.d (.pair zI (.pair zP zP))]], [], none⟩
@[reducible] def X29_0 : List (Ex × Tmpl) := [(.exit 0, ⟨49, [], [.own 5 11 62 (.agg (.pair (.slice zI) (.slice zI)))], [], none⟩)]
noncomputable def step29_0 : (List Int) × (List ((List Int) × List Int)) × Int × (Int × (Int × Int) × Int × Int) → Option (((List Int) × (List ((List Int) × List Int)) × Int × (Int × (Int × Int) × Int × Int)) ⊕ (List ((List Int) × List Int))) := fun (targets, out, i, d) =>
 bif decide (i ≥ 0) then
  bif inBounds i targets.length then
   optE (s43 (d, targets.getD i.toNat 0)) (fun r1 =>
    bif (decide (0 ≤ (r1.length : Int))) && ((decide ((r1.length : Int) = (r1.length : Int))) && (room 8 (r1.length : Int).toNat)) then
     bif decide ((wr (i + 1)) < (targets.length : Int)) then
      bif inBounds (wr (i + 1)) out.length then
       optE (s44 (r1, (out.getD (wr (i + 1)).toNat ([], [])), d.2.2.2)) (fun r2 =>
        bif inBounds i out.length then
         some (.inl (targets, out.set i.toNat (r1, r2), wr (i - 1), d))
        else
         none)
        (none)
      else
       none
     else
      bif inBounds i out.length then
       some (.inl (targets, out.set i.toNat (r1, List.replicate (r1.length : Int).toNat (0 : Int)), wr (i - 1), d))
      else
       none
    else
     none)
    (none)
  else
   none
 else
  some (.inr out)
theorem one29_0 : oneLoop Try.prog 29 0 = true := by kernel_rfl
theorem lp29_0 : ItemOk Try.prog (.loop 29 0 T29_0 X29_0 (loopVal step29_0)) := item_loopM md5 ext5 (U := 9) (n := 11) noSpecial mixed Gm2K2_ok one29_0 (fun x => by kernel_rfl)
noncomputable def Gm2K3 : List Ev.Item := .loop 29 0 T29_0 X29_0 (loopVal step29_0) :: Gm2K2
theorem Gm2K3_ok : ∀ q ∈ Gm2K3, ItemOk Try.prog q := items_cons lp29_0 Gm2K2_ok
noncomputable def s29 : (Int × (Int × Int) × Int × Int) × (List Int) → Option (List ((List Int) × List Int)) := fun (d, targets) =>
 bif (decide (0 ≤ (targets.length : Int))) && ((decide ((targets.length : Int) = (targets.length : Int))) && (room 48 (targets.length : Int).toNat)) then
  optE (loopVal step29_0 (targets, List.replicate (targets.length : Int).toNat ([], []), wr ((targets.length : Int) - 1), d)) (fun e1 =>
   some (e1))
   (none)
 else
  none
theorem i29 : ItemOk Try.prog (.fn 29 [.d (.agg (.pair zI (.pair zP zP))), .d (.slice zI)] [.own 62 (.agg (.pair (.slice zI) (.slice zI)))] s29) := item_fnM md5 ext5 (U := 9) (n := 12) noSpecial mixed Gm2K3_ok (fun x => by kernel_rfl)
noncomputable def Gm2K4 : List Ev.Item := .fn 29 [.d (.agg (.pair zI (.pair zP zP))), .d (.slice zI)] [.own 62 (.agg (.pair (.slice zI) (.slice zI)))] s29 :: Gm2K3
theorem Gm2K4_ok : ∀ q ∈ Gm2K4, ItemOk Try.prog q := items_cons i29 Gm2K3_ok
noncomputable def s30 : (Int × (Int × Int) × Int × Int) × (List ((List Int) × List Int)) → Option (Int) := fun (d, l) =>
 bif (l.length : Int) == 0 then
  some (0)
 else
  bif inBounds 0 l.length then
   optE (s44 ([d.2.2.1], (l.getD 0 ([], [])), d.2.2.2)) (fun r1 =>
    bif inBounds 0 r1.length then
     some (r1.getD 0 0)
    else
     none)
    (none)
  else
   none
theorem i30 : ItemOk Try.prog (.fn 30 [.d (.agg (.pair zI (.pair zP zP))), .d (.slice (.agg (.pair (.slice zI) (.slice zI))))] [.d zI] s30) := item_fnM md5 ext5 (U := 9) (n := 12) noSpecial mixed Gm2K4_ok (fun x => by kernel_rfl)
noncomputable def Gm2K5 : List Ev.Item := .fn 30 [.d (.agg (.pair zI (.pair zP zP))), .d (.slice (.agg (.pair (.slice zI) (.slice zI))))] [.d zI] s30 :: Gm2K4
theorem Gm2K5_ok : ∀ q ∈ Gm2K5, ItemOk Try.prog q := items_cons i30 Gm2K4_ok
@[reducible] def T8_2 : Tmpl := ⟨88, [(2, .ref 2 0 0 0), (14, .ref 14 0 0 0)], [.val 9 zI, .own 10 84 3 zI, .val 11 zI, .val 12 zI, .val 15 zI, .own 33 24 62 (.agg (.pair (.slice zI) (.slice zI))), .val 34 zI, .val 35 zI, .cells 2 [.d (.pair zI (.pair zP zP))], .cells 14 [.d (.pair (.slice zI) (.slice zI))]], [], none⟩
@[reducible] def X8_2 : List (Ex × Tmpl) := [(.exit 2, ⟨88, [(2, .ref 2 0 0 0), (14, .ref 14 0 0 0)], [.val 9 zI, .own 10 84 3 zI, .val 15 zI, .own 33 24 62 (.agg (.pair (.slice zI) (.slice zI))), .val 34 zI, .val 35 zI, .cells 2 [.d (.pair zI (.pair zP zP))], .cells 14 [.d (.pair (.slice zI) (.slice zI))]], [], none⟩)]
noncomputable def step8_2 : Int × (List Int) × Int × Int × Int × (List ((List Int) × List Int)) × Int × Int × (Int × (Int × Int) × Int × Int) × ((List Int) × List Int) → Option ((Int × (List Int) × Int × Int × Int × (List ((List Int) × List Int)) × Int × Int × (Int × (Int × Int) × Int × Int) × ((List Int) × List Int)) ⊕ (Int × (List Int) × Int × (List ((List Int) × List Int)) × Int × Int × (Int × (Int × Int) × Int × Int) × ((List Int) × List Int))) := fun (travel, out, now, left, i, t33, t34, t35, d, s) =>
 bif inBounds i s.1.length then
  bif inBounds i s.1.length then
   bif inBounds i s.2.length then
    bif (wr ((mx (wr ((s.1.getD i.toNat 0) - now)) (wr (now - (s.1.getD i.toNat 0)))) + (s.2.getD i.toNat 0))) != left then
     some (.inl (travel, out, now, left, wr (i + 1), t33, t34, t35, d, s))
    else
     some (.inr (travel, out, i, t33, t34, t35, d, s))
   else
    none
  else
   none
 else
  none
theorem one8_2 : oneLoop Try.prog 8 2 = true := by kernel_rfl
theorem lp8_2 : ItemOk Try.prog (.loop 8 2 T8_2 X8_2 (loopVal step8_2)) := item_loopM md5 ext5 (U := 9) (n := 11) noSpecial mixed Gm2K5_ok one8_2 (fun x => by kernel_rfl)
noncomputable def Gm2K6 : List Ev.Item := .loop 8 2 T8_2 X8_2 (loopVal step8_2) :: Gm2K5
theorem Gm2K6_ok : ∀ q ∈ Gm2K6, ItemOk Try.prog q := items_cons lp8_2 Gm2K5_ok
@[reducible] def T8_0 : Tmpl := ⟨88, [(2, .ref 2 0 0 0)], [.val 9 zI, .own 10 84 3 zI, .val 11 zI, .val 12 zI, .own 33 24 62 (.agg (.pair (.slice zI) (.slice zI))), .val 34 zI, .val 35 zI, .cells 2 [.d (.pair zI (.pair zP zP))]], [], none⟩
@[reducible] def X8_0 : List (Ex × Tmpl) := [(.exit 0, ⟨88, [], [.val 9 zI, .own 10 84 3 zI], [], none⟩)]
noncomputable def step8_0 : Int × (List Int) × Int × Int × (List ((List Int) × List Int)) × Int × Int × (Int × (Int × Int) × Int × Int) → Option ((Int × (List Int) × Int × Int × (List ((List Int) × List Int)) × Int × Int × (Int × (Int × Int) × Int × Int)) ⊕ (Int × (List Int))) := fun (travel, out, now, left, t33, t34, t35, d) =>
 bif decide (t35 < t34) then
  bif inBounds t35 t33.length then
   optE (s31 ((t33.getD t35.toNat ([], [])).1, wr (now - d.2.2.2))) (fun r4 =>
    optE (loopVal step8_2 (travel, out, now, left, r4, t33, t34, t35, d, (t33.getD t35.toNat ([], [])))) (fun e5 =>
     bif inBounds e5.2.2.1 e5.2.2.2.2.2.2.2.1.length then
      bif inBounds e5.2.2.1 e5.2.2.2.2.2.2.2.2.length then
       bif room 8 (e5.2.1.length + 1) then
        some (.inl (e5.1, e5.2.1 ++ [e5.2.2.2.2.2.2.2.1.getD e5.2.2.1.toNat 0], e5.2.2.2.2.2.2.2.1.getD e5.2.2.1.toNat 0, e5.2.2.2.2.2.2.2.2.getD e5.2.2.1.toNat 0, e5.2.2.2.1, e5.2.2.2.2.1, wr (e5.2.2.2.2.2.1 + 1), e5.2.2.2.2.2.2.1))
       else
        none
      else
       none
     else
      none)
     (none))
    (none)
  else
   none
 else
  some (.inr (travel, out))
theorem one8_0 : oneLoop Try.prog 8 0 = true := by kernel_rfl
theorem lp8_0 : ItemOk Try.prog (.loop 8 0 T8_0 X8_0 (loopVal step8_0)) := item_loopM md5 ext5 (U := 9) (n := 11) noSpecial mixed Gm2K6_ok one8_0 (fun x => by kernel_rfl)
noncomputable def Gm2K7 : List Ev.Item := .loop 8 0 T8_0 X8_0 (loopVal step8_0) :: Gm2K6
theorem Gm2K7_ok : ∀ q ∈ Gm2K7, ItemOk Try.prog q := items_cons lp8_0 Gm2K6_ok
noncomputable def s8 : (Int × (Int × Int) × Int × Int) × (List Int) → Option ((List Int) × Int × Int) := fun (d, targets) =>
 optE (s28 (d, targets)) (fun r1 =>
  bif r1 != 0 then
   some (([], 0, r1))
  else
   optE (s29 (d, targets)) (fun r2 =>
    optE (s30 (d, r2)) (fun r3 =>
     bif decide (r3 ≥ 576460752303423488) then
      some (([], 0, 12))
     else
      optE (loopVal step8_0 (r3, [], d.2.2.1, r3, r2, (r2.length : Int), 0, d)) (fun e4 =>
       some ((e4.2, e4.1, 0)))
       (none))
     (none))
    (none))
  (none)
theorem i8 : ItemOk Try.prog (.fn 8 [.d (.agg (.pair zI (.pair zP zP))), .d (.slice zI)] [.own 3 zI, .d zI, .d zI] s8) := item_fnM md5 ext5 (U := 9) (n := 12) noSpecial mixed Gm2K7_ok (fun x => by kernel_rfl)
noncomputable def Gm2K8 : List Ev.Item := .fn 8 [.d (.agg (.pair zI (.pair zP zP))), .d (.slice zI)] [.own 3 zI, .d zI, .d zI] s8 :: Gm2K7
theorem Gm2K8_ok : ∀ q ∈ Gm2K8, ItemOk Try.prog q := items_cons i8 Gm2K7_ok
end Go.Proofs.Ythabingkfmlbbaa
