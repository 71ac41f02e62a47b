/- Printed by gen.py: specifications of functions. -/
import Derived.Test.YtfpppijfkeidgaaGreatDoorGz4
set_option linter.unusedSimpArgs false
set_option maxRecDepth 100000
namespace Go.Proofs.YtfpppijfkeidgaaGreatDoor
open Go.Ev
noncomputable def s89 : Int → Option (Int) := fun n =>
 some (mx n (wr (-n)))
theorem i89 : ItemOk Tryz.prog (.fn 89 [.d zI] [.d zI] s89) := item_fnM md5 ext5 (U := 9) (n := 12) noSpecial mixed Gz4K7_ok (fun x => by kernel_rfl)
noncomputable def Gz5K1 : List Ev.Item := .fn 89 [.d zI] [.d zI] s89 :: Gz4K7
theorem Gz5K1_ok : ∀ q ∈ Gz5K1, ItemOk Tryz.prog q := items_cons i89 Gz4K7_ok
@[reducible] def T68_0 : Tmpl := ⟨13, [], [.val 0 zI, .val 1 zI], [], none⟩
@[reducible] def X68_0 : List (Ex × Tmpl) := [(.exit 0, ⟨13, [], [.val 0 zI], [], none⟩)]
noncomputable def step68_0 : Int × Int → Option ((Int × Int) ⊕ (Int)) := fun (a, b) =>
 bif b != 0 then
  bif !(b == 0) then
   some (.inl (b, Int.tmod a b))
  else
   none
 else
  some (.inr a)
theorem one68_0 : oneLoop Tryz.prog 68 0 = true := by kernel_rfl
theorem lp68_0 : ItemOk Tryz.prog (.loop 68 0 T68_0 X68_0 (loopVal step68_0)) := item_loopM md5 ext5 (U := 9) (n := 11) noSpecial mixed Gz5K1_ok one68_0 (fun x => by kernel_rfl)
noncomputable def Gz5K2 : List Ev.Item := .loop 68 0 T68_0 X68_0 (loopVal step68_0) :: Gz5K1
theorem Gz5K2_ok : ∀ q ∈ Gz5K2, ItemOk Tryz.prog q := items_cons lp68_0 Gz5K1_ok
noncomputable def s68 : Int × Int → Option (Int) := fun (a, b) =>
 optE (loopVal step68_0 (a, b)) (fun e1 =>
  optE (s89 e1) (fun r2 =>
   some (r2))
   (none))
  (none)
theorem i68 : ItemOk Tryz.prog (.fn 68 [.d zI, .d zI] [.d zI] s68) := item_fnM md5 ext5 (U := 9) (n := 12) noSpecial mixed Gz5K2_ok (fun x => by kernel_rfl)
noncomputable def Gz5K3 : List Ev.Item := .fn 68 [.d zI, .d zI] [.d zI] s68 :: Gz5K2
theorem Gz5K3_ok : ∀ q ∈ Gz5K3, ItemOk Tryz.prog q := items_cons i68 Gz5K2_ok
noncomputable def s45 : Int × Int → Option (Bool) := fun f =>
 bif decide (f.2 > 0) then
  optE (s68 f) (fun r1 =>
   some (r1 == 1))
   (none)
 else
  some (false)
theorem i45 : ItemOk Tryz.prog (.fn 45 [.d (.agg zP)] [.d .bool] s45) := item_fnM md5 ext5 (U := 9) (n := 12) noSpecial mixed Gz5K3_ok (fun x => by kernel_rfl)
noncomputable def Gz5K4 : List Ev.Item := .fn 45 [.d (.agg zP)] [.d .bool] s45 :: Gz5K3
theorem Gz5K4_ok : ∀ q ∈ Gz5K4, ItemOk Tryz.prog q := items_cons i45 Gz5K3_ok
noncomputable def s69 : Int × Int → Option (Int) := fun (n, by0) =>
 bif !(by0 == 0) then
  bif !(by0 == 0) then
   bif decide ((Int.tmod n by0) < 0) then
    some (wr ((wr (Int.tdiv n by0)) - 1))
   else
    some (wr (Int.tdiv n by0))
  else
   none
 else
  none
theorem i69 : ItemOk Tryz.prog (.fn 69 [.d zI, .d zI] [.d zI] s69) := item_fnM md5 ext5 (U := 9) (n := 12) noSpecial mixed Gz5K4_ok (fun x => by kernel_rfl)
noncomputable def Gz5K5 : List Ev.Item := .fn 69 [.d zI, .d zI] [.d zI] s69 :: Gz5K4
theorem Gz5K5_ok : ∀ q ∈ Gz5K5, ItemOk Tryz.prog q := items_cons i69 Gz5K4_ok
@[reducible] def T46_0 : Tmpl := ⟨47, [], [.val 0 zI, .val 1 zI, .val 2 zI, .val 3 zI], [], none⟩
@[reducible] def X46_0 : List (Ex × Tmpl) := [(.ret, ⟨47, [], [.val 8 zI], [], none⟩)]
noncomputable def step46_0 : Int × Int × Int × Int → Option ((Int × Int × Int × Int) ⊕ (Int)) := fun (n, d, m, k) =>
 optE (s69 (n, d)) (fun r1 =>
  optE (s69 (m, k)) (fun r2 =>
   bif decide (r1 < r2) then
    some (.inr (-1))
   else
    bif decide (r1 > r2) then
     some (.inr 1)
    else
     bif (wr (n - (wr (r1 * d)))) == 0 then
      bif (wr (m - (wr (r2 * k)))) == 0 then
       some (.inr 0)
      else
       bif (wr (n - (wr (r1 * d)))) == 0 then
        some (.inr (-1))
       else
        bif (wr (m - (wr (r2 * k)))) == 0 then
         some (.inr 1)
        else
         some (.inl (k, wr (m - (wr (r2 * k))), d, wr (n - (wr (r1 * d)))))
     else
      bif (wr (n - (wr (r1 * d)))) == 0 then
       some (.inr (-1))
      else
       bif (wr (m - (wr (r2 * k)))) == 0 then
        some (.inr 1)
       else
        some (.inl (k, wr (m - (wr (r2 * k))), d, wr (n - (wr (r1 * d))))))
   (none))
  (none)
theorem one46_0 : oneLoop Tryz.prog 46 0 = true := by kernel_rfl
theorem lp46_0 : ItemOk Tryz.prog (.loop 46 0 T46_0 X46_0 (loopVal step46_0)) := item_loopM md5 ext5 (U := 9) (n := 11) noSpecial mixed Gz5K5_ok one46_0 (fun x => by kernel_rfl)
noncomputable def Gz5K6 : List Ev.Item := .loop 46 0 T46_0 X46_0 (loopVal step46_0) :: Gz5K5
theorem Gz5K6_ok : ∀ q ∈ Gz5K6, ItemOk Tryz.prog q := items_cons lp46_0 Gz5K5_ok
noncomputable def s46 : Int × Int × Int × Int → Option (Int) := fun (n, d, m, k) =>
 optE (loopVal step46_0 (n, d, m, k)) (fun e1 =>
  some (e1))
  (none)
theorem i46 : ItemOk Tryz.prog (.fn 46 [.d zI, .d zI, .d zI, .d zI] [.d zI] s46) := item_fnM md5 ext5 (U := 9) (n := 12) noSpecial mixed Gz5K6_ok (fun x => by kernel_rfl)
noncomputable def Gz5K7 : List Ev.Item := .fn 46 [.d zI, .d zI, .d zI, .d zI] [.d zI] s46 :: Gz5K6
theorem Gz5K7_ok : ∀ q ∈ Gz5K7, ItemOk Tryz.prog q := items_cons i46 Gz5K6_ok
noncomputable def s18 : ((Int × Int) × Int × Int) × Int → Option (Bool) := fun (x0, n) =>
 optE (s45 x0.1) (fun r1 =>
  bif r1 then
   optE (s45 x0.2) (fun r2 =>
    bif r2 then
     optE (s46 (x0.1.1, x0.1.2, n, 1)) (fun r3 =>
      bif decide (r3 ≤ 0) then
       optE (s46 (n, 1, x0.2.1, x0.2.2)) (fun r4 =>
        some (decide (r4 ≤ 0)))
        (none)
      else
       some (false))
      (none)
    else
     some (false))
    (none)
  else
   some (false))
  (none)
theorem i18 : ItemOk Tryz.prog (.fn 18 [.d (.agg (.pair zP zP)), .d zI] [.d .bool] s18) := item_fnM md5 ext5 (U := 9) (n := 12) noSpecial mixed Gz5K7_ok (fun x => by kernel_rfl)
noncomputable def Gz5K8 : List Ev.Item := .fn 18 [.d (.agg (.pair zP zP)), .d zI] [.d .bool] s18 :: Gz5K7
theorem Gz5K8_ok : ∀ q ∈ Gz5K8, ItemOk Tryz.prog q := items_cons i18 Gz5K7_ok
@[reducible] def T3_0 : Tmpl := ⟨412, [(3, .ref 3 0 0 0)], [.val 1 (.slice (.agg (.pair zI zP))), .val 2 zI, .val 7 zI, .cells 3 [.d (.pair zI (.pair zI (.pair zI (.pair (.slice (.agg zP)) (.pair (.slice zI) (.slice (.agg zP)))))))]], [], none⟩
@[reducible] def X3_0 : List (Ex × Tmpl) := [(.ret, ⟨412, [], [.val 6 .bool], [], none⟩), (.exit 0, ⟨412, [(3, .ref 3 0 0 0)], [.val 1 (.slice (.agg (.pair zI zP))), .val 2 zI, .cells 3 [.d (.pair zI (.pair zI (.pair zI (.pair (.slice (.agg zP)) (.pair (.slice zI) (.slice (.agg zP)))))))]], [], none⟩)]
noncomputable def step3_0 : (List (Int × Int × Int)) × Int × Int × (Int × Int × Int × (List (Int × Int)) × (List Int) × List (Int × Int)) → Option (((List (Int × Int × Int)) × Int × Int × (Int × Int × Int × (List (Int × Int)) × (List Int) × List (Int × Int))) ⊕ ((Bool) ⊕ ((List (Int × Int × Int)) × Int × (Int × Int × Int × (List (Int × Int)) × (List Int) × List (Int × Int))))) := fun (loops, time, i, x0) =>
 bif decide (i < (x0.2.2.2.1.length : Int)) then
  bif inBounds i x0.2.2.2.1.length then
   bif !(win (x0.2.2.2.1.getD i.toNat (0, 0)).1 0 1000) then
    some (.inr (.inl true))
   else
    bif inBounds i x0.2.2.2.1.length then
     bif !(win (x0.2.2.2.1.getD i.toNat (0, 0)).2 0 1000) then
      some (.inr (.inl true))
     else
      some (.inl (loops, time, wr (i + 1), x0))
    else
     none
  else
   none
 else
  some (.inr (.inr (loops, time, x0)))
theorem one3_0 : oneLoop Tryz.prog 3 0 = true := by kernel_rfl
theorem lp3_0 : ItemOk Tryz.prog (.loop 3 0 T3_0 X3_0 (loopVal step3_0)) := item_loopM md5 ext5 (U := 40) (n := 11) noSpecial mixed Gz5K8_ok one3_0 (fun x => by kernel_rfl)
noncomputable def Gz5K9 : List Ev.Item := .loop 3 0 T3_0 X3_0 (loopVal step3_0) :: Gz5K8
theorem Gz5K9_ok : ∀ q ∈ Gz5K9, ItemOk Tryz.prog q := items_cons lp3_0 Gz5K8_ok
@[reducible] def T3_2 : Tmpl := ⟨412, [(3, .ref 3 0 0 0)], [.val 1 (.slice (.agg (.pair zI zP))), .val 2 zI, .val 8 zI, .cells 3 [.d (.pair zI (.pair zI (.pair zI (.pair (.slice (.agg zP)) (.pair (.slice zI) (.slice (.agg zP)))))))]], [], none⟩
@[reducible] def X3_2 : List (Ex × Tmpl) := [(.ret, ⟨412, [], [.val 6 .bool], [], none⟩), (.exit 2, ⟨412, [(3, .ref 3 0 0 0)], [.val 1 (.slice (.agg (.pair zI zP))), .val 2 zI, .cells 3 [.d (.pair zI (.pair zI (.pair zI (.pair (.slice (.agg zP)) (.pair (.slice zI) (.slice (.agg zP)))))))]], [], none⟩)]
noncomputable def step3_2 : (List (Int × Int × Int)) × Int × Int × (Int × Int × Int × (List (Int × Int)) × (List Int) × List (Int × Int)) → Option (((List (Int × Int × Int)) × Int × Int × (Int × Int × Int × (List (Int × Int)) × (List Int) × List (Int × Int))) ⊕ ((Bool) ⊕ ((List (Int × Int × Int)) × Int × (Int × Int × Int × (List (Int × Int)) × (List Int) × List (Int × Int))))) := fun (loops, time, i, x0) =>
 bif decide (i < (loops.length : Int)) then
  bif inBounds i loops.length then
   bif inBounds i loops.length then
    bif inBounds i loops.length then
     bif !(win (wr ((loops.getD i.toNat (0, 0, 0)).1 + x0.2.2.1)) (loops.getD i.toNat (0, 0, 0)).2.1 (loops.getD i.toNat (0, 0, 0)).2.2) then
      some (.inr (.inl true))
     else
      some (.inl (loops, time, wr (i + 1), x0))
    else
     none
   else
    none
  else
   none
 else
  some (.inr (.inr (loops, time, x0)))
theorem one3_2 : oneLoop Tryz.prog 3 2 = true := by kernel_rfl
theorem lp3_2 : ItemOk Tryz.prog (.loop 3 2 T3_2 X3_2 (loopVal step3_2)) := item_loopM md5 ext5 (U := 40) (n := 11) noSpecial mixed Gz5K9_ok one3_2 (fun x => by kernel_rfl)
noncomputable def Gz5K10 : List Ev.Item := .loop 3 2 T3_2 X3_2 (loopVal step3_2) :: Gz5K9
theorem Gz5K10_ok : ∀ q ∈ Gz5K10, ItemOk Tryz.prog q := items_cons lp3_2 Gz5K9_ok
@[reducible] def T3_4 : Tmpl := ⟨412, [(3, .ref 3 0 0 0)], [.val 1 (.slice (.agg (.pair zI zP))), .val 2 zI, .own 9 188 38 zA, .val 10 zI, .cells 3 [.d (.pair zI (.pair zI (.pair zI (.pair (.slice (.agg zP)) (.pair (.slice zI) (.slice (.agg zP)))))))]], [], none⟩
@[reducible] def X3_4 : List (Ex × Tmpl) := [(.ret, ⟨412, [], [.val 6 .bool], [], none⟩), (.exit 4, ⟨412, [(3, .ref 3 0 0 0)], [.val 1 (.slice (.agg (.pair zI zP))), .val 2 zI, .own 9 255 38 zA, .cells 3 [.d (.pair zI (.pair zI (.pair zI (.pair (.slice (.agg zP)) (.pair (.slice zI) (.slice (.agg zP)))))))]], [], none⟩)]
noncomputable def step3_4 : (List (Int × Int × Int)) × Int × (List (Int × Int × Int × Int × Int)) × Int × (Int × Int × Int × (List (Int × Int)) × (List Int) × List (Int × Int)) → Option (((List (Int × Int × Int)) × Int × (List (Int × Int × Int × Int × Int)) × Int × (Int × Int × Int × (List (Int × Int)) × (List Int) × List (Int × Int))) ⊕ ((Bool) ⊕ ((List (Int × Int × Int)) × Int × (List (Int × Int × Int × Int × Int)) × (Int × Int × Int × (List (Int × Int)) × (List Int) × List (Int × Int))))) := fun (loops, time, raw, i, x0) =>
 bif decide (i < (x0.2.2.2.2.1.length : Int)) then
  bif inBounds i x0.2.2.2.2.1.length then
   optE (s7 (x0.2.2.2.2.1.getD i.toNat 0)) (fun r9 =>
    bif r9 != 0 then
     some (.inr (.inl true))
    else
     bif !((x0.2.2.2.1.length : Int) == 0) then
      bif inBounds (Int.tmod i (x0.2.2.2.1.length : Int)) x0.2.2.2.1.length then
       bif room 40 (raw.length + 1) then
        some (.inl (loops, time, raw ++ [(0, 0, x0.2.2.2.2.1.getD i.toNat 0, wr ((wr ((wr (x0.1 + (wr ((x0.2.2.2.2.1.getD i.toNat 0) * x0.2.1)))) + x0.2.2.1)) - (x0.2.2.2.1.getD (Int.tmod i (x0.2.2.2.1.length : Int)).toNat (0, 0)).1), wr ((wr ((wr (x0.1 + (wr ((x0.2.2.2.2.1.getD i.toNat 0) * x0.2.1)))) + x0.2.2.1)) + (x0.2.2.2.1.getD (Int.tmod i (x0.2.2.2.1.length : Int)).toNat (0, 0)).2))], wr (i + 1), x0))
       else
        none
      else
       none
     else
      none)
    (none)
  else
   none
 else
  some (.inr (.inr (loops, time, raw, x0)))
theorem one3_4 : oneLoop Tryz.prog 3 4 = true := by kernel_rfl
theorem lp3_4 : ItemOk Tryz.prog (.loop 3 4 T3_4 X3_4 (loopVal step3_4)) := item_loopM md5 ext5 (U := 40) (n := 11) noSpecial mixed Gz5K10_ok one3_4 (fun x => by kernel_rfl)
noncomputable def Gz5K11 : List Ev.Item := .loop 3 4 T3_4 X3_4 (loopVal step3_4) :: Gz5K10
theorem Gz5K11_ok : ∀ q ∈ Gz5K11, ItemOk Tryz.prog q := items_cons lp3_4 Gz5K10_ok
@[reducible] def T3_6 : Tmpl := ⟨412, [(3, .ref 3 0 0 0)], [.val 1 (.slice (.agg (.pair zI zP))), .val 2 zI, .own 9 255 38 zA, .val 14 zI, .cells 3 [.d (.pair zI (.pair zI (.pair zI (.pair (.slice (.agg zP)) (.pair (.slice zI) (.slice (.agg zP)))))))]], [], none⟩
@[reducible] def X3_6 : List (Ex × Tmpl) := [(.ret, ⟨412, [], [.val 6 .bool], [], none⟩), (.exit 6, ⟨412, [(3, .ref 3 0 0 0)], [.val 1 (.slice (.agg (.pair zI zP))), .val 2 zI, .own 9 255 38 zA, .cells 3 [.d (.pair zI (.pair zI (.pair zI (.pair (.slice (.agg zP)) (.pair (.slice zI) (.slice (.agg zP)))))))]], [], none⟩)]
noncomputable def step3_6 : (List (Int × Int × Int)) × Int × (List (Int × Int × Int × Int × Int)) × Int × (Int × Int × Int × (List (Int × Int)) × (List Int) × List (Int × Int)) → Option (((List (Int × Int × Int)) × Int × (List (Int × Int × Int × Int × Int)) × Int × (Int × Int × Int × (List (Int × Int)) × (List Int) × List (Int × Int))) ⊕ ((Bool) ⊕ ((List (Int × Int × Int)) × Int × (List (Int × Int × Int × Int × Int)) × (Int × Int × Int × (List (Int × Int)) × (List Int) × List (Int × Int))))) := fun (loops, time, raw, i, x0) =>
 bif decide (i < (x0.2.2.2.2.2.length : Int)) then
  bif inBounds i x0.2.2.2.2.2.length then
   optE (s7 (x0.2.2.2.2.2.getD i.toNat (0, 0)).1) (fun r12 =>
    bif r12 != 0 then
     some (.inr (.inl true))
    else
     optE (s7 (x0.2.2.2.2.2.getD i.toNat (0, 0)).2) (fun r13 =>
      bif r13 != 0 then
       some (.inr (.inl true))
      else
       bif decide ((x0.2.2.2.2.2.getD i.toNat (0, 0)).1 ≥ (x0.2.2.2.2.2.getD i.toNat (0, 0)).2) then
        some (.inr (.inl true))
       else
        bif !((x0.2.2.2.1.length : Int) == 0) then
         bif inBounds (Int.tmod (wr (i + (x0.2.2.2.2.1.length : Int))) (x0.2.2.2.1.length : Int)) x0.2.2.2.1.length then
          bif room 40 (raw.length + 1) then
           some (.inl (loops, time, raw ++ [(1, (x0.2.2.2.2.2.getD i.toNat (0, 0)).1, (x0.2.2.2.2.2.getD i.toNat (0, 0)).2, wr ((wr ((wr ((x0.2.2.2.2.2.getD i.toNat (0, 0)).2 - (x0.2.2.2.2.2.getD i.toNat (0, 0)).1)) * x0.2.1)) - (x0.2.2.2.1.getD (Int.tmod (wr (i + (x0.2.2.2.2.1.length : Int))) (x0.2.2.2.1.length : Int)).toNat (0, 0)).1), wr ((wr ((wr ((x0.2.2.2.2.2.getD i.toNat (0, 0)).2 - (x0.2.2.2.2.2.getD i.toNat (0, 0)).1)) * x0.2.1)) + (x0.2.2.2.1.getD (Int.tmod (wr (i + (x0.2.2.2.2.1.length : Int))) (x0.2.2.2.1.length : Int)).toNat (0, 0)).2))], wr (i + 1), x0))
          else
           none
         else
          none
        else
         none)
      (none))
    (none)
  else
   none
 else
  some (.inr (.inr (loops, time, raw, x0)))
theorem one3_6 : oneLoop Tryz.prog 3 6 = true := by kernel_rfl
theorem lp3_6 : ItemOk Tryz.prog (.loop 3 6 T3_6 X3_6 (loopVal step3_6)) := item_loopM md5 ext5 (U := 40) (n := 11) noSpecial mixed Gz5K11_ok one3_6 (fun x => by kernel_rfl)
noncomputable def Gz5K12 : List Ev.Item := .loop 3 6 T3_6 X3_6 (loopVal step3_6) :: Gz5K11
theorem Gz5K12_ok : ∀ q ∈ Gz5K12, ItemOk Tryz.prog q := items_cons lp3_6 Gz5K11_ok
@[reducible] def T3_8 : Tmpl := ⟨412, [(3, .ref 3 0 0 0)], [.val 2 zI, .val 20 zS, .val 22 zI, .cells 3 [.d (.pair zI (.pair zI (.pair zI (.pair (.slice (.agg zP)) (.pair (.slice zI) (.slice (.agg zP)))))))]], [], none⟩
@[reducible] def X3_8 : List (Ex × Tmpl) := [(.ret, ⟨412, [], [.val 6 .bool], [], none⟩), (.exit 8, ⟨412, [(3, .ref 3 0 0 0)], [.val 2 zI, .val 20 zS, .cells 3 [.d (.pair zI (.pair zI (.pair zI (.pair (.slice (.agg zP)) (.pair (.slice zI) (.slice (.agg zP)))))))]], [], none⟩)]
noncomputable def step3_8 : Int × (List (Int × Int × Int × Int × Int)) × Int × (Int × Int × Int × (List (Int × Int)) × (List Int) × List (Int × Int)) → Option ((Int × (List (Int × Int × Int × Int × Int)) × Int × (Int × Int × Int × (List (Int × Int)) × (List Int) × List (Int × Int))) ⊕ ((Bool) ⊕ (Int × (List (Int × Int × Int × Int × Int)) × (Int × Int × Int × (List (Int × Int)) × (List Int) × List (Int × Int))))) := fun (time, l, i, x0) =>
 bif decide (i < (l.length : Int)) then
  bif inBounds i l.length then
   optE (s14 (l.getD i.toNat (0, 0, 0, 0, 0))) (fun r21 =>
    optE (s13 r21) (fun r22 =>
     bif r22.2 != 0 then
      some (.inr (.inl false))
     else
      bif inBounds i l.length then
       bif !((r22.1.1 == (l.getD i.toNat (0, 0, 0, 0, 0)).1) && ((r22.1.2.1 == (l.getD i.toNat (0, 0, 0, 0, 0)).2.1) && ((r22.1.2.2.1 == (l.getD i.toNat (0, 0, 0, 0, 0)).2.2.1) && (((r22.1.2.2.2.1 == (l.getD i.toNat (0, 0, 0, 0, 0)).2.2.2.1) && ((r22.1.2.2.2.2 == (l.getD i.toNat (0, 0, 0, 0, 0)).2.2.2.2) && true)) && true)))) then
        some (.inr (.inl false))
       else
        some (.inl (time, l, wr (i + 1), x0))
      else
       none)
     (none))
    (none)
  else
   none
 else
  some (.inr (.inr (time, l, x0)))
theorem one3_8 : oneLoop Tryz.prog 3 8 = true := by kernel_rfl
theorem lp3_8 : ItemOk Tryz.prog (.loop 3 8 T3_8 X3_8 (loopVal step3_8)) := item_loopM md5 ext5 (U := 40) (n := 11) noSpecial mixed Gz5K12_ok one3_8 (fun x => by kernel_rfl)
noncomputable def Gz5K13 : List Ev.Item := .loop 3 8 T3_8 X3_8 (loopVal step3_8) :: Gz5K12
theorem Gz5K13_ok : ∀ q ∈ Gz5K13, ItemOk Tryz.prog q := items_cons lp3_8 Gz5K12_ok
@[reducible] def T3_10 : Tmpl := ⟨412, [(27, .ref 27 0 0 0)], [.val 2 zI, .val 20 zS, .val 32 zI, .arrp 27 (.agg zP) 2 (.pair (.agg zP) (.agg zP))], [], none⟩
@[reducible] def X3_10 : List (Ex × Tmpl) := [(.ret, ⟨412, [], [.val 6 .bool], [], none⟩), (.exit 10, ⟨412, [], [], [], none⟩)]
noncomputable def step3_10 : Int × (List (Int × Int × Int × Int × Int)) × Int × ((Int × Int) × Int × Int) → Option ((Int × (List (Int × Int × Int × Int × Int)) × Int × ((Int × Int) × Int × Int)) ⊕ ((Bool) ⊕ (Unit))) := fun (time, l, i, d) =>
 bif decide (i < 2) then
  optE (s12 l) (fun r32 =>
   optE (s19 (r32, (time, i == 1))) (fun r33 =>
    bif r33.2 != 0 then
     some (.inr (.inl false))
    else
     bif decide ((r33.1.1.length : Int) > 2) then
      some (.inr (.inl false))
     else
      optE (s12 l) (fun r34 =>
       bif (inBounds i 2) && true then
        optE (s21 ((time, i == 1), ([d.1, d.2].getD i.toNat (0, 0)), r33.1.1, r33.1.2)) (fun r35 =>
         optE (s20 (r34, r35)) (fun r36 =>
          bif r36 != 0 then
           some (.inr (.inl false))
          else
           some (.inl (time, l, wr (i + 1), d)))
          (none))
         (none)
       else
        none)
       (none))
    (none))
   (none)
 else
  some (.inr (.inr ()))
theorem one3_10 : oneLoop Tryz.prog 3 10 = true := by kernel_rfl
theorem lp3_10 : ItemOk Tryz.prog (.loop 3 10 T3_10 X3_10 (loopVal step3_10)) := item_loopM md5 ext5 (U := 40) (n := 11) noSpecial mixed Gz5K13_ok one3_10 (fun x => by kernel_rfl)
noncomputable def Gz5K14 : List Ev.Item := .loop 3 10 T3_10 X3_10 (loopVal step3_10) :: Gz5K13
theorem Gz5K14_ok : ∀ q ∈ Gz5K14, ItemOk Tryz.prog q := items_cons lp3_10 Gz5K13_ok
noncomputable def s3 : (Int × Int × Int × (List (Int × Int)) × (List Int) × List (Int × Int)) × (List (Int × Int × Int)) × Int → Option (Bool) := fun (x0, loops, time) =>
 bif !true then
  some (false)
 else
  bif !(win x0.1 0 20000) then
   some (true)
  else
   bif !(win x0.2.1 (-20) 20) then
    some (true)
   else
    bif !(win x0.2.2.1 (-100) 1000) then
     some (true)
    else
     bif (x0.2.2.2.1.length : Int) == 0 then
      some (true)
     else
      bif decide ((x0.2.2.2.1.length : Int) > 8) then
       some (true)
      else
       bif decide ((x0.2.2.2.2.1.length : Int) > 4) then
        some (true)
       else
        bif decide ((x0.2.2.2.2.2.length : Int) > 3) then
         some (true)
        else
         optE (s6 loops) (fun r1 =>
          bif r1 != 0 then
           some (true)
          else
           optE (s7 time) (fun r2 =>
            bif r2 != 0 then
             some (true)
            else
             optE (loopVal step3_0 (loops, time, 0, x0)) (fun e3 =>
              sumE e3 (fun e4 =>
               some (e4)) (fun e5 =>
               optE (loopVal step3_2 (e5.1, e5.2.1, 0, e5.2.2)) (fun e6 =>
                sumE e6 (fun e7 =>
                 some (e7)) (fun e8 =>
                 optE (loopVal step3_4 (e8.1, e8.2.1, [], 0, e8.2.2)) (fun e9 =>
                  sumE e9 (fun e10 =>
                   some (e10)) (fun e11 =>
                   optE (loopVal step3_6 (e11.1, e11.2.1, e11.2.2.1, 0, e11.2.2.2)) (fun e12 =>
                    sumE e12 (fun e13 =>
                     some (e13)) (fun e14 =>
                     optE (s8 e14.2.2.1) (fun r15 =>
                      bif r15 != 0 then
                       some (true)
                      else
                       optE (s10 e14.1) (fun r16 =>
                        optE (s9 r16) (fun r17 =>
                         bif r17.2 != 0 then
                          some (false)
                         else
                          bif !(win e14.2.2.2.2.2.1 r17.1.1 r17.1.2) then
                           some (false)
                          else
                           optE (s12 e14.2.2.1) (fun r18 =>
                            optE (s11 (r18, r17.1)) (fun r19 =>
                             bif r19.2 != 0 then
                              some (r19.2 == 8)
                             else
                              bif (r19.1.length : Int) != (e14.2.2.1.length : Int) then
                               some (false)
                              else
                               optE (s8 r19.1) (fun r20 =>
                                bif r20 != 0 then
                                 some (false)
                                else
                                 optE (loopVal step3_8 (e14.2.1, r19.1, 0, e14.2.2.2)) (fun e21 =>
                                  sumE e21 (fun e22 =>
                                   some (e22)) (fun e23 =>
                                   optE (s12 e23.2.1) (fun r24 =>
                                    optE (s15 r24) (fun r25 =>
                                     bif r25.2 != 12 then
                                      some (false)
                                     else
                                      optE (s12 e23.2.1) (fun r26 =>
                                       optE (s16 (r26, e23.1)) (fun r27 =>
                                        optE (s12 e23.2.1) (fun r28 =>
                                         optE (s17 r28) (fun r29 =>
                                          (fun (k1 : Unit → Option (Bool)) =>
                                            bif r29.2 == 0 then
                                             optE (s18 (r29.1, e23.2.2.2.1)) (fun r30 =>
                                              bif !r30 then
                                               some (false)
                                              else
                                               k1 ())
                                              (none)
                                            else
                                             k1 ()) (fun _ =>
                                            (fun (k2 : Unit → Option (Bool)) =>
                                              bif r29.2 != 0 then
                                               bif r29.2 != 22 then
                                                some (false)
                                               else
                                                k2 ()
                                              else
                                               k2 ()) (fun _ =>
                                              bif r27.2 != 0 then
                                               some (r27.2 == 22)
                                              else
                                               optE (s18 (r27.1, wr (e23.2.2.1 + (wr (e23.1 * e23.2.2.2.1))))) (fun r31 =>
                                                bif !r31 then
                                                 some (false)
                                                else
                                                 optE (loopVal step3_10 (e23.1, e23.2.1, 0, r27.1)) (fun e32 =>
                                                  sumE e32 (fun e33 =>
                                                   some (e33)) (fun _ =>
                                                   some (true)))
                                                  (none))
                                                (none))))
                                          (none))
                                         (none))
                                        (none))
                                       (none))
                                     (none))
                                    (none)))
                                  (none))
                                (none))
                             (none))
                            (none))
                         (none))
                        (none))
                      (none)))
                    (none)))
                  (none)))
                (none)))
              (none))
            (none))
          (none)
theorem i3 : ItemOk Tryz.prog (.fn 3 [.d (.agg (.pair zI (.pair zI (.pair zI (.pair (.slice (.agg zP)) (.pair (.slice zI) (.slice (.agg zP)))))))), .d (.slice (.agg (.pair zI zP))), .d zI] [.d .bool] s3) := item_fnM md5 ext5 (U := 40) (n := 12) noSpecial mixed Gz5K14_ok (fun x => by kernel_rfl)
noncomputable def Gz5K15 : List Ev.Item := .fn 3 [.d (.agg (.pair zI (.pair zI (.pair zI (.pair (.slice (.agg zP)) (.pair (.slice zI) (.slice (.agg zP)))))))), .d (.slice (.agg (.pair zI zP))), .d zI] [.d .bool] s3 :: Gz5K14
theorem Gz5K15_ok : ∀ q ∈ Gz5K15, ItemOk Tryz.prog q := items_cons i3 Gz5K14_ok
end Go.Proofs.YtfpppijfkeidgaaGreatDoor
