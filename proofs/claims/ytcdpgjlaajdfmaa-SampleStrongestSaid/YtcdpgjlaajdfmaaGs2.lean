/- Printed by gen.py: specifications of functions. -/
import Derived.Test.YtcdpgjlaajdfmaaGs1
set_option linter.unusedSimpArgs false
set_option maxRecDepth 100000
namespace Go.Proofs.Ytcdpgjlaajdfmaa
open Go.Ev
@[reducible] def T55_0 : Tmpl := ⟨19, [(1, .fn 40)], [.val 0 (.slice (.agg zP)), .val 7 zI, .val 8 zI], [], none⟩
@[reducible] def X55_0 : List (Ex × Tmpl) := [(.ret, ⟨19, [], [.val 4 zI], [], none⟩), (.exit 0, ⟨19, [], [], [], none⟩)]
noncomputable def step55_0 : (List (Int × Int)) × Int × Int → Option (((List (Int × Int)) × Int × Int) ⊕ ((Int) ⊕ (Unit))) := fun (s, t7, t8) =>
 bif decide (t8 < t7) then
  bif inBounds t8 s.length then
   optE (s40 (s.getD t8.toNat (0, 0))) (fun r1 =>
    bif r1 then
     some (.inr (.inl t8))
    else
     some (.inl (s, t7, wr (t8 + 1))))
    (none)
  else
   none
 else
  some (.inr (.inr ()))
theorem one55_0 : oneLoop Try.prog 55 0 = true := by kernel_rfl
theorem lp55_0 : ItemOk Try.prog (.loop 55 0 T55_0 X55_0 (loopVal step55_0)) := item_loopM md2 ext2 (U := 9) (n := 9) noSpecial mixed Gs1K1_ok one55_0 (fun x => by kernel_rfl)
noncomputable def Gs2K1 : List Ev.Item := .loop 55 0 T55_0 X55_0 (loopVal step55_0) :: Gs1K1
theorem Gs2K1_ok : ∀ q ∈ Gs2K1, ItemOk Try.prog q := items_cons lp55_0 Gs1K1_ok
noncomputable def s19 : List (Int × Int) → Option (Int) := fun x0 =>
 optE (loopVal step55_0 (x0, (x0.length : Int), 0)) (fun e1 =>
  sumE e1 (fun e2 =>
   optE (s20 (decide ((x0.length : Int) ≤ 400), 8)) (fun r4 =>
    optE (s20 (!(decide (e2 ≥ 0)), 2)) (fun r5 =>
     optE (s18 [r4, r5]) (fun r6 =>
      some (r6))
      (none))
     (none))
    (none)) (fun _ =>
   optE (s20 (decide ((x0.length : Int) ≤ 400), 8)) (fun r7 =>
    optE (s20 (true, 2)) (fun r8 =>
     optE (s18 [r7, r8]) (fun r9 =>
      some (r9))
      (none))
     (none))
    (none)))
  (none)
theorem i19 : ItemOk Try.prog (.fn 19 [.d (.slice (.agg zP))] [.d zI] s19) := item_fnM md2 ext2 (U := 9) (n := 12) noSpecial mixed Gs2K1_ok (fun x => by kernel_rfl)
noncomputable def Gs2K2 : List Ev.Item := .fn 19 [.d (.slice (.agg zP))] [.d zI] s19 :: Gs2K1
theorem Gs2K2_ok : ∀ q ∈ Gs2K2, ItemOk Try.prog q := items_cons i19 Gs2K1_ok
@[reducible] def T8_0 : Tmpl := ⟨22, [], [.val 0 (.slice (.agg zP)), .val 3 zI], [], none⟩
@[reducible] def X8_0 : List (Ex × Tmpl) := [(.ret, ⟨22, [], [.val 2 zI], [], none⟩), (.exit 0, ⟨22, [], [], [], none⟩)]
noncomputable def step8_0 : (List (Int × Int)) × Int → Option (((List (Int × Int)) × Int) ⊕ ((Int) ⊕ (Unit))) := fun (x0, i) =>
 bif decide (i < (x0.length : Int)) then
  bif inBounds i x0.length then
   optE (s26 ((x0.getD i.toNat (0, 0)), 2000)) (fun r1 =>
    bif r1 != 0 then
     some (.inr (.inl r1))
    else
     some (.inl (x0, wr (i + 1))))
    (none)
  else
   none
 else
  some (.inr (.inr ()))
theorem one8_0 : oneLoop Try.prog 8 0 = true := by kernel_rfl
theorem lp8_0 : ItemOk Try.prog (.loop 8 0 T8_0 X8_0 (loopVal step8_0)) := item_loopM md2 ext2 (U := 9) (n := 11) noSpecial mixed Gs2K2_ok one8_0 (fun x => by kernel_rfl)
noncomputable def Gs2K3 : List Ev.Item := .loop 8 0 T8_0 X8_0 (loopVal step8_0) :: Gs2K2
theorem Gs2K3_ok : ∀ q ∈ Gs2K3, ItemOk Try.prog q := items_cons lp8_0 Gs2K2_ok
noncomputable def s8 : List (Int × Int) → Option (Int) := fun x0 =>
 bif decide ((x0.length : Int) > 400) then
  some (8)
 else
  optE (loopVal step8_0 (x0, 0)) (fun e1 =>
   sumE e1 (fun e2 =>
    some (e2)) (fun _ =>
    some (0)))
   (none)
theorem i8 : ItemOk Try.prog (.fn 8 [.d (.slice (.agg zP))] [.d zI] s8) := item_fnM md2 ext2 (U := 9) (n := 12) noSpecial mixed Gs2K3_ok (fun x => by kernel_rfl)
noncomputable def Gs2K4 : List Ev.Item := .fn 8 [.d (.slice (.agg zP))] [.d zI] s8 :: Gs2K3
theorem Gs2K4_ok : ∀ q ∈ Gs2K4, ItemOk Try.prog q := items_cons i8 Gs2K3_ok
noncomputable def s7 : List (Int × Int) → Option (List (Int × Int)) := fun l =>
 bif room 16 (0 + l.length) then
  some (l)
 else
  none
theorem i7 : ItemOk Try.prog (.fn 7 [.d (.slice (.agg zP))] [.own 42 (.agg zP)] s7) := item_fnM md2 ext2 (U := 9) (n := 12) noSpecial mixed Gs2K4_ok (fun x => by kernel_rfl)
noncomputable def Gs2K5 : List Ev.Item := .fn 7 [.d (.slice (.agg zP))] [.own 42 (.agg zP)] s7 :: Gs2K4
theorem Gs2K5_ok : ∀ q ∈ Gs2K5, ItemOk Try.prog q := items_cons i7 Gs2K4_ok
noncomputable def s5 : List (Int × Int) → Option (Bool) := fun x0 =>
 bif decide ((x0.length : Int) ≤ 60) then
  some (true)
 else
  bif decide ((x0.length : Int) > 400) then
   some (decide ((x0.length : Int) ≤ 404))
  else
   some (false)
theorem i5 : ItemOk Try.prog (.fn 5 [.d (.slice (.agg zP))] [.d .bool] s5) := item_fnM md2 ext2 (U := 9) (n := 12) noSpecial mixed Gs2K5_ok (fun x => by kernel_rfl)
noncomputable def Gs2K6 : List Ev.Item := .fn 5 [.d (.slice (.agg zP))] [.d .bool] s5 :: Gs2K5
theorem Gs2K6_ok : ∀ q ∈ Gs2K6, ItemOk Try.prog q := items_cons i5 Gs2K5_ok
@[reducible] def T22_0 : Tmpl := ⟨27, [], [.val 3 zI, .val 6 (.slice (.agg zP)), .val 7 zI, .val 8 zI], [], none⟩
@[reducible] def X22_0 : List (Ex × Tmpl) := [(.exit 0, ⟨27, [], [.val 3 zI], [], none⟩)]
noncomputable def step22_0 : Int × (List (Int × Int)) × Int × Int → Option ((Int × (List (Int × Int)) × Int × Int) ⊕ (Int)) := fun (sum, t6, t7, t8) =>
 bif decide (t8 < t7) then
  bif inBounds t8 t6.length then
   some (.inl (wr (sum + (wr ((wr ((t6.getD t8.toNat (0, 0)).1 * (t6.getD t8.toNat (0, 0)).1)) + (wr ((t6.getD t8.toNat (0, 0)).2 * (t6.getD t8.toNat (0, 0)).2))))), t6, t7, wr (t8 + 1)))
  else
   none
 else
  some (.inr sum)
theorem one22_0 : oneLoop Try.prog 22 0 = true := by kernel_rfl
theorem lp22_0 : ItemOk Try.prog (.loop 22 0 T22_0 X22_0 (loopVal step22_0)) := item_loopM md2 ext2 (U := 9) (n := 11) noSpecial mixed Gs2K6_ok one22_0 (fun x => by kernel_rfl)
noncomputable def Gs2K7 : List Ev.Item := .loop 22 0 T22_0 X22_0 (loopVal step22_0) :: Gs2K6
theorem Gs2K7_ok : ∀ q ∈ Gs2K7, ItemOk Try.prog q := items_cons lp22_0 Gs2K6_ok
noncomputable def s22 : List (Int × Int) → Option (Int) := fun x0 =>
 optE (loopVal step22_0 (0, x0, (x0.length : Int), 0)) (fun e1 =>
  some (e1))
  (none)
theorem i22 : ItemOk Try.prog (.fn 22 [.d (.slice (.agg zP))] [.d zI] s22) := item_fnM md2 ext2 (U := 9) (n := 12) noSpecial mixed Gs2K7_ok (fun x => by kernel_rfl)
noncomputable def Gs2K8 : List Ev.Item := .fn 22 [.d (.slice (.agg zP))] [.d zI] s22 :: Gs2K7
theorem Gs2K8_ok : ∀ q ∈ Gs2K8, ItemOk Try.prog q := items_cons i22 Gs2K7_ok
@[reducible] def T27_0 : Tmpl := ⟨19, [], [.val 0 (.slice (.agg zP)), .val 3 zI, .val 4 zI], [], none⟩
@[reducible] def X27_0 : List (Ex × Tmpl) := [(.exit 0, ⟨19, [], [.val 3 zI], [], none⟩)]
noncomputable def step27_0 : (List (Int × Int)) × Int × Int → Option (((List (Int × Int)) × Int × Int) ⊕ (Int)) := fun (x0, sum, n) =>
 bif decide (n < (x0.length : Int)) then
  bif inBounds n x0.length then
   optE (s44 (x0.getD n.toNat (0, 0))) (fun r1 =>
    some (.inl (x0, wr (sum + r1), wr (n + 1))))
    (none)
  else
   none
 else
  some (.inr sum)
theorem one27_0 : oneLoop Try.prog 27 0 = true := by kernel_rfl
theorem lp27_0 : ItemOk Try.prog (.loop 27 0 T27_0 X27_0 (loopVal step27_0)) := item_loopM md2 ext2 (U := 9) (n := 11) noSpecial mixed Gs2K8_ok one27_0 (fun x => by kernel_rfl)
noncomputable def Gs2K9 : List Ev.Item := .loop 27 0 T27_0 X27_0 (loopVal step27_0) :: Gs2K8
theorem Gs2K9_ok : ∀ q ∈ Gs2K9, ItemOk Try.prog q := items_cons lp27_0 Gs2K8_ok
noncomputable def s27 : List (Int × Int) → Option (Int) := fun x0 =>
 optE (loopVal step27_0 (x0, 0, 0)) (fun e1 =>
  some (e1))
  (none)
theorem i27 : ItemOk Try.prog (.fn 27 [.d (.slice (.agg zP))] [.d zI] s27) := item_fnM md2 ext2 (U := 9) (n := 12) noSpecial mixed Gs2K9_ok (fun x => by kernel_rfl)
noncomputable def Gs2K10 : List Ev.Item := .fn 27 [.d (.slice (.agg zP))] [.d zI] s27 :: Gs2K9
theorem Gs2K10_ok : ∀ q ∈ Gs2K10, ItemOk Try.prog q := items_cons i27 Gs2K9_ok
@[reducible] def T10_0 : Tmpl := ⟨32, [], [.val 0 (.slice (.agg zP)), .val 1 zI, .val 5 zI, .val 6 zI], [], none⟩
@[reducible] def X10_0 : List (Ex × Tmpl) := [(.exit 0, ⟨32, [], [.val 5 zI], [], none⟩)]
noncomputable def step10_0 : (List (Int × Int)) × Int × Int × Int → Option (((List (Int × Int)) × Int × Int × Int) ⊕ (Int)) := fun (x0, length, best, n) =>
 bif decide ((wr (n + length)) ≤ (x0.length : Int)) then
  bif (decide (0 ≤ n)) && ((decide (n ≤ (wr (n + length)))) && (decide ((wr (n + length)) ≤ (x0.length : Int)))) then
   optE (s27 ((x0.take (wr (n + length)).toNat).drop n.toNat)) (fun r1 =>
    bif (decide (0 ≤ best)) && ((decide (best ≤ (wr (best + length)))) && (decide ((wr (best + length)) ≤ (x0.length : Int)))) then
     optE (s27 ((x0.take (wr (best + length)).toNat).drop best.toNat)) (fun r2 =>
      bif decide (r1 > r2) then
       some (.inl (x0, length, n, wr (n + 1)))
      else
       some (.inl (x0, length, best, wr (n + 1))))
      (none)
    else
     none)
    (none)
  else
   none
 else
  some (.inr best)
theorem one10_0 : oneLoop Try.prog 10 0 = true := by kernel_rfl
theorem lp10_0 : ItemOk Try.prog (.loop 10 0 T10_0 X10_0 (loopVal step10_0)) := item_loopM md2 ext2 (U := 9) (n := 11) noSpecial mixed Gs2K10_ok one10_0 (fun x => by kernel_rfl)
noncomputable def Gs2K11 : List Ev.Item := .loop 10 0 T10_0 X10_0 (loopVal step10_0) :: Gs2K10
theorem Gs2K11_ok : ∀ q ∈ Gs2K11, ItemOk Try.prog q := items_cons lp10_0 Gs2K10_ok
noncomputable def s10 : (List (Int × Int)) × Int → Option (Int) := fun (x0, length) =>
 optE (loopVal step10_0 (x0, length, 0, 0)) (fun e1 =>
  some (e1))
  (none)
theorem i10 : ItemOk Try.prog (.fn 10 [.d (.slice (.agg zP)), .d zI] [.d zI] s10) := item_fnM md2 ext2 (U := 9) (n := 12) noSpecial mixed Gs2K11_ok (fun x => by kernel_rfl)
noncomputable def Gs2K12 : List Ev.Item := .fn 10 [.d (.slice (.agg zP)), .d zI] [.d zI] s10 :: Gs2K11
theorem Gs2K12_ok : ∀ q ∈ Gs2K12, ItemOk Try.prog q := items_cons i10 Gs2K11_ok
end Go.Proofs.Ytcdpgjlaajdfmaa
