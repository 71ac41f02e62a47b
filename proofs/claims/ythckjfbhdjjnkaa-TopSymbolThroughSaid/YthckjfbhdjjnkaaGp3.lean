/- Printed by gen.py: specifications of functions. -/
import Derived.Test.YthckjfbhdjjnkaaGp2
set_option linter.unusedSimpArgs false
set_option maxRecDepth 100000
namespace Go.Proofs.Ythckjfbhdjjnkaa
open Go.Ev
noncomputable def s16 : (Int × Int) × Int → Option ((Int × Int) × Int) := fun (z, full) =>
 optE (s42 (z.1, 1000000000000000)) (fun r1 =>
  bif !r1 then
   some (((0, 0), 2))
  else
   optE (s42 (z.2, 1000000000000000)) (fun r2 =>
    bif !r2 then
     some (((0, 0), 2))
    else
     optE (s40 (full, 1, 100000)) (fun r3 =>
      bif !r3 then
       some (((0, 0), 2))
      else
       bif !(full == 0) then
        bif !(full == 0) then
         some (((mn (mx (wr (Int.tdiv (wr (7 * z.1)) full)) (-7)) 7, mn (mx (wr (Int.tdiv (wr (7 * z.2)) full)) (-7)) 7), 0))
        else
         none
       else
        none)
      (none))
    (none))
  (none)
theorem i16 : ItemOk Try.prog (.fn 16 [.d (.agg zP), .d zI] [.d (.agg zP), .d zI] s16) := item_fnM md4 ext4 (U := 9) (n := 12) noSpecial mixed Gp1K3_ok (fun x => by kernel_rfl)
noncomputable def Gp3K1 : List Ev.Item := .fn 16 [.d (.agg zP), .d zI] [.d (.agg zP), .d zI] s16 :: Gp1K3
theorem Gp3K1_ok : ∀ q ∈ Gp3K1, ItemOk Try.prog q := items_cons i16 Gp1K3_ok
@[reducible] def T37_0 : Tmpl := ⟨15, [], [.val 5 (.slice zI), .val 6 zI, .val 7 zI], [], none⟩
@[reducible] def X37_0 : List (Ex × Tmpl) := [(.ret, ⟨15, [], [.val 2 zI], [], none⟩), (.exit 0, ⟨15, [], [], [], none⟩)]
noncomputable def step37_0 : (List Int) × Int × Int → Option (((List Int) × Int × Int) ⊕ ((Int) ⊕ (Unit))) := fun (t5, t6, t7) =>
 bif decide (t7 < t6) then
  bif inBounds t7 t5.length then
   bif (t5.getD t7.toNat 0) != 0 then
    some (.inr (.inl (t5.getD t7.toNat 0)))
   else
    some (.inl (t5, t6, wr (t7 + 1)))
  else
   none
 else
  some (.inr (.inr ()))
theorem one37_0 : oneLoop Try.prog 37 0 = true := by kernel_rfl
theorem lp37_0 : ItemOk Try.prog (.loop 37 0 T37_0 X37_0 (loopVal step37_0)) := item_loopM md4 ext4 (U := 9) (n := 11) noSpecial mixed Gp3K1_ok one37_0 (fun x => by kernel_rfl)
noncomputable def Gp3K2 : List Ev.Item := .loop 37 0 T37_0 X37_0 (loopVal step37_0) :: Gp3K1
theorem Gp3K2_ok : ∀ q ∈ Gp3K2, ItemOk Try.prog q := items_cons lp37_0 Gp3K1_ok
noncomputable def s37 : List Int → Option (Int) := fun l =>
 optE (loopVal step37_0 (l, (l.length : Int), 0)) (fun e1 =>
  sumE e1 (fun e2 =>
   some (e2)) (fun _ =>
   some (0)))
  (none)
theorem i37 : ItemOk Try.prog (.fn 37 [.d (.slice zI)] [.d zI] s37) := item_fnM md4 ext4 (U := 9) (n := 12) noSpecial mixed Gp3K2_ok (fun x => by kernel_rfl)
noncomputable def Gp3K3 : List Ev.Item := .fn 37 [.d (.slice zI)] [.d zI] s37 :: Gp3K2
theorem Gp3K3_ok : ∀ q ∈ Gp3K3, ItemOk Try.prog q := items_cons i37 Gp3K2_ok
@[reducible] def T83_0 : Tmpl := ⟨19, [], [.val 0 (.slice (.agg zP)), .val 1 (.clo 75 (.pair (.ptr (.clo 57 .unit)) .unit)), .val 7 zI, .val 8 zI], [], none⟩
@[reducible] def X83_0 : List (Ex × Tmpl) := [(.ret, ⟨19, [], [.val 4 zI], [], none⟩), (.exit 0, ⟨19, [], [], [], none⟩)]
noncomputable def step83_0 : (List (Int × Int)) × (Unit × Unit) × Int × Int → Option (((List (Int × Int)) × (Unit × Unit) × Int × Int) ⊕ ((Int) ⊕ (Unit))) := fun (s, f, t7, t8) =>
 bif decide (t8 < t7) then
  bif inBounds t8 s.length then
   optE (s57 (s.getD t8.toNat (0, 0))) (fun r2 =>
    bif !r2 then
     some (.inr (.inl t8))
    else
     some (.inl (s, f, t7, wr (t8 + 1))))
    (none)
  else
   none
 else
  some (.inr (.inr ()))
theorem one83_0 : oneLoop Try.prog 83 0 = true := by kernel_rfl
theorem lp83_0 : ItemOk Try.prog (.loop 83 0 T83_0 X83_0 (loopVal step83_0)) := item_loopM md4 ext4 (U := 9) (n := 8) noSpecial mixed Gp3K3_ok one83_0 (fun x => by kernel_rfl)
noncomputable def Gp3K4 : List Ev.Item := .loop 83 0 T83_0 X83_0 (loopVal step83_0) :: Gp3K3
theorem Gp3K4_ok : ∀ q ∈ Gp3K4, ItemOk Try.prog q := items_cons lp83_0 Gp3K3_ok
noncomputable def s33 : List (Int × Int) → Option (Int) := fun l =>
 optE (s39 (decide ((l.length : Int) ≤ 400), 8)) (fun r1 =>
  optE (loopVal step83_0 (l, ((), ()), (l.length : Int), 0)) (fun e2 =>
   sumE e2 (fun e3 =>
    optE (s39 (!(decide (e3 ≥ 0)), 2)) (fun r5 =>
     optE (s37 [r1, r5]) (fun r6 =>
      some (r6))
      (none))
     (none)) (fun _ =>
    optE (s39 (true, 2)) (fun r7 =>
     optE (s37 [r1, r7]) (fun r8 =>
      some (r8))
      (none))
     (none)))
   (none))
  (none)
theorem i33 : ItemOk Try.prog (.fn 33 [.d (.slice (.agg zP))] [.d zI] s33) := item_fnM md4 ext4 (U := 9) (n := 12) noSpecial mixed Gp3K4_ok (fun x => by kernel_rfl)
noncomputable def Gp3K5 : List Ev.Item := .fn 33 [.d (.slice (.agg zP))] [.d zI] s33 :: Gp3K4
theorem Gp3K5_ok : ∀ q ∈ Gp3K5, ItemOk Try.prog q := items_cons i33 Gp3K4_ok
@[reducible] def T13_0 : Tmpl := ⟨35, [], [.val 5 zI, .val 13 (.slice (.agg zP)), .val 14 zI, .val 15 zI], [], none⟩
@[reducible] def X13_0 : List (Ex × Tmpl) := [(.exit 0, ⟨35, [], [.val 5 zI], [], none⟩)]
noncomputable def step13_0 : Int × (List (Int × Int)) × Int × Int → Option ((Int × (List (Int × Int)) × Int × Int) ⊕ (Int)) := fun (balance, t13, t14, t15) =>
 bif decide (t15 < t14) then
  bif inBounds t15 t13.length then
   some (.inl (wr (balance + (wr ((wr ((t13.getD t15.toNat (0, 0)).1 * (t13.getD t15.toNat (0, 0)).1)) - (wr ((t13.getD t15.toNat (0, 0)).2 * (t13.getD t15.toNat (0, 0)).2))))), t13, t14, wr (t15 + 1)))
  else
   none
 else
  some (.inr balance)
theorem one13_0 : oneLoop Try.prog 13 0 = true := by kernel_rfl
theorem lp13_0 : ItemOk Try.prog (.loop 13 0 T13_0 X13_0 (loopVal step13_0)) := item_loopM md4 ext4 (U := 9) (n := 11) noSpecial mixed Gp3K5_ok one13_0 (fun x => by kernel_rfl)
noncomputable def Gp3K6 : List Ev.Item := .loop 13 0 T13_0 X13_0 (loopVal step13_0) :: Gp3K5
theorem Gp3K6_ok : ∀ q ∈ Gp3K6, ItemOk Try.prog q := items_cons lp13_0 Gp3K5_ok
noncomputable def s13 : List (Int × Int) → Option (Int × Int) := fun l =>
 optE (s33 l) (fun r1 =>
  bif r1 != 0 then
   some ((0, r1))
  else
   optE (loopVal step13_0 (0, l, (l.length : Int), 0)) (fun e2 =>
    bif decide (e2 ≥ 0) then
     some ((0, 0))
    else
     some ((1, 0)))
    (none))
  (none)
theorem i13 : ItemOk Try.prog (.fn 13 [.d (.slice (.agg zP))] [.d zI, .d zI] s13) := item_fnM md4 ext4 (U := 9) (n := 12) noSpecial mixed Gp3K6_ok (fun x => by kernel_rfl)
noncomputable def Gp3K7 : List Ev.Item := .fn 13 [.d (.slice (.agg zP))] [.d zI, .d zI] s13 :: Gp3K6
theorem Gp3K7_ok : ∀ q ∈ Gp3K7, ItemOk Try.prog q := items_cons i13 Gp3K6_ok
end Go.Proofs.Ythckjfbhdjjnkaa
