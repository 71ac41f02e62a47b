/- Printed by gen.py: specifications of functions. -/
import Derived.Test.YthckjfbhdjjnkaaGp5
set_option linter.unusedSimpArgs false
set_option maxRecDepth 100000
namespace Go.Proofs.Ythckjfbhdjjnkaa
open Go.Ev
noncomputable def s68 : Int × Int × Int → Option (Bool) := fun (n, lo, hi) =>
 bif decide (lo ≤ n) then
  some (decide (n ≤ hi))
 else
  some (false)
theorem i68 : ItemOk Try.prog (.fn 68 [.d zI, .d zI, .d zI] [.d .bool] s68) := item_fnM md4 ext4 (U := 9) (n := 12) noSpecial mixed Gp5K31_ok (fun x => by kernel_rfl)
noncomputable def Gp6K1 : List Ev.Item := .fn 68 [.d zI, .d zI, .d zI] [.d .bool] s68 :: Gp5K31
theorem Gp6K1_ok : ∀ q ∈ Gp6K1, ItemOk Try.prog q := items_cons i68 Gp5K31_ok
noncomputable def s67 : Int → Option (Bool) := fun n =>
 optE (s68 (n, (-4096), 4096)) (fun r1 =>
  some (r1))
  (none)
theorem i67 : ItemOk Try.prog (.fn 67 [.d zI] [.d .bool] s67) := item_fnM md4 ext4 (U := 9) (n := 12) noSpecial mixed Gp6K1_ok (fun x => by kernel_rfl)
noncomputable def Gp6K2 : List Ev.Item := .fn 67 [.d zI] [.d .bool] s67 :: Gp6K1
theorem Gp6K2_ok : ∀ q ∈ Gp6K2, ItemOk Try.prog q := items_cons i67 Gp6K1_ok
noncomputable def s69 : Bool × Int → Option (Int) := fun (is, e0) =>
 bif is then
  some (0)
 else
  some (e0)
theorem i69 : ItemOk Try.prog (.fn 69 [.d .bool, .d zI] [.d zI] s69) := item_fnM md4 ext4 (U := 9) (n := 12) noSpecial mixed Gp6K2_ok (fun x => by kernel_rfl)
noncomputable def Gp6K3 : List Ev.Item := .fn 69 [.d .bool, .d zI] [.d zI] s69 :: Gp6K2
theorem Gp6K3_ok : ∀ q ∈ Gp6K3, ItemOk Try.prog q := items_cons i69 Gp6K2_ok
noncomputable def s51 : Int × Int × Int → Option (Int) := fun p =>
 optE (s68 (p.1, 0, 4095)) (fun r1 =>
  bif r1 then
   optE (s67 p.2.1) (fun r2 =>
    bif r2 then
     optE (s67 p.2.2) (fun r3 =>
      optE (s69 (r3, 2)) (fun r4 =>
       some (r4))
       (none))
      (none)
    else
     optE (s69 (false, 2)) (fun r5 =>
      some (r5))
      (none))
    (none)
  else
   optE (s69 (false, 2)) (fun r6 =>
    some (r6))
    (none))
  (none)
theorem i51 : ItemOk Try.prog (.fn 51 [.d (.agg (.pair zI zP))] [.d zI] s51) := item_fnM md4 ext4 (U := 9) (n := 12) noSpecial mixed Gp6K3_ok (fun x => by kernel_rfl)
noncomputable def Gp6K4 : List Ev.Item := .fn 51 [.d (.agg (.pair zI zP))] [.d zI] s51 :: Gp6K3
theorem Gp6K4_ok : ∀ q ∈ Gp6K4, ItemOk Try.prog q := items_cons i51 Gp6K3_ok
noncomputable def s84 : (Int × Int) × Int → Option (Bool) := fun (g, most) =>
 optE (s68 (g.1, wr (-most), most)) (fun r1 =>
  bif r1 then
   optE (s68 (g.2, wr (-most), most)) (fun r2 =>
    some (r2))
    (none)
  else
   some (false))
  (none)
theorem i84 : ItemOk Try.prog (.fn 84 [.d (.agg zP), .d zI] [.d .bool] s84) := item_fnM md4 ext4 (U := 9) (n := 12) noSpecial mixed Gp6K4_ok (fun x => by kernel_rfl)
noncomputable def Gp6K5 : List Ev.Item := .fn 84 [.d (.agg zP), .d zI] [.d .bool] s84 :: Gp6K4
theorem Gp6K5_ok : ∀ q ∈ Gp6K5, ItemOk Try.prog q := items_cons i84 Gp6K4_ok
noncomputable def s72 : Int × Int → Option (Bool) := fun g =>
 optE (s84 (g, 2000)) (fun r1 =>
  some (r1))
  (none)
theorem i72 : ItemOk Try.prog (.fn 72 [.d (.agg zP)] [.d .bool] s72) := item_fnM md4 ext4 (U := 9) (n := 12) noSpecial mixed Gp6K5_ok (fun x => by kernel_rfl)
noncomputable def Gp6K6 : List Ev.Item := .fn 72 [.d (.agg zP)] [.d .bool] s72 :: Gp6K5
theorem Gp6K6_ok : ∀ q ∈ Gp6K6, ItemOk Try.prog q := items_cons i72 Gp6K5_ok
noncomputable def s71 : Int × Int → Option (Bool) := fun g =>
 optE (s72 g) (fun r1 =>
  some (!r1))
  (none)
theorem i71 : ItemOk Try.prog (.fn 71 [.d (.agg zP)] [.d .bool] s71) := item_fnM md4 ext4 (U := 9) (n := 12) noSpecial mixed Gp6K6_ok (fun x => by kernel_rfl)
noncomputable def Gp6K7 : List Ev.Item := .fn 71 [.d (.agg zP)] [.d .bool] s71 :: Gp6K6
theorem Gp6K7_ok : ∀ q ∈ Gp6K7, ItemOk Try.prog q := items_cons i71 Gp6K6_ok
@[reducible] def T50_0 : Tmpl := ⟨15, [], [.val 5 (.slice zI), .val 6 zI, .val 7 zI], [], none⟩
@[reducible] def X50_0 : List (Ex × Tmpl) := [(.ret, ⟨15, [], [.val 2 zI], [], none⟩), (.exit 0, ⟨15, [], [], [], none⟩)]
noncomputable def step50_0 : (List Int) × Int × Int → Option (((List Int) × Int × Int) ⊕ ((Int) ⊕ (Unit))) := fun (t5, t6, t7) =>
 bif decide (t7 < t6) then
  bif inBounds t7 t5.length then
   bif (t5.getD t7.toNat 0) != 0 then
    some (.inr (.inl (t5.getD t7.toNat 0)))
   else
    some (.inl (t5, t6, wr (t7 + 1)))
  else
   none
 else
  some (.inr (.inr ()))
theorem one50_0 : oneLoop Try.prog 50 0 = true := by kernel_rfl
theorem lp50_0 : ItemOk Try.prog (.loop 50 0 T50_0 X50_0 (loopVal step50_0)) := item_loopM md4 ext4 (U := 9) (n := 11) noSpecial mixed Gp6K7_ok one50_0 (fun x => by kernel_rfl)
noncomputable def Gp6K8 : List Ev.Item := .loop 50 0 T50_0 X50_0 (loopVal step50_0) :: Gp6K7
theorem Gp6K8_ok : ∀ q ∈ Gp6K8, ItemOk Try.prog q := items_cons lp50_0 Gp6K7_ok
noncomputable def s50 : List Int → Option (Int) := fun l =>
 optE (loopVal step50_0 (l, (l.length : Int), 0)) (fun e1 =>
  sumE e1 (fun e2 =>
   some (e2)) (fun _ =>
   some (0)))
  (none)
theorem i50 : ItemOk Try.prog (.fn 50 [.d (.slice zI)] [.d zI] s50) := item_fnM md4 ext4 (U := 9) (n := 12) noSpecial mixed Gp6K8_ok (fun x => by kernel_rfl)
noncomputable def Gp6K9 : List Ev.Item := .fn 50 [.d (.slice zI)] [.d zI] s50 :: Gp6K8
theorem Gp6K9_ok : ∀ q ∈ Gp6K9, ItemOk Try.prog q := items_cons i50 Gp6K8_ok
@[reducible] def T83_0a : Tmpl := ⟨19, [(1, .fn 71)], [.val 0 (.slice (.agg zP)), .val 7 zI, .val 8 zI], [], none⟩
@[reducible] def X83_0a : List (Ex × Tmpl) := [(.ret, ⟨19, [], [.val 4 zI], [], none⟩), (.exit 0, ⟨19, [], [], [], none⟩)]
noncomputable def step83_0a : (List (Int × Int)) × Int × Int → Option (((List (Int × Int)) × Int × Int) ⊕ ((Int) ⊕ (Unit))) := fun (s, t7, t8) =>
 bif decide (t8 < t7) then
  bif inBounds t8 s.length then
   optE (s71 (s.getD t8.toNat (0, 0))) (fun r1 =>
    bif r1 then
     some (.inr (.inl t8))
    else
     some (.inl (s, t7, wr (t8 + 1))))
    (none)
  else
   none
 else
  some (.inr (.inr ()))
theorem one83_0a : oneLoop Try.prog 83 0 = true := by kernel_rfl
theorem lp83_0a : ItemOk Try.prog (.loop 83 0 T83_0a X83_0a (loopVal step83_0a)) := item_loopM md4 ext4 (U := 9) (n := 9) noSpecial mixed Gp6K9_ok one83_0a (fun x => by kernel_rfl)
noncomputable def Gp6K10 : List Ev.Item := .loop 83 0 T83_0a X83_0a (loopVal step83_0a) :: Gp6K9
theorem Gp6K10_ok : ∀ q ∈ Gp6K10, ItemOk Try.prog q := items_cons lp83_0a Gp6K9_ok
noncomputable def s52 : List (Int × Int) → Option (Int) := fun x0 =>
 optE (loopVal step83_0a (x0, (x0.length : Int), 0)) (fun e1 =>
  sumE e1 (fun e2 =>
   optE (s69 (decide ((x0.length : Int) ≤ 400), 8)) (fun r4 =>
    optE (s69 (!(decide (e2 ≥ 0)), 2)) (fun r5 =>
     optE (s50 [r4, r5]) (fun r6 =>
      some (r6))
      (none))
     (none))
    (none)) (fun _ =>
   optE (s69 (decide ((x0.length : Int) ≤ 400), 8)) (fun r7 =>
    optE (s69 (true, 2)) (fun r8 =>
     optE (s50 [r7, r8]) (fun r9 =>
      some (r9))
      (none))
     (none))
    (none)))
  (none)
theorem i52 : ItemOk Try.prog (.fn 52 [.d (.slice (.agg zP))] [.d zI] s52) := item_fnM md4 ext4 (U := 9) (n := 12) noSpecial mixed Gp6K10_ok (fun x => by kernel_rfl)
noncomputable def Gp6K11 : List Ev.Item := .fn 52 [.d (.slice (.agg zP))] [.d zI] s52 :: Gp6K10
theorem Gp6K11_ok : ∀ q ∈ Gp6K11, ItemOk Try.prog q := items_cons i52 Gp6K10_ok
@[reducible] def T53_0 : Tmpl := ⟨24, [], [.own 3 21 104 .zc, .val 6 (.slice (.agg zP)), .val 7 zI, .val 8 zI], [], none⟩
@[reducible] def X53_0 : List (Ex × Tmpl) := [(.exit 0, ⟨24, [], [.own 3 21 104 .zc], [], none⟩)]
noncomputable def step53_0 : (List (Int × Int)) × (List (Int × Int)) × Int × Int → Option (((List (Int × Int)) × (List (Int × Int)) × Int × Int) ⊕ (List (Int × Int))) := fun (out, t6, t7, t8) =>
 bif decide (t8 < t7) then
  bif inBounds t8 t6.length then
   bif small24 (t6.getD t8.toNat (0, 0)).1 then
    bif small24 (t6.getD t8.toNat (0, 0)).2 then
     bif room 8 (out.length + 1) then
      some (.inl (out ++ [(t6.getD t8.toNat (0, 0))], t6, t7, wr (t8 + 1)))
     else
      none
    else
     none
   else
    none
  else
   none
 else
  some (.inr out)
theorem one53_0 : oneLoop Try.prog 53 0 = true := by kernel_rfl
theorem lp53_0 : ItemOk Try.prog (.loop 53 0 T53_0 X53_0 (loopVal step53_0)) := item_loopM md4 ext4 (U := 9) (n := 11) noSpecial mixed Gp6K11_ok one53_0 (fun x => by kernel_rfl)
noncomputable def Gp6K12 : List Ev.Item := .loop 53 0 T53_0 X53_0 (loopVal step53_0) :: Gp6K11
theorem Gp6K12_ok : ∀ q ∈ Gp6K12, ItemOk Try.prog q := items_cons lp53_0 Gp6K11_ok
noncomputable def s53 : List (Int × Int) → Option (List (Int × Int)) := fun x0 =>
 optE (loopVal step53_0 ([], x0, (x0.length : Int), 0)) (fun e1 =>
  some (e1))
  (none)
theorem i53 : ItemOk Try.prog (.fn 53 [.d (.slice (.agg zP))] [.own 104 .zc] s53) := item_fnM md4 ext4 (U := 9) (n := 12) noSpecial mixed Gp6K12_ok (fun x => by kernel_rfl)
noncomputable def Gp6K13 : List Ev.Item := .fn 53 [.d (.slice (.agg zP))] [.own 104 .zc] s53 :: Gp6K12
theorem Gp6K13_ok : ∀ q ∈ Gp6K13, ItemOk Try.prog q := items_cons i53 Gp6K12_ok
noncomputable def s85 : Int → Option (Int) := fun n =>
 bif decide ((Int.tmod n 4096) < 0) then
  some (wr ((Int.tmod n 4096) + 4096))
 else
  some (Int.tmod n 4096)
theorem i85 : ItemOk Try.prog (.fn 85 [.d zI] [.d zI] s85) := item_fnM md4 ext4 (U := 9) (n := 12) noSpecial mixed Gp6K13_ok (fun x => by kernel_rfl)
noncomputable def Gp6K14 : List Ev.Item := .fn 85 [.d zI] [.d zI] s85 :: Gp6K13
theorem Gp6K14_ok : ∀ q ∈ Gp6K14, ItemOk Try.prog q := items_cons i85 Gp6K13_ok
noncomputable def s73 : (Int × Int × Int) × Int → Option (Int) := fun (p, n) =>
 optE (s85 (wr ((wr (p.1 + (wr (n * p.2.1)))) + (wr ((wr (Int.tdiv (wr (n * (wr (n - 1)))) 2)) * p.2.2))))) (fun r1 =>
  some (r1))
  (none)
theorem i73 : ItemOk Try.prog (.fn 73 [.d (.agg (.pair zI zP)), .d zI] [.d zI] s73) := item_fnM md4 ext4 (U := 9) (n := 12) noSpecial mixed Gp6K14_ok (fun x => by kernel_rfl)
noncomputable def Gp6K15 : List Ev.Item := .fn 73 [.d (.agg (.pair zI zP)), .d zI] [.d zI] s73 :: Gp6K14
theorem Gp6K15_ok : ∀ q ∈ Gp6K15, ItemOk Try.prog q := items_cons i73 Gp6K14_ok
noncomputable def s54 : (Int × Int × Int) × Int → Option (Int) := fun (p, n) =>
 optE (s73 (p, n)) (fun r1 =>
  some (Int.tmod (wr (Int.tdiv (wr (r1 + 512)) 1024)) 4))
  (none)
theorem i54 : ItemOk Try.prog (.fn 54 [.d (.agg (.pair zI zP)), .d zI] [.d zI] s54) := item_fnM md4 ext4 (U := 9) (n := 12) noSpecial mixed Gp6K15_ok (fun x => by kernel_rfl)
noncomputable def Gp6K16 : List Ev.Item := .fn 54 [.d (.agg (.pair zI zP)), .d zI] [.d zI] s54 :: Gp6K15
theorem Gp6K16_ok : ∀ q ∈ Gp6K16, ItemOk Try.prog q := items_cons i54 Gp6K15_ok
noncomputable def s74 : Int × Int → Option (Int × Int) := fun z =>
 some (z)
theorem i74 : ItemOk Try.prog (.fn 74 [.d .zc] [.d (.agg zP)] s74) := item_fnM md4 ext4 (U := 9) (n := 12) noSpecial mixed Gp6K16_ok (fun x => by kernel_rfl)
noncomputable def Gp6K17 : List Ev.Item := .fn 74 [.d .zc] [.d (.agg zP)] s74 :: Gp6K16
theorem Gp6K17_ok : ∀ q ∈ Gp6K17, ItemOk Try.prog q := items_cons i74 Gp6K16_ok
@[reducible] def T55_0 : Tmpl := ⟨19, [], [.own 3 16 36 (.agg zP), .val 6 (.slice .zc), .val 7 zI, .val 8 zI], [], none⟩
@[reducible] def X55_0 : List (Ex × Tmpl) := [(.exit 0, ⟨19, [], [.own 3 16 36 (.agg zP)], [], none⟩)]
noncomputable def step55_0 : (List (Int × Int)) × (List (Int × Int)) × Int × Int → Option (((List (Int × Int)) × (List (Int × Int)) × Int × Int) ⊕ (List (Int × Int))) := fun (out, t6, t7, t8) =>
 bif decide (t8 < t7) then
  bif inBounds t8 t6.length then
   optE (s74 (t6.getD t8.toNat (0, 0))) (fun r1 =>
    bif room 16 (out.length + 1) then
     some (.inl (out ++ [r1], t6, t7, wr (t8 + 1)))
    else
     none)
    (none)
  else
   none
 else
  some (.inr out)
theorem one55_0 : oneLoop Try.prog 55 0 = true := by kernel_rfl
theorem lp55_0 : ItemOk Try.prog (.loop 55 0 T55_0 X55_0 (loopVal step55_0)) := item_loopM md4 ext4 (U := 9) (n := 11) noSpecial mixed Gp6K17_ok one55_0 (fun x => by kernel_rfl)
noncomputable def Gp6K18 : List Ev.Item := .loop 55 0 T55_0 X55_0 (loopVal step55_0) :: Gp6K17
theorem Gp6K18_ok : ∀ q ∈ Gp6K18, ItemOk Try.prog q := items_cons lp55_0 Gp6K17_ok
noncomputable def s55 : List (Int × Int) → Option (List (Int × Int)) := fun s =>
 optE (loopVal step55_0 ([], s, (s.length : Int), 0)) (fun e1 =>
  some (e1))
  (none)
theorem i55 : ItemOk Try.prog (.fn 55 [.d (.slice .zc)] [.own 36 (.agg zP)] s55) := item_fnM md4 ext4 (U := 9) (n := 12) noSpecial mixed Gp6K18_ok (fun x => by kernel_rfl)
noncomputable def Gp6K19 : List Ev.Item := .fn 55 [.d (.slice .zc)] [.own 36 (.agg zP)] s55 :: Gp6K18
theorem Gp6K19_ok : ∀ q ∈ Gp6K19, ItemOk Try.prog q := items_cons i55 Gp6K18_ok
noncomputable def s32 : Int → Option (Int × Int) := fun turns =>
 bif inBounds (Int.tmod turns 4) 4 then
  some (([(1, 0), (0, (-1)), ((-1), 0), (0, 1)].getD (Int.tmod turns 4).toNat (0, 0)))
 else
  none
theorem i32 : ItemOk Try.prog (.fn 32 [.d zI] [.d .zc] s32) := item_fnM md4 ext4 (U := 9) (n := 12) noSpecial mixed Gp6K19_ok (fun x => by kernel_rfl)
noncomputable def Gp6K20 : List Ev.Item := .fn 32 [.d zI] [.d .zc] s32 :: Gp6K19
theorem Gp6K20_ok : ∀ q ∈ Gp6K20, ItemOk Try.prog q := items_cons i32 Gp6K19_ok
@[reducible] def T31_0 : Tmpl := ⟨41, [(2, .fn 32), (3, .ref 3 0 0 0)], [.own 9 21 104 .zc, .val 23 zI, .val 24 zI, .cells 3 [.d (.pair zI zP)]], [], none⟩
@[reducible] def X31_0 : List (Ex × Tmpl) := [(.exit 0, ⟨41, [], [.own 9 21 104 .zc], [], none⟩)]
noncomputable def step31_0 : (List (Int × Int)) × Int × Int × (Int × Int × Int) → Option (((List (Int × Int)) × Int × Int × (Int × Int × Int)) ⊕ (List (Int × Int))) := fun (s, t23, t24, p) =>
 bif decide (t24 < t23) then
  bif inBounds t24 s.length then
   optE (s54 (p, t24)) (fun r5 =>
    optE (s32 r5) (fun r6 =>
     bif (small24 (((s.getD t24.toNat (0, 0)).1 * r6.1) - ((s.getD t24.toNat (0, 0)).2 * r6.2))) && (small24 (((s.getD t24.toNat (0, 0)).1 * r6.2) + ((s.getD t24.toNat (0, 0)).2 * r6.1))) then
      bif inBounds t24 s.length then
       some (.inl (s.set t24.toNat (((s.getD t24.toNat (0, 0)).1 * r6.1) - ((s.getD t24.toNat (0, 0)).2 * r6.2), ((s.getD t24.toNat (0, 0)).1 * r6.2) + ((s.getD t24.toNat (0, 0)).2 * r6.1)), t23, wr (t24 + 1), p))
      else
       none
     else
      none)
     (none))
    (none)
  else
   none
 else
  some (.inr s)
theorem one31_0 : oneLoop Try.prog 31 0 = true := by kernel_rfl
theorem lp31_0 : ItemOk Try.prog (.loop 31 0 T31_0 X31_0 (loopVal step31_0)) := item_loopM md4 ext4 (U := 9) (n := 10) noSpecial mixed Gp6K20_ok one31_0 (fun x => by kernel_rfl)
noncomputable def Gp6K21 : List Ev.Item := .loop 31 0 T31_0 X31_0 (loopVal step31_0) :: Gp6K20
theorem Gp6K21_ok : ∀ q ∈ Gp6K21, ItemOk Try.prog q := items_cons lp31_0 Gp6K20_ok
noncomputable def s10 : (Int × Int × Int) × (List (Int × Int)) → Option ((List (Int × Int)) × Int) := fun (p, x0) =>
 optE (s51 p) (fun r1 =>
  optE (s52 x0) (fun r2 =>
   optE (s50 [r1, r2]) (fun r3 =>
    bif r3 != 0 then
     some (([], r3))
    else
     optE (s53 x0) (fun r4 =>
      optE (loopVal step31_0 (r4, (r4.length : Int), 0, p)) (fun e5 =>
       optE (s55 e5) (fun r6 =>
        some ((r6, 0)))
        (none))
       (none))
      (none))
    (none))
   (none))
  (none)
theorem i10 : ItemOk Try.prog (.fn 10 [.d (.agg (.pair zI zP)), .d (.slice (.agg zP))] [.own 36 (.agg zP), .d zI] s10) := item_fnM md4 ext4 (U := 9) (n := 12) noSpecial mixed Gp6K21_ok (fun x => by kernel_rfl)
noncomputable def Gp6K22 : List Ev.Item := .fn 10 [.d (.agg (.pair zI zP)), .d (.slice (.agg zP))] [.own 36 (.agg zP), .d zI] s10 :: Gp6K21
theorem Gp6K22_ok : ∀ q ∈ Gp6K22, ItemOk Try.prog q := items_cons i10 Gp6K21_ok
end Go.Proofs.Ythckjfbhdjjnkaa
