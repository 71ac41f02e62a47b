import Derived.Test.YthckjfbhdjjnkaaDoorGd2
set_option linter.unusedSimpArgs false
set_option maxRecDepth 100000
namespace Go.Proofs.YthckjfbhdjjnkaaDoor
open Go.Ev
noncomputable def s41 : List (Int × Int) → Option (Bool) := fun l =>
 bif decide ((l.length : Int) ≤ 60) then
  some (true)
 else
  bif decide ((l.length : Int) > 400) then
   some (decide ((l.length : Int) ≤ 402))
  else
   some (false)
theorem i41 : ItemOk Tryd.prog (.fn 41 [.d (.slice (.agg zP))] [.d .bool] s41) := item_fnM md4 ext4 (U := 9) (n := 12) noSpecial mixed Gd2K21_ok (fun x => by kernel_rfl)
noncomputable def Gd3K1 : List Ev.Item := .fn 41 [.d (.slice (.agg zP))] [.d .bool] s41 :: Gd2K21
theorem Gd3K1_ok : ∀ q ∈ Gd3K1, ItemOk Tryd.prog q := items_cons i41 Gd2K21_ok
noncomputable def s43 : List (Int × Int) → Option (List (Int × Int)) := fun l =>
 bif room 16 (0 + l.length) then
  some (l)
 else
  none
theorem i43 : ItemOk Tryd.prog (.fn 43 [.d (.slice (.agg zP))] [.own 83 (.agg zP)] s43) := item_fnM md4 ext4 (U := 9) (n := 12) noSpecial mixed Gd3K1_ok (fun x => by kernel_rfl)
noncomputable def Gd3K2 : List Ev.Item := .fn 43 [.d (.slice (.agg zP))] [.own 83 (.agg zP)] s43 :: Gd3K1
theorem Gd3K2_ok : ∀ q ∈ Gd3K2, ItemOk Tryd.prog q := items_cons i43 Gd3K1_ok
@[reducible] def T146_0 : Tmpl := ⟨19, [], [.val 0 (.slice (.agg zP)), .val 1 (.clo 137 (.pair (.ptr (.clo 123 .unit)) .unit)), .val 7 zI, .val 8 zI], [], none⟩
@[reducible] def X146_0 : List (Ex × Tmpl) := [(.ret, ⟨19, [], [.val 4 zI], [], none⟩), (.exit 0, ⟨19, [], [], [], none⟩)]
noncomputable def step146_0 : (List (Int × Int)) × (Unit × Unit) × Int × Int → Option (((List (Int × Int)) × (Unit × Unit) × Int × Int) ⊕ ((Int) ⊕ (Unit))) := fun (s, f, t7, t8) =>
 bif decide (t8 < t7) then
  bif inBounds t8 s.length then
   optE (s123 (s.getD t8.toNat (0, 0))) (fun r2 =>
    bif !r2 then
     some (.inr (.inl t8))
    else
     some (.inl (s, f, t7, wr (t8 + 1))))
    (none)
  else
   none
 else
  some (.inr (.inr ()))
theorem one146_0 : oneLoop Tryd.prog 146 0 = true := by kernel_rfl
theorem lp146_0 : ItemOk Tryd.prog (.loop 146 0 T146_0 X146_0 (loopVal step146_0)) := item_loopM md4 ext4 (U := 9) (n := 8) noSpecial mixed Gd3K2_ok one146_0 (fun x => by kernel_rfl)
noncomputable def Gd3K3 : List Ev.Item := .loop 146 0 T146_0 X146_0 (loopVal step146_0) :: Gd3K2
theorem Gd3K3_ok : ∀ q ∈ Gd3K3, ItemOk Tryd.prog q := items_cons lp146_0 Gd3K2_ok
noncomputable def s94 : List (Int × Int) → Option (Int) := fun l =>
 optE (s82 (decide ((l.length : Int) ≤ 400), 8)) (fun r1 =>
  optE (loopVal step146_0 (l, ((), ()), (l.length : Int), 0)) (fun e2 =>
   sumE e2 (fun e3 =>
    optE (s82 (!(decide (e3 ≥ 0)), 2)) (fun r5 =>
     optE (s80 [r1, r5]) (fun r6 =>
      some (r6))
      (none))
     (none)) (fun _ =>
    optE (s82 (true, 2)) (fun r7 =>
     optE (s80 [r1, r7]) (fun r8 =>
      some (r8))
      (none))
     (none)))
   (none))
  (none)
theorem i94 : ItemOk Tryd.prog (.fn 94 [.d (.slice (.agg zP))] [.d zI] s94) := item_fnM md4 ext4 (U := 9) (n := 12) noSpecial mixed Gd3K3_ok (fun x => by kernel_rfl)
noncomputable def Gd3K4 : List Ev.Item := .fn 94 [.d (.slice (.agg zP))] [.d zI] s94 :: Gd3K3
theorem Gd3K4_ok : ∀ q ∈ Gd3K4, ItemOk Tryd.prog q := items_cons i94 Gd3K3_ok
@[reducible] def T96_0 : Tmpl := ⟨29, [(2, .ref 2 0 0 0)], [.val 3 .zc, .val 6 (.slice (.agg zP)), .val 7 zI, .val 8 zI, .cells 2 [.d zP]], [], none⟩
@[reducible] def X96_0 : List (Ex × Tmpl) := [(.exit 0, ⟨29, [(2, .ref 2 0 0 0)], [.val 3 .zc, .cells 2 [.d zP]], [], none⟩)]
noncomputable def step96_0 : (Int × Int) × (List (Int × Int)) × Int × Int × (Int × Int) → Option (((Int × Int) × (List (Int × Int)) × Int × Int × (Int × Int)) ⊕ ((Int × Int) × (Int × Int))) := fun (out, t6, t7, t8, t2) =>
 bif decide (t8 < t7) then
  bif inBounds t8 t6.length then
   bif small24 (t6.getD t8.toNat (0, 0)).1 then
    bif small24 (t6.getD t8.toNat (0, 0)).2 then
     bif (small24 (out.1 + (t6.getD t8.toNat (0, 0)).1)) && (small24 (out.2 + (t6.getD t8.toNat (0, 0)).2)) then
      some (.inl ((out.1 + (t6.getD t8.toNat (0, 0)).1, out.2 + (t6.getD t8.toNat (0, 0)).2), t6, t7, wr (t8 + 1), t2))
     else
      none
    else
     none
   else
    none
  else
   none
 else
  some (.inr (out, t2))
theorem one96_0 : oneLoop Tryd.prog 96 0 = true := by kernel_rfl
theorem lp96_0 : ItemOk Tryd.prog (.loop 96 0 T96_0 X96_0 (loopVal step96_0)) := item_loopM md4 ext4 (U := 9) (n := 11) noSpecial mixed Gd3K4_ok one96_0 (fun x => by kernel_rfl)
noncomputable def Gd3K5 : List Ev.Item := .loop 96 0 T96_0 X96_0 (loopVal step96_0) :: Gd3K4
theorem Gd3K5_ok : ∀ q ∈ Gd3K5, ItemOk Tryd.prog q := items_cons lp96_0 Gd3K4_ok
noncomputable def s96 : List (Int × Int) → Option (Int × Int) := fun l =>
 optE (loopVal step96_0 ((0, 0), l, (l.length : Int), 0, (0, 0))) (fun e1 =>
  some (e1.1))
  (none)
theorem i96 : ItemOk Tryd.prog (.fn 96 [.d (.slice (.agg zP))] [.d (.agg zP)] s96) := item_fnM md4 ext4 (U := 9) (n := 12) noSpecial mixed Gd3K5_ok (fun x => by kernel_rfl)
noncomputable def Gd3K6 : List Ev.Item := .fn 96 [.d (.slice (.agg zP))] [.d (.agg zP)] s96 :: Gd3K5
theorem Gd3K6_ok : ∀ q ∈ Gd3K6, ItemOk Tryd.prog q := items_cons i96 Gd3K5_ok
@[reducible] def T42_0 : Tmpl := ⟨91, [(2, .ref 2 0 0 0)], [.val 1 (.slice (.agg zP)), .own 8 48 3 zI, .val 9 zI, .val 10 zI, .cells 2 [.d zP]], [], none⟩
@[reducible] def X42_0 : List (Ex × Tmpl) := [(.exit 0, ⟨91, [], [.own 8 48 3 zI], [], none⟩)]
noncomputable def step42_0 : (List (Int × Int)) × (List Int) × Int × Int × (Int × Int) → Option (((List (Int × Int)) × (List Int) × Int × Int × (Int × Int)) ⊕ (List Int)) := fun (l, out, half, at0, t) =>
 bif decide ((wr (at0 + t.1)) ≤ (l.length : Int)) then
  bif room 8 (out.length + 1) then
   bif (decide (0 ≤ at0)) && ((decide (at0 ≤ (wr (at0 + half)))) && (decide ((wr (at0 + half)) ≤ (l.length : Int)))) then
    optE (s96 ((l.take (wr (at0 + half)).toNat).drop at0.toNat)) (fun r7 =>
     optE (s95 r7) (fun r8 =>
      bif (decide (0 ≤ (wr (at0 + half)))) && ((decide ((wr (at0 + half)) ≤ (wr (at0 + t.1)))) && (decide ((wr (at0 + t.1)) ≤ (l.length : Int)))) then
       optE (s96 ((l.take (wr (at0 + t.1)).toNat).drop (wr (at0 + half)).toNat)) (fun r9 =>
        optE (s95 r9) (fun r10 =>
         bif decide (r10 > (wr (r8 + t.2))) then
          some (.inl (l, out ++ [at0], half, wr ((wr (at0 + t.1)) + 1), t))
         else
          bif decide (r8 > (wr (r10 + t.2))) then
           some (.inl (l, out ++ [at0], half, wr ((wr (at0 + t.1)) - 1), t))
          else
           some (.inl (l, out ++ [at0], half, wr (at0 + t.1), t)))
         (none))
        (none)
      else
       none)
      (none))
     (none)
   else
    none
  else
   none
 else
  some (.inr out)
theorem one42_0 : oneLoop Tryd.prog 42 0 = true := by kernel_rfl
theorem lp42_0 : ItemOk Tryd.prog (.loop 42 0 T42_0 X42_0 (loopVal step42_0)) := item_loopM md4 ext4 (U := 9) (n := 11) noSpecial mixed Gd3K6_ok one42_0 (fun x => by kernel_rfl)
noncomputable def Gd3K7 : List Ev.Item := .loop 42 0 T42_0 X42_0 (loopVal step42_0) :: Gd3K6
theorem Gd3K7_ok : ∀ q ∈ Gd3K7, ItemOk Tryd.prog q := items_cons lp42_0 Gd3K6_ok
noncomputable def s42 : (Int × Int) × (List (Int × Int)) → Option ((List Int) × Int) := fun (t, l) =>
 optE (s79 (t.1, 2, 16)) (fun r1 =>
  bif r1 then
   optE (s79 (t.2, 0, 1000000000000000)) (fun r2 =>
    optE (s82 (r2, 2)) (fun r3 =>
     optE (s82 ((Int.tmod t.1 2) == 0, 3)) (fun r4 =>
      optE (s94 l) (fun r5 =>
       optE (s80 [r3, r4, r5]) (fun r6 =>
        bif r6 != 0 then
         some (([], r6))
        else
         optE (loopVal step42_0 (l, [], wr (Int.tdiv t.1 2), 0, t)) (fun e7 =>
          some ((e7, 0)))
          (none))
        (none))
       (none))
      (none))
     (none))
    (none)
  else
   optE (s82 (false, 2)) (fun r8 =>
    optE (s82 ((Int.tmod t.1 2) == 0, 3)) (fun r9 =>
     optE (s94 l) (fun r10 =>
      optE (s80 [r8, r9, r10]) (fun r11 =>
       bif r11 != 0 then
        some (([], r11))
       else
        optE (loopVal step42_0 (l, [], wr (Int.tdiv t.1 2), 0, t)) (fun e12 =>
         some ((e12, 0)))
         (none))
       (none))
      (none))
     (none))
    (none))
  (none)
theorem i42 : ItemOk Tryd.prog (.fn 42 [.d (.agg zP), .d (.slice (.agg zP))] [.own 3 zI, .d zI] s42) := item_fnM md4 ext4 (U := 9) (n := 12) noSpecial mixed Gd3K7_ok (fun x => by kernel_rfl)
noncomputable def Gd3K8 : List Ev.Item := .fn 42 [.d (.agg zP), .d (.slice (.agg zP))] [.own 3 zI, .d zI] s42 :: Gd3K7
theorem Gd3K8_ok : ∀ q ∈ Gd3K8, ItemOk Tryd.prog q := items_cons i42 Gd3K7_ok
noncomputable def s44 : Int × Int → Option (Int) := fun t =>
 optE (s28 (t.1, 2, 16)) (fun r1 =>
  bif !r1 then
   some (2)
  else
   optE (s28 (t.2, 0, 1000000000000000)) (fun r2 =>
    bif !r2 then
     some (2)
    else
     bif (Int.tmod t.1 2) != 0 then
      some (3)
     else
      some (0))
    (none))
  (none)
theorem i44 : ItemOk Tryd.prog (.fn 44 [.d (.agg zP)] [.d zI] s44) := item_fnM md4 ext4 (U := 9) (n := 12) noSpecial mixed Gd3K8_ok (fun x => by kernel_rfl)
noncomputable def Gd3K9 : List Ev.Item := .fn 44 [.d (.agg zP)] [.d zI] s44 :: Gd3K8
theorem Gd3K9_ok : ∀ q ∈ Gd3K9, ItemOk Tryd.prog q := items_cons i44 Gd3K8_ok
noncomputable def s97 : Int × Int → Option (Bool) := fun g =>
 optE (s28 (g.1, (-2000), 2000)) (fun r1 =>
  bif r1 then
   optE (s28 (g.2, (-2000), 2000)) (fun r2 =>
    some (r2))
    (none)
  else
   some (false))
  (none)
theorem i97 : ItemOk Tryd.prog (.fn 97 [.d (.agg zP)] [.d .bool] s97) := item_fnM md4 ext4 (U := 9) (n := 12) noSpecial mixed Gd3K9_ok (fun x => by kernel_rfl)
noncomputable def Gd3K10 : List Ev.Item := .fn 97 [.d (.agg zP)] [.d .bool] s97 :: Gd3K9
theorem Gd3K10_ok : ∀ q ∈ Gd3K10, ItemOk Tryd.prog q := items_cons i97 Gd3K9_ok
@[reducible] def T45_0 : Tmpl := ⟨19, [], [.val 0 (.slice (.agg zP)), .val 3 zI], [], none⟩
@[reducible] def X45_0 : List (Ex × Tmpl) := [(.ret, ⟨19, [], [.val 2 zI], [], none⟩), (.exit 0, ⟨19, [], [], [], none⟩)]
noncomputable def step45_0 : (List (Int × Int)) × Int → Option (((List (Int × Int)) × Int) ⊕ ((Int) ⊕ (Unit))) := fun (l, i) =>
 bif decide (i < (l.length : Int)) then
  bif inBounds i l.length then
   optE (s97 (l.getD i.toNat (0, 0))) (fun r1 =>
    bif !r1 then
     some (.inr (.inl 2))
    else
     some (.inl (l, wr (i + 1))))
    (none)
  else
   none
 else
  some (.inr (.inr ()))
theorem one45_0 : oneLoop Tryd.prog 45 0 = true := by kernel_rfl
theorem lp45_0 : ItemOk Tryd.prog (.loop 45 0 T45_0 X45_0 (loopVal step45_0)) := item_loopM md4 ext4 (U := 9) (n := 11) noSpecial mixed Gd3K10_ok one45_0 (fun x => by kernel_rfl)
noncomputable def Gd3K11 : List Ev.Item := .loop 45 0 T45_0 X45_0 (loopVal step45_0) :: Gd3K10
theorem Gd3K11_ok : ∀ q ∈ Gd3K11, ItemOk Tryd.prog q := items_cons lp45_0 Gd3K10_ok
noncomputable def s45 : List (Int × Int) → Option (Int) := fun l =>
 bif decide ((l.length : Int) > 400) then
  some (8)
 else
  optE (loopVal step45_0 (l, 0)) (fun e1 =>
   sumE e1 (fun e2 =>
    some (e2)) (fun _ =>
    some (0)))
   (none)
theorem i45 : ItemOk Tryd.prog (.fn 45 [.d (.slice (.agg zP))] [.d zI] s45) := item_fnM md4 ext4 (U := 9) (n := 12) noSpecial mixed Gd3K11_ok (fun x => by kernel_rfl)
noncomputable def Gd3K12 : List Ev.Item := .fn 45 [.d (.slice (.agg zP))] [.d zI] s45 :: Gd3K11
theorem Gd3K12_ok : ∀ q ∈ Gd3K12, ItemOk Tryd.prog q := items_cons i45 Gd3K11_ok
noncomputable def s124 : (Int × Int) × (Int × Int) → Option (Int × Int) := fun (a, b) =>
 some ((wr (a.1 + b.1), wr (a.2 + b.2)))
theorem i124 : ItemOk Tryd.prog (.fn 124 [.d (.agg zP), .d (.agg zP)] [.d (.agg zP)] s124) := item_fnM md4 ext4 (U := 9) (n := 12) noSpecial mixed Gd3K12_ok (fun x => by kernel_rfl)
noncomputable def Gd3K13 : List Ev.Item := .fn 124 [.d (.agg zP), .d (.agg zP)] [.d (.agg zP)] s124 :: Gd3K12
theorem Gd3K13_ok : ∀ q ∈ Gd3K13, ItemOk Tryd.prog q := items_cons i124 Gd3K12_ok
@[reducible] def T99_0 : Tmpl := ⟨23, [(6, .ref 6 0 0 0), (7, .ref 7 0 0 0)], [.val 0 (.slice (.agg zP)), .val 1 zI, .val 2 zI, .val 8 zI, .cells 6 [.d zP], .cells 7 [.d zP]], [], none⟩
@[reducible] def X99_0 : List (Ex × Tmpl) := [(.exit 0, ⟨23, [(6, .ref 6 0 0 0), (7, .ref 7 0 0 0)], [.cells 6 [.d zP], .cells 7 [.d zP]], [], none⟩)]
noncomputable def step99_0 : (List (Int × Int)) × Int × Int × Int × (Int × Int) × (Int × Int) → Option (((List (Int × Int)) × Int × Int × Int × (Int × Int) × (Int × Int)) ⊕ ((Int × Int) × (Int × Int))) := fun (l, from0, count, i, t6, out) =>
 bif decide (i < count) then
  bif inBounds (wr (from0 + i)) l.length then
   optE (s124 (out, (l.getD (wr (from0 + i)).toNat (0, 0)))) (fun r1 =>
    some (.inl (l, from0, count, wr (i + 1), t6, r1)))
    (none)
  else
   none
 else
  some (.inr (t6, out))
theorem one99_0 : oneLoop Tryd.prog 99 0 = true := by kernel_rfl
theorem lp99_0 : ItemOk Tryd.prog (.loop 99 0 T99_0 X99_0 (loopVal step99_0)) := item_loopM md4 ext4 (U := 9) (n := 11) noSpecial mixed Gd3K13_ok one99_0 (fun x => by kernel_rfl)
noncomputable def Gd3K14 : List Ev.Item := .loop 99 0 T99_0 X99_0 (loopVal step99_0) :: Gd3K13
theorem Gd3K14_ok : ∀ q ∈ Gd3K14, ItemOk Tryd.prog q := items_cons lp99_0 Gd3K13_ok
noncomputable def s99 : (List (Int × Int)) × Int × Int → Option (Int × Int) := fun (l, from0, count) =>
 optE (loopVal step99_0 (l, from0, count, 0, (0, 0), (0, 0))) (fun e1 =>
  some (e1.2))
  (none)
theorem i99 : ItemOk Tryd.prog (.fn 99 [.d (.slice (.agg zP)), .d zI, .d zI] [.d (.agg zP)] s99) := item_fnM md4 ext4 (U := 9) (n := 12) noSpecial mixed Gd3K14_ok (fun x => by kernel_rfl)
noncomputable def Gd3K15 : List Ev.Item := .fn 99 [.d (.slice (.agg zP)), .d zI, .d zI] [.d (.agg zP)] s99 :: Gd3K14
theorem Gd3K15_ok : ∀ q ∈ Gd3K15, ItemOk Tryd.prog q := items_cons i99 Gd3K14_ok
noncomputable def s98 : Int × Int → Option (Int) := fun a =>
 some (wr ((wr (a.1 * a.1)) + (wr (a.2 * a.2))))
theorem i98 : ItemOk Tryd.prog (.fn 98 [.d (.agg zP)] [.d zI] s98) := item_fnM md4 ext4 (U := 9) (n := 12) noSpecial mixed Gd3K15_ok (fun x => by kernel_rfl)
noncomputable def Gd3K16 : List Ev.Item := .fn 98 [.d (.agg zP)] [.d zI] s98 :: Gd3K15
theorem Gd3K16_ok : ∀ q ∈ Gd3K16, ItemOk Tryd.prog q := items_cons i98 Gd3K15_ok
@[reducible] def T46_0 : Tmpl := ⟨57, [(2, .ref 2 0 0 0)], [.val 1 (.slice (.agg zP)), .own 5 20 3 zI, .val 6 zI, .cells 2 [.d zP]], [], none⟩
@[reducible] def X46_0 : List (Ex × Tmpl) := [(.exit 0, ⟨57, [], [.own 5 20 3 zI], [], none⟩)]
noncomputable def step46_0 : (List (Int × Int)) × (List Int) × Int × (Int × Int) → Option (((List (Int × Int)) × (List Int) × Int × (Int × Int)) ⊕ (List Int)) := fun (l, out, p, t) =>
 bif decide ((wr (p + t.1)) ≤ (l.length : Int)) then
  bif room 8 (out.length + 1) then
   optE (s99 (l, p, wr (Int.tdiv t.1 2))) (fun r1 =>
    optE (s98 r1) (fun r2 =>
     optE (s99 (l, wr (p + (wr (Int.tdiv t.1 2))), wr (Int.tdiv t.1 2))) (fun r3 =>
      optE (s98 r3) (fun r4 =>
       bif decide (r4 > (wr (r2 + t.2))) then
        some (.inl (l, out ++ [p], wr ((wr (p + t.1)) + 1), t))
       else
        bif decide (r2 > (wr (r4 + t.2))) then
         some (.inl (l, out ++ [p], wr ((wr (p + t.1)) - 1), t))
        else
         some (.inl (l, out ++ [p], wr (p + t.1), t)))
       (none))
      (none))
     (none))
    (none)
  else
   none
 else
  some (.inr out)
theorem one46_0 : oneLoop Tryd.prog 46 0 = true := by kernel_rfl
theorem lp46_0 : ItemOk Tryd.prog (.loop 46 0 T46_0 X46_0 (loopVal step46_0)) := item_loopM md4 ext4 (U := 9) (n := 11) noSpecial mixed Gd3K16_ok one46_0 (fun x => by kernel_rfl)
noncomputable def Gd3K17 : List Ev.Item := .loop 46 0 T46_0 X46_0 (loopVal step46_0) :: Gd3K16
theorem Gd3K17_ok : ∀ q ∈ Gd3K17, ItemOk Tryd.prog q := items_cons lp46_0 Gd3K16_ok
noncomputable def s46 : (Int × Int) × (List (Int × Int)) → Option (List Int) := fun (t, l) =>
 optE (loopVal step46_0 (l, [], 0, t)) (fun e1 =>
  some (e1))
  (none)
theorem i46 : ItemOk Tryd.prog (.fn 46 [.d (.agg zP), .d (.slice (.agg zP))] [.own 3 zI] s46) := item_fnM md4 ext4 (U := 9) (n := 12) noSpecial mixed Gd3K17_ok (fun x => by kernel_rfl)
noncomputable def Gd3K18 : List Ev.Item := .fn 46 [.d (.agg zP), .d (.slice (.agg zP))] [.own 3 zI] s46 :: Gd3K17
theorem Gd3K18_ok : ∀ q ∈ Gd3K18, ItemOk Tryd.prog q := items_cons i46 Gd3K17_ok
@[reducible] def T7_0 : Tmpl := ⟨71, [(2, .ref 2 0 0 0)], [.val 5 (.slice zI), .val 8 zI, .cells 2 [.d zP]], [], none⟩
@[reducible] def X7_0 : List (Ex × Tmpl) := [(.ret, ⟨71, [], [.val 4 .bool], [], none⟩), (.exit 0, ⟨71, [], [], [], none⟩)]
noncomputable def step7_0 : (List Int) × Int × (Int × Int) → Option (((List Int) × Int × (Int × Int)) ⊕ ((Bool) ⊕ (Unit))) := fun (x0, i, t) =>
 bif decide (i < (x0.length : Int)) then
  bif inBounds i x0.length then
   bif inBounds (wr (i - 1)) x0.length then
    optE (s28 (wr ((x0.getD i.toNat 0) - (x0.getD (wr (i - 1)).toNat 0)), wr (t.1 - 1), wr (t.1 + 1))) (fun r8 =>
     bif !r8 then
      some (.inr (.inl false))
     else
      some (.inl (x0, wr (i + 1), t)))
     (none)
   else
    none
  else
   none
 else
  some (.inr (.inr ()))
theorem one7_0 : oneLoop Tryd.prog 7 0 = true := by kernel_rfl
theorem lp7_0 : ItemOk Tryd.prog (.loop 7 0 T7_0 X7_0 (loopVal step7_0)) := item_loopM md4 ext4 (U := 9) (n := 11) noSpecial mixed Gd3K18_ok one7_0 (fun x => by kernel_rfl)
noncomputable def Gd3K19 : List Ev.Item := .loop 7 0 T7_0 X7_0 (loopVal step7_0) :: Gd3K18
theorem Gd3K19_ok : ∀ q ∈ Gd3K19, ItemOk Tryd.prog q := items_cons lp7_0 Gd3K18_ok
noncomputable def s7 : (Int × Int) × (List (Int × Int)) → Option (Bool) := fun (t, l) =>
 bif !true then
  some (false)
 else
  optE (s41 l) (fun r1 =>
   bif !r1 then
    some (true)
   else
    optE (s43 l) (fun r2 =>
     optE (s42 (t, r2)) (fun r3 =>
      optE (s44 t) (fun r4 =>
       bif r4 == 0 then
        optE (s45 l) (fun r5 =>
         bif r5 != 0 then
          bif r3.2 == r5 then
           some ((r3.1.length : Int) == 0)
          else
           some (false)
         else
          bif r3.2 != 0 then
           some (false)
          else
           optE (s46 (t, l)) (fun r6 =>
            optE (s26 (r3.1, r6)) (fun r7 =>
             bif !r7 then
              some (false)
             else
              optE (loopVal step7_0 (r3.1, 1, t)) (fun e8 =>
               sumE e8 (fun e9 =>
                some (e9)) (fun _ =>
                some (true)))
               (none))
             (none))
            (none))
         (none)
       else
        bif r4 != 0 then
         bif r3.2 == r4 then
          some ((r3.1.length : Int) == 0)
         else
          some (false)
        else
         bif r3.2 != 0 then
          some (false)
         else
          optE (s46 (t, l)) (fun r11 =>
           optE (s26 (r3.1, r11)) (fun r12 =>
            bif !r12 then
             some (false)
            else
             optE (loopVal step7_0 (r3.1, 1, t)) (fun e13 =>
              sumE e13 (fun e14 =>
               some (e14)) (fun _ =>
               some (true)))
              (none))
            (none))
           (none))
       (none))
      (none))
     (none))
   (none)
theorem i7 : ItemOk Tryd.prog (.fn 7 [.d (.agg zP), .d (.slice (.agg zP))] [.d .bool] s7) := item_fnM md4 ext4 (U := 9) (n := 12) noSpecial mixed Gd3K19_ok (fun x => by kernel_rfl)
noncomputable def Gd3K20 : List Ev.Item := .fn 7 [.d (.agg zP), .d (.slice (.agg zP))] [.d .bool] s7 :: Gd3K19
theorem Gd3K20_ok : ∀ q ∈ Gd3K20, ItemOk Tryd.prog q := items_cons i7 Gd3K19_ok
end Go.Proofs.YthckjfbhdjjnkaaDoor
