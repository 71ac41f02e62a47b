import Derived.Test.YtfmfiflpokogiaaDoorGc2
set_option linter.unusedSimpArgs false
set_option maxRecDepth 100000
namespace Go.Proofs.YtfmfiflpokogiaaDoor
open Go.Ev
noncomputable def s37 : List (Int × Int × Int) → Option (List (Int × Int × Int)) := fun l =>
 bif room 24 (0 + l.length) then
  some (l)
 else
  none
theorem i37 : ItemOk Tryd.prog (.fn 37 [.d (.slice (.agg (.pair zI zP)))] [.own 81 (.agg (.pair zI zP))] s37) := item_fnM md7 ext7 (U := 9) (n := 4) noSpecial mixed Gc2K11_ok (fun x => by kernel_rfl)
noncomputable def Gc3K1 : List Ev.Item := .fn 37 [.d (.slice (.agg (.pair zI zP)))] [.own 81 (.agg (.pair zI zP))] s37 :: Gc2K11
theorem Gc3K1_ok : ∀ q ∈ Gc3K1, ItemOk Tryd.prog q := items_cons i37 Gc2K11_ok
noncomputable def s89 : Int × Int × Int → Option (Int) := fun t =>
 bif win t.1 1 100000 then
  some (firstE [unl (win t.2.1 0 (wr (t.1 - 1))) 2, unl (decide (t.2.2 ≥ t.2.1)) 9, unl (decide (t.2.2 ≤ (wr ((wr (t.2.1 + t.1)) - 1)))) 23])
 else
  some (firstE [unl false 2, unl (decide (t.2.2 ≥ t.2.1)) 9, unl (decide (t.2.2 ≤ (wr ((wr (t.2.1 + t.1)) - 1)))) 23])
theorem i89 : ItemOk Tryd.prog (.fn 89 [.d (.agg (.pair zI zP))] [.d zI] s89) := item_fnM md7 ext7 (U := 9) (n := 4) noSpecial mixed Gc3K1_ok (fun x => by kernel_rfl)
noncomputable def tErr (t : Int × Int × Int) : Int :=
 firstE [unl (win t.1 1 100000 && win t.2.1 0 (t.1 - 1)) 2, unl (decide (t.2.1 ≤ t.2.2)) 9, unl (decide (t.2.2 ≤ t.2.1 + t.1 - 1)) 23]
theorem j89 : ItemOk Tryd.prog (.fn 89 [.d (.agg (.pair zI zP))] [.d zI] (fun x => some (tErr x))) := item_imp i89 (by
 rintro ⟨p, lo, hi⟩ y h
 rw [← h]; show s89 (p, lo, hi) = some (tErr (p, lo, hi))
 simp only [s89, tErr]
 cases hp : win p 1 100000
 ·rfl
 ·have hp := win_iff.1 hp
  rw [wr_id (n := p - 1) (by omega) (by omega)]
  cases hl : win lo 0 (p - 1)
  ·rfl
  ·have hl := win_iff.1 hl
   rw [wr_id (n := lo + p) (by omega) (by omega), wr_id (n := lo + p - 1) (by omega) (by omega)]
   rfl)
noncomputable def Gc3K2 : List Ev.Item := .fn 89 [.d (.agg (.pair zI zP))] [.d zI] (fun x => some (tErr x)) :: Gc3K1
theorem Gc3K2_ok : ∀ q ∈ Gc3K2, ItemOk Tryd.prog q := items_cons j89 Gc3K1_ok
@[reducible] def T42_0 : Tmpl := ⟨24, [], [.val 10 (.slice (.agg (.pair zI zP))), .val 11 zI, .val 12 zI], [], none⟩
@[reducible] def X42_0 : List (Ex × Tmpl) := [(.ret, ⟨24, [], [.val 2 zI, .val 3 zI], [], none⟩), (.exit 0, ⟨24, [], [], [], none⟩)]
noncomputable def step42_0 : (List (Int × Int × Int)) × Int × Int → Option (((List (Int × Int × Int)) × Int × Int) ⊕ ((Int × Int) ⊕ (Unit))) := fun (t10, t11, t12) =>
 bif decide (t12 < t11) then
  bif inBounds t12 t10.length then
   bif (tErr (t10.getD t12.toNat (0, 0, 0))) != 0 then
    some (.inr (.inl (t12, tErr (t10.getD t12.toNat (0, 0, 0)))))
   else
    some (.inl (t10, t11, wr (t12 + 1)))
  else
   none
 else
  some (.inr (.inr ()))
theorem one42_0 : oneLoop Tryd.prog 42 0 = true := by kernel_rfl
theorem lp42_0 : ItemOk Tryd.prog (.loop 42 0 T42_0 X42_0 (loopVal step42_0)) := item_loopM md7 ext7 (U := 9) (n := 3) noSpecial mixed Gc3K2_ok one42_0 (fun x => by kernel_rfl)
noncomputable def Gc3K3 : List Ev.Item := .loop 42 0 T42_0 X42_0 (loopVal step42_0) :: Gc3K2
theorem Gc3K3_ok : ∀ q ∈ Gc3K3, ItemOk Tryd.prog q := items_cons lp42_0 Gc3K2_ok
noncomputable def s42 : List (Int × Int × Int) → Option (Int × Int) := fun l =>
 bif decide ((l.length : Int) > 8) then
  some ((0, 8))
 else
  optE (loopVal step42_0 (l, (l.length : Int), 0)) (fun e1 =>
   sumE e1 (fun e2 =>
    some (e2)) (fun _ =>
    some ((0, 0))))
   (none)
theorem i42 : ItemOk Tryd.prog (.fn 42 [.d (.slice (.agg (.pair zI zP)))] [.d zI, .d zI] s42) := item_fnM md7 ext7 (U := 9) (n := 4) noSpecial mixed Gc3K3_ok (fun x => by kernel_rfl)
noncomputable def Gc3K4 : List Ev.Item := .fn 42 [.d (.slice (.agg (.pair zI zP)))] [.d zI, .d zI] s42 :: Gc3K3
theorem Gc3K4_ok : ∀ q ∈ Gc3K4, ItemOk Tryd.prog q := items_cons i42 Gc3K3_ok
@[reducible] def T90_0 : Tmpl := ⟨12, [], [.val 0 zI, .val 1 zI], [], none⟩
@[reducible] def X90_0 : List (Ex × Tmpl) := [(.exit 0, ⟨12, [], [.val 0 zI], [], none⟩)]
noncomputable def step90_0 : Int × Int → Option ((Int × Int) ⊕ (Int)) := fun (a, b) =>
 bif b != 0 then
  bif !(b == 0) then
   some (.inl (b, Int.tmod a b))
  else
   none
 else
  some (.inr a)
theorem one90_0 : oneLoop Tryd.prog 90 0 = true := by kernel_rfl
theorem lp90_0 : ItemOk Tryd.prog (.loop 90 0 T90_0 X90_0 (loopVal step90_0)) := item_loopM md7 ext7 (U := 9) (n := 3) noSpecial mixed Gc3K4_ok one90_0 (fun x => by kernel_rfl)
noncomputable def Gc3K5 : List Ev.Item := .loop 90 0 T90_0 X90_0 (loopVal step90_0) :: Gc3K4
theorem Gc3K5_ok : ∀ q ∈ Gc3K5, ItemOk Tryd.prog q := items_cons lp90_0 Gc3K4_ok
noncomputable def s90 : Int × Int → Option (Int) := fun (a, b) =>
 optE (loopVal step90_0 (a, b)) (fun e1 =>
  some (e1))
  (none)
theorem i90 : ItemOk Tryd.prog (.fn 90 [.d zI, .d zI] [.d zI] s90) := item_fnM md7 ext7 (U := 9) (n := 4) noSpecial mixed Gc3K5_ok (fun x => by kernel_rfl)
noncomputable def Gc3K6 : List Ev.Item := .fn 90 [.d zI, .d zI] [.d zI] s90 :: Gc3K5
theorem Gc3K6_ok : ∀ q ∈ Gc3K6, ItemOk Tryd.prog q := items_cons i90 Gc3K5_ok
@[reducible] def T43_0 : Tmpl := ⟨40, [], [.val 6 zI, .val 18 (.slice (.agg (.pair zI zP))), .val 19 zI, .val 20 zI], [], none⟩
@[reducible] def X43_0 : List (Ex × Tmpl) := [(.ret, ⟨40, [], [.val 2 zI, .val 3 zI], [], none⟩), (.exit 0, ⟨40, [], [.val 6 zI], [], none⟩)]
noncomputable def step43_0 : Int × (List (Int × Int × Int)) × Int × Int → Option ((Int × (List (Int × Int × Int)) × Int × Int) ⊕ ((Int × Int) ⊕ (Int))) := fun (out, t18, t19, t20) =>
 bif decide (t20 < t19) then
  bif inBounds t20 t18.length then
   optE (s90 (out, (t18.getD t20.toNat (0, 0, 0)).1)) (fun r2 =>
    bif !(r2 == 0) then
     bif !((wr (Int.tdiv (t18.getD t20.toNat (0, 0, 0)).1 r2)) == 0) then
      bif decide (out > (wr (Int.tdiv 1000000000000000 (wr (Int.tdiv (t18.getD t20.toNat (0, 0, 0)).1 r2))))) then
       some (.inr (.inl (0, 8)))
      else
       some (.inl (wr (out * (wr (Int.tdiv (t18.getD t20.toNat (0, 0, 0)).1 r2))), t18, t19, wr (t20 + 1)))
     else
      none
    else
     none)
    (none)
  else
   none
 else
  some (.inr (.inr out))
theorem one43_0 : oneLoop Tryd.prog 43 0 = true := by kernel_rfl
theorem lp43_0 : ItemOk Tryd.prog (.loop 43 0 T43_0 X43_0 (loopVal step43_0)) := item_loopM md7 ext7 (U := 9) (n := 3) noSpecial mixed Gc3K6_ok one43_0 (fun x => by kernel_rfl)
noncomputable def Gc3K7 : List Ev.Item := .loop 43 0 T43_0 X43_0 (loopVal step43_0) :: Gc3K6
theorem Gc3K7_ok : ∀ q ∈ Gc3K7, ItemOk Tryd.prog q := items_cons lp43_0 Gc3K6_ok
noncomputable def s43 : List (Int × Int × Int) → Option (Int × Int) := fun l =>
 optE (s42 l) (fun r1 =>
  bif r1.2 != 0 then
   some ((0, r1.2))
  else
   optE (loopVal step43_0 (1, l, (l.length : Int), 0)) (fun e2 =>
    sumE e2 (fun e3 =>
     some (e3)) (fun e4 =>
     some ((e4, 0))))
    (none))
  (none)
theorem i43 : ItemOk Tryd.prog (.fn 43 [.d (.slice (.agg (.pair zI zP)))] [.d zI, .d zI] s43) := item_fnM md7 ext7 (U := 9) (n := 4) noSpecial mixed Gc3K7_ok (fun x => by kernel_rfl)
noncomputable def Gc3K8 : List Ev.Item := .fn 43 [.d (.slice (.agg (.pair zI zP)))] [.d zI, .d zI] s43 :: Gc3K7
theorem Gc3K8_ok : ∀ q ∈ Gc3K8, ItemOk Tryd.prog q := items_cons i43 Gc3K7_ok
noncomputable def s91 : Int × Int × Int → Option (Int) := fun t =>
 bif !(win t.1 1 100000) then
  some (2)
 else
  bif !(win t.2.1 0 (wr (t.1 - 1))) then
   some (2)
  else
   bif decide (t.2.2 < t.2.1) then
    some (9)
   else
    bif decide (t.2.2 > (wr ((wr (t.2.1 + t.1)) - 1))) then
     some (23)
    else
     some (0)
theorem i91 : ItemOk Tryd.prog (.fn 91 [.d (.agg (.pair zI zP))] [.d zI] s91) := item_fnM md7 ext7 (U := 9) (n := 4) noSpecial mixed Gc3K8_ok (fun x => by kernel_rfl)
theorem j91 : ItemOk Tryd.prog (.fn 91 [.d (.agg (.pair zI zP))] [.d zI] (fun x => some (tErr x))) := item_imp i91 (by
 rintro ⟨p, lo, hi⟩ y h
 rw [← h]; show s91 (p, lo, hi) = some (tErr (p, lo, hi))
 simp only [s91, tErr]
 cases hp : win p 1 100000
 ·rfl
 ·have hp := win_iff.1 hp
  rw [wr_id (n := p - 1) (by omega) (by omega)]
  cases hl : win lo 0 (p - 1)
  ·rfl
  ·have hl := win_iff.1 hl
   rw [wr_id (n := lo + p) (by omega) (by omega), wr_id (n := lo + p - 1) (by omega) (by omega)]
   rw [dec_lt hi lo, dec_gt hi (lo + p - 1)]
   cases decide (lo ≤ hi) <;> cases decide (hi ≤ lo + p - 1) <;> rfl)
noncomputable def Gc3K9 : List Ev.Item := .fn 91 [.d (.agg (.pair zI zP))] [.d zI] (fun x => some (tErr x)) :: Gc3K8
theorem Gc3K9_ok : ∀ q ∈ Gc3K9, ItemOk Tryd.prog q := items_cons j91 Gc3K8_ok
@[reducible] def T44_0 : Tmpl := ⟨24, [], [.val 0 (.slice (.agg (.pair zI zP))), .val 4 zI], [], none⟩
@[reducible] def X44_0 : List (Ex × Tmpl) := [(.ret, ⟨24, [], [.val 2 zI, .val 3 zI], [], none⟩), (.exit 0, ⟨24, [], [], [], none⟩)]
noncomputable def step44_0 : (List (Int × Int × Int)) × Int → Option (((List (Int × Int × Int)) × Int) ⊕ ((Int × Int) ⊕ (Unit))) := fun (l, i) =>
 bif decide (i < (l.length : Int)) then
  bif inBounds i l.length then
   bif (tErr (l.getD i.toNat (0, 0, 0))) != 0 then
    some (.inr (.inl (i, tErr (l.getD i.toNat (0, 0, 0)))))
   else
    some (.inl (l, wr (i + 1)))
  else
   none
 else
  some (.inr (.inr ()))
theorem one44_0 : oneLoop Tryd.prog 44 0 = true := by kernel_rfl
theorem lp44_0 : ItemOk Tryd.prog (.loop 44 0 T44_0 X44_0 (loopVal step44_0)) := item_loopM md7 ext7 (U := 9) (n := 3) noSpecial mixed Gc3K9_ok one44_0 (fun x => by kernel_rfl)
noncomputable def Gc3K10 : List Ev.Item := .loop 44 0 T44_0 X44_0 (loopVal step44_0) :: Gc3K9
theorem Gc3K10_ok : ∀ q ∈ Gc3K10, ItemOk Tryd.prog q := items_cons lp44_0 Gc3K9_ok
noncomputable def s44 : List (Int × Int × Int) → Option (Int × Int) := fun l =>
 bif decide ((l.length : Int) > 8) then
  some ((0, 8))
 else
  optE (loopVal step44_0 (l, 0)) (fun e1 =>
   sumE e1 (fun e2 =>
    some (e2)) (fun _ =>
    some ((0, 0))))
   (none)
theorem i44 : ItemOk Tryd.prog (.fn 44 [.d (.slice (.agg (.pair zI zP)))] [.d zI, .d zI] s44) := item_fnM md7 ext7 (U := 9) (n := 4) noSpecial mixed Gc3K10_ok (fun x => by kernel_rfl)
noncomputable def Gc3K11 : List Ev.Item := .fn 44 [.d (.slice (.agg (.pair zI zP)))] [.d zI, .d zI] s44 :: Gc3K10
theorem Gc3K11_ok : ∀ q ∈ Gc3K11, ItemOk Tryd.prog q := items_cons i44 Gc3K10_ok
@[reducible] def T132_0 : Tmpl := ⟨21, [], [.val 0 (.slice zI), .val 3 zI], [], none⟩
@[reducible] def X132_0 : List (Ex × Tmpl) := [(.exit 0, ⟨21, [], [.val 0 (.slice zI), .val 3 zI], [], none⟩)]
noncomputable def step132_0 : (List Int) × Int → Option (((List Int) × Int) ⊕ ((List Int) × Int)) := fun (l, n) =>
 bif decide (n > 0) then
  bif inBounds (wr (n - 1)) l.length then
   bif (l.getD (wr (n - 1)).toNat 0) == 0 then
    some (.inl (l, wr (n - 1)))
   else
    some (.inr (l, n))
  else
   none
 else
  some (.inr (l, n))
theorem one132_0 : oneLoop Tryd.prog 132 0 = true := by kernel_rfl
theorem lp132_0 : ItemOk Tryd.prog (.loop 132 0 T132_0 X132_0 (loopVal step132_0)) := item_loopM md7 ext7 (U := 9) (n := 3) noSpecial mixed Gc3K11_ok one132_0 (fun x => by kernel_rfl)
noncomputable def Gc3K12 : List Ev.Item := .loop 132 0 T132_0 X132_0 (loopVal step132_0) :: Gc3K11
theorem Gc3K12_ok : ∀ q ∈ Gc3K12, ItemOk Tryd.prog q := items_cons lp132_0 Gc3K11_ok
noncomputable def s132 : List Int → Option (List Int) := fun l =>
 optE (loopVal step132_0 (l, (l.length : Int))) (fun e1 =>
  bif (decide (0 ≤ e1.2)) && (decide (e1.2 ≤ (e1.1.length : Int))) then
   some (e1.1.take e1.2.toNat)
  else
   none)
  (none)
theorem i132 : ItemOk Tryd.prog (.fn 132 [.d (.slice zI)] [.d (.slice zI)] s132) := item_fnM md7 ext7 (U := 9) (n := 4) noSpecial mixed Gc3K12_ok (fun x => by kernel_rfl)
noncomputable def Gc3K13 : List Ev.Item := .fn 132 [.d (.slice zI)] [.d (.slice zI)] s132 :: Gc3K12
theorem Gc3K13_ok : ∀ q ∈ Gc3K13, ItemOk Tryd.prog q := items_cons i132 Gc3K12_ok
noncomputable def s124 : Int × (List Int) → Option (Int × List Int) := fun (sign, l) =>
 optE (s132 l) (fun r1 =>
  bif (r1.length : Int) == 0 then
   some ((0, r1))
  else
   some ((sign, r1)))
  (none)
theorem i124 : ItemOk Tryd.prog (.fn 124 [.d zI, .d (.slice zI)] [.d (.agg (.pair zI (.slice zI)))] s124) := item_fnM md7 ext7 (U := 9) (n := 4) noSpecial mixed Gc3K13_ok (fun x => by kernel_rfl)
noncomputable def Gc3K14 : List Ev.Item := .fn 124 [.d zI, .d (.slice zI)] [.d (.agg (.pair zI (.slice zI)))] s124 :: Gc3K13
theorem Gc3K14_ok : ∀ q ∈ Gc3K14, ItemOk Tryd.prog q := items_cons i124 Gc3K13_ok
@[reducible] def T92_0 : Tmpl := ⟨21, [(2, .ref 2 0 0 0)], [.val 0 zI, .val 3 zI, .own 4 15 3 zI, .cells 2 [.d (.pair zI (.slice zI))]], [], none⟩
@[reducible] def X92_0 : List (Ex × Tmpl) := [(.exit 0, ⟨21, [(2, .ref 2 0 0 0)], [.val 3 zI, .own 4 15 3 zI, .cells 2 [.d (.pair zI (.slice zI))]], [], none⟩)]
noncomputable def step92_0 : Int × Int × (List Int) × (Int × List Int) → Option ((Int × Int × (List Int) × (Int × List Int)) ⊕ (Int × (List Int) × (Int × List Int))) := fun (n, sign, l, t2) =>
 bif decide (n > 0) then
  bif room 8 (l.length + 1) then
   some (.inl (wr (Int.tdiv n 1000000000), sign, l ++ [Int.tmod n 1000000000], t2))
  else
   none
 else
  some (.inr (sign, l, t2))
theorem one92_0 : oneLoop Tryd.prog 92 0 = true := by kernel_rfl
theorem lp92_0 : ItemOk Tryd.prog (.loop 92 0 T92_0 X92_0 (loopVal step92_0)) := item_loopM md7 ext7 (U := 9) (n := 3) noSpecial mixed Gc3K14_ok one92_0 (fun x => by kernel_rfl)
noncomputable def Gc3K15 : List Ev.Item := .loop 92 0 T92_0 X92_0 (loopVal step92_0) :: Gc3K14
theorem Gc3K15_ok : ∀ q ∈ Gc3K15, ItemOk Tryd.prog q := items_cons lp92_0 Gc3K14_ok
noncomputable def s92 : Int → Option (Int × List Int) := fun n =>
 bif decide (n < 0) then
  optE (loopVal step92_0 (wr (-n), (-1), [], (0, []))) (fun e1 =>
   optE (s124 (e1.1, e1.2.1)) (fun r2 =>
    some (r2))
    (none))
   (none)
 else
  optE (loopVal step92_0 (n, 1, [], (0, []))) (fun e3 =>
   optE (s124 (e3.1, e3.2.1)) (fun r4 =>
    some (r4))
    (none))
   (none)
theorem i92 : ItemOk Tryd.prog (.fn 92 [.d zI] [.d (.agg (.pair zI (.slice zI)))] s92) := item_fnM md7 ext7 (U := 9) (n := 4) noSpecial mixed Gc3K15_ok (fun x => by kernel_rfl)
noncomputable def Gc3K16 : List Ev.Item := .fn 92 [.d zI] [.d (.agg (.pair zI (.slice zI)))] s92 :: Gc3K15
theorem Gc3K16_ok : ∀ q ∈ Gc3K16, ItemOk Tryd.prog q := items_cons i92 Gc3K15_ok
noncomputable def s120 : Int → Option (Int) := fun n =>
 some (mx n (wr (-n)))
theorem i120 : ItemOk Tryd.prog (.fn 120 [.d zI] [.d zI] s120) := item_fnM md7 ext7 (U := 9) (n := 4) noSpecial mixed Gc3K16_ok (fun x => by kernel_rfl)
noncomputable def Gc3K17 : List Ev.Item := .fn 120 [.d zI] [.d zI] s120 :: Gc3K16
theorem Gc3K17_ok : ∀ q ∈ Gc3K17, ItemOk Tryd.prog q := items_cons i120 Gc3K16_ok
@[reducible] def T85_0 : Tmpl := ⟨13, [], [.val 0 zI, .val 1 zI], [], none⟩
@[reducible] def X85_0 : List (Ex × Tmpl) := [(.exit 0, ⟨13, [], [.val 0 zI], [], none⟩)]
noncomputable def step85_0 : Int × Int → Option ((Int × Int) ⊕ (Int)) := fun (a, b) =>
 bif b != 0 then
  bif !(b == 0) then
   some (.inl (b, Int.tmod a b))
  else
   none
 else
  some (.inr a)
theorem one85_0 : oneLoop Tryd.prog 85 0 = true := by kernel_rfl
theorem lp85_0 : ItemOk Tryd.prog (.loop 85 0 T85_0 X85_0 (loopVal step85_0)) := item_loopM md7 ext7 (U := 9) (n := 3) noSpecial mixed Gc3K17_ok one85_0 (fun x => by kernel_rfl)
noncomputable def Gc3K18 : List Ev.Item := .loop 85 0 T85_0 X85_0 (loopVal step85_0) :: Gc3K17
theorem Gc3K18_ok : ∀ q ∈ Gc3K18, ItemOk Tryd.prog q := items_cons lp85_0 Gc3K17_ok
noncomputable def s85 : Int × Int → Option (Int) := fun (a, b) =>
 optE (loopVal step85_0 (a, b)) (fun e1 =>
  optE (s120 e1) (fun r2 =>
   some (r2))
   (none))
  (none)
theorem i85 : ItemOk Tryd.prog (.fn 85 [.d zI, .d zI] [.d zI] s85) := item_fnM md7 ext7 (U := 9) (n := 4) noSpecial mixed Gc3K18_ok (fun x => by kernel_rfl)
noncomputable def Gc3K19 : List Ev.Item := .fn 85 [.d zI, .d zI] [.d zI] s85 :: Gc3K18
theorem Gc3K19_ok : ∀ q ∈ Gc3K19, ItemOk Tryd.prog q := items_cons i85 Gc3K18_ok
@[reducible] def T93_2 : Tmpl := ⟨86, [(2, .ref 2 0 0 0), (3, .ref 3 0 0 0), (4, .ref 4 0 0 0)], [.own 5 18 3 zI, .val 6 zI, .val 7 zI, .val 8 zI, .cells 2 [.d (.pair zI (.slice zI))], .cells 3 [.d (.pair zI (.slice zI))], .cells 4 [.d (.pair zI (.slice zI))]], [], none⟩
@[reducible] def X93_2 : List (Ex × Tmpl) := [(.exit 2, ⟨86, [(2, .ref 2 0 0 0), (3, .ref 3 0 0 0), (4, .ref 4 0 0 0)], [.own 5 18 3 zI, .val 6 zI, .val 7 zI, .cells 2 [.d (.pair zI (.slice zI))], .cells 3 [.d (.pair zI (.slice zI))], .cells 4 [.d (.pair zI (.slice zI))]], [], none⟩)]
noncomputable def step93_2 : (List Int) × Int × Int × Int × (Int × List Int) × (Int × List Int) × (Int × List Int) → Option (((List Int) × Int × Int × Int × (Int × List Int) × (Int × List Int) × (Int × List Int)) ⊕ ((List Int) × Int × Int × (Int × List Int) × (Int × List Int) × (Int × List Int))) := fun (out, i, carry, k, a, b, t4) =>
 bif decide (k < (b.2.length : Int)) then
  bif inBounds (wr (i + k)) out.length then
   bif inBounds i a.2.length then
    bif inBounds k b.2.length then
     bif inBounds (wr (i + k)) out.length then
      some (.inl (out.set (wr (i + k)).toNat (Int.tmod (wr ((wr ((out.getD (wr (i + k)).toNat 0) + (wr ((a.2.getD i.toNat 0) * (b.2.getD k.toNat 0))))) + carry)) 1000000000), i, wr (Int.tdiv (wr ((wr ((out.getD (wr (i + k)).toNat 0) + (wr ((a.2.getD i.toNat 0) * (b.2.getD k.toNat 0))))) + carry)) 1000000000), wr (k + 1), a, b, t4))
     else
      none
    else
     none
   else
    none
  else
   none
 else
  some (.inr (out, i, carry, a, b, t4))
theorem one93_2 : oneLoop Tryd.prog 93 2 = true := by kernel_rfl
theorem lp93_2 : ItemOk Tryd.prog (.loop 93 2 T93_2 X93_2 (loopVal step93_2)) := item_loopM md7 ext7 (U := 9) (n := 3) noSpecial mixed Gc3K19_ok one93_2 (fun x => by kernel_rfl)
noncomputable def Gc3K20 : List Ev.Item := .loop 93 2 T93_2 X93_2 (loopVal step93_2) :: Gc3K19
theorem Gc3K20_ok : ∀ q ∈ Gc3K20, ItemOk Tryd.prog q := items_cons lp93_2 Gc3K19_ok
@[reducible] def T93_0 : Tmpl := ⟨86, [(2, .ref 2 0 0 0), (3, .ref 3 0 0 0), (4, .ref 4 0 0 0)], [.own 5 18 3 zI, .val 6 zI, .cells 2 [.d (.pair zI (.slice zI))], .cells 3 [.d (.pair zI (.slice zI))], .cells 4 [.d (.pair zI (.slice zI))]], [], none⟩
@[reducible] def X93_0 : List (Ex × Tmpl) := [(.exit 0, ⟨86, [(2, .ref 2 0 0 0), (3, .ref 3 0 0 0), (4, .ref 4 0 0 0)], [.own 5 18 3 zI, .cells 2 [.d (.pair zI (.slice zI))], .cells 3 [.d (.pair zI (.slice zI))], .cells 4 [.d (.pair zI (.slice zI))]], [], none⟩)]
noncomputable def step93_0 : (List Int) × Int × (Int × List Int) × (Int × List Int) × (Int × List Int) → Option (((List Int) × Int × (Int × List Int) × (Int × List Int) × (Int × List Int)) ⊕ ((List Int) × (Int × List Int) × (Int × List Int) × (Int × List Int))) := fun (out, i, a, b, t4) =>
 bif decide (i < (a.2.length : Int)) then
  optE (loopVal step93_2 (out, i, 0, 0, a, b, t4)) (fun e1 =>
   bif inBounds (wr (e1.2.1 + (e1.2.2.2.2.1.2.length : Int))) e1.1.length then
    bif inBounds (wr (e1.2.1 + (e1.2.2.2.2.1.2.length : Int))) e1.1.length then
     some (.inl (e1.1.set (wr (e1.2.1 + (e1.2.2.2.2.1.2.length : Int))).toNat (wr ((e1.1.getD (wr (e1.2.1 + (e1.2.2.2.2.1.2.length : Int))).toNat 0) + e1.2.2.1)), wr (e1.2.1 + 1), e1.2.2.2.1, e1.2.2.2.2.1, e1.2.2.2.2.2))
    else
     none
   else
    none)
   (none)
 else
  some (.inr (out, a, b, t4))
theorem one93_0 : oneLoop Tryd.prog 93 0 = true := by kernel_rfl
theorem lp93_0 : ItemOk Tryd.prog (.loop 93 0 T93_0 X93_0 (loopVal step93_0)) := item_loopM md7 ext7 (U := 9) (n := 3) noSpecial mixed Gc3K20_ok one93_0 (fun x => by kernel_rfl)
noncomputable def Gc3K21 : List Ev.Item := .loop 93 0 T93_0 X93_0 (loopVal step93_0) :: Gc3K20
theorem Gc3K21_ok : ∀ q ∈ Gc3K21, ItemOk Tryd.prog q := items_cons lp93_0 Gc3K20_ok
noncomputable def s93 : (Int × List Int) × (Int × List Int) → Option (Int × List Int) := fun (a, b) =>
 bif (decide (0 ≤ (wr ((wr ((a.2.length : Int) + (b.2.length : Int))) + 1)))) && ((decide ((wr ((wr ((a.2.length : Int) + (b.2.length : Int))) + 1)) = (wr ((wr ((a.2.length : Int) + (b.2.length : Int))) + 1)))) && (room 8 (wr ((wr ((a.2.length : Int) + (b.2.length : Int))) + 1)).toNat)) then
  optE (loopVal step93_0 (List.replicate (wr ((wr ((a.2.length : Int) + (b.2.length : Int))) + 1)).toNat 0, 0, a, b, (0, []))) (fun e1 =>
   optE (s124 (wr (e1.2.1.1 * e1.2.2.1.1), e1.1)) (fun r2 =>
    some (r2))
    (none))
   (none)
 else
  none
theorem i93 : ItemOk Tryd.prog (.fn 93 [.d (.agg (.pair zI (.slice zI))), .d (.agg (.pair zI (.slice zI)))] [.d (.agg (.pair zI (.slice zI)))] s93) := item_fnM md7 ext7 (U := 9) (n := 4) noSpecial mixed Gc3K21_ok (fun x => by kernel_rfl)
noncomputable def Gc3K22 : List Ev.Item := .fn 93 [.d (.agg (.pair zI (.slice zI))), .d (.agg (.pair zI (.slice zI)))] [.d (.agg (.pair zI (.slice zI)))] s93 :: Gc3K21
theorem Gc3K22_ok : ∀ q ∈ Gc3K22, ItemOk Tryd.prog q := items_cons i93 Gc3K21_ok
noncomputable def s134 : Int × List Int → Option (Int × List Int) := fun a =>
 some ((wr (-a.1), a.2))
theorem i134 : ItemOk Tryd.prog (.fn 134 [.d (.agg (.pair zI (.slice zI)))] [.d (.agg (.pair zI (.slice zI)))] s134) := item_fnM md7 ext7 (U := 9) (n := 4) noSpecial mixed Gc3K22_ok (fun x => by kernel_rfl)
noncomputable def Gc3K23 : List Ev.Item := .fn 134 [.d (.agg (.pair zI (.slice zI)))] [.d (.agg (.pair zI (.slice zI)))] s134 :: Gc3K22
theorem Gc3K23_ok : ∀ q ∈ Gc3K23, ItemOk Tryd.prog q := items_cons i134 Gc3K22_ok
noncomputable def s140 : (List Int) × Int → Option (Int) := fun (l, i) =>
 bif decide (i < (l.length : Int)) then
  bif inBounds i l.length then
   some (l.getD i.toNat 0)
  else
   none
 else
  some (0)
theorem i140 : ItemOk Tryd.prog (.fn 140 [.d (.slice zI), .d zI] [.d zI] s140) := item_fnM md7 ext7 (U := 9) (n := 4) noSpecial mixed Gc3K23_ok (fun x => by kernel_rfl)
noncomputable def Gc3K24 : List Ev.Item := .fn 140 [.d (.slice zI), .d zI] [.d zI] s140 :: Gc3K23
theorem Gc3K24_ok : ∀ q ∈ Gc3K24, ItemOk Tryd.prog q := items_cons i140 Gc3K23_ok
@[reducible] def T137_0 : Tmpl := ⟨42, [], [.val 0 (.slice zI), .val 1 (.slice zI), .own 5 38 3 zI, .val 6 zI, .val 7 zI], [], none⟩
@[reducible] def X137_0 : List (Ex × Tmpl) := [(.exit 0, ⟨42, [], [.own 5 38 3 zI], [], none⟩)]
noncomputable def step137_0 : (List Int) × (List Int) × (List Int) × Int × Int → Option (((List Int) × (List Int) × (List Int) × Int × Int) ⊕ (List Int)) := fun (a, b, out, carry, i) =>
 bif decide (i < (a.length : Int)) then
  optE (s140 (a, i)) (fun r1 =>
   optE (s140 (b, i)) (fun r2 =>
    bif room 8 (out.length + 1) then
     some (.inl (a, b, out ++ [Int.tmod (wr ((wr (r1 + r2)) + carry)) 1000000000], wr (Int.tdiv (wr ((wr (r1 + r2)) + carry)) 1000000000), wr (i + 1)))
    else
     none)
    (none))
   (none)
 else
  bif decide (i < (b.length : Int)) then
   optE (s140 (a, i)) (fun r3 =>
    optE (s140 (b, i)) (fun r4 =>
     bif room 8 (out.length + 1) then
      some (.inl (a, b, out ++ [Int.tmod (wr ((wr (r3 + r4)) + carry)) 1000000000], wr (Int.tdiv (wr ((wr (r3 + r4)) + carry)) 1000000000), wr (i + 1)))
     else
      none)
     (none))
    (none)
  else
   bif decide (carry > 0) then
    optE (s140 (a, i)) (fun r5 =>
     optE (s140 (b, i)) (fun r6 =>
      bif room 8 (out.length + 1) then
       some (.inl (a, b, out ++ [Int.tmod (wr ((wr (r5 + r6)) + carry)) 1000000000], wr (Int.tdiv (wr ((wr (r5 + r6)) + carry)) 1000000000), wr (i + 1)))
      else
       none)
      (none))
     (none)
   else
    some (.inr out)
theorem one137_0 : oneLoop Tryd.prog 137 0 = true := by kernel_rfl
theorem lp137_0 : ItemOk Tryd.prog (.loop 137 0 T137_0 X137_0 (loopVal step137_0)) := item_loopM md7 ext7 (U := 9) (n := 3) noSpecial mixed Gc3K24_ok one137_0 (fun x => by kernel_rfl)
noncomputable def Gc3K25 : List Ev.Item := .loop 137 0 T137_0 X137_0 (loopVal step137_0) :: Gc3K24
theorem Gc3K25_ok : ∀ q ∈ Gc3K25, ItemOk Tryd.prog q := items_cons lp137_0 Gc3K24_ok
noncomputable def s137 : (List Int) × (List Int) → Option (List Int) := fun (a, b) =>
 optE (loopVal step137_0 (a, b, [], 0, 0)) (fun e1 =>
  some (e1))
  (none)
theorem i137 : ItemOk Tryd.prog (.fn 137 [.d (.slice zI), .d (.slice zI)] [.own 3 zI] s137) := item_fnM md7 ext7 (U := 9) (n := 4) noSpecial mixed Gc3K25_ok (fun x => by kernel_rfl)
noncomputable def Gc3K26 : List Ev.Item := .fn 137 [.d (.slice zI), .d (.slice zI)] [.own 3 zI] s137 :: Gc3K25
theorem Gc3K26_ok : ∀ q ∈ Gc3K26, ItemOk Tryd.prog q := items_cons i137 Gc3K25_ok
@[reducible] def T138_0 : Tmpl := ⟨41, [], [.val 0 (.slice zI), .val 1 (.slice zI), .val 5 zI], [], none⟩
@[reducible] def X138_0 : List (Ex × Tmpl) := [(.ret, ⟨41, [], [.val 4 zI], [], none⟩), (.exit 0, ⟨41, [], [], [], none⟩)]
noncomputable def step138_0 : (List Int) × (List Int) × Int → Option (((List Int) × (List Int) × Int) ⊕ ((Int) ⊕ (Unit))) := fun (a, b, i) =>
 bif decide (i ≥ 0) then
  bif inBounds i a.length then
   bif inBounds i b.length then
    bif decide ((a.getD i.toNat 0) < (b.getD i.toNat 0)) then
     some (.inr (.inl (-1)))
    else
     bif inBounds i a.length then
      bif inBounds i b.length then
       bif decide ((a.getD i.toNat 0) > (b.getD i.toNat 0)) then
        some (.inr (.inl 1))
       else
        some (.inl (a, b, wr (i - 1)))
      else
       none
     else
      none
   else
    none
  else
   none
 else
  some (.inr (.inr ()))
theorem one138_0 : oneLoop Tryd.prog 138 0 = true := by kernel_rfl
theorem lp138_0 : ItemOk Tryd.prog (.loop 138 0 T138_0 X138_0 (loopVal step138_0)) := item_loopM md7 ext7 (U := 9) (n := 3) noSpecial mixed Gc3K26_ok one138_0 (fun x => by kernel_rfl)
noncomputable def Gc3K27 : List Ev.Item := .loop 138 0 T138_0 X138_0 (loopVal step138_0) :: Gc3K26
theorem Gc3K27_ok : ∀ q ∈ Gc3K27, ItemOk Tryd.prog q := items_cons lp138_0 Gc3K26_ok
noncomputable def s138 : (List Int) × (List Int) → Option (Int) := fun (a, b) =>
 bif (a.length : Int) != (b.length : Int) then
  bif decide ((a.length : Int) < (b.length : Int)) then
   some ((-1))
  else
   some (1)
 else
  optE (loopVal step138_0 (a, b, wr ((a.length : Int) - 1))) (fun e1 =>
   sumE e1 (fun e2 =>
    some (e2)) (fun _ =>
    some (0)))
   (none)
theorem i138 : ItemOk Tryd.prog (.fn 138 [.d (.slice zI), .d (.slice zI)] [.d zI] s138) := item_fnM md7 ext7 (U := 9) (n := 4) noSpecial mixed Gc3K27_ok (fun x => by kernel_rfl)
noncomputable def Gc3K28 : List Ev.Item := .fn 138 [.d (.slice zI), .d (.slice zI)] [.d zI] s138 :: Gc3K27
theorem Gc3K28_ok : ∀ q ∈ Gc3K28, ItemOk Tryd.prog q := items_cons i138 Gc3K27_ok
@[reducible] def T139_0 : Tmpl := ⟨35, [], [.val 0 (.slice zI), .val 1 (.slice zI), .own 5 32 3 zI, .val 6 zI, .val 7 zI], [], none⟩
@[reducible] def X139_0 : List (Ex × Tmpl) := [(.exit 0, ⟨35, [], [.own 5 32 3 zI], [], none⟩)]
noncomputable def step139_0 : (List Int) × (List Int) × (List Int) × Int × Int → Option (((List Int) × (List Int) × (List Int) × Int × Int) ⊕ (List Int)) := fun (a, b, out, borrow, i) =>
 bif decide (i < (a.length : Int)) then
  bif inBounds i a.length then
   optE (s140 (b, i)) (fun r1 =>
    bif decide ((wr ((wr ((a.getD i.toNat 0) - r1)) - borrow)) < 0) then
     bif room 8 (out.length + 1) then
      some (.inl (a, b, out ++ [wr ((wr ((wr ((a.getD i.toNat 0) - r1)) - borrow)) + 1000000000)], 1, wr (i + 1)))
     else
      none
    else
     bif room 8 (out.length + 1) then
      some (.inl (a, b, out ++ [wr ((wr ((a.getD i.toNat 0) - r1)) - borrow)], 0, wr (i + 1)))
     else
      none)
    (none)
  else
   none
 else
  some (.inr out)
theorem one139_0 : oneLoop Tryd.prog 139 0 = true := by kernel_rfl
theorem lp139_0 : ItemOk Tryd.prog (.loop 139 0 T139_0 X139_0 (loopVal step139_0)) := item_loopM md7 ext7 (U := 9) (n := 3) noSpecial mixed Gc3K28_ok one139_0 (fun x => by kernel_rfl)
noncomputable def Gc3K29 : List Ev.Item := .loop 139 0 T139_0 X139_0 (loopVal step139_0) :: Gc3K28
theorem Gc3K29_ok : ∀ q ∈ Gc3K29, ItemOk Tryd.prog q := items_cons lp139_0 Gc3K28_ok
noncomputable def s139 : (List Int) × (List Int) → Option (List Int) := fun (a, b) =>
 optE (loopVal step139_0 (a, b, [], 0, 0)) (fun e1 =>
  optE (s132 e1) (fun r2 =>
   some (r2))
   (none))
  (none)
theorem i139 : ItemOk Tryd.prog (.fn 139 [.d (.slice zI), .d (.slice zI)] [.d (.slice zI)] s139) := item_fnM md7 ext7 (U := 9) (n := 4) noSpecial mixed Gc3K29_ok (fun x => by kernel_rfl)
noncomputable def Gc3K30 : List Ev.Item := .fn 139 [.d (.slice zI), .d (.slice zI)] [.d (.slice zI)] s139 :: Gc3K29
theorem Gc3K30_ok : ∀ q ∈ Gc3K30, ItemOk Tryd.prog q := items_cons i139 Gc3K29_ok
noncomputable def s133 : (Int × List Int) × (Int × List Int) → Option (Int × List Int) := fun (a, b) =>
 bif a.1 == 0 then
  some (b)
 else
  bif b.1 == 0 then
   some (a)
  else
   bif a.1 == b.1 then
    optE (s137 (a.2, b.2)) (fun r1 =>
     optE (s124 (a.1, r1)) (fun r2 =>
      some (r2))
      (none))
     (none)
   else
    optE (s138 (a.2, b.2)) (fun r3 =>
     bif r3 == 0 then
      some ((0, []))
     else
      bif decide (r3 > 0) then
       optE (s139 (a.2, b.2)) (fun r4 =>
        optE (s124 (a.1, r4)) (fun r5 =>
         some (r5))
         (none))
        (none)
      else
       optE (s139 (b.2, a.2)) (fun r6 =>
        optE (s124 (b.1, r6)) (fun r7 =>
         some (r7))
         (none))
        (none))
     (none)
theorem i133 : ItemOk Tryd.prog (.fn 133 [.d (.agg (.pair zI (.slice zI))), .d (.agg (.pair zI (.slice zI)))] [.d (.agg (.pair zI (.slice zI)))] s133) := item_fnM md7 ext7 (U := 9) (n := 4) noSpecial mixed Gc3K30_ok (fun x => by kernel_rfl)
noncomputable def Gc3K31 : List Ev.Item := .fn 133 [.d (.agg (.pair zI (.slice zI))), .d (.agg (.pair zI (.slice zI)))] [.d (.agg (.pair zI (.slice zI)))] s133 :: Gc3K30
theorem Gc3K31_ok : ∀ q ∈ Gc3K31, ItemOk Tryd.prog q := items_cons i133 Gc3K30_ok
noncomputable def s125 : (Int × List Int) × (Int × List Int) → Option (Int × List Int) := fun (a, b) =>
 optE (s134 b) (fun r1 =>
  optE (s133 (a, r1)) (fun r2 =>
   some (r2))
   (none))
  (none)
theorem i125 : ItemOk Tryd.prog (.fn 125 [.d (.agg (.pair zI (.slice zI))), .d (.agg (.pair zI (.slice zI)))] [.d (.agg (.pair zI (.slice zI)))] s125) := item_fnM md7 ext7 (U := 9) (n := 4) noSpecial mixed Gc3K31_ok (fun x => by kernel_rfl)
noncomputable def Gc3K32 : List Ev.Item := .fn 125 [.d (.agg (.pair zI (.slice zI))), .d (.agg (.pair zI (.slice zI)))] [.d (.agg (.pair zI (.slice zI)))] s125 :: Gc3K31
theorem Gc3K32_ok : ∀ q ∈ Gc3K32, ItemOk Tryd.prog q := items_cons i125 Gc3K31_ok
noncomputable def s94 : (Int × List Int) × (Int × List Int) → Option (Int) := fun (a, b) =>
 optE (s125 (a, b)) (fun r1 =>
  some (r1.1))
  (none)
theorem i94 : ItemOk Tryd.prog (.fn 94 [.d (.agg (.pair zI (.slice zI))), .d (.agg (.pair zI (.slice zI)))] [.d zI] s94) := item_fnM md7 ext7 (U := 9) (n := 4) noSpecial mixed Gc3K32_ok (fun x => by kernel_rfl)
noncomputable def Gc3K33 : List Ev.Item := .fn 94 [.d (.agg (.pair zI (.slice zI))), .d (.agg (.pair zI (.slice zI)))] [.d zI] s94 :: Gc3K32
theorem Gc3K33_ok : ∀ q ∈ Gc3K33, ItemOk Tryd.prog q := items_cons i94 Gc3K32_ok
@[reducible] def T95_0 : Tmpl := ⟨30, [(1, .ref 1 0 0 0)], [.val 4 zI, .val 5 zI, .cells 1 [.d (.pair zI (.slice zI))]], [], none⟩
@[reducible] def X95_0 : List (Ex × Tmpl) := [(.exit 0, ⟨30, [(1, .ref 1 0 0 0)], [.val 4 zI, .cells 1 [.d (.pair zI (.slice zI))]], [], none⟩)]
noncomputable def step95_0 : Int × Int × (Int × List Int) → Option ((Int × Int × (Int × List Int)) ⊕ (Int × (Int × List Int))) := fun (n, i, a) =>
 bif decide (i ≥ 0) then
  bif inBounds i a.2.length then
   some (.inl (wr ((wr (n * 1000000000)) + (a.2.getD i.toNat 0)), wr (i - 1), a))
  else
   none
 else
  some (.inr (n, a))
theorem one95_0 : oneLoop Tryd.prog 95 0 = true := by kernel_rfl
theorem lp95_0 : ItemOk Tryd.prog (.loop 95 0 T95_0 X95_0 (loopVal step95_0)) := item_loopM md7 ext7 (U := 9) (n := 3) noSpecial mixed Gc3K33_ok one95_0 (fun x => by kernel_rfl)
noncomputable def Gc3K34 : List Ev.Item := .loop 95 0 T95_0 X95_0 (loopVal step95_0) :: Gc3K33
theorem Gc3K34_ok : ∀ q ∈ Gc3K34, ItemOk Tryd.prog q := items_cons lp95_0 Gc3K33_ok
noncomputable def s95 : Int × List Int → Option (Int × Bool) := fun a =>
 bif decide ((a.2.length : Int) > 2) then
  some ((0, false))
 else
  optE (loopVal step95_0 (0, wr ((a.2.length : Int) - 1), a)) (fun e1 =>
   some ((wr (e1.2.1 * e1.1), true)))
   (none)
theorem i95 : ItemOk Tryd.prog (.fn 95 [.d (.agg (.pair zI (.slice zI)))] [.d zI, .d .bool] s95) := item_fnM md7 ext7 (U := 9) (n := 4) noSpecial mixed Gc3K34_ok (fun x => by kernel_rfl)
noncomputable def Gc3K35 : List Ev.Item := .fn 95 [.d (.agg (.pair zI (.slice zI)))] [.d zI, .d .bool] s95 :: Gc3K34
theorem Gc3K35_ok : ∀ q ∈ Gc3K35, ItemOk Tryd.prog q := items_cons i95 Gc3K34_ok
@[reducible] def T45_0 : Tmpl := ⟨41, [(4, .ref 4 0 0 0)], [.val 0 (.slice (.agg (.pair zI zP))), .val 5 zI, .val 6 zI, .cells 4 [.d (.pair zI (.slice zI))]], [], none⟩
@[reducible] def X45_0 : List (Ex × Tmpl) := [(.ret, ⟨41, [], [.val 2 zI, .val 3 .bool], [], none⟩), (.exit 0, ⟨41, [], [.val 5 zI], [], none⟩)]
noncomputable def step45_0 : (List (Int × Int × Int)) × Int × Int × (Int × List Int) → Option (((List (Int × Int × Int)) × Int × Int × (Int × List Int)) ⊕ ((Int × Bool) ⊕ (Int))) := fun (l, out, i, _) =>
 bif decide (i < (l.length : Int)) then
  optE (s92 out) (fun r2 =>
   bif inBounds i l.length then
    bif inBounds i l.length then
     optE (s85 (out, (l.getD i.toNat (0, 0, 0)).1)) (fun r3 =>
      bif !(r3 == 0) then
       optE (s92 (wr (Int.tdiv (l.getD i.toNat (0, 0, 0)).1 r3))) (fun r4 =>
        optE (s93 (r2, r4)) (fun r5 =>
         optE (s92 1000000000000000) (fun r6 =>
          optE (s94 (r5, r6)) (fun r7 =>
           bif decide (r7 > 0) then
            some (.inr (.inl (0, false)))
           else
            optE (s95 r5) (fun r8 =>
             some (.inl (l, r8.1, wr (i + 1), r5)))
             (none))
           (none))
          (none))
         (none))
        (none)
      else
       none)
      (none)
    else
     none
   else
    none)
   (none)
 else
  some (.inr (.inr out))
theorem one45_0 : oneLoop Tryd.prog 45 0 = true := by kernel_rfl
theorem lp45_0 : ItemOk Tryd.prog (.loop 45 0 T45_0 X45_0 (loopVal step45_0)) := item_loopM md7 ext7 (U := 9) (n := 3) noSpecial mixed Gc3K35_ok one45_0 (fun x => by kernel_rfl)
noncomputable def Gc3K36 : List Ev.Item := .loop 45 0 T45_0 X45_0 (loopVal step45_0) :: Gc3K35
theorem Gc3K36_ok : ∀ q ∈ Gc3K36, ItemOk Tryd.prog q := items_cons lp45_0 Gc3K35_ok
noncomputable def s45 : List (Int × Int × Int) → Option (Int × Bool) := fun l =>
 optE (s92 1) (fun r1 =>
  optE (loopVal step45_0 (l, 1, 0, r1)) (fun e2 =>
   sumE e2 (fun e3 =>
    some (e3)) (fun e4 =>
    some ((e4, true))))
   (none))
  (none)
theorem i45 : ItemOk Tryd.prog (.fn 45 [.d (.slice (.agg (.pair zI zP)))] [.d zI, .d .bool] s45) := item_fnM md7 ext7 (U := 9) (n := 4) noSpecial mixed Gc3K36_ok (fun x => by kernel_rfl)
noncomputable def Gc3K37 : List Ev.Item := .fn 45 [.d (.slice (.agg (.pair zI zP)))] [.d zI, .d .bool] s45 :: Gc3K36
theorem Gc3K37_ok : ∀ q ∈ Gc3K37, ItemOk Tryd.prog q := items_cons i45 Gc3K36_ok
noncomputable def s8 : List (Int × Int × Int) → Option (Bool) := fun l =>
 bif !true then
  some (false)
 else
  bif decide ((l.length : Int) > 10) then
   some (true)
  else
   optE (s37 l) (fun r1 =>
    optE (s42 r1) (fun r2 =>
     optE (s37 l) (fun r3 =>
      optE (s43 r3) (fun r4 =>
       optE (s44 l) (fun r5 =>
        bif r2.2 != r5.2 then
         some (false)
        else
         bif r2.1 != r5.1 then
          some (false)
         else
          bif r5.2 != 0 then
           bif r4.2 == r5.2 then
            some (r4.1 == 0)
           else
            some (false)
          else
           optE (s45 l) (fun r6 =>
            bif r6.2 then
             bif r4.2 == 0 then
              bif r4.1 == r6.1 then
               some (true)
              else
               bif !r6.2 then
                bif r4.2 == 8 then
                 some (r4.1 == 0)
                else
                 some (false)
               else
                some (false)
             else
              bif !r6.2 then
               bif r4.2 == 8 then
                some (r4.1 == 0)
               else
                some (false)
              else
               some (false)
            else
             bif !r6.2 then
              bif r4.2 == 8 then
               some (r4.1 == 0)
              else
               some (false)
             else
              some (false))
            (none))
        (none))
       (none))
      (none))
     (none))
    (none)
theorem i8 : ItemOk Tryd.prog (.fn 8 [.d (.slice (.agg (.pair zI zP)))] [.d .bool] s8) := item_fnM md7 ext7 (U := 9) (n := 4) noSpecial mixed Gc3K37_ok (fun x => by kernel_rfl)
noncomputable def Gc3K38 : List Ev.Item := .fn 8 [.d (.slice (.agg (.pair zI zP)))] [.d .bool] s8 :: Gc3K37
theorem Gc3K38_ok : ∀ q ∈ Gc3K38, ItemOk Tryd.prog q := items_cons i8 Gc3K37_ok
end Go.Proofs.YtfmfiflpokogiaaDoor
