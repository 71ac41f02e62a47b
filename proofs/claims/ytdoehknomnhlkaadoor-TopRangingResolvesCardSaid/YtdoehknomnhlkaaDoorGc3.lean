/- Printed by gen.py: specifications of functions. -/
import Derived.Test.YtdoehknomnhlkaaDoorGc2
set_option linter.unusedSimpArgs false
set_option maxRecDepth 100000
namespace Go.Proofs.YtdoehknomnhlkaaDoor
open Go.Ev
@[reducible] def T33_0 : Tmpl := ⟨15, [], [.val 5 (.slice zI), .val 6 zI, .val 7 zI], [], none⟩
@[reducible] def X33_0 : List (Ex × Tmpl) := [(.ret, ⟨15, [], [.val 2 zI], [], none⟩), (.exit 0, ⟨15, [], [], [], none⟩)]
noncomputable def step33_0 : (List Int) × Int × Int → Option (((List Int) × Int × Int) ⊕ ((Int) ⊕ (Unit))) := fun (t5, t6, t7) =>
 bif decide (t7 < t6) then
  bif inBounds t7 t5.length then
   bif (t5.getD t7.toNat 0) != 0 then
    some (.inr (.inl (t5.getD t7.toNat 0)))
   else
    some (.inl (t5, t6, wr (t7 + 1)))
  else
   none
 else
  some (.inr (.inr ()))
theorem one33_0 : oneLoop Tryd.prog 33 0 = true := by kernel_rfl
theorem lp33_0 : ItemOk Tryd.prog (.loop 33 0 T33_0 X33_0 (loopVal step33_0)) := item_loopM md7 ext7 (U := 9) (n := 3) noSpecial mixed Gc2K5_ok one33_0 (fun x => by kernel_rfl)
noncomputable def Gc3K1 : List Ev.Item := .loop 33 0 T33_0 X33_0 (loopVal step33_0) :: Gc2K5
theorem Gc3K1_ok : ∀ q ∈ Gc3K1, ItemOk Tryd.prog q := items_cons lp33_0 Gc2K5_ok
noncomputable def s33 : List Int → Option (Int) := fun l =>
 optE (loopVal step33_0 (l, (l.length : Int), 0)) (fun e1 =>
  sumE e1 (fun e2 =>
   some (e2)) (fun _ =>
   some (0)))
  (none)
theorem i33 : ItemOk Tryd.prog (.fn 33 [.d (.slice zI)] [.d zI] s33) := item_fnM md7 ext7 (U := 9) (n := 4) noSpecial mixed Gc3K1_ok (fun x => by kernel_rfl)
noncomputable def first33 : List Int → Option Int := fun l => if l.length ≤ 1000000 then some (firstE l) else none
theorem j33 : ItemOk Tryd.prog (.fn 33 [.d (.slice zI)] [.d zI] (first33)) := item_imp i33 (by
 intro l y h
 unfold first33 at h
 split at h
 ·rename_i hl
  rw [← h]
  unfold s33
  have h1 := loop_scan (step := step33_0) (st := fun k => (l, (l.length : Int), (k : Int))) (n := l.length) (hit := fun k => bif l.getD k 0 != 0 then some (Sum.inl (l.getD k 0)) else none) (e := Sum.inr ())
   (fun k hk => by
     simp only [step33_0, lt_cast, inB_cast, hk, decide_true, cond_true, Int.toNat_natCast, wr_succ (show k < 4611686018427387904 by omega)]
     cases (l.getD k 0 != 0) <;> rfl) (by simp [step33_0]) l.length 0 (by omega)
  have h2 := scan_list0 (fun x => bif x != 0 then some (Sum.inl x) else none) (Sum.inr () : Int ⊕ Unit) l 0
  rw [h2, scanL_first] at h1
  rw [show ((0 : Nat) : Int) = 0 from rfl] at h1
  rw [h1]
  cases hf : firstE l != 0
  ·have : firstE l = 0 := by simpa using hf
   simp [optE, sumE, this]
  ·simp [optE, sumE]
 ·cases h)
noncomputable def Gc3K2 : List Ev.Item := .fn 33 [.d (.slice zI)] [.d zI] (first33) :: Gc3K1
theorem Gc3K2_ok : ∀ q ∈ Gc3K2, ItemOk Tryd.prog q := items_cons j33 Gc3K1_ok
noncomputable def s35 : Int × Int × Int → Option (Int) := fun t =>
 bif win t.1 1 100000 then
  some (firstE [unl (win t.2.1 0 (wr (t.1 - 1))) 2, unl (decide (t.2.2 ≥ t.2.1)) 9, unl (decide (t.2.2 ≤ (wr ((wr (t.2.1 + t.1)) - 1)))) 23])
 else
  some (firstE [unl false 2, unl (decide (t.2.2 ≥ t.2.1)) 9, unl (decide (t.2.2 ≤ (wr ((wr (t.2.1 + t.1)) - 1)))) 23])
theorem i35 : ItemOk Tryd.prog (.fn 35 [.d (.agg (.pair zI zP))] [.d zI] s35) := item_fnM md7 ext7 (U := 9) (n := 4) noSpecial mixed Gc3K2_ok (fun x => by kernel_rfl)
noncomputable def tErr (t : Int × Int × Int) : Int :=
 firstE [unl (win t.1 1 100000 && win t.2.1 0 (t.1 - 1)) 2, unl (decide (t.2.1 ≤ t.2.2)) 9, unl (decide (t.2.2 ≤ t.2.1 + t.1 - 1)) 23]
theorem j35 : ItemOk Tryd.prog (.fn 35 [.d (.agg (.pair zI zP))] [.d zI] (fun x => some (tErr x))) := item_imp i35 (by
 rintro ⟨p, lo, hi⟩ y h
 rw [← h]; show s35 (p, lo, hi) = some (tErr (p, lo, hi))
 simp only [s35, tErr]
 cases hp : win p 1 100000
 ·rfl
 ·have hp := win_iff.1 hp
  rw [wr_id (n := p - 1) (by omega) (by omega)]
  cases hl : win lo 0 (p - 1)
  ·rfl
  ·have hl := win_iff.1 hl
   rw [wr_id (n := lo + p) (by omega) (by omega), wr_id (n := lo + p - 1) (by omega) (by omega)]
   rfl)
noncomputable def Gc3K3 : List Ev.Item := .fn 35 [.d (.agg (.pair zI zP))] [.d zI] (fun x => some (tErr x)) :: Gc3K2
theorem Gc3K3_ok : ∀ q ∈ Gc3K3, ItemOk Tryd.prog q := items_cons j35 Gc3K2_ok
@[reducible] def T17_0 : Tmpl := ⟨24, [], [.val 10 (.slice (.agg (.pair zI zP))), .val 11 zI, .val 12 zI], [], none⟩
@[reducible] def X17_0 : List (Ex × Tmpl) := [(.ret, ⟨24, [], [.val 2 zI, .val 3 zI], [], none⟩), (.exit 0, ⟨24, [], [], [], none⟩)]
noncomputable def step17_0 : (List (Int × Int × Int)) × Int × Int → Option (((List (Int × Int × Int)) × Int × Int) ⊕ ((Int × Int) ⊕ (Unit))) := fun (t10, t11, t12) =>
 bif decide (t12 < t11) then
  bif inBounds t12 t10.length then
   bif (tErr (t10.getD t12.toNat (0, 0, 0))) != 0 then
    some (.inr (.inl (t12, tErr (t10.getD t12.toNat (0, 0, 0)))))
   else
    some (.inl (t10, t11, wr (t12 + 1)))
  else
   none
 else
  some (.inr (.inr ()))
theorem one17_0 : oneLoop Tryd.prog 17 0 = true := by kernel_rfl
theorem lp17_0 : ItemOk Tryd.prog (.loop 17 0 T17_0 X17_0 (loopVal step17_0)) := item_loopM md7 ext7 (U := 9) (n := 3) noSpecial mixed Gc3K3_ok one17_0 (fun x => by kernel_rfl)
noncomputable def Gc3K4 : List Ev.Item := .loop 17 0 T17_0 X17_0 (loopVal step17_0) :: Gc3K3
theorem Gc3K4_ok : ∀ q ∈ Gc3K4, ItemOk Tryd.prog q := items_cons lp17_0 Gc3K3_ok
noncomputable def s17 : List (Int × Int × Int) → Option (Int × Int) := fun l =>
 bif decide ((l.length : Int) > 8) then
  some ((0, 8))
 else
  optE (loopVal step17_0 (l, (l.length : Int), 0)) (fun e1 =>
   sumE e1 (fun e2 =>
    some (e2)) (fun _ =>
    some ((0, 0))))
   (none)
theorem i17 : ItemOk Tryd.prog (.fn 17 [.d (.slice (.agg (.pair zI zP)))] [.d zI, .d zI] s17) := item_fnM md7 ext7 (U := 9) (n := 4) noSpecial mixed Gc3K4_ok (fun x => by kernel_rfl)
noncomputable def Gc3K5 : List Ev.Item := .fn 17 [.d (.slice (.agg (.pair zI zP)))] [.d zI, .d zI] s17 :: Gc3K4
theorem Gc3K5_ok : ∀ q ∈ Gc3K5, ItemOk Tryd.prog q := items_cons i17 Gc3K4_ok
noncomputable def s49 : Int × Int × Int × Int × Int → Option (Int) := fun m =>
 bif (unl (win m.2.1 0 1000) 2) == 0 then
  bif (unl (win m.2.2.1 0 1000) 2) == 0 then
   bif win m.2.2.2.1 (wr (-100000)) 100000 then
    bif m.1 == 1 then
     bif !(m.1 == 1) then
      some (firstE [unl (win m.1 0 1) 15, unl (win m.2.2.2.2 (wr (-100000)) 100000) 2, unl true 3, unl true 9, unl (decide (m.2.2.2.1 ≤ m.2.2.2.2)) 9])
     else
      some (firstE [unl (win m.1 0 1) 15, unl (win m.2.2.2.2 (wr (-100000)) 100000) 2, unl true 3, unl (decide (m.2.1 < m.2.2.1)) 9, unl (decide (m.2.2.2.1 ≤ m.2.2.2.2)) 9])
    else
     bif !(m.1 == 1) then
      some (firstE [unl (win m.1 0 1) 15, unl (win m.2.2.2.2 (wr (-100000)) 100000) 2, unl (m.2.1 == 0) 3, unl true 9, unl (decide (m.2.2.2.1 ≤ m.2.2.2.2)) 9])
     else
      some (firstE [unl (win m.1 0 1) 15, unl (win m.2.2.2.2 (wr (-100000)) 100000) 2, unl (m.2.1 == 0) 3, unl (decide (m.2.1 < m.2.2.1)) 9, unl (decide (m.2.2.2.1 ≤ m.2.2.2.2)) 9])
   else
    bif m.1 == 1 then
     bif !(m.1 == 1) then
      some (firstE [unl (win m.1 0 1) 15, unl false 2, unl true 3, unl true 9, unl (decide (m.2.2.2.1 ≤ m.2.2.2.2)) 9])
     else
      some (firstE [unl (win m.1 0 1) 15, unl false 2, unl true 3, unl (decide (m.2.1 < m.2.2.1)) 9, unl (decide (m.2.2.2.1 ≤ m.2.2.2.2)) 9])
    else
     bif !(m.1 == 1) then
      some (firstE [unl (win m.1 0 1) 15, unl false 2, unl (m.2.1 == 0) 3, unl true 9, unl (decide (m.2.2.2.1 ≤ m.2.2.2.2)) 9])
     else
      some (firstE [unl (win m.1 0 1) 15, unl false 2, unl (m.2.1 == 0) 3, unl (decide (m.2.1 < m.2.2.1)) 9, unl (decide (m.2.2.2.1 ≤ m.2.2.2.2)) 9])
  else
   bif m.1 == 1 then
    bif !(m.1 == 1) then
     some (firstE [unl (win m.1 0 1) 15, unl false 2, unl true 3, unl true 9, unl (decide (m.2.2.2.1 ≤ m.2.2.2.2)) 9])
    else
     some (firstE [unl (win m.1 0 1) 15, unl false 2, unl true 3, unl (decide (m.2.1 < m.2.2.1)) 9, unl (decide (m.2.2.2.1 ≤ m.2.2.2.2)) 9])
   else
    bif !(m.1 == 1) then
     some (firstE [unl (win m.1 0 1) 15, unl false 2, unl (m.2.1 == 0) 3, unl true 9, unl (decide (m.2.2.2.1 ≤ m.2.2.2.2)) 9])
    else
     some (firstE [unl (win m.1 0 1) 15, unl false 2, unl (m.2.1 == 0) 3, unl (decide (m.2.1 < m.2.2.1)) 9, unl (decide (m.2.2.2.1 ≤ m.2.2.2.2)) 9])
 else
  bif m.1 == 1 then
   bif !(m.1 == 1) then
    some (firstE [unl (win m.1 0 1) 15, unl false 2, unl true 3, unl true 9, unl (decide (m.2.2.2.1 ≤ m.2.2.2.2)) 9])
   else
    some (firstE [unl (win m.1 0 1) 15, unl false 2, unl true 3, unl (decide (m.2.1 < m.2.2.1)) 9, unl (decide (m.2.2.2.1 ≤ m.2.2.2.2)) 9])
  else
   bif !(m.1 == 1) then
    some (firstE [unl (win m.1 0 1) 15, unl false 2, unl (m.2.1 == 0) 3, unl true 9, unl (decide (m.2.2.2.1 ≤ m.2.2.2.2)) 9])
   else
    some (firstE [unl (win m.1 0 1) 15, unl false 2, unl (m.2.1 == 0) 3, unl (decide (m.2.1 < m.2.2.1)) 9, unl (decide (m.2.2.2.1 ≤ m.2.2.2.2)) 9])
theorem i49 : ItemOk Tryd.prog (.fn 49 [.d zA] [.d zI] s49) := item_fnM md7 ext7 (U := 9) (n := 4) noSpecial mixed Gc3K5_ok (fun x => by kernel_rfl)
theorem dec_ge (a b : Int) : decide (a ≥ b) = !decide (a < b) := by
 by_cases h : a < b
 ·rw [decide_eq_true h, decide_eq_false (show ¬ a ≥ b by omega)]; rfl
 ·rw [decide_eq_false h, decide_eq_true (show a ≥ b by omega)]; rfl
theorem dec_gt (a b : Int) : decide (a > b) = !decide (a ≤ b) := by
 by_cases h : a ≤ b
 ·rw [decide_eq_true h, decide_eq_false (show ¬ a > b by omega)]; rfl
 ·rw [decide_eq_false h, decide_eq_true (show a > b by omega)]; rfl
theorem dec_lt (a b : Int) : decide (a < b) = !decide (b ≤ a) := dec_gt b a
theorem kind01 {k : Int} (h : 0 ≤ k ∧ k ≤ 1) : k = 0 ∨ k = 1 := by omega
noncomputable def mErr (m : Int × Int × Int × Int × Int) : Int :=
 firstE [unl (win m.1 0 1) 15, unl (win m.2.1 0 1000 && (win m.2.2.1 0 1000 && (win m.2.2.2.1 (-100000) 100000 && win m.2.2.2.2 (-100000) 100000))) 2, unl (m.1 == 1 || m.2.1 == 0) 3, unl (!(m.1 == 1) || decide (m.2.1 < m.2.2.1)) 9, unl (decide (m.2.2.2.1 ≤ m.2.2.2.2)) 9]
theorem j49 : ItemOk Tryd.prog (.fn 49 [.d zA] [.d zI] (fun x => some (mErr x))) := item_imp i49 (by
 rintro ⟨k, f, t, lo, hi⟩ y h
 rw [← h]; show s49 (k, f, t, lo, hi) = some (mErr (k, f, t, lo, hi))
 have e : wr (-100000) = -100000 := rfl
 simp only [s49, mErr, e]
 cases win f 0 1000 <;> cases win t 0 1000 <;> cases win lo (-100000) 100000 <;> cases (k == 1) <;> rfl)
noncomputable def Gc3K6 : List Ev.Item := .fn 49 [.d zA] [.d zI] (fun x => some (mErr x)) :: Gc3K5
theorem Gc3K6_ok : ∀ q ∈ Gc3K6, ItemOk Tryd.prog q := items_cons j49 Gc3K5_ok
noncomputable def s14 : Int × Int × Int → Option (Bool) := fun (n, lo, hi) =>
 bif decide (lo ≤ n) then
  some (decide (n ≤ hi))
 else
  some (false)
theorem i14 : ItemOk Tryd.prog (.fn 14 [.d zI, .d zI, .d zI] [.d .bool] s14) := item_fnM md7 ext7 (U := 9) (n := 4) noSpecial mixed Gc3K6_ok (fun x => by kernel_rfl)
theorem j14 : ItemOk Tryd.prog (.fn 14 [.d zI, .d zI, .d zI] [.d .bool] (fun x => some (win x.1 x.2.1 x.2.2))) := item_imp i14 (by
 rintro ⟨n, lo, hi⟩ y h
 rw [← h]; show s14 (n, lo, hi) = some (win n lo hi); simp only [s14, win]; cases decide (lo ≤ n) <;> rfl)
noncomputable def Gc3K7 : List Ev.Item := .fn 14 [.d zI, .d zI, .d zI] [.d .bool] (fun x => some (win x.1 x.2.1 x.2.2)) :: Gc3K6
theorem Gc3K7_ok : ∀ q ∈ Gc3K7, ItemOk Tryd.prog q := items_cons j14 Gc3K6_ok
noncomputable def s47 : Int × Int × Int → Option (Int) := fun t =>
 bif !(win t.1 1 100000) then
  some (2)
 else
  bif !(win t.2.1 0 (wr (t.1 - 1))) then
   some (2)
  else
   bif decide (t.2.2 < t.2.1) then
    some (9)
   else
    bif decide (t.2.2 > (wr ((wr (t.2.1 + t.1)) - 1))) then
     some (23)
    else
     some (0)
theorem i47 : ItemOk Tryd.prog (.fn 47 [.d (.agg (.pair zI zP))] [.d zI] s47) := item_fnM md7 ext7 (U := 9) (n := 4) noSpecial mixed Gc3K7_ok (fun x => by kernel_rfl)
theorem j47 : ItemOk Tryd.prog (.fn 47 [.d (.agg (.pair zI zP))] [.d zI] (fun x => some (tErr x))) := item_imp i47 (by
 rintro ⟨p, lo, hi⟩ y h
 rw [← h]; show s47 (p, lo, hi) = some (tErr (p, lo, hi))
 simp only [s47, tErr]
 cases hp : win p 1 100000
 ·rfl
 ·have hp := win_iff.1 hp
  rw [wr_id (n := p - 1) (by omega) (by omega)]
  cases hl : win lo 0 (p - 1)
  ·rfl
  ·have hl := win_iff.1 hl
   rw [wr_id (n := lo + p) (by omega) (by omega), wr_id (n := lo + p - 1) (by omega) (by omega)]
   rw [dec_lt hi lo, dec_gt hi (lo + p - 1)]
   cases decide (lo ≤ hi) <;> cases decide (hi ≤ lo + p - 1) <;> rfl)
noncomputable def Gc3K8 : List Ev.Item := .fn 47 [.d (.agg (.pair zI zP))] [.d zI] (fun x => some (tErr x)) :: Gc3K7
theorem Gc3K8_ok : ∀ q ∈ Gc3K8, ItemOk Tryd.prog q := items_cons j47 Gc3K7_ok
@[reducible] def T29_0 : Tmpl := ⟨24, [], [.val 0 (.slice (.agg (.pair zI zP))), .val 4 zI], [], none⟩
@[reducible] def X29_0 : List (Ex × Tmpl) := [(.ret, ⟨24, [], [.val 2 zI, .val 3 zI], [], none⟩), (.exit 0, ⟨24, [], [], [], none⟩)]
noncomputable def step29_0 : (List (Int × Int × Int)) × Int → Option (((List (Int × Int × Int)) × Int) ⊕ ((Int × Int) ⊕ (Unit))) := fun (l, i) =>
 bif decide (i < (l.length : Int)) then
  bif inBounds i l.length then
   bif (tErr (l.getD i.toNat (0, 0, 0))) != 0 then
    some (.inr (.inl (i, tErr (l.getD i.toNat (0, 0, 0)))))
   else
    some (.inl (l, wr (i + 1)))
  else
   none
 else
  some (.inr (.inr ()))
theorem one29_0 : oneLoop Tryd.prog 29 0 = true := by kernel_rfl
theorem lp29_0 : ItemOk Tryd.prog (.loop 29 0 T29_0 X29_0 (loopVal step29_0)) := item_loopM md7 ext7 (U := 9) (n := 3) noSpecial mixed Gc3K8_ok one29_0 (fun x => by kernel_rfl)
noncomputable def Gc3K9 : List Ev.Item := .loop 29 0 T29_0 X29_0 (loopVal step29_0) :: Gc3K8
theorem Gc3K9_ok : ∀ q ∈ Gc3K9, ItemOk Tryd.prog q := items_cons lp29_0 Gc3K8_ok
noncomputable def s29 : List (Int × Int × Int) → Option (Int × Int) := fun l =>
 bif decide ((l.length : Int) > 8) then
  some ((0, 8))
 else
  optE (loopVal step29_0 (l, 0)) (fun e1 =>
   sumE e1 (fun e2 =>
    some (e2)) (fun _ =>
    some ((0, 0))))
   (none)
theorem i29 : ItemOk Tryd.prog (.fn 29 [.d (.slice (.agg (.pair zI zP)))] [.d zI, .d zI] s29) := item_fnM md7 ext7 (U := 9) (n := 4) noSpecial mixed Gc3K9_ok (fun x => by kernel_rfl)
noncomputable def Gc3K10 : List Ev.Item := .fn 29 [.d (.slice (.agg (.pair zI zP)))] [.d zI, .d zI] s29 :: Gc3K9
theorem Gc3K10_ok : ∀ q ∈ Gc3K10, ItemOk Tryd.prog q := items_cons i29 Gc3K9_ok
@[reducible] def T36_0 : Tmpl := ⟨12, [], [.val 0 zI, .val 1 zI], [], none⟩
@[reducible] def X36_0 : List (Ex × Tmpl) := [(.exit 0, ⟨12, [], [.val 0 zI], [], none⟩)]
noncomputable def step36_0 : Int × Int → Option ((Int × Int) ⊕ (Int)) := fun (a, b) =>
 bif b != 0 then
  bif !(b == 0) then
   some (.inl (b, Int.tmod a b))
  else
   none
 else
  some (.inr a)
theorem one36_0 : oneLoop Tryd.prog 36 0 = true := by kernel_rfl
theorem lp36_0 : ItemOk Tryd.prog (.loop 36 0 T36_0 X36_0 (loopVal step36_0)) := item_loopM md7 ext7 (U := 9) (n := 3) noSpecial mixed Gc3K10_ok one36_0 (fun x => by kernel_rfl)
noncomputable def Gc3K11 : List Ev.Item := .loop 36 0 T36_0 X36_0 (loopVal step36_0) :: Gc3K10
theorem Gc3K11_ok : ∀ q ∈ Gc3K11, ItemOk Tryd.prog q := items_cons lp36_0 Gc3K10_ok
noncomputable def s36 : Int × Int → Option (Int) := fun (a, b) =>
 optE (loopVal step36_0 (a, b)) (fun e1 =>
  some (e1))
  (none)
theorem i36 : ItemOk Tryd.prog (.fn 36 [.d zI, .d zI] [.d zI] s36) := item_fnM md7 ext7 (U := 9) (n := 4) noSpecial mixed Gc3K11_ok (fun x => by kernel_rfl)
noncomputable def Gc3K12 : List Ev.Item := .fn 36 [.d zI, .d zI] [.d zI] s36 :: Gc3K11
theorem Gc3K12_ok : ∀ q ∈ Gc3K12, ItemOk Tryd.prog q := items_cons i36 Gc3K11_ok
@[reducible] def T18_0 : Tmpl := ⟨40, [], [.val 6 zI, .val 18 (.slice (.agg (.pair zI zP))), .val 19 zI, .val 20 zI], [], none⟩
@[reducible] def X18_0 : List (Ex × Tmpl) := [(.ret, ⟨40, [], [.val 2 zI, .val 3 zI], [], none⟩), (.exit 0, ⟨40, [], [.val 6 zI], [], none⟩)]
noncomputable def step18_0 : Int × (List (Int × Int × Int)) × Int × Int → Option ((Int × (List (Int × Int × Int)) × Int × Int) ⊕ ((Int × Int) ⊕ (Int))) := fun (out, t18, t19, t20) =>
 bif decide (t20 < t19) then
  bif inBounds t20 t18.length then
   optE (s36 (out, (t18.getD t20.toNat (0, 0, 0)).1)) (fun r2 =>
    bif !(r2 == 0) then
     bif !((wr (Int.tdiv (t18.getD t20.toNat (0, 0, 0)).1 r2)) == 0) then
      bif decide (out > (wr (Int.tdiv 1000000000000000 (wr (Int.tdiv (t18.getD t20.toNat (0, 0, 0)).1 r2))))) then
       some (.inr (.inl (0, 8)))
      else
       some (.inl (wr (out * (wr (Int.tdiv (t18.getD t20.toNat (0, 0, 0)).1 r2))), t18, t19, wr (t20 + 1)))
     else
      none
    else
     none)
    (none)
  else
   none
 else
  some (.inr (.inr out))
theorem one18_0 : oneLoop Tryd.prog 18 0 = true := by kernel_rfl
theorem lp18_0 : ItemOk Tryd.prog (.loop 18 0 T18_0 X18_0 (loopVal step18_0)) := item_loopM md7 ext7 (U := 9) (n := 3) noSpecial mixed Gc3K12_ok one18_0 (fun x => by kernel_rfl)
noncomputable def Gc3K13 : List Ev.Item := .loop 18 0 T18_0 X18_0 (loopVal step18_0) :: Gc3K12
theorem Gc3K13_ok : ∀ q ∈ Gc3K13, ItemOk Tryd.prog q := items_cons lp18_0 Gc3K12_ok
noncomputable def s18 : List (Int × Int × Int) → Option (Int × Int) := fun l =>
 optE (s17 l) (fun r1 =>
  bif r1.2 != 0 then
   some ((0, r1.2))
  else
   optE (loopVal step18_0 (1, l, (l.length : Int), 0)) (fun e2 =>
    sumE e2 (fun e3 =>
     some (e3)) (fun e4 =>
     some ((e4, 0))))
    (none))
  (none)
theorem i18 : ItemOk Tryd.prog (.fn 18 [.d (.slice (.agg (.pair zI zP)))] [.d zI, .d zI] s18) := item_fnM md7 ext7 (U := 9) (n := 4) noSpecial mixed Gc3K13_ok (fun x => by kernel_rfl)
noncomputable def Gc3K14 : List Ev.Item := .fn 18 [.d (.slice (.agg (.pair zI zP)))] [.d zI, .d zI] s18 :: Gc3K13
theorem Gc3K14_ok : ∀ q ∈ Gc3K14, ItemOk Tryd.prog q := items_cons i18 Gc3K13_ok
noncomputable def s41 : Int → Option (Bool) := fun n =>
 some (win n 0 1000000000)
theorem i41 : ItemOk Tryd.prog (.fn 41 [.d zI] [.d .bool] s41) := item_fnM md7 ext7 (U := 9) (n := 4) noSpecial mixed Gc3K14_ok (fun x => by kernel_rfl)
noncomputable def Gc3K15 : List Ev.Item := .fn 41 [.d zI] [.d .bool] s41 :: Gc3K14
theorem Gc3K15_ok : ∀ q ∈ Gc3K15, ItemOk Tryd.prog q := items_cons i41 Gc3K14_ok
@[reducible] def T26_2 : Tmpl := ⟨89, [(3, .ref 3 0 0 0), (9, .ref 50 0 0 0)], [.val 0 (.slice (.agg (.pair zI zP))), .val 10 zI, .val 11 zI, .val 59 (.slice (.agg (.pair zI zP))), .val 60 zI, .val 61 zI, .cells 3 [.d zP], .cells 50 [.own 950 24 (.agg zP), .vec 256 .bool]], [27], none⟩
@[reducible] def X26_2 : List (Ex × Tmpl) := [(.exit 2, ⟨89, [(3, .ref 3 0 0 0), (9, .ref 50 0 0 0)], [.val 0 (.slice (.agg (.pair zI zP))), .val 10 zI, .val 11 zI, .cells 3 [.d zP], .cells 50 [.own 950 24 (.agg zP), .vec 256 .bool]], [27], none⟩)]
noncomputable def step26_2 : (List (Int × Int × Int)) × Int × Int × (List (Int × Int × Int)) × Int × Int × (Int × Int) × ((List (Int × Int)) × (List Bool)) → Option (((List (Int × Int × Int)) × Int × Int × (List (Int × Int × Int)) × Int × Int × (Int × Int) × ((List (Int × Int)) × (List Bool))) ⊕ ((List (Int × Int × Int)) × Int × Int × (Int × Int) × ((List (Int × Int)) × (List Bool)))) := fun (l, d, mask, t59, t60, t61, limit, s) =>
 bif decide (t61 < t60) then
  bif inBounds t61 t59.length then
   optE (s43 ((t59.getD t61.toNat (0, 0, 0)), d)) (fun r4 =>
    bif r4 then
     bif decide (0 ≤ t61) then
      some (.inl (l, d, orI .i64 mask (shlI .i64 1 t61), t59, t60, wr (t61 + 1), limit, (s.1, padV 256 .bool s.2)))
     else
      none
    else
     some (.inl (l, d, mask, t59, t60, wr (t61 + 1), limit, (s.1, padV 256 .bool s.2))))
    (none)
  else
   none
 else
  some (.inr (l, d, mask, limit, (s.1, padV 256 .bool s.2)))
theorem one26_2 : oneLoop Tryd.prog 26 2 = true := by kernel_rfl
theorem lp26_2 : ItemOk Tryd.prog (.loop 26 2 T26_2 X26_2 (loopVal step26_2)) := item_loopM md7 ext7 (U := 9) (n := 2) noSpecial mixed Gc3K15_ok one26_2 (fun x => by kernel_rfl)
def pi26_2 : (List (Int × Int × Int)) × Int × Int × (List (Int × Int × Int)) × Int × Int × (Int × Int) × ((List (Int × Int)) × (List Bool)) → (List (Int × Int × Int)) × Int × (Int × Int) := fun (l, d, _, _, _, _, limit, _) => (l, d, limit)
def rho26_2 : ((List (Int × Int × Int)) × Int × Int × (Int × Int) × ((List (Int × Int)) × (List Bool))) → (List (Int × Int × Int)) × Int × (Int × Int) := fun (e0, e1, _, e3, _) => (e0, e1, e3)
theorem ka26_2 : ∀ x y, step26_2 x = some (.inl y) → pi26_2 y = pi26_2 x := by
 rintro ⟨l, d, mask, t59, t60, t61, limit, s⟩ y h
 dsimp only [step26_2] at h
 rcases bifS h with ⟨_, h⟩ | ⟨_, h⟩
 ·rcases bifS h with ⟨_, h⟩ | ⟨_, h⟩
  ·obtain ⟨r4, _, h⟩ := optS h
   rcases bifS h with ⟨_, h⟩ | ⟨_, h⟩
   ·rcases bifS h with ⟨_, h⟩ | ⟨_, h⟩
    ·cases h; rfl
    ·cases h
   ·cases h; rfl
  ·cases h
 ·cases h
theorem kb26_2 : ∀ x e, step26_2 x = some (.inr e) → rho26_2 e = pi26_2 x := by
 rintro ⟨l, d, mask, t59, t60, t61, limit, s⟩ y h
 dsimp only [step26_2] at h
 rcases bifS h with ⟨_, h⟩ | ⟨_, h⟩
 ·rcases bifS h with ⟨_, h⟩ | ⟨_, h⟩
  ·obtain ⟨r4, _, h⟩ := optS h
   rcases bifS h with ⟨_, h⟩ | ⟨_, h⟩
   ·rcases bifS h with ⟨_, h⟩ | ⟨_, h⟩
    ·cases h
    ·cases h
   ·cases h
  ·cases h
 ·cases h; rfl
noncomputable def F26_2 : T26_2.D → Out (ExT X26_2) := fun (l, d, mask, t59, t60, t61, limit, s) => .alt (loopVal step26_2 (l, d, mask, t59, t60, t61, limit, s)) (fun e => .done ((l, d, e.2.2.1, limit, e.2.2.2.2))) .no
theorem hO26_2 : ∀ x y, (F26_2 x).at' = some y → loopVal step26_2 x = some y := by
 rintro ⟨l, d, mask, t59, t60, t61, limit, s⟩ y h
 cases hv : loopVal step26_2 (l, d, mask, t59, t60, t61, limit, s) with
 | none =>
   have h : (Out.alt (loopVal step26_2 (l, d, mask, t59, t60, t61, limit, s)) _ Out.no).at' = some y := h
   rw [hv] at h; cases h
 | some e =>
   have h : (Out.alt (loopVal step26_2 (l, d, mask, t59, t60, t61, limit, s)) _ Out.no).at' = some y := h
   rw [hv] at h
   have k := loop_keep step26_2 pi26_2 rho26_2 ka26_2 kb26_2 _ _ hv
   obtain ⟨e0, e1, e2, e3, e4⟩ := e
   cases k
   exact h
theorem lo26_2 : ItemOk Tryd.prog (.loopO 26 2 T26_2 X26_2 F26_2) := item_loopO lp26_2 hO26_2
noncomputable def Gc3K16 : List Ev.Item := .loopO 26 2 T26_2 X26_2 F26_2 :: Gc3K15
theorem Gc3K16_ok : ∀ q ∈ Gc3K16, ItemOk Tryd.prog q := items_cons lo26_2 Gc3K15_ok
@[reducible] def T26_0 : Tmpl := ⟨89, [(3, .ref 3 0 0 0), (9, .ref 50 0 0 0)], [.val 0 (.slice (.agg (.pair zI zP))), .val 10 zI, .cells 3 [.d zP], .cells 50 [.own 950 24 (.agg zP), .vec 256 .bool]], [27], none⟩
@[reducible] def X26_0 : List (Ex × Tmpl) := [(.exit 0, ⟨89, [(9, .ref 50 0 0 0)], [.cells 50 [.own 950 24 (.agg zP), .vec 256 .bool]], [27], none⟩)]
noncomputable def step26_0 : (List (Int × Int × Int)) × Int × (Int × Int) × ((List (Int × Int)) × (List Bool)) → Option (((List (Int × Int × Int)) × Int × (Int × Int) × ((List (Int × Int)) × (List Bool))) ⊕ (((List (Int × Int)) × (List Bool)))) := fun (l, d, limit, s) =>
 bif decide (d ≤ limit.2) then
  optE (loopVal step26_2 (l, d, 0, l, (l.length : Int), 0, limit, (s.1, padV 256 .bool s.2))) (fun e4 =>
   bif inBounds e4.2.2.1 256 then
    bif Nat.ble 1 (1 + e4.2.2.1.toNat * 1) && Nat.blt (1 + e4.2.2.1.toNat * 1) 257 then
     bif decide (0 ≤ (l.length : Int)) then
      bif (wr (e4.2.2.1 + 1)) == (shlI .i64 1 (l.length : Int)) then
       bif decide ((e4.2.2.2.2.1.length : Int) > 0) then
        bif inBounds (wr ((e4.2.2.2.2.1.length : Int) - 1)) e4.2.2.2.2.1.length then
         bif (wr ((e4.2.2.2.2.1.getD (wr ((e4.2.2.2.2.1.length : Int) - 1)).toNat (0, 0)).2 + 1)) == d then
          bif inBounds (wr ((e4.2.2.2.2.1.length : Int) - 1)) e4.2.2.2.2.1.length then
           some (.inl (l, wr (d + 1), limit, (e4.2.2.2.2.1.set (wr ((e4.2.2.2.2.1.length : Int) - 1)).toNat ((e4.2.2.2.2.1.getD (wr ((e4.2.2.2.2.1.length : Int) - 1)).toNat (0, 0)).1, d), putV 256 1 (1 + e4.2.2.1.toNat * 1) true e4.2.2.2.2.2)))
          else
           none
         else
          bif room 16 (e4.2.2.2.2.1.length + 1) then
           some (.inl (l, wr (d + 1), limit, (e4.2.2.2.2.1 ++ [(d, d)], putV 256 1 (1 + e4.2.2.1.toNat * 1) true e4.2.2.2.2.2)))
          else
           none
        else
         none
       else
        bif room 16 (e4.2.2.2.2.1.length + 1) then
         some (.inl (l, wr (d + 1), limit, (e4.2.2.2.2.1 ++ [(d, d)], putV 256 1 (1 + e4.2.2.1.toNat * 1) true e4.2.2.2.2.2)))
        else
         none
      else
       some (.inl (l, wr (d + 1), limit, (e4.2.2.2.2.1, putV 256 1 (1 + e4.2.2.1.toNat * 1) true e4.2.2.2.2.2)))
     else
      none
    else
     none
   else
    none)
   (none)
 else
  some (.inr (s.1, padV 256 .bool s.2))
theorem one26_0 : oneLoop Tryd.prog 26 0 = true := by kernel_rfl
theorem lp26_0 : ItemOk Tryd.prog (.loop 26 0 T26_0 X26_0 (loopVal step26_0)) := item_loopM md7 ext7 (U := 9) (n := 2) noSpecial mixed Gc3K16_ok one26_0 (fun x => by kernel_rfl)
noncomputable def Gc3K17 : List Ev.Item := .loop 26 0 T26_0 X26_0 (loopVal step26_0) :: Gc3K16
theorem Gc3K17_ok : ∀ q ∈ Gc3K17, ItemOk Tryd.prog q := items_cons lp26_0 Gc3K16_ok
noncomputable def s19 : (List (Int × Int × Int)) × (Int × Int) → Option ((List (Int × Int)) × Int) := fun (l, limit) =>
 optE (s17 l) (fun r1 =>
  optE (s41 limit.1) (fun r2 =>
   bif r2 then
    optE (s41 limit.2) (fun r3 =>
     bif (firstE [r1.2, unl r3 2, unl (decide (limit.1 ≤ limit.2)) 9, unl (decide ((wr (limit.2 - limit.1)) < 100000)) 8]) != 0 then
      bif (firstE [r1.2, unl r3 2, unl (decide (limit.1 ≤ limit.2)) 9, unl (decide ((wr (limit.2 - limit.1)) < 100000)) 8]) != 0 then
       some (([], firstE [r1.2, unl r3 2, unl (decide (limit.1 ≤ limit.2)) 9, unl (decide ((wr (limit.2 - limit.1)) < 100000)) 8]))
      else
       none
     else
      optE (loopVal step26_0 (l, limit.1, limit, ([], List.replicate 256 false))) (fun e4 =>
       bif decide ((e4.1.length : Int) > 50) then
        some (([], 8))
       else
        some ((e4.1, 0)))
       (none))
     (none)
   else
    bif (firstE [r1.2, unl false 2, unl (decide (limit.1 ≤ limit.2)) 9, unl (decide ((wr (limit.2 - limit.1)) < 100000)) 8]) != 0 then
     bif (firstE [r1.2, unl false 2, unl (decide (limit.1 ≤ limit.2)) 9, unl (decide ((wr (limit.2 - limit.1)) < 100000)) 8]) != 0 then
      some (([], firstE [r1.2, unl false 2, unl (decide (limit.1 ≤ limit.2)) 9, unl (decide ((wr (limit.2 - limit.1)) < 100000)) 8]))
     else
      none
    else
     optE (loopVal step26_0 (l, limit.1, limit, ([], List.replicate 256 false))) (fun e5 =>
      bif decide ((e5.1.length : Int) > 50) then
       some (([], 8))
      else
       some ((e5.1, 0)))
      (none))
   (none))
  (none)
theorem i19 : ItemOk Tryd.prog (.fn 19 [.d (.slice (.agg (.pair zI zP))), .d (.agg zP)] [.own 24 (.agg zP), .d zI] s19) := item_fnM md7 ext7 (U := 9) (n := 4) noSpecial mixed Gc3K17_ok (fun x => by kernel_rfl)
noncomputable def Gc3K18 : List Ev.Item := .fn 19 [.d (.slice (.agg (.pair zI zP))), .d (.agg zP)] [.own 24 (.agg zP), .d zI] s19 :: Gc3K17
theorem Gc3K18_ok : ∀ q ∈ Gc3K18, ItemOk Tryd.prog q := items_cons i19 Gc3K17_ok
@[reducible] def T26_2a : Tmpl := ⟨89, [(3, .ref 3 0 0 0), (9, .ref 50 0 0 0), (16004, .ref 1004 0 0 0)], [.val 0 (.slice (.agg (.pair zI zP))), .val 10 zI, .val 11 zI, .val 59 (.slice (.agg (.pair zI zP))), .val 60 zI, .val 61 zI, .cells 3 [.d zP], .cells 50 [.own 950 24 (.agg zP), .vec 256 .bool], .cells 1004 [.d zP]], [45], none⟩
@[reducible] def X26_2a : List (Ex × Tmpl) := [(.exit 2, ⟨89, [(3, .ref 3 0 0 0), (9, .ref 50 0 0 0), (16004, .ref 1004 0 0 0)], [.val 0 (.slice (.agg (.pair zI zP))), .val 10 zI, .val 11 zI, .cells 3 [.d zP], .cells 50 [.own 950 24 (.agg zP), .vec 256 .bool], .cells 1004 [.d zP]], [45], none⟩)]
noncomputable def step26_2a : (List (Int × Int × Int)) × Int × Int × (List (Int × Int × Int)) × Int × Int × (Int × Int) × ((List (Int × Int)) × (List Bool)) × (Int × Int) → Option (((List (Int × Int × Int)) × Int × Int × (List (Int × Int × Int)) × Int × Int × (Int × Int) × ((List (Int × Int)) × (List Bool)) × (Int × Int)) ⊕ ((List (Int × Int × Int)) × Int × Int × (Int × Int) × ((List (Int × Int)) × (List Bool)) × (Int × Int))) := fun (l, d, mask, t59, t60, t61, limit, s, t1004) =>
 bif decide (t61 < t60) then
  bif inBounds t61 t59.length then
   optE (s43 ((t59.getD t61.toNat (0, 0, 0)), d)) (fun r4 =>
    bif r4 then
     bif decide (0 ≤ t61) then
      some (.inl (l, d, orI .i64 mask (shlI .i64 1 t61), t59, t60, wr (t61 + 1), limit, (s.1, padV 256 .bool s.2), t1004))
     else
      none
    else
     some (.inl (l, d, mask, t59, t60, wr (t61 + 1), limit, (s.1, padV 256 .bool s.2), t1004)))
    (none)
  else
   none
 else
  some (.inr (l, d, mask, limit, (s.1, padV 256 .bool s.2), t1004))
theorem one26_2a : oneLoop Tryd.prog 26 2 = true := by kernel_rfl
theorem lp26_2a : ItemOk Tryd.prog (.loop 26 2 T26_2a X26_2a (loopVal step26_2a)) := item_loopM md7 ext7 (U := 9) (n := 2) noSpecial mixed Gc3K18_ok one26_2a (fun x => by kernel_rfl)
def pi26_2a : (List (Int × Int × Int)) × Int × Int × (List (Int × Int × Int)) × Int × Int × (Int × Int) × ((List (Int × Int)) × (List Bool)) × (Int × Int) → (List (Int × Int × Int)) × Int × (Int × Int) × (Int × Int) := fun (l, d, _, _, _, _, limit, _, t1004) => (l, d, limit, t1004)
def rho26_2a : ((List (Int × Int × Int)) × Int × Int × (Int × Int) × ((List (Int × Int)) × (List Bool)) × (Int × Int)) → (List (Int × Int × Int)) × Int × (Int × Int) × (Int × Int) := fun (e0, e1, _, e3, _, e5) => (e0, e1, e3, e5)
theorem ka26_2a : ∀ x y, step26_2a x = some (.inl y) → pi26_2a y = pi26_2a x := by
 rintro ⟨l, d, mask, t59, t60, t61, limit, s, t1004⟩ y h
 dsimp only [step26_2a] at h
 rcases bifS h with ⟨_, h⟩ | ⟨_, h⟩
 ·rcases bifS h with ⟨_, h⟩ | ⟨_, h⟩
  ·obtain ⟨r4, _, h⟩ := optS h
   rcases bifS h with ⟨_, h⟩ | ⟨_, h⟩
   ·rcases bifS h with ⟨_, h⟩ | ⟨_, h⟩
    ·cases h; rfl
    ·cases h
   ·cases h; rfl
  ·cases h
 ·cases h
theorem kb26_2a : ∀ x e, step26_2a x = some (.inr e) → rho26_2a e = pi26_2a x := by
 rintro ⟨l, d, mask, t59, t60, t61, limit, s, t1004⟩ y h
 dsimp only [step26_2a] at h
 rcases bifS h with ⟨_, h⟩ | ⟨_, h⟩
 ·rcases bifS h with ⟨_, h⟩ | ⟨_, h⟩
  ·obtain ⟨r4, _, h⟩ := optS h
   rcases bifS h with ⟨_, h⟩ | ⟨_, h⟩
   ·rcases bifS h with ⟨_, h⟩ | ⟨_, h⟩
    ·cases h
    ·cases h
   ·cases h
  ·cases h
 ·cases h; rfl
noncomputable def F26_2a : T26_2a.D → Out (ExT X26_2a) := fun (l, d, mask, t59, t60, t61, limit, s, t1004) => .alt (loopVal step26_2a (l, d, mask, t59, t60, t61, limit, s, t1004)) (fun e => .done ((l, d, e.2.2.1, limit, e.2.2.2.2.1, t1004))) .no
theorem hO26_2a : ∀ x y, (F26_2a x).at' = some y → loopVal step26_2a x = some y := by
 rintro ⟨l, d, mask, t59, t60, t61, limit, s, t1004⟩ y h
 cases hv : loopVal step26_2a (l, d, mask, t59, t60, t61, limit, s, t1004) with
 | none =>
   have h : (Out.alt (loopVal step26_2a (l, d, mask, t59, t60, t61, limit, s, t1004)) _ Out.no).at' = some y := h
   rw [hv] at h; cases h
 | some e =>
   have h : (Out.alt (loopVal step26_2a (l, d, mask, t59, t60, t61, limit, s, t1004)) _ Out.no).at' = some y := h
   rw [hv] at h
   have k := loop_keep step26_2a pi26_2a rho26_2a ka26_2a kb26_2a _ _ hv
   obtain ⟨e0, e1, e2, e3, e4, e5⟩ := e
   cases k
   exact h
theorem lo26_2a : ItemOk Tryd.prog (.loopO 26 2 T26_2a X26_2a F26_2a) := item_loopO lp26_2a hO26_2a
noncomputable def Gc3K19 : List Ev.Item := .loopO 26 2 T26_2a X26_2a F26_2a :: Gc3K18
theorem Gc3K19_ok : ∀ q ∈ Gc3K19, ItemOk Tryd.prog q := items_cons lo26_2a Gc3K18_ok
@[reducible] def T26_0a : Tmpl := ⟨89, [(3, .ref 3 0 0 0), (9, .ref 50 0 0 0), (16004, .ref 1004 0 0 0)], [.val 0 (.slice (.agg (.pair zI zP))), .val 10 zI, .cells 3 [.d zP], .cells 50 [.own 950 24 (.agg zP), .vec 256 .bool], .cells 1004 [.d zP]], [45], none⟩
@[reducible] def X26_0a : List (Ex × Tmpl) := [(.exit 0, ⟨89, [(9, .ref 50 0 0 0), (16004, .ref 1004 0 0 0)], [.cells 50 [.own 950 24 (.agg zP), .vec 256 .bool], .cells 1004 [.d zP]], [45], none⟩)]
noncomputable def step26_0a : (List (Int × Int × Int)) × Int × (Int × Int) × ((List (Int × Int)) × (List Bool)) × (Int × Int) → Option (((List (Int × Int × Int)) × Int × (Int × Int) × ((List (Int × Int)) × (List Bool)) × (Int × Int)) ⊕ (((List (Int × Int)) × (List Bool)) × (Int × Int))) := fun (l, d, limit, s, t1004) =>
 bif decide (d ≤ limit.2) then
  optE (loopVal step26_2a (l, d, 0, l, (l.length : Int), 0, limit, (s.1, padV 256 .bool s.2), t1004)) (fun e4 =>
   bif inBounds e4.2.2.1 256 then
    bif Nat.ble 1 (1 + e4.2.2.1.toNat * 1) && Nat.blt (1 + e4.2.2.1.toNat * 1) 257 then
     bif decide (0 ≤ (l.length : Int)) then
      bif (wr (e4.2.2.1 + 1)) == (shlI .i64 1 (l.length : Int)) then
       bif decide ((e4.2.2.2.2.1.1.length : Int) > 0) then
        bif inBounds (wr ((e4.2.2.2.2.1.1.length : Int) - 1)) e4.2.2.2.2.1.1.length then
         bif (wr ((e4.2.2.2.2.1.1.getD (wr ((e4.2.2.2.2.1.1.length : Int) - 1)).toNat (0, 0)).2 + 1)) == d then
          bif inBounds (wr ((e4.2.2.2.2.1.1.length : Int) - 1)) e4.2.2.2.2.1.1.length then
           some (.inl (l, wr (d + 1), limit, (e4.2.2.2.2.1.1.set (wr ((e4.2.2.2.2.1.1.length : Int) - 1)).toNat ((e4.2.2.2.2.1.1.getD (wr ((e4.2.2.2.2.1.1.length : Int) - 1)).toNat (0, 0)).1, d), putV 256 1 (1 + e4.2.2.1.toNat * 1) true e4.2.2.2.2.1.2), t1004))
          else
           none
         else
          bif room 16 (e4.2.2.2.2.1.1.length + 1) then
           some (.inl (l, wr (d + 1), limit, (e4.2.2.2.2.1.1 ++ [(d, d)], putV 256 1 (1 + e4.2.2.1.toNat * 1) true e4.2.2.2.2.1.2), t1004))
          else
           none
        else
         none
       else
        bif room 16 (e4.2.2.2.2.1.1.length + 1) then
         some (.inl (l, wr (d + 1), limit, (e4.2.2.2.2.1.1 ++ [(d, d)], putV 256 1 (1 + e4.2.2.1.toNat * 1) true e4.2.2.2.2.1.2), t1004))
        else
         none
      else
       some (.inl (l, wr (d + 1), limit, (e4.2.2.2.2.1.1, putV 256 1 (1 + e4.2.2.1.toNat * 1) true e4.2.2.2.2.1.2), t1004))
     else
      none
    else
     none
   else
    none)
   (none)
 else
  some (.inr ((s.1, padV 256 .bool s.2), t1004))
theorem one26_0a : oneLoop Tryd.prog 26 0 = true := by kernel_rfl
theorem lp26_0a : ItemOk Tryd.prog (.loop 26 0 T26_0a X26_0a (loopVal step26_0a)) := item_loopM md7 ext7 (U := 9) (n := 2) noSpecial mixed Gc3K19_ok one26_0a (fun x => by kernel_rfl)
def pi26_0a : (List (Int × Int × Int)) × Int × (Int × Int) × ((List (Int × Int)) × (List Bool)) × (Int × Int) → (Int × Int) := fun (_, _, _, _, t1004) => (t1004)
def rho26_0a : (((List (Int × Int)) × (List Bool)) × (Int × Int)) → (Int × Int) := fun (_, e1) => (e1)
theorem ka26_0a : ∀ x y, step26_0a x = some (.inl y) → pi26_0a y = pi26_0a x := by
 rintro ⟨l, d, limit, s, t1004⟩ y h
 dsimp only [step26_0a] at h
 rcases bifS h with ⟨_, h⟩ | ⟨_, h⟩
 ·obtain ⟨e4, _, h⟩ := optS h
  rcases bifS h with ⟨_, h⟩ | ⟨_, h⟩
  ·rcases bifS h with ⟨_, h⟩ | ⟨_, h⟩
   ·rcases bifS h with ⟨_, h⟩ | ⟨_, h⟩
    ·rcases bifS h with ⟨_, h⟩ | ⟨_, h⟩
     ·rcases bifS h with ⟨_, h⟩ | ⟨_, h⟩
      ·rcases bifS h with ⟨_, h⟩ | ⟨_, h⟩
       ·rcases bifS h with ⟨_, h⟩ | ⟨_, h⟩
        ·rcases bifS h with ⟨_, h⟩ | ⟨_, h⟩
         ·cases h; rfl
         ·cases h
        ·rcases bifS h with ⟨_, h⟩ | ⟨_, h⟩
         ·cases h; rfl
         ·cases h
       ·cases h
      ·rcases bifS h with ⟨_, h⟩ | ⟨_, h⟩
       ·cases h; rfl
       ·cases h
     ·cases h; rfl
    ·cases h
   ·cases h
  ·cases h
 ·cases h
theorem kb26_0a : ∀ x e, step26_0a x = some (.inr e) → rho26_0a e = pi26_0a x := by
 rintro ⟨l, d, limit, s, t1004⟩ y h
 dsimp only [step26_0a] at h
 rcases bifS h with ⟨_, h⟩ | ⟨_, h⟩
 ·obtain ⟨e4, _, h⟩ := optS h
  rcases bifS h with ⟨_, h⟩ | ⟨_, h⟩
  ·rcases bifS h with ⟨_, h⟩ | ⟨_, h⟩
   ·rcases bifS h with ⟨_, h⟩ | ⟨_, h⟩
    ·rcases bifS h with ⟨_, h⟩ | ⟨_, h⟩
     ·rcases bifS h with ⟨_, h⟩ | ⟨_, h⟩
      ·rcases bifS h with ⟨_, h⟩ | ⟨_, h⟩
       ·rcases bifS h with ⟨_, h⟩ | ⟨_, h⟩
        ·rcases bifS h with ⟨_, h⟩ | ⟨_, h⟩
         ·cases h
         ·cases h
        ·rcases bifS h with ⟨_, h⟩ | ⟨_, h⟩
         ·cases h
         ·cases h
       ·cases h
      ·rcases bifS h with ⟨_, h⟩ | ⟨_, h⟩
       ·cases h
       ·cases h
     ·cases h
    ·cases h
   ·cases h
  ·cases h
 ·cases h; rfl
noncomputable def F26_0a : T26_0a.D → Out (ExT X26_0a) := fun (l, d, limit, s, t1004) => .alt (loopVal step26_0a (l, d, limit, s, t1004)) (fun e => .done ((e.1, t1004))) .no
theorem hO26_0a : ∀ x y, (F26_0a x).at' = some y → loopVal step26_0a x = some y := by
 rintro ⟨l, d, limit, s, t1004⟩ y h
 cases hv : loopVal step26_0a (l, d, limit, s, t1004) with
 | none =>
   have h : (Out.alt (loopVal step26_0a (l, d, limit, s, t1004)) _ Out.no).at' = some y := h
   rw [hv] at h; cases h
 | some e =>
   have h : (Out.alt (loopVal step26_0a (l, d, limit, s, t1004)) _ Out.no).at' = some y := h
   rw [hv] at h
   have k := loop_keep step26_0a pi26_0a rho26_0a ka26_0a kb26_0a _ _ hv
   obtain ⟨e0, e1⟩ := e
   cases k
   exact h
theorem lo26_0a : ItemOk Tryd.prog (.loopO 26 0 T26_0a X26_0a F26_0a) := item_loopO lp26_0a hO26_0a
noncomputable def Gc3K20 : List Ev.Item := .loopO 26 0 T26_0a X26_0a F26_0a :: Gc3K19
theorem Gc3K20_ok : ∀ q ∈ Gc3K20, ItemOk Tryd.prog q := items_cons lo26_0a Gc3K19_ok
noncomputable def s12 : (List (Int × Int × Int)) × (Int × Int) → Option ((Int × Int) × Int) := fun (l, limit) =>
 optE (s17 l) (fun r1 =>
  optE (s41 limit.1) (fun r2 =>
   bif r2 then
    optE (s41 limit.2) (fun r3 =>
     bif (firstE [r1.2, unl r3 2, unl (decide (limit.1 ≤ limit.2)) 9, unl (decide ((wr (limit.2 - limit.1)) < 100000)) 8]) != 0 then
      bif (firstE [r1.2, unl r3 2, unl (decide (limit.1 ≤ limit.2)) 9, unl (decide ((wr (limit.2 - limit.1)) < 100000)) 8]) != 0 then
       some (((0, 0), firstE [r1.2, unl r3 2, unl (decide (limit.1 ≤ limit.2)) 9, unl (decide ((wr (limit.2 - limit.1)) < 100000)) 8]))
      else
       none
     else
      optE (loopVal step26_0a (l, limit.1, limit, ([], List.replicate 256 false), (0, 0))) (fun e4 =>
       bif (firstE [unl (decide ((e4.1.1.length : Int) > 0)) 12, unl (decide ((e4.1.1.length : Int) < 2)) 22]) != 0 then
        some (((0, 0), firstE [unl (decide ((e4.1.1.length : Int) > 0)) 12, unl (decide ((e4.1.1.length : Int) < 2)) 22]))
       else
        bif inBounds 0 e4.1.1.length then
         some (((e4.1.1.getD 0 (0, 0)), 0))
        else
         none)
       (none))
     (none)
   else
    bif (firstE [r1.2, unl false 2, unl (decide (limit.1 ≤ limit.2)) 9, unl (decide ((wr (limit.2 - limit.1)) < 100000)) 8]) != 0 then
     bif (firstE [r1.2, unl false 2, unl (decide (limit.1 ≤ limit.2)) 9, unl (decide ((wr (limit.2 - limit.1)) < 100000)) 8]) != 0 then
      some (((0, 0), firstE [r1.2, unl false 2, unl (decide (limit.1 ≤ limit.2)) 9, unl (decide ((wr (limit.2 - limit.1)) < 100000)) 8]))
     else
      none
    else
     optE (loopVal step26_0a (l, limit.1, limit, ([], List.replicate 256 false), (0, 0))) (fun e5 =>
      bif (firstE [unl (decide ((e5.1.1.length : Int) > 0)) 12, unl (decide ((e5.1.1.length : Int) < 2)) 22]) != 0 then
       some (((0, 0), firstE [unl (decide ((e5.1.1.length : Int) > 0)) 12, unl (decide ((e5.1.1.length : Int) < 2)) 22]))
      else
       bif inBounds 0 e5.1.1.length then
        some (((e5.1.1.getD 0 (0, 0)), 0))
       else
        none)
      (none))
   (none))
  (none)
theorem i12 : ItemOk Tryd.prog (.fn 12 [.d (.slice (.agg (.pair zI zP))), .d (.agg zP)] [.d (.agg zP), .d zI] s12) := item_fnM md7 ext7 (U := 9) (n := 4) noSpecial mixed Gc3K20_ok (fun x => by kernel_rfl)
noncomputable def Gc3K21 : List Ev.Item := .fn 12 [.d (.slice (.agg (.pair zI zP))), .d (.agg zP)] [.d (.agg zP), .d zI] s12 :: Gc3K20
theorem Gc3K21_ok : ∀ q ∈ Gc3K21, ItemOk Tryd.prog q := items_cons i12 Gc3K20_ok
noncomputable def s15 : Int × Int → Option (Int) := fun r0 =>
 bif !(win r0.1 0 1000000000) then
  some (2)
 else
  bif !(win r0.2 0 1000000000) then
   some (2)
  else
   bif decide (r0.1 > r0.2) then
    some (9)
   else
    bif decide ((wr (r0.2 - r0.1)) ≥ 100000) then
     some (8)
    else
     some (0)
theorem i15 : ItemOk Tryd.prog (.fn 15 [.d (.agg zP)] [.d zI] s15) := item_fnM md7 ext7 (U := 9) (n := 4) noSpecial mixed Gc3K21_ok (fun x => by kernel_rfl)
noncomputable def Gc3K22 : List Ev.Item := .fn 15 [.d (.agg zP)] [.d zI] s15 :: Gc3K21
theorem Gc3K22_ok : ∀ q ∈ Gc3K22, ItemOk Tryd.prog q := items_cons i15 Gc3K21_ok
noncomputable def s9 : (List (Int × Int × Int)) × (Int × Int) → Option (Int) := fun (l, limit) =>
 optE (s29 l) (fun r1 =>
  bif r1.2 != 0 then
   some (r1.2)
  else
   optE (s15 limit) (fun r2 =>
    some (r2))
    (none))
  (none)
theorem i9 : ItemOk Tryd.prog (.fn 9 [.d (.slice (.agg (.pair zI zP))), .d (.agg zP)] [.d zI] s9) := item_fnM md7 ext7 (U := 9) (n := 4) noSpecial mixed Gc3K22_ok (fun x => by kernel_rfl)
noncomputable def Gc3K23 : List Ev.Item := .fn 9 [.d (.slice (.agg (.pair zI zP))), .d (.agg zP)] [.d zI] s9 :: Gc3K22
theorem Gc3K23_ok : ∀ q ∈ Gc3K23, ItemOk Tryd.prog q := items_cons i9 Gc3K22_ok
noncomputable def s8 : List (Int × Int × Int) → Option (List (Int × Int × Int)) := fun l =>
 bif room 24 (0 + l.length) then
  some (l)
 else
  none
theorem i8 : ItemOk Tryd.prog (.fn 8 [.d (.slice (.agg (.pair zI zP)))] [.own 37 (.agg (.pair zI zP))] s8) := item_fnM md7 ext7 (U := 9) (n := 4) noSpecial mixed Gc3K23_ok (fun x => by kernel_rfl)
noncomputable def Gc3K24 : List Ev.Item := .fn 8 [.d (.slice (.agg (.pair zI zP)))] [.own 37 (.agg (.pair zI zP))] s8 :: Gc3K23
theorem Gc3K24_ok : ∀ q ∈ Gc3K24, ItemOk Tryd.prog q := items_cons i8 Gc3K23_ok
@[reducible] def T48_0 : Tmpl := ⟨18, [], [.val 0 (.slice zI), .val 1 zI, .val 5 zI], [], none⟩
@[reducible] def X48_0 : List (Ex × Tmpl) := [(.ret, ⟨18, [], [.val 4 .bool], [], none⟩), (.exit 0, ⟨18, [], [], [], none⟩)]
noncomputable def step48_0 : (List Int) × Int × Int → Option (((List Int) × Int × Int) ⊕ ((Bool) ⊕ (Unit))) := fun (l, n, i) =>
 bif decide (i < (l.length : Int)) then
  bif inBounds i l.length then
   bif (l.getD i.toNat 0) == n then
    some (.inr (.inl true))
   else
    some (.inl (l, n, wr (i + 1)))
  else
   none
 else
  some (.inr (.inr ()))
theorem one48_0 : oneLoop Tryd.prog 48 0 = true := by kernel_rfl
theorem lp48_0 : ItemOk Tryd.prog (.loop 48 0 T48_0 X48_0 (loopVal step48_0)) := item_loopM md7 ext7 (U := 9) (n := 3) noSpecial mixed Gc3K24_ok one48_0 (fun x => by kernel_rfl)
noncomputable def Gc3K25 : List Ev.Item := .loop 48 0 T48_0 X48_0 (loopVal step48_0) :: Gc3K24
theorem Gc3K25_ok : ∀ q ∈ Gc3K25, ItemOk Tryd.prog q := items_cons lp48_0 Gc3K24_ok
noncomputable def s48 : (List Int) × Int → Option (Bool) := fun (l, n) =>
 optE (loopVal step48_0 (l, n, 0)) (fun e1 =>
  sumE e1 (fun e2 =>
   some (e2)) (fun _ =>
   some (false)))
  (none)
theorem i48 : ItemOk Tryd.prog (.fn 48 [.d (.slice zI), .d zI] [.d .bool] s48) := item_fnM md7 ext7 (U := 9) (n := 4) noSpecial mixed Gc3K25_ok (fun x => by kernel_rfl)
noncomputable def Gc3K26 : List Ev.Item := .fn 48 [.d (.slice zI), .d zI] [.d .bool] s48 :: Gc3K25
theorem Gc3K26_ok : ∀ q ∈ Gc3K26, ItemOk Tryd.prog q := items_cons i48 Gc3K25_ok
noncomputable def s16 : Int × Int → Option (Int) := fun (n, by0) =>
 bif !(by0 == 0) then
  bif decide ((Int.tmod n by0) < 0) then
   some (wr ((Int.tmod n by0) + by0))
  else
   some (Int.tmod n by0)
 else
  none
theorem i16 : ItemOk Tryd.prog (.fn 16 [.d zI, .d zI] [.d zI] s16) := item_fnM md7 ext7 (U := 9) (n := 4) noSpecial mixed Gc3K26_ok (fun x => by kernel_rfl)
noncomputable def Gc3K27 : List Ev.Item := .fn 16 [.d zI, .d zI] [.d zI] s16 :: Gc3K26
theorem Gc3K27_ok : ∀ q ∈ Gc3K27, ItemOk Tryd.prog q := items_cons i16 Gc3K26_ok
@[reducible] def T32_0 : Tmpl := ⟨41, [], [.val 0 (.slice (.agg (.pair zI zP))), .val 1 zI, .val 2 (.slice zI), .val 7 zI], [], none⟩
@[reducible] def X32_0 : List (Ex × Tmpl) := [(.ret, ⟨41, [], [.val 6 .bool], [], none⟩), (.exit 0, ⟨41, [], [], [], none⟩)]
noncomputable def step32_0 : (List (Int × Int × Int)) × Int × (List Int) × Int → Option (((List (Int × Int × Int)) × Int × (List Int) × Int) ⊕ ((Bool) ⊕ (Unit))) := fun (l, d, without, i) =>
 bif decide (i < (l.length : Int)) then
  bif inBounds i l.length then
   optE (s48 (without, i)) (fun r1 =>
    bif !r1 then
     optE (s16 (wr (d - (l.getD i.toNat (0, 0, 0)).2.1), (l.getD i.toNat (0, 0, 0)).1)) (fun r2 =>
      bif decide (r2 > (wr ((l.getD i.toNat (0, 0, 0)).2.2 - (l.getD i.toNat (0, 0, 0)).2.1))) then
       some (.inr (.inl false))
      else
       some (.inl (l, d, without, wr (i + 1))))
      (none)
    else
     some (.inl (l, d, without, wr (i + 1))))
    (none)
  else
   none
 else
  some (.inr (.inr ()))
theorem one32_0 : oneLoop Tryd.prog 32 0 = true := by kernel_rfl
theorem lp32_0 : ItemOk Tryd.prog (.loop 32 0 T32_0 X32_0 (loopVal step32_0)) := item_loopM md7 ext7 (U := 9) (n := 3) noSpecial mixed Gc3K27_ok one32_0 (fun x => by kernel_rfl)
noncomputable def Gc3K28 : List Ev.Item := .loop 32 0 T32_0 X32_0 (loopVal step32_0) :: Gc3K27
theorem Gc3K28_ok : ∀ q ∈ Gc3K28, ItemOk Tryd.prog q := items_cons lp32_0 Gc3K27_ok
noncomputable def s32 : (List (Int × Int × Int)) × Int × (List Int) → Option (Bool) := fun (l, d, without) =>
 optE (loopVal step32_0 (l, d, without, 0)) (fun e1 =>
  sumE e1 (fun e2 =>
   some (e2)) (fun _ =>
   some (true)))
  (none)
theorem i32 : ItemOk Tryd.prog (.fn 32 [.d (.slice (.agg (.pair zI zP))), .d zI, .d (.slice zI)] [.d .bool] s32) := item_fnM md7 ext7 (U := 9) (n := 4) noSpecial mixed Gc3K28_ok (fun x => by kernel_rfl)
noncomputable def Gc3K29 : List Ev.Item := .fn 32 [.d (.slice (.agg (.pair zI zP))), .d zI, .d (.slice zI)] [.d .bool] s32 :: Gc3K28
theorem Gc3K29_ok : ∀ q ∈ Gc3K29, ItemOk Tryd.prog q := items_cons i32 Gc3K28_ok
noncomputable def s6 : (Int × Int) × Int → Option (Bool) := fun (r0, most) =>
 optE (s15 r0) (fun r1 =>
  bif r1 != 0 then
   some (true)
  else
   some (decide ((wr (r0.2 - r0.1)) < most)))
  (none)
theorem i6 : ItemOk Tryd.prog (.fn 6 [.d (.agg zP), .d zI] [.d .bool] s6) := item_fnM md7 ext7 (U := 9) (n := 4) noSpecial mixed Gc3K29_ok (fun x => by kernel_rfl)
noncomputable def Gc3K30 : List Ev.Item := .fn 6 [.d (.agg zP), .d zI] [.d .bool] s6 :: Gc3K29
theorem Gc3K30_ok : ∀ q ∈ Gc3K30, ItemOk Tryd.prog q := items_cons i6 Gc3K29_ok
end Go.Proofs.YtdoehknomnhlkaaDoor
