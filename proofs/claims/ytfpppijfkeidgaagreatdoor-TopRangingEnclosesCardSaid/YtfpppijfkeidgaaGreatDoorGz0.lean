/- Printed by gen.py: specifications of functions. -/
import Derived.Test.YtfpppijfkeidgaaGreatDoorG7a
import Derived.Test.YtfpppijfkeidgaaGreatDoorLib5
import Derived.Test.YtfpppijfkeidgaaGreatDoorVec
set_option linter.unusedSimpArgs false
set_option maxRecDepth 100000
namespace Go.Proofs.YtfpppijfkeidgaaGreatDoor
open Go.Ev
noncomputable def Gz0K1 : List Ev.Item := .fn 31 [.d zI, .d zI, .d zI] [.d .bool] (fun x => some (win x.1 x.2.1 x.2.2)) :: K0
theorem Gz0K1_ok : ∀ q ∈ Gz0K1, ItemOk Tryz.prog q := items_cons j31 K0_ok
noncomputable def Gz0K2 : List Ev.Item := .fn 33 [.d zI, .d zI] [.d .bool] (fun x => some (win x.1 (wr (-x.2)) x.2)) :: Gz0K1
theorem Gz0K2_ok : ∀ q ∈ Gz0K2, ItemOk Tryz.prog q := items_cons j33 Gz0K1_ok
noncomputable def Gz0K3 : List Ev.Item := .fn 72 [.d zI] [.d zI] s72 :: Gz0K2
theorem Gz0K3_ok : ∀ q ∈ Gz0K3, ItemOk Tryz.prog q := items_cons i72 Gz0K2_ok
noncomputable def Gz0K4 : List Ev.Item := .fn 29 [.d .bool, .d zI] [.d zI] (fun x => some (unl x.1 x.2)) :: Gz0K3
theorem Gz0K4_ok : ∀ q ∈ Gz0K4, ItemOk Tryz.prog q := items_cons j29 Gz0K3_ok
noncomputable def Gz0K5 : List Ev.Item := .fn 43 [.d zI] [.d zI] (fun x => some (unl (win x 0 1000) 2)) :: Gz0K4
theorem Gz0K5_ok : ∀ q ∈ Gz0K5, ItemOk Tryz.prog q := items_cons j43 Gz0K4_ok
noncomputable def Gz0K6 : List Ev.Item := .fn 77 [.d (.agg (.pair zI zP)), .d zI] [.d .bool] s77 :: Gz0K5
theorem Gz0K6_ok : ∀ q ∈ Gz0K6, ItemOk Tryz.prog q := items_cons i77 Gz0K5_ok
noncomputable def Gz0K7 : List Ev.Item := .fn 63 [.d (.agg zP), .d (.agg zP)] [.d zI] s63 :: Gz0K6
theorem Gz0K7_ok : ∀ q ∈ Gz0K7, ItemOk Tryz.prog q := items_cons i63 Gz0K6_ok
noncomputable def Gz0K8 : List Ev.Item := .fn 64 [.d (.agg zP), .d (.agg zP)] [.d zI] s64 :: Gz0K7
theorem Gz0K8_ok : ∀ q ∈ Gz0K8, ItemOk Tryz.prog q := items_cons i64 Gz0K7_ok
noncomputable def Gz0K9 : List Ev.Item := .fn 65 [.d (.agg zP)] [.d (.agg zP)] s65 :: Gz0K8
theorem Gz0K9_ok : ∀ q ∈ Gz0K9, ItemOk Tryz.prog q := items_cons i65 Gz0K8_ok
noncomputable def Gz0K10 : List Ev.Item := .fn 71 [.d (.agg (.pair (.pair (.slice (.agg (.pair zI (.pair .bool zI)))) zI) zI)), .d (.agg (.pair (.pair (.slice (.agg (.pair zI (.pair .bool zI)))) zI) zI))] [.d .bool] s71 :: Gz0K9
theorem Gz0K10_ok : ∀ q ∈ Gz0K10, ItemOk Tryz.prog q := items_cons i71 Gz0K9_ok
noncomputable def Gz0K11 : List Ev.Item := .fn 66 [.d (.agg (.pair zP (.pair zI (.pair zI .bool)))), .d (.agg (.pair zP (.pair zI (.pair zI .bool))))] [.d .bool] s66 :: Gz0K10
theorem Gz0K11_ok : ∀ q ∈ Gz0K11, ItemOk Tryz.prog q := items_cons i66 Gz0K10_ok
noncomputable def Gz0K12 : List Ev.Item := .fn 4 [] [.d .bool] (fun _ => some true) :: Gz0K11
theorem Gz0K12_ok : ∀ q ∈ Gz0K12, ItemOk Tryz.prog q := items_cons i4 Gz0K11_ok
@[reducible] def T28_0 : Tmpl := ⟨15, [], [.val 5 (.slice zI), .val 6 zI, .val 7 zI], [], none⟩
@[reducible] def X28_0 : List (Ex × Tmpl) := [(.ret, ⟨15, [], [.val 2 zI], [], none⟩), (.exit 0, ⟨15, [], [], [], none⟩)]
noncomputable def step28_0 : (List Int) × Int × Int → Option (((List Int) × Int × Int) ⊕ ((Int) ⊕ (Unit))) := fun (t5, t6, t7) =>
 bif decide (t7 < t6) then
  bif inBounds t7 t5.length then
   bif (t5.getD t7.toNat 0) != 0 then
    some (.inr (.inl (t5.getD t7.toNat 0)))
   else
    some (.inl (t5, t6, wr (t7 + 1)))
  else
   none
 else
  some (.inr (.inr ()))
theorem one28_0 : oneLoop Tryz.prog 28 0 = true := by kernel_rfl
theorem lp28_0 : ItemOk Tryz.prog (.loop 28 0 T28_0 X28_0 (loopVal step28_0)) := item_loopM md5 ext5 (U := 9) (n := 11) noSpecial mixed Gz0K12_ok one28_0 (fun x => by kernel_rfl)
noncomputable def Gz0K13 : List Ev.Item := .loop 28 0 T28_0 X28_0 (loopVal step28_0) :: Gz0K12
theorem Gz0K13_ok : ∀ q ∈ Gz0K13, ItemOk Tryz.prog q := items_cons lp28_0 Gz0K12_ok
noncomputable def s28 : List Int → Option (Int) := fun l =>
 optE (loopVal step28_0 (l, (l.length : Int), 0)) (fun e1 =>
  sumE e1 (fun e2 =>
   some (e2)) (fun _ =>
   some (0)))
  (none)
theorem i28 : ItemOk Tryz.prog (.fn 28 [.d (.slice zI)] [.d zI] s28) := item_fnM md5 ext5 (U := 9) (n := 12) noSpecial mixed Gz0K13_ok (fun x => by kernel_rfl)
noncomputable def first28 : List Int → Option Int := fun l => if l.length ≤ 1000000 then some (firstE l) else none
theorem j28 : ItemOk Tryz.prog (.fn 28 [.d (.slice zI)] [.d zI] (first28)) := item_imp i28 (by
 intro l y h
 unfold first28 at h
 split at h
 ·rename_i hl
  rw [← h]
  unfold s28
  have h1 := loop_scan (step := step28_0) (st := fun k => (l, (l.length : Int), (k : Int))) (n := l.length) (hit := fun k => bif l.getD k 0 != 0 then some (Sum.inl (l.getD k 0)) else none) (e := Sum.inr ())
   (fun k hk => by
     simp only [step28_0, lt_cast, inB_cast, hk, decide_true, cond_true, Int.toNat_natCast, wr_succ (show k < 4611686018427387904 by omega)]
     cases (l.getD k 0 != 0) <;> rfl) (by simp [step28_0]) l.length 0 (by omega)
  have h2 := scan_list0 (fun x => bif x != 0 then some (Sum.inl x) else none) (Sum.inr () : Int ⊕ Unit) l 0
  rw [h2, scanL_first] at h1
  rw [show ((0 : Nat) : Int) = 0 from rfl] at h1
  rw [h1]
  cases hf : firstE l != 0
  ·have : firstE l = 0 := by simpa using hf
   simp [optE, sumE, this]
  ·simp [optE, sumE]
 ·cases h)
noncomputable def Gz0K14 : List Ev.Item := .fn 28 [.d (.slice zI)] [.d zI] (first28) :: Gz0K13
theorem Gz0K14_ok : ∀ q ∈ Gz0K14, ItemOk Tryz.prog q := items_cons j28 Gz0K13_ok
noncomputable def s38 : Int × Int × Int × Int × Int → Option (Int) := fun m =>
 bif (unl (win m.2.1 0 1000) 2) == 0 then
  bif (unl (win m.2.2.1 0 1000) 2) == 0 then
   bif win m.2.2.2.1 (wr (-100000)) 100000 then
    bif m.1 == 1 then
     bif !(m.1 == 1) then
      some (firstE [unl (win m.1 0 1) 15, unl (win m.2.2.2.2 (wr (-100000)) 100000) 2, unl true 3, unl true 9, unl (decide (m.2.2.2.1 ≤ m.2.2.2.2)) 9])
     else
      some (firstE [unl (win m.1 0 1) 15, unl (win m.2.2.2.2 (wr (-100000)) 100000) 2, unl true 3, unl (decide (m.2.1 < m.2.2.1)) 9, unl (decide (m.2.2.2.1 ≤ m.2.2.2.2)) 9])
    else
     bif !(m.1 == 1) then
      some (firstE [unl (win m.1 0 1) 15, unl (win m.2.2.2.2 (wr (-100000)) 100000) 2, unl (m.2.1 == 0) 3, unl true 9, unl (decide (m.2.2.2.1 ≤ m.2.2.2.2)) 9])
     else
      some (firstE [unl (win m.1 0 1) 15, unl (win m.2.2.2.2 (wr (-100000)) 100000) 2, unl (m.2.1 == 0) 3, unl (decide (m.2.1 < m.2.2.1)) 9, unl (decide (m.2.2.2.1 ≤ m.2.2.2.2)) 9])
   else
    bif m.1 == 1 then
     bif !(m.1 == 1) then
      some (firstE [unl (win m.1 0 1) 15, unl false 2, unl true 3, unl true 9, unl (decide (m.2.2.2.1 ≤ m.2.2.2.2)) 9])
     else
      some (firstE [unl (win m.1 0 1) 15, unl false 2, unl true 3, unl (decide (m.2.1 < m.2.2.1)) 9, unl (decide (m.2.2.2.1 ≤ m.2.2.2.2)) 9])
    else
     bif !(m.1 == 1) then
      some (firstE [unl (win m.1 0 1) 15, unl false 2, unl (m.2.1 == 0) 3, unl true 9, unl (decide (m.2.2.2.1 ≤ m.2.2.2.2)) 9])
     else
      some (firstE [unl (win m.1 0 1) 15, unl false 2, unl (m.2.1 == 0) 3, unl (decide (m.2.1 < m.2.2.1)) 9, unl (decide (m.2.2.2.1 ≤ m.2.2.2.2)) 9])
  else
   bif m.1 == 1 then
    bif !(m.1 == 1) then
     some (firstE [unl (win m.1 0 1) 15, unl false 2, unl true 3, unl true 9, unl (decide (m.2.2.2.1 ≤ m.2.2.2.2)) 9])
    else
     some (firstE [unl (win m.1 0 1) 15, unl false 2, unl true 3, unl (decide (m.2.1 < m.2.2.1)) 9, unl (decide (m.2.2.2.1 ≤ m.2.2.2.2)) 9])
   else
    bif !(m.1 == 1) then
     some (firstE [unl (win m.1 0 1) 15, unl false 2, unl (m.2.1 == 0) 3, unl true 9, unl (decide (m.2.2.2.1 ≤ m.2.2.2.2)) 9])
    else
     some (firstE [unl (win m.1 0 1) 15, unl false 2, unl (m.2.1 == 0) 3, unl (decide (m.2.1 < m.2.2.1)) 9, unl (decide (m.2.2.2.1 ≤ m.2.2.2.2)) 9])
 else
  bif m.1 == 1 then
   bif !(m.1 == 1) then
    some (firstE [unl (win m.1 0 1) 15, unl false 2, unl true 3, unl true 9, unl (decide (m.2.2.2.1 ≤ m.2.2.2.2)) 9])
   else
    some (firstE [unl (win m.1 0 1) 15, unl false 2, unl true 3, unl (decide (m.2.1 < m.2.2.1)) 9, unl (decide (m.2.2.2.1 ≤ m.2.2.2.2)) 9])
  else
   bif !(m.1 == 1) then
    some (firstE [unl (win m.1 0 1) 15, unl false 2, unl (m.2.1 == 0) 3, unl true 9, unl (decide (m.2.2.2.1 ≤ m.2.2.2.2)) 9])
   else
    some (firstE [unl (win m.1 0 1) 15, unl false 2, unl (m.2.1 == 0) 3, unl (decide (m.2.1 < m.2.2.1)) 9, unl (decide (m.2.2.2.1 ≤ m.2.2.2.2)) 9])
theorem i38 : ItemOk Tryz.prog (.fn 38 [.d zA] [.d zI] s38) := item_fnM md5 ext5 (U := 9) (n := 12) noSpecial mixed Gz0K14_ok (fun x => by kernel_rfl)
theorem dec_ge (a b : Int) : decide (a ≥ b) = !decide (a < b) := by
 by_cases h : a < b
 ·rw [decide_eq_true h, decide_eq_false (show ¬ a ≥ b by omega)]; rfl
 ·rw [decide_eq_false h, decide_eq_true (show a ≥ b by omega)]; rfl
theorem dec_gt (a b : Int) : decide (a > b) = !decide (a ≤ b) := by
 by_cases h : a ≤ b
 ·rw [decide_eq_true h, decide_eq_false (show ¬ a > b by omega)]; rfl
 ·rw [decide_eq_false h, decide_eq_true (show a > b by omega)]; rfl
theorem kind01 {k : Int} (h : 0 ≤ k ∧ k ≤ 1) : k = 0 ∨ k = 1 := by omega
noncomputable def mErr (m : Int × Int × Int × Int × Int) : Int :=
 firstE [unl (win m.1 0 1) 15, unl (win m.2.1 0 1000 && (win m.2.2.1 0 1000 && (win m.2.2.2.1 (-100000) 100000 && win m.2.2.2.2 (-100000) 100000))) 2, unl (m.1 == 1 || m.2.1 == 0) 3, unl (!(m.1 == 1) || decide (m.2.1 < m.2.2.1)) 9, unl (decide (m.2.2.2.1 ≤ m.2.2.2.2)) 9]
theorem j38 : ItemOk Tryz.prog (.fn 38 [.d zA] [.d zI] (fun x => some (mErr x))) := item_imp i38 (by
 rintro ⟨k, f, t, lo, hi⟩ y h
 rw [← h]; show s38 (k, f, t, lo, hi) = some (mErr (k, f, t, lo, hi))
 have e : wr (-100000) = -100000 := rfl
 simp only [s38, mErr, e]
 cases win f 0 1000 <;> cases win t 0 1000 <;> cases win lo (-100000) 100000 <;> cases (k == 1) <;> rfl)
noncomputable def Gz0K15 : List Ev.Item := .fn 38 [.d zA] [.d zI] (fun x => some (mErr x)) :: Gz0K14
theorem Gz0K15_ok : ∀ q ∈ Gz0K15, ItemOk Tryz.prog q := items_cons j38 Gz0K14_ok
@[reducible] def T32_0 : Tmpl := ⟨24, [], [.val 10 zS, .val 11 zI, .val 12 zI], [], none⟩
@[reducible] def X32_0 : List (Ex × Tmpl) := [(.ret, ⟨24, [], [.val 2 zI, .val 3 zI], [], none⟩), (.exit 0, ⟨24, [], [], [], none⟩)]
noncomputable def step32_0 : (List (Int × Int × Int × Int × Int)) × Int × Int → Option (((List (Int × Int × Int × Int × Int)) × Int × Int) ⊕ ((Int × Int) ⊕ (Unit))) := fun (t10, t11, t12) =>
 bif decide (t12 < t11) then
  bif inBounds t12 t10.length then
   bif (mErr (t10.getD t12.toNat (0, 0, 0, 0, 0))) != 0 then
    some (.inr (.inl (t12, mErr (t10.getD t12.toNat (0, 0, 0, 0, 0)))))
   else
    some (.inl (t10, t11, wr (t12 + 1)))
  else
   none
 else
  some (.inr (.inr ()))
theorem one32_0 : oneLoop Tryz.prog 32 0 = true := by kernel_rfl
theorem lp32_0 : ItemOk Tryz.prog (.loop 32 0 T32_0 X32_0 (loopVal step32_0)) := item_loopM md5 ext5 (U := 9) (n := 11) noSpecial mixed Gz0K15_ok one32_0 (fun x => by kernel_rfl)
noncomputable def Gz0K16 : List Ev.Item := .loop 32 0 T32_0 X32_0 (loopVal step32_0) :: Gz0K15
theorem Gz0K16_ok : ∀ q ∈ Gz0K16, ItemOk Tryz.prog q := items_cons lp32_0 Gz0K15_ok
noncomputable def s32 : List (Int × Int × Int × Int × Int) → Option (Int × Int) := fun l =>
 bif decide ((l.length : Int) > 12) then
  some ((0, 8))
 else
  optE (loopVal step32_0 (l, (l.length : Int), 0)) (fun e1 =>
   sumE e1 (fun e2 =>
    some (e2)) (fun _ =>
    some ((0, 0))))
   (none)
theorem i32 : ItemOk Tryz.prog (.fn 32 [.d zS] [.d zI, .d zI] s32) := item_fnM md5 ext5 (U := 9) (n := 12) noSpecial mixed Gz0K16_ok (fun x => by kernel_rfl)
noncomputable def Gz0K17 : List Ev.Item := .fn 32 [.d zS] [.d zI, .d zI] s32 :: Gz0K16
theorem Gz0K17_ok : ∀ q ∈ Gz0K17, ItemOk Tryz.prog q := items_cons i32 Gz0K16_ok
noncomputable def s5 : Int × Int × Int → Option (Bool) := fun (n, lo, hi) =>
 bif decide (lo ≤ n) then
  some (decide (n ≤ hi))
 else
  some (false)
theorem i5 : ItemOk Tryz.prog (.fn 5 [.d zI, .d zI, .d zI] [.d .bool] s5) := item_fnM md5 ext5 (U := 9) (n := 12) noSpecial mixed Gz0K17_ok (fun x => by kernel_rfl)
theorem j5 : ItemOk Tryz.prog (.fn 5 [.d zI, .d zI, .d zI] [.d .bool] (fun x => some (win x.1 x.2.1 x.2.2))) := item_imp i5 (by
 rintro ⟨n, lo, hi⟩ y h
 rw [← h]; show s5 (n, lo, hi) = some (win n lo hi); simp only [s5, win]; cases decide (lo ≤ n) <;> rfl)
noncomputable def Gz0K18 : List Ev.Item := .fn 5 [.d zI, .d zI, .d zI] [.d .bool] (fun x => some (win x.1 x.2.1 x.2.2)) :: Gz0K17
theorem Gz0K18_ok : ∀ q ∈ Gz0K18, ItemOk Tryz.prog q := items_cons j5 Gz0K17_ok
noncomputable def s53 : Int × Int × Int × Int × Int → Option (Int) := fun m =>
 bif !(win m.1 0 1) then
  some (15)
 else
  bif !(win m.2.1 0 1000) then
   some (2)
  else
   bif !(win m.2.2.1 0 1000) then
    some (2)
   else
    bif !(win m.2.2.2.1 (-100000) 100000) then
     some (2)
    else
     bif !(win m.2.2.2.2 (-100000) 100000) then
      some (2)
     else
      bif m.1 == 0 then
       bif m.2.1 != 0 then
        some (3)
       else
        bif m.1 == 1 then
         bif decide (m.2.1 ≥ m.2.2.1) then
          some (9)
         else
          bif decide (m.2.2.2.1 > m.2.2.2.2) then
           some (9)
          else
           some (0)
        else
         bif decide (m.2.2.2.1 > m.2.2.2.2) then
          some (9)
         else
          some (0)
      else
       bif m.1 == 1 then
        bif decide (m.2.1 ≥ m.2.2.1) then
         some (9)
        else
         bif decide (m.2.2.2.1 > m.2.2.2.2) then
          some (9)
         else
          some (0)
       else
        bif decide (m.2.2.2.1 > m.2.2.2.2) then
         some (9)
        else
         some (0)
theorem i53 : ItemOk Tryz.prog (.fn 53 [.d zA] [.d zI] s53) := item_fnM md5 ext5 (U := 9) (n := 12) noSpecial mixed Gz0K18_ok (fun x => by kernel_rfl)
theorem j53 : ItemOk Tryz.prog (.fn 53 [.d zA] [.d zI] (fun x => some (mErr x))) := item_imp i53 (by
 rintro ⟨k, f, t, lo, hi⟩ y h
 rw [← h]; show s53 (k, f, t, lo, hi) = some (mErr (k, f, t, lo, hi))
 simp only [s53, mErr, dec_ge f t, dec_gt lo hi, bne]
 cases hk : win k 0 1
 ·rfl
 ·have hk := win_iff.1 hk
  rcases kind01 hk with rfl | rfl <;>
   cases win f 0 1000 <;> cases win t 0 1000 <;> cases win lo (-100000) 100000 <;> cases win hi (-100000) 100000 <;> cases (f == 0) <;> cases decide (f < t) <;> cases decide (lo ≤ hi) <;> rfl)
noncomputable def Gz0K19 : List Ev.Item := .fn 53 [.d zA] [.d zI] (fun x => some (mErr x)) :: Gz0K18
theorem Gz0K19_ok : ∀ q ∈ Gz0K19, ItemOk Tryz.prog q := items_cons j53 Gz0K18_ok
@[reducible] def T27_0 : Tmpl := ⟨24, [], [.val 0 zS, .val 4 zI], [], none⟩
@[reducible] def X27_0 : List (Ex × Tmpl) := [(.ret, ⟨24, [], [.val 2 zI, .val 3 zI], [], none⟩), (.exit 0, ⟨24, [], [], [], none⟩)]
noncomputable def step27_0 : (List (Int × Int × Int × Int × Int)) × Int → Option (((List (Int × Int × Int × Int × Int)) × Int) ⊕ ((Int × Int) ⊕ (Unit))) := fun (l, i) =>
 bif decide (i < (l.length : Int)) then
  bif inBounds i l.length then
   bif (mErr (l.getD i.toNat (0, 0, 0, 0, 0))) != 0 then
    some (.inr (.inl (i, mErr (l.getD i.toNat (0, 0, 0, 0, 0)))))
   else
    some (.inl (l, wr (i + 1)))
  else
   none
 else
  some (.inr (.inr ()))
theorem one27_0 : oneLoop Tryz.prog 27 0 = true := by kernel_rfl
theorem lp27_0 : ItemOk Tryz.prog (.loop 27 0 T27_0 X27_0 (loopVal step27_0)) := item_loopM md5 ext5 (U := 9) (n := 11) noSpecial mixed Gz0K19_ok one27_0 (fun x => by kernel_rfl)
noncomputable def Gz0K20 : List Ev.Item := .loop 27 0 T27_0 X27_0 (loopVal step27_0) :: Gz0K19
theorem Gz0K20_ok : ∀ q ∈ Gz0K20, ItemOk Tryz.prog q := items_cons lp27_0 Gz0K19_ok
noncomputable def s27 : List (Int × Int × Int × Int × Int) → Option (Int × Int) := fun l =>
 bif decide ((l.length : Int) > 12) then
  some ((0, 8))
 else
  optE (loopVal step27_0 (l, 0)) (fun e1 =>
   sumE e1 (fun e2 =>
    some (e2)) (fun _ =>
    some ((0, 0))))
   (none)
theorem i27 : ItemOk Tryz.prog (.fn 27 [.d zS] [.d zI, .d zI] s27) := item_fnM md5 ext5 (U := 9) (n := 12) noSpecial mixed Gz0K20_ok (fun x => by kernel_rfl)
noncomputable def Gz0K21 : List Ev.Item := .fn 27 [.d zS] [.d zI, .d zI] s27 :: Gz0K20
theorem Gz0K21_ok : ∀ q ∈ Gz0K21, ItemOk Tryz.prog q := items_cons i27 Gz0K20_ok
noncomputable def s8 : List (Int × Int × Int × Int × Int) → Option (Int) := fun l =>
 optE (s27 l) (fun r1 =>
  some (r1.2))
  (none)
theorem i8 : ItemOk Tryz.prog (.fn 8 [.d zS] [.d zI] s8) := item_fnM md5 ext5 (U := 9) (n := 12) noSpecial mixed Gz0K21_ok (fun x => by kernel_rfl)
noncomputable def Gz0K22 : List Ev.Item := .fn 8 [.d zS] [.d zI] s8 :: Gz0K21
theorem Gz0K22_ok : ∀ q ∈ Gz0K22, ItemOk Tryz.prog q := items_cons i8 Gz0K21_ok
noncomputable def s12 : List (Int × Int × Int × Int × Int) → Option (List (Int × Int × Int × Int × Int)) := fun l =>
 bif room 40 (0 + l.length) then
  some (l)
 else
  none
theorem i12 : ItemOk Tryz.prog (.fn 12 [.d zS] [.own 38 zA] s12) := item_fnM md5 ext5 (U := 9) (n := 12) noSpecial mixed Gz0K22_ok (fun x => by kernel_rfl)
noncomputable def Gz0K23 : List Ev.Item := .fn 12 [.d zS] [.own 38 zA] s12 :: Gz0K22
theorem Gz0K23_ok : ∀ q ∈ Gz0K23, ItemOk Tryz.prog q := items_cons i12 Gz0K22_ok
noncomputable def s30 : Int → Option (Bool) := fun n =>
 some (win n 0 100000)
theorem i30 : ItemOk Tryz.prog (.fn 30 [.d zI] [.d .bool] s30) := item_fnM md5 ext5 (U := 9) (n := 12) noSpecial mixed Gz0K23_ok (fun x => by kernel_rfl)
theorem j30 : ItemOk Tryz.prog (.fn 30 [.d zI] [.d .bool] (fun x => some (win x 0 100000))) := item_imp i30 (by
 intro n y h
 rw [← h]; rfl)
noncomputable def Gz0K24 : List Ev.Item := .fn 30 [.d zI] [.d .bool] (fun x => some (win x 0 100000)) :: Gz0K23
theorem Gz0K24_ok : ∀ q ∈ Gz0K24, ItemOk Tryz.prog q := items_cons j30 Gz0K23_ok
@[reducible] def T9_0 : Tmpl := ⟨93, [(2, .ref 2 0 0 0), (5, .fn 30), (6, .ref 6 0 0 0)], [.val 26 (.slice (.agg (.pair zI zP))), .val 27 zI, .val 28 zI, .cells 2 [.d zP], .cells 6 [.d zP]], [], none⟩
@[reducible] def X9_0 : List (Ex × Tmpl) := [(.ret, ⟨93, [(2, .ref 2 0 0 0)], [.val 3 zI, .cells 2 [.d zP]], [], none⟩), (.exit 0, ⟨93, [(2, .ref 2 0 0 0), (6, .ref 6 0 0 0)], [.cells 2 [.d zP], .cells 6 [.d zP]], [], none⟩)]
noncomputable def step9_0 : (List (Int × Int × Int)) × Int × Int × (Int × Int) × (Int × Int) → Option (((List (Int × Int × Int)) × Int × Int × (Int × Int) × (Int × Int)) ⊕ ((Int × (Int × Int)) ⊕ ((Int × Int) × (Int × Int)))) := fun (t26, t27, t28, t2, out) =>
 bif decide (t28 < t27) then
  bif inBounds t28 t26.length then
   bif win (t26.getD t28.toNat (0, 0, 0)).1 0 100000 then
    bif win (t26.getD t28.toNat (0, 0, 0)).2.1 0 100000 then
     bif (firstE [unl (win (t26.getD t28.toNat (0, 0, 0)).2.2 0 100000) 2, unl (decide ((t26.getD t28.toNat (0, 0, 0)).2.1 ≤ (t26.getD t28.toNat (0, 0, 0)).2.2)) 9]) != 0 then
      some (.inr (.inl (firstE [unl (win (t26.getD t28.toNat (0, 0, 0)).2.2 0 100000) 2, unl (decide ((t26.getD t28.toNat (0, 0, 0)).2.1 ≤ (t26.getD t28.toNat (0, 0, 0)).2.2)) 9], (0, 0))))
     else
      some (.inl (t26, t27, wr (t28 + 1), t2, (mx out.1 (wr ((t26.getD t28.toNat (0, 0, 0)).2.1 - (t26.getD t28.toNat (0, 0, 0)).1)), mn out.2 (wr ((t26.getD t28.toNat (0, 0, 0)).2.2 - (t26.getD t28.toNat (0, 0, 0)).1)))))
    else
     bif (firstE [unl false 2, unl (decide ((t26.getD t28.toNat (0, 0, 0)).2.1 ≤ (t26.getD t28.toNat (0, 0, 0)).2.2)) 9]) != 0 then
      some (.inr (.inl (firstE [unl false 2, unl (decide ((t26.getD t28.toNat (0, 0, 0)).2.1 ≤ (t26.getD t28.toNat (0, 0, 0)).2.2)) 9], (0, 0))))
     else
      some (.inl (t26, t27, wr (t28 + 1), t2, (mx out.1 (wr ((t26.getD t28.toNat (0, 0, 0)).2.1 - (t26.getD t28.toNat (0, 0, 0)).1)), mn out.2 (wr ((t26.getD t28.toNat (0, 0, 0)).2.2 - (t26.getD t28.toNat (0, 0, 0)).1)))))
   else
    bif (firstE [unl false 2, unl (decide ((t26.getD t28.toNat (0, 0, 0)).2.1 ≤ (t26.getD t28.toNat (0, 0, 0)).2.2)) 9]) != 0 then
     some (.inr (.inl (firstE [unl false 2, unl (decide ((t26.getD t28.toNat (0, 0, 0)).2.1 ≤ (t26.getD t28.toNat (0, 0, 0)).2.2)) 9], (0, 0))))
    else
     some (.inl (t26, t27, wr (t28 + 1), t2, (mx out.1 (wr ((t26.getD t28.toNat (0, 0, 0)).2.1 - (t26.getD t28.toNat (0, 0, 0)).1)), mn out.2 (wr ((t26.getD t28.toNat (0, 0, 0)).2.2 - (t26.getD t28.toNat (0, 0, 0)).1)))))
  else
   none
 else
  some (.inr (.inr (t2, out)))
theorem one9_0 : oneLoop Tryz.prog 9 0 = true := by kernel_rfl
theorem lp9_0 : ItemOk Tryz.prog (.loop 9 0 T9_0 X9_0 (loopVal step9_0)) := item_loopM md5 ext5 (U := 9) (n := 11) noSpecial mixed Gz0K24_ok one9_0 (fun x => by kernel_rfl)
noncomputable def Gz0K25 : List Ev.Item := .loop 9 0 T9_0 X9_0 (loopVal step9_0) :: Gz0K24
theorem Gz0K25_ok : ∀ q ∈ Gz0K25, ItemOk Tryz.prog q := items_cons lp9_0 Gz0K24_ok
noncomputable def s9 : List (Int × Int × Int) → Option ((Int × Int) × Int) := fun l =>
 bif (firstE [unl (decide ((l.length : Int) > 0)) 10, unl (decide ((l.length : Int) ≤ 12)) 8]) != 0 then
  some (((0, 0), firstE [unl (decide ((l.length : Int) > 0)) 10, unl (decide ((l.length : Int) ≤ 12)) 8]))
 else
  optE (loopVal step9_0 (l, (l.length : Int), 0, (0, 0), ((-100000), 100000))) (fun e1 =>
   sumE e1 (fun e2 =>
    some ((e2.2, e2.1))) (fun e3 =>
    bif decide (e3.2.1 > e3.2.2) then
     some (((0, 0), 13))
    else
     some ((e3.2, 0))))
   (none)
theorem i9 : ItemOk Tryz.prog (.fn 9 [.d (.slice (.agg (.pair zI zP)))] [.d (.agg zP), .d zI] s9) := item_fnM md5 ext5 (U := 9) (n := 12) noSpecial mixed Gz0K25_ok (fun x => by kernel_rfl)
noncomputable def Gz0K26 : List Ev.Item := .fn 9 [.d (.slice (.agg (.pair zI zP)))] [.d (.agg zP), .d zI] s9 :: Gz0K25
theorem Gz0K26_ok : ∀ q ∈ Gz0K26, ItemOk Tryz.prog q := items_cons i9 Gz0K25_ok
@[reducible] def T11_0 : Tmpl := ⟨80, [(3, .ref 3 0 0 0)], [.own 9 77 38 zA, .val 39 zS, .val 40 zI, .val 41 zI, .cells 3 [.d zP]], [], none⟩
@[reducible] def X11_0 : List (Ex × Tmpl) := [(.ret, ⟨80, [], [.val 4 zS, .val 5 zI], [], none⟩), (.exit 0, ⟨80, [], [.own 9 77 38 zA], [], none⟩)]
noncomputable def step11_0 : (List (Int × Int × Int × Int × Int)) × (List (Int × Int × Int × Int × Int)) × Int × Int × (Int × Int) → Option (((List (Int × Int × Int × Int × Int)) × (List (Int × Int × Int × Int × Int)) × Int × Int × (Int × Int)) ⊕ (((List (Int × Int × Int × Int × Int)) × Int) ⊕ (List (Int × Int × Int × Int × Int)))) := fun (out, t39, t40, t41, delay) =>
 bif decide (t41 < t40) then
  bif inBounds t41 t39.length then
   bif (t39.getD t41.toNat (0, 0, 0, 0, 0)).1 == 0 then
    bif !(win (wr ((t39.getD t41.toNat (0, 0, 0, 0, 0)).2.2.2.1 - delay.2)) (wr (-100000)) 100000) then
     some (.inr (.inl ([], 8)))
    else
     bif !(win (wr ((t39.getD t41.toNat (0, 0, 0, 0, 0)).2.2.2.2 - delay.1)) (wr (-100000)) 100000) then
      some (.inr (.inl ([], 8)))
     else
      bif room 40 (out.length + 1) then
       some (.inl (out ++ [((t39.getD t41.toNat (0, 0, 0, 0, 0)).1, (t39.getD t41.toNat (0, 0, 0, 0, 0)).2.1, (t39.getD t41.toNat (0, 0, 0, 0, 0)).2.2.1, wr ((t39.getD t41.toNat (0, 0, 0, 0, 0)).2.2.2.1 - delay.2), wr ((t39.getD t41.toNat (0, 0, 0, 0, 0)).2.2.2.2 - delay.1))], t39, t40, wr (t41 + 1), delay))
      else
       none
   else
    bif !(win (t39.getD t41.toNat (0, 0, 0, 0, 0)).2.2.2.1 (wr (-100000)) 100000) then
     some (.inr (.inl ([], 8)))
    else
     bif !(win (t39.getD t41.toNat (0, 0, 0, 0, 0)).2.2.2.2 (wr (-100000)) 100000) then
      some (.inr (.inl ([], 8)))
     else
      bif room 40 (out.length + 1) then
       some (.inl (out ++ [(t39.getD t41.toNat (0, 0, 0, 0, 0))], t39, t40, wr (t41 + 1), delay))
      else
       none
  else
   none
 else
  some (.inr (.inr out))
theorem one11_0 : oneLoop Tryz.prog 11 0 = true := by kernel_rfl
theorem lp11_0 : ItemOk Tryz.prog (.loop 11 0 T11_0 X11_0 (loopVal step11_0)) := item_loopM md5 ext5 (U := 9) (n := 11) noSpecial mixed Gz0K26_ok one11_0 (fun x => by kernel_rfl)
noncomputable def Gz0K27 : List Ev.Item := .loop 11 0 T11_0 X11_0 (loopVal step11_0) :: Gz0K26
theorem Gz0K27_ok : ∀ q ∈ Gz0K27, ItemOk Tryz.prog q := items_cons lp11_0 Gz0K26_ok
noncomputable def s11 : (List (Int × Int × Int × Int × Int)) × (Int × Int) → Option ((List (Int × Int × Int × Int × Int)) × Int) := fun (l, delay) =>
 optE (s32 l) (fun r1 =>
  bif win delay.1 (wr (-100000)) 100000 then
   bif (firstE [r1.2, unl (win delay.2 (wr (-100000)) 100000) 2, unl (decide (delay.1 ≤ delay.2)) 9]) != 0 then
    some (([], firstE [r1.2, unl (win delay.2 (wr (-100000)) 100000) 2, unl (decide (delay.1 ≤ delay.2)) 9]))
   else
    optE (loopVal step11_0 ([], l, (l.length : Int), 0, delay)) (fun e2 =>
     sumE e2 (fun e3 =>
      some (e3)) (fun e4 =>
      some ((e4, 0))))
     (none)
  else
   bif (firstE [r1.2, unl false 2, unl (decide (delay.1 ≤ delay.2)) 9]) != 0 then
    some (([], firstE [r1.2, unl false 2, unl (decide (delay.1 ≤ delay.2)) 9]))
   else
    optE (loopVal step11_0 ([], l, (l.length : Int), 0, delay)) (fun e5 =>
     sumE e5 (fun e6 =>
      some (e6)) (fun e7 =>
      some ((e7, 0))))
     (none))
  (none)
theorem i11 : ItemOk Tryz.prog (.fn 11 [.d zS, .d (.agg zP)] [.d zS, .d zI] s11) := item_fnM md5 ext5 (U := 9) (n := 12) noSpecial mixed Gz0K27_ok (fun x => by kernel_rfl)
noncomputable def Gz0K28 : List Ev.Item := .fn 11 [.d zS, .d (.agg zP)] [.d zS, .d zI] s11 :: Gz0K27
theorem Gz0K28_ok : ∀ q ∈ Gz0K28, ItemOk Tryz.prog q := items_cons i11 Gz0K27_ok
@[reducible] def T6_0 : Tmpl := ⟨46, [], [.val 0 (.slice (.agg (.pair zI zP))), .val 3 zI], [], none⟩
@[reducible] def X6_0 : List (Ex × Tmpl) := [(.ret, ⟨46, [], [.val 2 zI], [], none⟩), (.exit 0, ⟨46, [], [], [], none⟩)]
noncomputable def step6_0 : (List (Int × Int × Int)) × Int → Option (((List (Int × Int × Int)) × Int) ⊕ ((Int) ⊕ (Unit))) := fun (l, i) =>
 bif decide (i < (l.length : Int)) then
  bif inBounds i l.length then
   bif inBounds i l.length then
    bif !(win (l.getD i.toNat (0, 0, 0)).1 0 100000) then
     some (.inr (.inl 2))
    else
     bif !(win (l.getD i.toNat (0, 0, 0)).2.1 0 100000) then
      some (.inr (.inl 2))
     else
      bif !(win (l.getD i.toNat (0, 0, 0)).2.2 0 100000) then
       some (.inr (.inl 2))
      else
       bif decide ((l.getD i.toNat (0, 0, 0)).2.1 > (l.getD i.toNat (0, 0, 0)).2.2) then
        some (.inr (.inl 9))
       else
        some (.inl (l, wr (i + 1)))
   else
    none
  else
   none
 else
  some (.inr (.inr ()))
theorem one6_0 : oneLoop Tryz.prog 6 0 = true := by kernel_rfl
theorem lp6_0 : ItemOk Tryz.prog (.loop 6 0 T6_0 X6_0 (loopVal step6_0)) := item_loopM md5 ext5 (U := 9) (n := 11) noSpecial mixed Gz0K28_ok one6_0 (fun x => by kernel_rfl)
noncomputable def Gz0K29 : List Ev.Item := .loop 6 0 T6_0 X6_0 (loopVal step6_0) :: Gz0K28
theorem Gz0K29_ok : ∀ q ∈ Gz0K29, ItemOk Tryz.prog q := items_cons lp6_0 Gz0K28_ok
noncomputable def s6 : List (Int × Int × Int) → Option (Int) := fun l =>
 bif (l.length : Int) == 0 then
  some (10)
 else
  bif decide ((l.length : Int) > 12) then
   some (8)
  else
   optE (loopVal step6_0 (l, 0)) (fun e1 =>
    sumE e1 (fun e2 =>
     some (e2)) (fun _ =>
     some (0)))
    (none)
theorem i6 : ItemOk Tryz.prog (.fn 6 [.d (.slice (.agg (.pair zI zP)))] [.d zI] s6) := item_fnM md5 ext5 (U := 9) (n := 12) noSpecial mixed Gz0K29_ok (fun x => by kernel_rfl)
noncomputable def Gz0K30 : List Ev.Item := .fn 6 [.d (.slice (.agg (.pair zI zP)))] [.d zI] s6 :: Gz0K29
theorem Gz0K30_ok : ∀ q ∈ Gz0K30, ItemOk Tryz.prog q := items_cons i6 Gz0K29_ok
noncomputable def s7 : Int → Option (Int) := fun n =>
 bif !(win n 0 1000) then
  some (2)
 else
  some (0)
theorem i7 : ItemOk Tryz.prog (.fn 7 [.d zI] [.d zI] s7) := item_fnM md5 ext5 (U := 9) (n := 12) noSpecial mixed Gz0K30_ok (fun x => by kernel_rfl)
noncomputable def Gz0K31 : List Ev.Item := .fn 7 [.d zI] [.d zI] s7 :: Gz0K30
theorem Gz0K31_ok : ∀ q ∈ Gz0K31, ItemOk Tryz.prog q := items_cons i7 Gz0K30_ok
noncomputable def s10 : List (Int × Int × Int) → Option (List (Int × Int × Int)) := fun l =>
 bif room 24 (0 + l.length) then
  some (l)
 else
  none
theorem i10 : ItemOk Tryz.prog (.fn 10 [.d (.slice (.agg (.pair zI zP)))] [.own 35 (.agg (.pair zI zP))] s10) := item_fnM md5 ext5 (U := 9) (n := 12) noSpecial mixed Gz0K31_ok (fun x => by kernel_rfl)
noncomputable def Gz0K32 : List Ev.Item := .fn 10 [.d (.slice (.agg (.pair zI zP)))] [.own 35 (.agg (.pair zI zP))] s10 :: Gz0K31
theorem Gz0K32_ok : ∀ q ∈ Gz0K32, ItemOk Tryz.prog q := items_cons i10 Gz0K31_ok
end Go.Proofs.YtfpppijfkeidgaaGreatDoor
