import Derived.Test.YtfmfiflpokogiaaDoorGc1
set_option linter.unusedSimpArgs false
set_option maxRecDepth 100000
namespace Go.Proofs.YtfmfiflpokogiaaDoor
open Go.Ev
noncomputable def s19 : List (Int × Int × Int × Int × Int) → Option (List (Int × Int × Int × Int × Int)) := fun l =>
 bif room 40 (0 + l.length) then
  some (l)
 else
  none
theorem i19 : ItemOk Tryd.prog (.fn 19 [.d zS] [.own 46 zA] s19) := item_fnM md7 ext7 (U := 9) (n := 4) noSpecial mixed Gc1K6_ok (fun x => by kernel_rfl)
noncomputable def Gc2K1 : List Ev.Item := .fn 19 [.d zS] [.own 46 zA] s19 :: Gc1K6
theorem Gc2K1_ok : ∀ q ∈ Gc2K1, ItemOk Tryd.prog q := items_cons i19 Gc1K6_ok
@[reducible] def T79_0 : Tmpl := ⟨15, [], [.val 5 (.slice zI), .val 6 zI, .val 7 zI], [], none⟩
@[reducible] def X79_0 : List (Ex × Tmpl) := [(.ret, ⟨15, [], [.val 2 zI], [], none⟩), (.exit 0, ⟨15, [], [], [], none⟩)]
noncomputable def step79_0 : (List Int) × Int × Int → Option (((List Int) × Int × Int) ⊕ ((Int) ⊕ (Unit))) := fun (t5, t6, t7) =>
 bif decide (t7 < t6) then
  bif inBounds t7 t5.length then
   bif (t5.getD t7.toNat 0) != 0 then
    some (.inr (.inl (t5.getD t7.toNat 0)))
   else
    some (.inl (t5, t6, wr (t7 + 1)))
  else
   none
 else
  some (.inr (.inr ()))
theorem one79_0 : oneLoop Tryd.prog 79 0 = true := by kernel_rfl
theorem lp79_0 : ItemOk Tryd.prog (.loop 79 0 T79_0 X79_0 (loopVal step79_0)) := item_loopM md7 ext7 (U := 9) (n := 3) noSpecial mixed Gc2K1_ok one79_0 (fun x => by kernel_rfl)
noncomputable def Gc2K2 : List Ev.Item := .loop 79 0 T79_0 X79_0 (loopVal step79_0) :: Gc2K1
theorem Gc2K2_ok : ∀ q ∈ Gc2K2, ItemOk Tryd.prog q := items_cons lp79_0 Gc2K1_ok
noncomputable def s79 : List Int → Option (Int) := fun l =>
 optE (loopVal step79_0 (l, (l.length : Int), 0)) (fun e1 =>
  sumE e1 (fun e2 =>
   some (e2)) (fun _ =>
   some (0)))
  (none)
theorem i79 : ItemOk Tryd.prog (.fn 79 [.d (.slice zI)] [.d zI] s79) := item_fnM md7 ext7 (U := 9) (n := 4) noSpecial mixed Gc2K2_ok (fun x => by kernel_rfl)
noncomputable def first79 : List Int → Option Int := fun l => if l.length ≤ 1000000 then some (firstE l) else none
theorem j79 : ItemOk Tryd.prog (.fn 79 [.d (.slice zI)] [.d zI] (first79)) := item_imp i79 (by
 intro l y h
 unfold first79 at h
 split at h
 ·rename_i hl
  rw [← h]
  unfold s79
  have h1 := loop_scan (step := step79_0) (st := fun k => (l, (l.length : Int), (k : Int))) (n := l.length) (hit := fun k => bif l.getD k 0 != 0 then some (Sum.inl (l.getD k 0)) else none) (e := Sum.inr ())
   (fun k hk => by
     simp only [step79_0, lt_cast, inB_cast, hk, decide_true, cond_true, Int.toNat_natCast, wr_succ (show k < 4611686018427387904 by omega)]
     cases (l.getD k 0 != 0) <;> rfl) (by simp [step79_0]) l.length 0 (by omega)
  have h2 := scan_list0 (fun x => bif x != 0 then some (Sum.inl x) else none) (Sum.inr () : Int ⊕ Unit) l 0
  rw [h2, scanL_first] at h1
  rw [show ((0 : Nat) : Int) = 0 from rfl] at h1
  rw [h1]
  cases hf : firstE l != 0
  ·have : firstE l = 0 := by simpa using hf
   simp [optE, sumE, this]
  ·simp [optE, sumE]
 ·cases h)
noncomputable def Gc2K3 : List Ev.Item := .fn 79 [.d (.slice zI)] [.d zI] (first79) :: Gc2K2
theorem Gc2K3_ok : ∀ q ∈ Gc2K3, ItemOk Tryd.prog q := items_cons j79 Gc2K2_ok
noncomputable def s74 : Int × Int × Int × Int × Int → Option (Int) := fun m =>
 bif (unl (win m.2.1 0 1000) 2) == 0 then
  bif (unl (win m.2.2.1 0 1000) 2) == 0 then
   bif win m.2.2.2.1 (wr (-100000)) 100000 then
    bif m.1 == 1 then
     bif !(m.1 == 1) then
      some (firstE [unl (win m.1 0 1) 15, unl (win m.2.2.2.2 (wr (-100000)) 100000) 2, unl true 3, unl true 9, unl (decide (m.2.2.2.1 ≤ m.2.2.2.2)) 9])
     else
      some (firstE [unl (win m.1 0 1) 15, unl (win m.2.2.2.2 (wr (-100000)) 100000) 2, unl true 3, unl (decide (m.2.1 < m.2.2.1)) 9, unl (decide (m.2.2.2.1 ≤ m.2.2.2.2)) 9])
    else
     bif !(m.1 == 1) then
      some (firstE [unl (win m.1 0 1) 15, unl (win m.2.2.2.2 (wr (-100000)) 100000) 2, unl (m.2.1 == 0) 3, unl true 9, unl (decide (m.2.2.2.1 ≤ m.2.2.2.2)) 9])
     else
      some (firstE [unl (win m.1 0 1) 15, unl (win m.2.2.2.2 (wr (-100000)) 100000) 2, unl (m.2.1 == 0) 3, unl (decide (m.2.1 < m.2.2.1)) 9, unl (decide (m.2.2.2.1 ≤ m.2.2.2.2)) 9])
   else
    bif m.1 == 1 then
     bif !(m.1 == 1) then
      some (firstE [unl (win m.1 0 1) 15, unl false 2, unl true 3, unl true 9, unl (decide (m.2.2.2.1 ≤ m.2.2.2.2)) 9])
     else
      some (firstE [unl (win m.1 0 1) 15, unl false 2, unl true 3, unl (decide (m.2.1 < m.2.2.1)) 9, unl (decide (m.2.2.2.1 ≤ m.2.2.2.2)) 9])
    else
     bif !(m.1 == 1) then
      some (firstE [unl (win m.1 0 1) 15, unl false 2, unl (m.2.1 == 0) 3, unl true 9, unl (decide (m.2.2.2.1 ≤ m.2.2.2.2)) 9])
     else
      some (firstE [unl (win m.1 0 1) 15, unl false 2, unl (m.2.1 == 0) 3, unl (decide (m.2.1 < m.2.2.1)) 9, unl (decide (m.2.2.2.1 ≤ m.2.2.2.2)) 9])
  else
   bif m.1 == 1 then
    bif !(m.1 == 1) then
     some (firstE [unl (win m.1 0 1) 15, unl false 2, unl true 3, unl true 9, unl (decide (m.2.2.2.1 ≤ m.2.2.2.2)) 9])
    else
     some (firstE [unl (win m.1 0 1) 15, unl false 2, unl true 3, unl (decide (m.2.1 < m.2.2.1)) 9, unl (decide (m.2.2.2.1 ≤ m.2.2.2.2)) 9])
   else
    bif !(m.1 == 1) then
     some (firstE [unl (win m.1 0 1) 15, unl false 2, unl (m.2.1 == 0) 3, unl true 9, unl (decide (m.2.2.2.1 ≤ m.2.2.2.2)) 9])
    else
     some (firstE [unl (win m.1 0 1) 15, unl false 2, unl (m.2.1 == 0) 3, unl (decide (m.2.1 < m.2.2.1)) 9, unl (decide (m.2.2.2.1 ≤ m.2.2.2.2)) 9])
 else
  bif m.1 == 1 then
   bif !(m.1 == 1) then
    some (firstE [unl (win m.1 0 1) 15, unl false 2, unl true 3, unl true 9, unl (decide (m.2.2.2.1 ≤ m.2.2.2.2)) 9])
   else
    some (firstE [unl (win m.1 0 1) 15, unl false 2, unl true 3, unl (decide (m.2.1 < m.2.2.1)) 9, unl (decide (m.2.2.2.1 ≤ m.2.2.2.2)) 9])
  else
   bif !(m.1 == 1) then
    some (firstE [unl (win m.1 0 1) 15, unl false 2, unl (m.2.1 == 0) 3, unl true 9, unl (decide (m.2.2.2.1 ≤ m.2.2.2.2)) 9])
   else
    some (firstE [unl (win m.1 0 1) 15, unl false 2, unl (m.2.1 == 0) 3, unl (decide (m.2.1 < m.2.2.1)) 9, unl (decide (m.2.2.2.1 ≤ m.2.2.2.2)) 9])
theorem i74 : ItemOk Tryd.prog (.fn 74 [.d zA] [.d zI] s74) := item_fnM md7 ext7 (U := 9) (n := 4) noSpecial mixed Gc2K3_ok (fun x => by kernel_rfl)
theorem dec_ge (a b : Int) : decide (a ≥ b) = !decide (a < b) := by
 by_cases h : a < b
 ·rw [decide_eq_true h, decide_eq_false (show ¬ a ≥ b by omega)]; rfl
 ·rw [decide_eq_false h, decide_eq_true (show a ≥ b by omega)]; rfl
theorem dec_gt (a b : Int) : decide (a > b) = !decide (a ≤ b) := by
 by_cases h : a ≤ b
 ·rw [decide_eq_true h, decide_eq_false (show ¬ a > b by omega)]; rfl
 ·rw [decide_eq_false h, decide_eq_true (show a > b by omega)]; rfl
theorem dec_lt (a b : Int) : decide (a < b) = !decide (b ≤ a) := dec_gt b a
theorem kind01 {k : Int} (h : 0 ≤ k ∧ k ≤ 1) : k = 0 ∨ k = 1 := by omega
noncomputable def mErr (m : Int × Int × Int × Int × Int) : Int :=
 firstE [unl (win m.1 0 1) 15, unl (win m.2.1 0 1000 && (win m.2.2.1 0 1000 && (win m.2.2.2.1 (-100000) 100000 && win m.2.2.2.2 (-100000) 100000))) 2, unl (m.1 == 1 || m.2.1 == 0) 3, unl (!(m.1 == 1) || decide (m.2.1 < m.2.2.1)) 9, unl (decide (m.2.2.2.1 ≤ m.2.2.2.2)) 9]
theorem j74 : ItemOk Tryd.prog (.fn 74 [.d zA] [.d zI] (fun x => some (mErr x))) := item_imp i74 (by
 rintro ⟨k, f, t, lo, hi⟩ y h
 rw [← h]; show s74 (k, f, t, lo, hi) = some (mErr (k, f, t, lo, hi))
 have e : wr (-100000) = -100000 := rfl
 simp only [s74, mErr, e]
 cases win f 0 1000 <;> cases win t 0 1000 <;> cases win lo (-100000) 100000 <;> cases (k == 1) <;> rfl)
noncomputable def Gc2K4 : List Ev.Item := .fn 74 [.d zA] [.d zI] (fun x => some (mErr x)) :: Gc2K3
theorem Gc2K4_ok : ∀ q ∈ Gc2K4, ItemOk Tryd.prog q := items_cons j74 Gc2K3_ok
@[reducible] def T18_0 : Tmpl := ⟨24, [], [.val 10 zS, .val 11 zI, .val 12 zI], [], none⟩
@[reducible] def X18_0 : List (Ex × Tmpl) := [(.ret, ⟨24, [], [.val 2 zI, .val 3 zI], [], none⟩), (.exit 0, ⟨24, [], [], [], none⟩)]
noncomputable def step18_0 : (List (Int × Int × Int × Int × Int)) × Int × Int → Option (((List (Int × Int × Int × Int × Int)) × Int × Int) ⊕ ((Int × Int) ⊕ (Unit))) := fun (t10, t11, t12) =>
 bif decide (t12 < t11) then
  bif inBounds t12 t10.length then
   bif (mErr (t10.getD t12.toNat (0, 0, 0, 0, 0))) != 0 then
    some (.inr (.inl (t12, mErr (t10.getD t12.toNat (0, 0, 0, 0, 0)))))
   else
    some (.inl (t10, t11, wr (t12 + 1)))
  else
   none
 else
  some (.inr (.inr ()))
theorem one18_0 : oneLoop Tryd.prog 18 0 = true := by kernel_rfl
theorem lp18_0 : ItemOk Tryd.prog (.loop 18 0 T18_0 X18_0 (loopVal step18_0)) := item_loopM md7 ext7 (U := 9) (n := 3) noSpecial mixed Gc2K4_ok one18_0 (fun x => by kernel_rfl)
noncomputable def Gc2K5 : List Ev.Item := .loop 18 0 T18_0 X18_0 (loopVal step18_0) :: Gc2K4
theorem Gc2K5_ok : ∀ q ∈ Gc2K5, ItemOk Tryd.prog q := items_cons lp18_0 Gc2K4_ok
noncomputable def s18 : List (Int × Int × Int × Int × Int) → Option (Int × Int) := fun l =>
 bif decide ((l.length : Int) > 12) then
  some ((0, 8))
 else
  optE (loopVal step18_0 (l, (l.length : Int), 0)) (fun e1 =>
   sumE e1 (fun e2 =>
    some (e2)) (fun _ =>
    some ((0, 0))))
   (none)
theorem i18 : ItemOk Tryd.prog (.fn 18 [.d zS] [.d zI, .d zI] s18) := item_fnM md7 ext7 (U := 9) (n := 4) noSpecial mixed Gc2K5_ok (fun x => by kernel_rfl)
noncomputable def Gc2K6 : List Ev.Item := .fn 18 [.d zS] [.d zI, .d zI] s18 :: Gc2K5
theorem Gc2K6_ok : ∀ q ∈ Gc2K6, ItemOk Tryd.prog q := items_cons i18 Gc2K5_ok
noncomputable def s46 : Int × Int × Int → Option (Bool) := fun (n, lo, hi) =>
 bif decide (lo ≤ n) then
  some (decide (n ≤ hi))
 else
  some (false)
theorem i46 : ItemOk Tryd.prog (.fn 46 [.d zI, .d zI, .d zI] [.d .bool] s46) := item_fnM md7 ext7 (U := 9) (n := 4) noSpecial mixed Gc2K6_ok (fun x => by kernel_rfl)
theorem j46 : ItemOk Tryd.prog (.fn 46 [.d zI, .d zI, .d zI] [.d .bool] (fun x => some (win x.1 x.2.1 x.2.2))) := item_imp i46 (by
 rintro ⟨n, lo, hi⟩ y h
 rw [← h]; show s46 (n, lo, hi) = some (win n lo hi); simp only [s46, win]; cases decide (lo ≤ n) <;> rfl)
noncomputable def Gc2K7 : List Ev.Item := .fn 46 [.d zI, .d zI, .d zI] [.d .bool] (fun x => some (win x.1 x.2.1 x.2.2)) :: Gc2K6
theorem Gc2K7_ok : ∀ q ∈ Gc2K7, ItemOk Tryd.prog q := items_cons j46 Gc2K6_ok
noncomputable def s75 : Int × Int × Int × Int × Int → Option (Int) := fun m =>
 bif !(win m.1 0 1) then
  some (15)
 else
  bif !(win m.2.1 0 1000) then
   some (2)
  else
   bif !(win m.2.2.1 0 1000) then
    some (2)
   else
    bif !(win m.2.2.2.1 (-100000) 100000) then
     some (2)
    else
     bif !(win m.2.2.2.2 (-100000) 100000) then
      some (2)
     else
      bif m.1 == 0 then
       bif m.2.1 != 0 then
        some (3)
       else
        bif m.1 == 1 then
         bif decide (m.2.1 ≥ m.2.2.1) then
          some (9)
         else
          bif decide (m.2.2.2.1 > m.2.2.2.2) then
           some (9)
          else
           some (0)
        else
         bif decide (m.2.2.2.1 > m.2.2.2.2) then
          some (9)
         else
          some (0)
      else
       bif m.1 == 1 then
        bif decide (m.2.1 ≥ m.2.2.1) then
         some (9)
        else
         bif decide (m.2.2.2.1 > m.2.2.2.2) then
          some (9)
         else
          some (0)
       else
        bif decide (m.2.2.2.1 > m.2.2.2.2) then
         some (9)
        else
         some (0)
theorem i75 : ItemOk Tryd.prog (.fn 75 [.d zA] [.d zI] s75) := item_fnM md7 ext7 (U := 9) (n := 4) noSpecial mixed Gc2K7_ok (fun x => by kernel_rfl)
theorem j75 : ItemOk Tryd.prog (.fn 75 [.d zA] [.d zI] (fun x => some (mErr x))) := item_imp i75 (by
 rintro ⟨k, f, t, lo, hi⟩ y h
 rw [← h]; show s75 (k, f, t, lo, hi) = some (mErr (k, f, t, lo, hi))
 simp only [s75, mErr, dec_ge f t, dec_gt lo hi, bne]
 cases hk : win k 0 1
 ·rfl
 ·have hk := win_iff.1 hk
  rcases kind01 hk with rfl | rfl <;>
   cases win f 0 1000 <;> cases win t 0 1000 <;> cases win lo (-100000) 100000 <;> cases win hi (-100000) 100000 <;> cases (f == 0) <;> cases decide (f < t) <;> cases decide (lo ≤ hi) <;> rfl)
noncomputable def Gc2K8 : List Ev.Item := .fn 75 [.d zA] [.d zI] (fun x => some (mErr x)) :: Gc2K7
theorem Gc2K8_ok : ∀ q ∈ Gc2K8, ItemOk Tryd.prog q := items_cons j75 Gc2K7_ok
@[reducible] def T20_0 : Tmpl := ⟨24, [], [.val 0 zS, .val 4 zI], [], none⟩
@[reducible] def X20_0 : List (Ex × Tmpl) := [(.ret, ⟨24, [], [.val 2 zI, .val 3 zI], [], none⟩), (.exit 0, ⟨24, [], [], [], none⟩)]
noncomputable def step20_0 : (List (Int × Int × Int × Int × Int)) × Int → Option (((List (Int × Int × Int × Int × Int)) × Int) ⊕ ((Int × Int) ⊕ (Unit))) := fun (l, i) =>
 bif decide (i < (l.length : Int)) then
  bif inBounds i l.length then
   bif (mErr (l.getD i.toNat (0, 0, 0, 0, 0))) != 0 then
    some (.inr (.inl (i, mErr (l.getD i.toNat (0, 0, 0, 0, 0)))))
   else
    some (.inl (l, wr (i + 1)))
  else
   none
 else
  some (.inr (.inr ()))
theorem one20_0 : oneLoop Tryd.prog 20 0 = true := by kernel_rfl
theorem lp20_0 : ItemOk Tryd.prog (.loop 20 0 T20_0 X20_0 (loopVal step20_0)) := item_loopM md7 ext7 (U := 9) (n := 3) noSpecial mixed Gc2K8_ok one20_0 (fun x => by kernel_rfl)
noncomputable def Gc2K9 : List Ev.Item := .loop 20 0 T20_0 X20_0 (loopVal step20_0) :: Gc2K8
theorem Gc2K9_ok : ∀ q ∈ Gc2K9, ItemOk Tryd.prog q := items_cons lp20_0 Gc2K8_ok
noncomputable def s20 : List (Int × Int × Int × Int × Int) → Option (Int × Int) := fun l =>
 bif decide ((l.length : Int) > 12) then
  some ((0, 8))
 else
  optE (loopVal step20_0 (l, 0)) (fun e1 =>
   sumE e1 (fun e2 =>
    some (e2)) (fun _ =>
    some ((0, 0))))
   (none)
theorem i20 : ItemOk Tryd.prog (.fn 20 [.d zS] [.d zI, .d zI] s20) := item_fnM md7 ext7 (U := 9) (n := 4) noSpecial mixed Gc2K9_ok (fun x => by kernel_rfl)
noncomputable def Gc2K10 : List Ev.Item := .fn 20 [.d zS] [.d zI, .d zI] s20 :: Gc2K9
theorem Gc2K10_ok : ∀ q ∈ Gc2K10, ItemOk Tryd.prog q := items_cons i20 Gc2K9_ok
noncomputable def s3 : List (Int × Int × Int × Int × Int) → Option (Bool) := fun l =>
 bif !true then
  some (false)
 else
  bif decide ((l.length : Int) > 14) then
   some (true)
  else
   optE (s19 l) (fun r1 =>
    optE (s18 r1) (fun r2 =>
     optE (s20 l) (fun r3 =>
      bif r2.2 == r3.2 then
       some (r2.1 == r3.1)
      else
       some (false))
      (none))
     (none))
    (none)
theorem i3 : ItemOk Tryd.prog (.fn 3 [.d zS] [.d .bool] s3) := item_fnM md7 ext7 (U := 9) (n := 4) noSpecial mixed Gc2K10_ok (fun x => by kernel_rfl)
noncomputable def Gc2K11 : List Ev.Item := .fn 3 [.d zS] [.d .bool] s3 :: Gc2K10
theorem Gc2K11_ok : ∀ q ∈ Gc2K11, ItemOk Tryd.prog q := items_cons i3 Gc2K10_ok
end Go.Proofs.YtfmfiflpokogiaaDoor
