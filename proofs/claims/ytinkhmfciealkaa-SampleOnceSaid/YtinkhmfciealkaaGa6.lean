/- Printed by gen.py: specifications of functions. -/
import Derived.Test.YtinkhmfciealkaaGa5
set_option linter.unusedSimpArgs false
set_option maxRecDepth 100000
namespace Go.Proofs.Ytinkhmfciealkaa
open Go.Ev

/-! cassegrain sample.isWeight -/
noncomputable def s116 : Int → Option (Bool) := fun n =>
  some (win n (-100) 100)
theorem i116 : ItemOk Try.prog (.fn 116 [.d (.int .i64)] [.d .bool] s116) := item_fn (U := 9) (n := 4) noSpecial mixed Ga5K1_ok (fun x => by kernel_rfl)
theorem j116 : ItemOk Try.prog (.fn 116 [.d (.int .i64)] [.d .bool] (fun x => some (win x (-100) 100))) := item_imp i116 (by
  intro n y h
  rw [← h]; rfl)
noncomputable def Ga6K1 : List Ev.Item := .fn 116 [.d (.int .i64)] [.d .bool] (fun x => some (win x (-100) 100)) :: Ga5K1
theorem Ga6K1_ok : ∀ q ∈ Ga6K1, ItemOk Try.prog q := items_cons j116 Ga5K1_ok

/-! cassegrain sample.CheckFilter$1 -/
noncomputable def s115 : Int → Option (Bool) := fun n =>
  some (!(win n (-100) 100))
theorem i115 : ItemOk Try.prog (.fn 115 [.d (.int .i64)] [.d .bool] s115) := item_fn (U := 9) (n := 4) noSpecial mixed Ga6K1_ok (fun x => by kernel_rfl)
theorem j115 : ItemOk Try.prog (.fn 115 [.d (.int .i64)] [.d .bool] (fun x => some (!(win x (-100) 100)))) := item_imp i115 (by
  intro n y h
  rw [← h]; rfl)
noncomputable def Ga6K2 : List Ev.Item := .fn 115 [.d (.int .i64)] [.d .bool] (fun x => some (!(win x (-100) 100))) :: Ga6K1
theorem Ga6K2_ok : ∀ q ∈ Ga6K2, ItemOk Try.prog q := items_cons j115 Ga6K1_ok

/-! cassegrain sample.CheckFilter -/
@[reducible] def T133_0 : Tmpl := ⟨19, [(1, .fn 115)], [.val 0 (.slice (.int .i64)), .val 7 (.int .i64), .val 8 (.int .i64)]⟩
@[reducible] def X133_0 : List (Ex × Tmpl) := [(.ret, ⟨19, [], [.val 4 (.int .i64)]⟩), (.exit 0, ⟨19, [], []⟩)]
/-- data: s, t7, t8; ends: ret: t4; exit 0:  -/
noncomputable def step133_0 : (List Int) × Int × Int → Option (((List Int) × Int × Int) ⊕ ((Int) ⊕ (Unit))) := fun (s, t7, t8) =>
  bif decide (t8 < t7) then
    bif inBounds t8 s.length then
      bif !(win (s.getD t8.toNat 0) (-100) 100) then
        some (.inr (.inl t8))
      else
        some (.inl (s, t7, wr (t8 + 1)))
    else
      none
  else
    some (.inr (.inr ()))
theorem one133_0 : oneLoop Try.prog 133 0 = true := by kernel_rfl
theorem lp133_0 : ItemOk Try.prog (.loop 133 0 T133_0 X133_0 (loopVal step133_0)) := item_loop (U := 9) (n := 1) noSpecial mixed Ga6K2_ok one133_0 (fun x => by kernel_rfl)
noncomputable def Ga6K3 : List Ev.Item := .loop 133 0 T133_0 X133_0 (loopVal step133_0) :: Ga6K2
theorem Ga6K3_ok : ∀ q ∈ Ga6K3, ItemOk Try.prog q := items_cons lp133_0 Ga6K2_ok
noncomputable def s59 : (List Int) × Int → Option (Int) := fun f =>
  optE (loopVal step133_0 (f.1, (f.1.length : Int), 0)) (fun e1 =>
    sumE e1 (fun e2 =>
      bif !(decide (e2 ≥ 0)) then
        some (firstE [unl (decide ((f.1.length : Int) > 0)) 10, unl (decide ((f.1.length : Int) ≤ 8)) 8, unl (win f.2 1 100) 2])
      else
        some (firstE [unl (decide ((f.1.length : Int) > 0)) 10, unl (decide ((f.1.length : Int) ≤ 8)) 8, unl false 2])) (fun _ =>
      some (firstE [unl (decide ((f.1.length : Int) > 0)) 10, unl (decide ((f.1.length : Int) ≤ 8)) 8, unl (win f.2 1 100) 2])))
    (none)
theorem i59 : ItemOk Try.prog (.fn 59 [.d (.agg (.pair (.slice (.int .i64)) (.int .i64)))] [.d (.int .i64)] s59) := item_fn (U := 9) (n := 4) noSpecial mixed Ga6K3_ok (fun x => by kernel_rfl)
theorem law59 (f : List Int × Int) (hg : f.1.length ≤ 1000000) : s59 f = some (filtE f) := by
  have h1 := loop_scan (step := step133_0) (st := fun k => (f.1, (f.1.length : Int), (k : Int))) (n := f.1.length) (hit := fun k => bif !(win (f.1.getD k 0) (-100) 100) then some (Sum.inl (k : Int)) else none) (e := Sum.inr ())
    (fun k hk => by
      simp only [step133_0, lt_cast, inB_cast, hk, decide_true, cond_true, Int.toNat_natCast, wr_succ (show k < 4611686018427387904 by omega)]
      cases win (f.1.getD k 0) (-100) 100 <;> rfl) (by simp [step133_0]) f.1.length 0 (by omega)
  rw [show ((0 : Nat) : Int) = 0 from rfl] at h1
  have hlen : (decide ((f.1.length : Int) > 0) = !(decide (f.1.length = 0))) ∧ (decide ((f.1.length : Int) ≤ 8) = decide (f.1.length ≤ 8)) := by
    constructor
    · by_cases h : f.1.length = 0
      · simp [h]
      · rw [decide_eq_true (show ((f.1.length : Nat) : Int) > 0 by omega), decide_eq_false h]; rfl
    · by_cases h : f.1.length ≤ 8
      · rw [decide_eq_true (show ((f.1.length : Nat) : Int) ≤ 8 by omega), decide_eq_true h]
      · rw [decide_eq_false (show ¬ ((f.1.length : Nat) : Int) ≤ 8 by omega), decide_eq_false h]
  simp only [s59, h1, optE, hlen]
  rcases scan_find (fun k => !(win (f.1.getD k 0) (-100) 100)) f.1.length 0 with ⟨h2, h3⟩ | ⟨j, h2, h3, h4, h5⟩
  · rw [h2]
    have ha : f.1.all (fun c => win c (-100) 100) = true := (all_getD (d := 0)).2 fun j hj => by simpa using h3 j (by omega) (by omega)
    simp only [sumE, filtE, ha, Bool.true_and]
    by_cases h0 : f.1.length = 0
    · simp [h0, firstE, unl]
    · by_cases h8 : f.1.length ≤ 8
      · rw [decide_eq_false h0, decide_eq_true h8, if_neg h0, if_neg (by omega)]
        cases win f.2 1 100 <;> rfl
      · rw [decide_eq_false h0, decide_eq_false h8, if_neg h0, if_pos (by omega)]; rfl
  · rw [h5]
    have ha : f.1.all (fun c => win c (-100) 100) = false := by
      rw [Bool.eq_false_iff]; intro e
      have := (all_getD (d := 0)).1 e j (by omega)
      rw [this] at h4; cases h4
    simp only [sumE, filtE, ha, Bool.false_and]
    rw [decide_eq_true (show ((j : Nat) : Int) ≥ 0 by omega)]
    by_cases h0 : f.1.length = 0
    · omega
    · by_cases h8 : f.1.length ≤ 8
      · rw [decide_eq_false h0, decide_eq_true h8, if_neg h0, if_neg (by omega)]; rfl
      · rw [decide_eq_false h0, decide_eq_false h8, if_neg h0, if_pos (by omega)]; rfl
noncomputable def p59 : List Int × Int → Option (Int) := fun x => if x.1.length ≤ 1000000 then some (filtE x) else none
theorem p59_pos {x : List Int × Int} (h : x.1.length ≤ 1000000) : p59 x = some (filtE x) := if_pos h
theorem j59 : ItemOk Try.prog (.fn 59 [.d (.agg (.pair (.slice (.int .i64)) (.int .i64)))] [.d (.int .i64)] (p59)) := item_imp i59 (by
  intro x y h
  unfold p59 at h
  split at h
  · rename_i hg
    rw [← h]
    exact law59 x hg
  · cases h)
noncomputable def Ga6K4 : List Ev.Item := .fn 59 [.d (.agg (.pair (.slice (.int .i64)) (.int .i64)))] [.d (.int .i64)] (p59) :: Ga6K3
theorem Ga6K4_ok : ∀ q ∈ Ga6K4, ItemOk Try.prog q := items_cons j59 Ga6K3_ok

/-! cassegrain cassegrainref02.FilterErr -/
@[reducible] def T36_0 : Tmpl := ⟨30, [(1, .ref 1 0 0 0)], [.val 3 (.int .i64), .cells 1 [.d (.pair (.slice (.int .i64)) (.int .i64))]]⟩
@[reducible] def X36_0 : List (Ex × Tmpl) := [(.ret, ⟨30, [], [.val 2 (.int .i64)]⟩), (.exit 0, ⟨30, [(1, .ref 1 0 0 0)], [.cells 1 [.d (.pair (.slice (.int .i64)) (.int .i64))]]⟩)]
/-- data: i, f; ends: ret: t2; exit 0: f -/
noncomputable def step36_0 : Int × ((List Int) × Int) → Option ((Int × ((List Int) × Int)) ⊕ ((Int) ⊕ (((List Int) × Int)))) := fun (i, f) =>
  bif decide (i < (f.1.length : Int)) then
    bif inBounds i f.1.length then
      bif !(win (f.1.getD i.toNat 0) (-100) 100) then
        some (.inr (.inl 2))
      else
        some (.inl (wr (i + 1), f))
    else
      none
  else
    some (.inr (.inr f))
theorem one36_0 : oneLoop Try.prog 36 0 = true := by kernel_rfl
theorem lp36_0 : ItemOk Try.prog (.loop 36 0 T36_0 X36_0 (loopVal step36_0)) := item_loop (U := 9) (n := 3) noSpecial mixed Ga6K4_ok one36_0 (fun x => by kernel_rfl)
noncomputable def Ga6K5 : List Ev.Item := .loop 36 0 T36_0 X36_0 (loopVal step36_0) :: Ga6K4
theorem Ga6K5_ok : ∀ q ∈ Ga6K5, ItemOk Try.prog q := items_cons lp36_0 Ga6K4_ok
noncomputable def s36 : (List Int) × Int → Option (Int) := fun f =>
  bif (f.1.length : Int) == 0 then
    some (10)
  else
    bif decide ((f.1.length : Int) > 8) then
      some (8)
    else
      optE (loopVal step36_0 (0, f)) (fun e1 =>
        sumE e1 (fun e2 =>
          some (e2)) (fun e3 =>
          bif !(win e3.2 1 100) then
            some (2)
          else
            some (0)))
        (none)
theorem i36 : ItemOk Try.prog (.fn 36 [.d (.agg (.pair (.slice (.int .i64)) (.int .i64)))] [.d (.int .i64)] s36) := item_fn (U := 9) (n := 4) noSpecial mixed Ga6K5_ok (fun x => by kernel_rfl)
theorem law36 (f : List Int × Int) : s36 f = some (filtE f) := by
  simp only [s36]
  by_cases h0 : f.1.length = 0
  · simp [h0, filtE]
  · by_cases h8 : f.1.length ≤ 8
    · have h1 := loop_scan (step := step36_0) (st := fun k => ((k : Int), f)) (n := f.1.length) (hit := fun k => (fun c => bif !(win c (-100) 100) then some (Sum.inl 2) else none) (f.1.getD k 0)) (e := Sum.inr f)
        (fun k hk => by
          simp only [step36_0, lt_cast, inB_cast, hk, decide_true, cond_true, Int.toNat_natCast, wr_succ (show k < 4611686018427387904 by omega)]
          cases win (f.1.getD k 0) (-100) 100 <;> rfl) (by simp [step36_0]) f.1.length 0 (by omega)
      rw [show ((0 : Nat) : Int) = 0 from rfl, scan_list0 (fun c => bif !(win c (-100) 100) then some (Sum.inl 2) else none) (Sum.inr f) f.1 0] at h1
      rw [scanL_const (b := Sum.inl 2) (fun c _ => by cases h : win c (-100) 100 <;> simp)] at h1
      have e0 : ((f.1.length : Int) == 0) = false := by rw [beq_eq_false_iff_ne]; omega
      rw [e0, cond_false, decide_eq_false (show ¬ ((f.1.length : Nat) : Int) > 8 by omega), cond_false, h1]
      have : f.1.all (fun c => (bif !(win c (-100) 100) then some (Sum.inl 2) else (none : Option (Int ⊕ (List Int × Int)))).isNone) = f.1.all (fun c => win c (-100) 100) := by
        congr 1; funext c; cases h : win c (-100) 100 <;> simp
      rw [this, filtE, if_neg h0, if_neg (show ¬ 8 < f.1.length by omega)]
      cases ha : f.1.all (fun c => win c (-100) 100)
      · simp [optE, sumE]
      · cases hw : win f.2 1 100 <;> simp [optE, sumE, hw]
    · have e0 : ((f.1.length : Int) == 0) = false := by rw [beq_eq_false_iff_ne]; omega
      rw [e0, cond_false, decide_eq_true (show ((f.1.length : Nat) : Int) > 8 by omega), cond_true, filtE, if_neg h0, if_pos (show 8 < f.1.length by omega)]
theorem j36 : ItemOk Try.prog (.fn 36 [.d (.agg (.pair (.slice (.int .i64)) (.int .i64)))] [.d (.int .i64)] (fun x => some (filtE x))) := item_imp i36 (by
  intro x y h
  rw [← h]
  exact law36 x)
noncomputable def Ga6K6 : List Ev.Item := .fn 36 [.d (.agg (.pair (.slice (.int .i64)) (.int .i64)))] [.d (.int .i64)] (fun x => some (filtE x)) :: Ga6K5
theorem Ga6K6_ok : ∀ q ∈ Ga6K6, ItemOk Try.prog q := items_cons j36 Ga6K5_ok

/-! cassegrain cassegrainref02.CopyFilter -/
noncomputable def s34 : (List Int) × Int → Option ((List Int) × Int) := fun f =>
  optE (p98 f.1) (fun r1 =>
    some ((r1, f.2)))
    (none)
theorem i34 : ItemOk Try.prog (.fn 34 [.d (.agg (.pair (.slice (.int .i64)) (.int .i64)))] [.d (.agg (.pair (.slice (.int .i64)) (.int .i64)))] s34) := item_fn (U := 9) (n := 4) noSpecial mixed Ga6K6_ok (fun x => by kernel_rfl)
theorem law34 (f : List Int × Int) (hg : f.1.length ≤ 1000000) : s34 f = some (f) := by
  simp only [s34, p98_pos hg, optE]
noncomputable def p34 : List Int × Int → Option (List Int × Int) := fun x => if x.1.length ≤ 1000000 then some (x) else none
theorem p34_pos {x : List Int × Int} (h : x.1.length ≤ 1000000) : p34 x = some (x) := if_pos h
theorem j34 : ItemOk Try.prog (.fn 34 [.d (.agg (.pair (.slice (.int .i64)) (.int .i64)))] [.d (.agg (.pair (.slice (.int .i64)) (.int .i64)))] (p34)) := item_imp i34 (by
  intro x y h
  unfold p34 at h
  split at h
  · rename_i hg
    rw [← h]
    exact law34 x hg
  · cases h)
noncomputable def Ga6K7 : List Ev.Item := .fn 34 [.d (.agg (.pair (.slice (.int .i64)) (.int .i64)))] [.d (.agg (.pair (.slice (.int .i64)) (.int .i64)))] (p34) :: Ga6K6
theorem Ga6K7_ok : ∀ q ∈ Ga6K7, ItemOk Try.prog q := items_cons j34 Ga6K6_ok

/-! cassegrain cassegrainref02.SameFilter -/
noncomputable def s37 : ((List Int) × Int) × ((List Int) × Int) → Option (Bool) := fun (a, b) =>
  bif a.2 == b.2 then
    optE (same29 (a.1, b.1)) (fun r1 =>
      some (r1))
      (none)
  else
    some (false)
theorem i37 : ItemOk Try.prog (.fn 37 [.d (.agg (.pair (.slice (.int .i64)) (.int .i64))), .d (.agg (.pair (.slice (.int .i64)) (.int .i64)))] [.d .bool] s37) := item_fn (U := 9) (n := 4) noSpecial mixed Ga6K7_ok (fun x => by kernel_rfl)
theorem law37 (a : List Int × Int) (b : List Int × Int) (hg : a.1.length ≤ 1000000) : s37 (a, b) = some (a.2 == b.2 && a.1 == b.1) := by
  have h1 : same29 (a.1, b.1) = some (a.1 == b.1) := if_pos hg
  simp only [s37, h1, optE]
  cases a.2 == b.2 <;> rfl
noncomputable def p37 : (List Int × Int) × (List Int × Int) → Option (Bool) := fun x => if x.1.1.length ≤ 1000000 then some (x.1.2 == x.2.2 && x.1.1 == x.2.1) else none
theorem p37_pos {x : (List Int × Int) × (List Int × Int)} (h : x.1.1.length ≤ 1000000) : p37 x = some (x.1.2 == x.2.2 && x.1.1 == x.2.1) := if_pos h
theorem j37 : ItemOk Try.prog (.fn 37 [.d (.agg (.pair (.slice (.int .i64)) (.int .i64))), .d (.agg (.pair (.slice (.int .i64)) (.int .i64)))] [.d .bool] (p37)) := item_imp i37 (by
  intro x y h
  unfold p37 at h
  split at h
  · rename_i hg
    rw [← h]
    exact law37 x.1 x.2 hg
  · cases h)
noncomputable def Ga6K8 : List Ev.Item := .fn 37 [.d (.agg (.pair (.slice (.int .i64)) (.int .i64))), .d (.agg (.pair (.slice (.int .i64)) (.int .i64)))] [.d .bool] (p37) :: Ga6K7
theorem Ga6K8_ok : ∀ q ∈ Ga6K8, ItemOk Try.prog q := items_cons j37 Ga6K7_ok

/-! cassegrain sample.taps -/
@[reducible] def T101_0 : Tmpl := ⟨21, [], [.own 3 18 127 .zc, .val 7 (.slice (.int .i64)), .val 8 (.int .i64), .val 9 (.int .i64)]⟩
@[reducible] def X101_0 : List (Ex × Tmpl) := [(.exit 0, ⟨21, [], [.own 3 18 127 .zc]⟩)]
/-- data: out, t7, t8, t9; ends: exit 0: out -/
noncomputable def step101_0 : (List (Int × Int)) × (List Int) × Int × Int → Option (((List (Int × Int)) × (List Int) × Int × Int) ⊕ (List (Int × Int))) := fun (out, t7, t8, t9) =>
  bif decide (t9 < t8) then
    bif inBounds t9 t7.length then
      bif small24 (t7.getD t9.toNat 0) then
        bif room 8 (out.length + 1) then
          some (.inl (out ++ [(t7.getD t9.toNat 0, 0)], t7, t8, wr (t9 + 1)))
        else
          none
      else
        none
    else
      none
  else
    some (.inr out)
theorem one101_0 : oneLoop Try.prog 101 0 = true := by kernel_rfl
theorem lp101_0 : ItemOk Try.prog (.loop 101 0 T101_0 X101_0 (loopVal step101_0)) := item_loop (U := 9) (n := 3) noSpecial mixed Ga6K8_ok one101_0 (fun x => by kernel_rfl)
noncomputable def Ga6K9 : List Ev.Item := .loop 101 0 T101_0 X101_0 (loopVal step101_0) :: Ga6K8
theorem Ga6K9_ok : ∀ q ∈ Ga6K9, ItemOk Try.prog q := items_cons lp101_0 Ga6K8_ok
noncomputable def s101 : (List Int) × Int → Option (List (Int × Int)) := fun f =>
  optE (loopVal step101_0 ([], f.1, (f.1.length : Int), 0)) (fun e1 =>
    some (e1))
    (none)
theorem i101 : ItemOk Try.prog (.fn 101 [.d (.agg (.pair (.slice (.int .i64)) (.int .i64)))] [.own 127 .zc] s101) := item_fn (U := 9) (n := 4) noSpecial mixed Ga6K9_ok (fun x => by kernel_rfl)
theorem law101 (f : List Int × Int) (hg : filtE f = 0) : s101 f = some (f.1.map fun c => (c, 0)) := by
  have hg' := filtE_zero.1 hg
  have h1 := loop_for (step := step101_0) (st := fun k => ((f.1.take k).map (fun c : Int => (c, (0 : Int))), f.1, (f.1.length : Int), (k : Int))) (n := f.1.length) (e := f.1.map fun c => (c, 0))
    (fun k hk => by
      have hx := hg'.2.2.1 _ (getD_mem (d := 0) hk)
      simp only [step101_0, lt_cast, inB_cast, hk, decide_true, cond_true, Int.toNat_natCast, wr_succ (show k < 4611686018427387904 by omega)]
      rw [show small24 (f.1.getD k 0) = true by simp only [small24, Bool.and_eq_true, decide_eq_true_eq]; omega, room_true (by simp; omega) (by simp; omega)]
      simp only [cond_true, take_map_succ (fun c : Int => (c, (0 : Int))) f.1 0 hk]) (by simp [step101_0]) 0 (by omega)
  rw [show ((0 : Nat) : Int) = 0 from rfl] at h1
  simp only [List.take_zero, List.map_nil] at h1
  simp only [s101, h1, optE]
noncomputable def p101 : List Int × Int → Option (List (Int × Int)) := fun x => if filtE x = 0 then some (x.1.map fun c => (c, 0)) else none
theorem p101_pos {x : List Int × Int} (h : filtE x = 0) : p101 x = some (x.1.map fun c => (c, 0)) := if_pos h
theorem j101 : ItemOk Try.prog (.fn 101 [.d (.agg (.pair (.slice (.int .i64)) (.int .i64)))] [.own 127 .zc] (p101)) := item_imp i101 (by
  intro x y h
  unfold p101 at h
  split at h
  · rename_i hg
    rw [← h]
    exact law101 x hg
  · cases h)
noncomputable def Ga6K10 : List Ev.Item := .fn 101 [.d (.agg (.pair (.slice (.int .i64)) (.int .i64)))] [.own 127 .zc] (p101) :: Ga6K9
theorem Ga6K10_ok : ∀ q ∈ Ga6K10, ItemOk Try.prog q := items_cons j101 Ga6K9_ok

/-! cassegrain sample.BinOf -/
@[reducible] def T102_0 : Tmpl := ⟨28, [(2, .fn 103)], [.val 1 (.int .i64), .val 7 .zc, .val 10 (.slice .zc), .val 11 (.int .i64), .val 12 (.int .i64)]⟩
@[reducible] def X102_0 : List (Ex × Tmpl) := [(.exit 0, ⟨28, [], [.val 7 .zc]⟩)]
/-- data: quarter, sum, t10, t11, t12; ends: exit 0: sum -/
noncomputable def step102_0 : Int × (Int × Int) × (List (Int × Int)) × Int × Int → Option ((Int × (Int × Int) × (List (Int × Int)) × Int × Int) ⊕ (Int × Int)) := fun (quarter, sum, t10, t11, t12) =>
  bif decide (t12 < t11) then
    bif inBounds t12 t10.length then
      optE (p103 (wr (quarter * t12))) (fun r3 =>
        bif (small24 (((t10.getD t12.toNat (0, 0)).1 * r3.1) - ((t10.getD t12.toNat (0, 0)).2 * r3.2))) && (small24 (((t10.getD t12.toNat (0, 0)).1 * r3.2) + ((t10.getD t12.toNat (0, 0)).2 * r3.1))) then
          bif (small24 (sum.1 + (((t10.getD t12.toNat (0, 0)).1 * r3.1) - ((t10.getD t12.toNat (0, 0)).2 * r3.2)))) && (small24 (sum.2 + (((t10.getD t12.toNat (0, 0)).1 * r3.2) + ((t10.getD t12.toNat (0, 0)).2 * r3.1)))) then
            some (.inl (quarter, (sum.1 + (((t10.getD t12.toNat (0, 0)).1 * r3.1) - ((t10.getD t12.toNat (0, 0)).2 * r3.2)), sum.2 + (((t10.getD t12.toNat (0, 0)).1 * r3.2) + ((t10.getD t12.toNat (0, 0)).2 * r3.1))), t10, t11, wr (t12 + 1)))
          else
            none
        else
          none)
        (none)
    else
      none
  else
    some (.inr sum)
theorem one102_0 : oneLoop Try.prog 102 0 = true := by kernel_rfl
theorem lp102_0 : ItemOk Try.prog (.loop 102 0 T102_0 X102_0 (loopVal step102_0)) := item_loop (U := 9) (n := 2) noSpecial mixed Ga6K10_ok one102_0 (fun x => by kernel_rfl)
theorem binloop102_0 (q : Int) (x : List (Int × Int)) (hq : 0 ≤ q ∧ q ≤ 3) (hl : x.length ≤ 400) (hx : x.all (okG 8000) = true) : loopVal step102_0 (q, (0, 0), x, (x.length : Int), 0) = some (binL rotB q x) := by
  have hb := bin_bound rotB rotB_cases q x (fun g hg => okG_le (List.all_eq_true.1 hx g hg) (by omega))
  have h1 := loop_for (step := step102_0) (st := fun k => (q, binTo rotB q x k, x, (x.length : Int), (k : Int))) (n := x.length) (e := binL rotB q x)
    (fun k hk => by
      have ho := okG_le (List.all_eq_true.1 hx _ (getD_mem (d := (0, 0)) hk)) (by omega)
      have hqk : 0 ≤ q * (k : Int) ∧ q * (k : Int) ≤ 1200 := by
        have : q = 0 ∨ q = 1 ∨ q = 2 ∨ q = 3 := by omega
        rcases this with e | e | e | e <;> rw [e] <;> omega
      have hs := small_rot (rotB_cases (q * k)) ho
      have hn := hb (k + 1) hk
      simp only [binTo, cadd, cmul] at hn
      simp only [step102_0, lt_cast, inB_cast, hk, decide_true, cond_true, Int.toNat_natCast, wr_succ (show k < 4611686018427387904 by omega), wr_id (n := q * (k : Int)) (by omega) (by omega), p103_pos (show 0 ≤ q * (k : Int) from hqk.1), optE]
      rw [hs.1, hs.2]
      simp only [Bool.and_self, cond_true]
      rw [show small24 ((binTo rotB q x k).1 + ((x.getD k (0, 0)).1 * (rotB (q * ↑k)).1 - (x.getD k (0, 0)).2 * (rotB (q * ↑k)).2)) = true by simp only [small24, Bool.and_eq_true, decide_eq_true_eq]; omega,
        show small24 ((binTo rotB q x k).2 + ((x.getD k (0, 0)).1 * (rotB (q * ↑k)).2 + (x.getD k (0, 0)).2 * (rotB (q * ↑k)).1)) = true by simp only [small24, Bool.and_eq_true, decide_eq_true_eq]; omega]
      rfl) (by simp [step102_0, binL]) 0 (by omega)
  rw [show ((0 : Nat) : Int) = 0 from rfl] at h1
  exact h1
noncomputable def bin102_0 : Int × (Int × Int) × List (Int × Int) × Int × Int → Option (Int × Int) := fun x => if x.2.1 = (0, 0) ∧ x.2.2.2.1 = (x.2.2.1.length : Int) ∧ x.2.2.2.2 = 0 ∧ win x.1 0 3 = true ∧ x.2.2.1.length ≤ 400 ∧ x.2.2.1.all (okG 8000) = true then some (binL rotB x.1 x.2.2.1) else none
theorem bin102_0_pos {q : Int} {x : List (Int × Int)} (hq : win q 0 3 = true) (hl : x.length ≤ 400) (hx : x.all (okG 8000) = true) : bin102_0 (q, (0, 0), x, (x.length : Int), 0) = some (binL rotB q x) := if_pos ⟨rfl, rfl, rfl, hq, hl, hx⟩
theorem lq102_0 : ItemOk Try.prog (.loop 102 0 T102_0 X102_0 (bin102_0)) := item_loop_imp lp102_0 (by
  rintro ⟨q, s, x, n, k⟩ y h
  unfold bin102_0 at h
  split at h
  · rename_i hg
    obtain ⟨h1, h2, h3, h4, h5, h6⟩ := hg
    rw [← h]
    have g1 : s = (0, 0) := h1
    have g2 : n = (List.length x : Int) := h2
    have g3 : k = 0 := h3
    clear h1 h2 h3
    subst g1
    subst g2
    subst g3
    exact binloop102_0 q x (win_iff.1 h4) h5 h6
  · cases h)
noncomputable def Ga6K11 : List Ev.Item := .loop 102 0 T102_0 X102_0 (bin102_0) :: Ga6K10
theorem Ga6K11_ok : ∀ q ∈ Ga6K11, ItemOk Try.prog q := items_cons lq102_0 Ga6K10_ok
noncomputable def s48 : (List (Int × Int)) × Int → Option ((Int × Int) × Int) := fun (x0, quarter) =>
  optE (p106 x0) (fun r1 =>
    bif (firstE [r1, unl (win quarter 0 3) 2]) != 0 then
      some (((0, 0), firstE [r1, unl (win quarter 0 3) 2]))
    else
      optE (p107 x0) (fun r2 =>
        optE (bin102_0 (quarter, (0, 0), r2, (r2.length : Int), 0)) (fun e3 =>
          some ((e3, 0)))
          (none))
        (none))
    (none)
theorem i48 : ItemOk Try.prog (.fn 48 [.d (.slice (.agg (.pair (.int .i64) (.int .i64)))), .d (.int .i64)] [.d (.agg (.pair (.int .i64) (.int .i64))), .d (.int .i64)] s48) := item_fn (U := 9) (n := 4) noSpecial mixed Ga6K11_ok (fun x => by kernel_rfl)
theorem law48 (x : List (Int × Int)) (q : Int) (hg : x.length ≤ 1000000) : s48 (x, q) = some (orE (firstE [smpE x, unl (win q 0 3) 2]) (0, 0) (binL rotB q x)) := by
  simp only [s48, p106_pos hg, optE, orE]
  cases hf : firstE [smpE x, unl (win q 0 3) 2] != 0
  · have hz := firstE_zero.1 (bne_eq_false_iff_eq.1 hf)
    have hx := hz (smpE x) (by simp)
    have hx' := smpE_zero.1 hx
    have hq := unl_zero (by decide) (hz (unl (win q 0 3) 2) (by simp))
    simp only [cond_false, p107_pos (smp_sig hx), optE, bin102_0_pos hq hx'.1 (List.all_eq_true.2 fun g hg => okG_mono (hx'.2 g hg))]
  · rfl
noncomputable def p48 : (List (Int × Int)) × (Int) → Option ((Int × Int) × Int) := fun x => if x.1.length ≤ 1000000 then some (orE (firstE [smpE x.1, unl (win x.2 0 3) 2]) (0, 0) (binL rotB x.2 x.1)) else none
theorem p48_pos {x : (List (Int × Int)) × (Int)} (h : x.1.length ≤ 1000000) : p48 x = some (orE (firstE [smpE x.1, unl (win x.2 0 3) 2]) (0, 0) (binL rotB x.2 x.1)) := if_pos h
theorem j48 : ItemOk Try.prog (.fn 48 [.d (.slice (.agg (.pair (.int .i64) (.int .i64)))), .d (.int .i64)] [.d (.agg (.pair (.int .i64) (.int .i64))), .d (.int .i64)] (p48)) := item_imp i48 (by
  intro x y h
  unfold p48 at h
  split at h
  · rename_i hg
    rw [← h]
    exact law48 x.1 x.2 hg
  · cases h)
noncomputable def Ga6K12 : List Ev.Item := .fn 48 [.d (.slice (.agg (.pair (.int .i64) (.int .i64)))), .d (.int .i64)] [.d (.agg (.pair (.int .i64) (.int .i64))), .d (.int .i64)] (p48) :: Ga6K11
theorem Ga6K12_ok : ∀ q ∈ Ga6K12, ItemOk Try.prog q := items_cons j48 Ga6K11_ok

/-! cassegrain sample.ResponseAt -/
noncomputable def s35 : ((List Int) × Int) × Int → Option ((Int × Int) × Int) := fun (f, quarter) =>
  optE (p59 f) (fun r1 =>
    bif (firstE [r1, unl (win quarter 0 3) 2]) != 0 then
      some (((0, 0), firstE [r1, unl (win quarter 0 3) 2]))
    else
      optE (p101 f) (fun r2 =>
        optE (bin102_0 (quarter, (0, 0), r2, (r2.length : Int), 0)) (fun e3 =>
          some ((e3, 0)))
          (none))
        (none))
    (none)
theorem i35 : ItemOk Try.prog (.fn 35 [.d (.agg (.pair (.slice (.int .i64)) (.int .i64))), .d (.int .i64)] [.d (.agg (.pair (.int .i64) (.int .i64))), .d (.int .i64)] s35) := item_fn (U := 9) (n := 4) noSpecial mixed Ga6K12_ok (fun x => by kernel_rfl)
theorem law35 (f : List Int × Int) (q : Int) (hg : f.1.length ≤ 1000000) : s35 (f, q) = some (orE (firstE [filtE f, unl (win q 0 3) 2]) (0, 0) (binL rotB q (f.1.map fun c => (c, 0)))) := by
  simp only [s35, p59_pos hg, optE, orE]
  cases hf : firstE [filtE f, unl (win q 0 3) 2] != 0
  · have hz := firstE_zero.1 (bne_eq_false_iff_eq.1 hf)
    have hx := hz (filtE f) (by simp)
    have hx' := filtE_zero.1 hx
    have hq := unl_zero (by decide) (hz (unl (win q 0 3) 2) (by simp))
    have hb := bin102_0_pos (x := f.1.map fun c => (c, 0)) hq (by simp; omega) (taps_ok hx)
    simp only [List.length_map] at hb
    simp only [cond_false, p101_pos hx, optE, List.length_map, hb]
  · rfl
noncomputable def p35 : (List Int × Int) × (Int) → Option ((Int × Int) × Int) := fun x => if x.1.1.length ≤ 1000000 then some (orE (firstE [filtE x.1, unl (win x.2 0 3) 2]) (0, 0) (binL rotB x.2 (x.1.1.map fun c => (c, 0)))) else none
theorem p35_pos {x : (List Int × Int) × (Int)} (h : x.1.1.length ≤ 1000000) : p35 x = some (orE (firstE [filtE x.1, unl (win x.2 0 3) 2]) (0, 0) (binL rotB x.2 (x.1.1.map fun c => (c, 0)))) := if_pos h
theorem j35 : ItemOk Try.prog (.fn 35 [.d (.agg (.pair (.slice (.int .i64)) (.int .i64))), .d (.int .i64)] [.d (.agg (.pair (.int .i64) (.int .i64))), .d (.int .i64)] (p35)) := item_imp i35 (by
  intro x y h
  unfold p35 at h
  split at h
  · rename_i hg
    rw [← h]
    exact law35 x.1 x.2 hg
  · cases h)
noncomputable def Ga6K13 : List Ev.Item := .fn 35 [.d (.agg (.pair (.slice (.int .i64)) (.int .i64))), .d (.int .i64)] [.d (.agg (.pair (.int .i64) (.int .i64))), .d (.int .i64)] (p35) :: Ga6K12
theorem Ga6K13_ok : ∀ q ∈ Ga6K13, ItemOk Try.prog q := items_cons j35 Ga6K12_ok

/-! cassegrain cassegrainref02.BinOf -/
@[reducible] def T56_0 : Tmpl := ⟨27, [(4, .ref 4 0 0 0), (5, .ref 5 0 0 0)], [.val 0 (.slice (.agg (.pair (.int .i64) (.int .i64)))), .val 1 (.int .i64), .val 6 (.int .i64), .cells 4 [.d (.pair (.int .i64) (.int .i64))], .cells 5 [.d (.pair (.int .i64) (.int .i64))]]⟩
@[reducible] def X56_0 : List (Ex × Tmpl) := [(.exit 0, ⟨27, [(4, .ref 4 0 0 0), (5, .ref 5 0 0 0)], [.cells 4 [.d (.pair (.int .i64) (.int .i64))], .cells 5 [.d (.pair (.int .i64) (.int .i64))]]⟩)]
/-- data: x0, quarter, n, t4, sum; ends: exit 0: t4, sum -/
noncomputable def step56_0 : (List (Int × Int)) × Int × Int × (Int × Int) × (Int × Int) → Option (((List (Int × Int)) × Int × Int × (Int × Int) × (Int × Int)) ⊕ ((Int × Int) × (Int × Int))) := fun (x0, quarter, n, t4, sum) =>
  bif decide (n < (x0.length : Int)) then
    bif inBounds n x0.length then
      some (.inl (x0, quarter, wr (n + 1), t4, (gaddW sum (gmulW (x0.getD n.toNat (0, 0)) (rotF (wr ((wr (-quarter)) * n)))))))
    else
      none
  else
    some (.inr (t4, sum))
theorem one56_0 : oneLoop Try.prog 56 0 = true := by kernel_rfl
theorem lp56_0 : ItemOk Try.prog (.loop 56 0 T56_0 X56_0 (loopVal step56_0)) := item_loop (U := 9) (n := 3) noSpecial mixed Ga6K13_ok one56_0 (fun x => by kernel_rfl)
noncomputable def Ga6K14 : List Ev.Item := .loop 56 0 T56_0 X56_0 (loopVal step56_0) :: Ga6K13
theorem Ga6K14_ok : ∀ q ∈ Ga6K14, ItemOk Try.prog q := items_cons lp56_0 Ga6K13_ok
noncomputable def s56 : (List (Int × Int)) × Int → Option (Int × Int) := fun (x0, quarter) =>
  optE (loopVal step56_0 (x0, quarter, 0, (0, 0), (0, 0))) (fun e1 =>
    some (e1.2))
    (none)
theorem i56 : ItemOk Try.prog (.fn 56 [.d (.slice (.agg (.pair (.int .i64) (.int .i64)))), .d (.int .i64)] [.d (.agg (.pair (.int .i64) (.int .i64)))] s56) := item_fn (U := 9) (n := 4) noSpecial mixed Ga6K14_ok (fun x => by kernel_rfl)
theorem law56 (x : List (Int × Int)) (q : Int) (hg : x.length ≤ 400 ∧ x.all (okG 8000) = true ∧ win q 0 3 = true) : s56 (x, q) = some (binL rotB q x) := by
  obtain ⟨hl, hx, hq⟩ := hg
  have hq := win_iff.1 hq
  have hb := bin_bound rotB rotB_cases q x (fun g hg => okG_le (List.all_eq_true.1 hx g hg) (by omega))
  have h1 := loop_for (step := step56_0) (st := fun k => (x, q, (k : Int), ((0 : Int), (0 : Int)), binTo rotB q x k)) (n := x.length) (e := ((0, 0), binL rotB q x))
    (fun k hk => by
      have ho := okG_le (List.all_eq_true.1 hx _ (getD_mem (d := (0, 0)) hk)) (by omega)
      have hqk : 0 ≤ q * (k : Int) ∧ q * (k : Int) ≤ 1200 := by
        have : q = 0 ∨ q = 1 ∨ q = 2 ∨ q = 3 := by omega
        rcases this with e | e | e | e <;> rw [e] <;> omega
      have hn := hb (k + 1) hk
      simp only [binTo] at hn
      simp only [step56_0, lt_cast, inB_cast, hk, decide_true, cond_true, Int.toNat_natCast, wr_succ (show k < 4611686018427387904 by omega), pair_eta, wr_id (n := -q) (by omega) (by omega)]
      rw [show -q * (k : Int) = -1 * (q * k) by rw [Int.neg_mul, Int.neg_mul, Int.one_mul], wr_id (n := -1 * (q * (k : Int))) (by omega) (by omega), rot_neg, gmul_rot (rotB_cases _) ho]
      rw [show gaddW (binTo rotB q x k) (cmul (x.getD k (0, 0)) (rotB (q * k))) = binTo rotB q x (k + 1) by
        unfold gaddW
        rw [wr_id (by simp only [cadd] at hn; omega) (by simp only [cadd] at hn; omega), wr_id (by simp only [cadd] at hn; omega) (by simp only [cadd] at hn; omega)]; rfl]) (by simp [step56_0, binL]) 0 (by omega)
  rw [show ((0 : Nat) : Int) = 0 from rfl] at h1
  have h0 : binTo rotB q x 0 = (0, 0) := rfl
  rw [h0] at h1
  simp only [s56, h1, optE]
noncomputable def p56 : (List (Int × Int)) × (Int) → Option (Int × Int) := fun x => if x.1.length ≤ 400 ∧ x.1.all (okG 8000) = true ∧ win x.2 0 3 = true then some (binL rotB x.2 x.1) else none
theorem p56_pos {x : (List (Int × Int)) × (Int)} (h : x.1.length ≤ 400 ∧ x.1.all (okG 8000) = true ∧ win x.2 0 3 = true) : p56 x = some (binL rotB x.2 x.1) := if_pos h
theorem j56 : ItemOk Try.prog (.fn 56 [.d (.slice (.agg (.pair (.int .i64) (.int .i64)))), .d (.int .i64)] [.d (.agg (.pair (.int .i64) (.int .i64)))] (p56)) := item_imp i56 (by
  intro x y h
  unfold p56 at h
  split at h
  · rename_i hg
    rw [← h]
    exact law56 x.1 x.2 hg
  · cases h)
noncomputable def Ga6K15 : List Ev.Item := .fn 56 [.d (.slice (.agg (.pair (.int .i64) (.int .i64)))), .d (.int .i64)] [.d (.agg (.pair (.int .i64) (.int .i64)))] (p56) :: Ga6K14
theorem Ga6K15_ok : ∀ q ∈ Ga6K15, ItemOk Try.prog q := items_cons j56 Ga6K14_ok

/-! cassegrain cassegrainref02.ResponseAt -/
@[reducible] def T39_0 : Tmpl := ⟨26, [(2, .ref 2 0 0 0), (4, .ref 4 0 0 0)], [.val 1 (.int .i64), .own 5 22 23 (.agg (.pair (.int .i64) (.int .i64))), .val 6 (.int .i64), .cells 2 [.d (.pair (.slice (.int .i64)) (.int .i64))], .cells 4 [.d (.pair (.int .i64) (.int .i64))]]⟩
@[reducible] def X39_0 : List (Ex × Tmpl) := [(.exit 0, ⟨26, [(4, .ref 4 0 0 0)], [.val 1 (.int .i64), .own 5 22 23 (.agg (.pair (.int .i64) (.int .i64))), .cells 4 [.d (.pair (.int .i64) (.int .i64))]]⟩)]
/-- data: quarter, x0, i, f, t4; ends: exit 0: quarter, x0, t4 -/
noncomputable def step39_0 : Int × (List (Int × Int)) × Int × ((List Int) × Int) × (Int × Int) → Option ((Int × (List (Int × Int)) × Int × ((List Int) × Int) × (Int × Int)) ⊕ (Int × (List (Int × Int)) × (Int × Int))) := fun (quarter, x0, i, f, t4) =>
  bif decide (i < (f.1.length : Int)) then
    bif inBounds i f.1.length then
      bif room 16 (x0.length + 1) then
        some (.inl (quarter, x0 ++ [(f.1.getD i.toNat 0, 0)], wr (i + 1), f, t4))
      else
        none
    else
      none
  else
    some (.inr (quarter, x0, t4))
theorem one39_0 : oneLoop Try.prog 39 0 = true := by kernel_rfl
theorem lp39_0 : ItemOk Try.prog (.loop 39 0 T39_0 X39_0 (loopVal step39_0)) := item_loop (U := 9) (n := 3) noSpecial mixed Ga6K15_ok one39_0 (fun x => by kernel_rfl)
noncomputable def Ga6K16 : List Ev.Item := .loop 39 0 T39_0 X39_0 (loopVal step39_0) :: Ga6K15
theorem Ga6K16_ok : ∀ q ∈ Ga6K16, ItemOk Try.prog q := items_cons lp39_0 Ga6K15_ok
noncomputable def s39 : ((List Int) × Int) × Int → Option (Int × Int) := fun (f, quarter) =>
  optE (loopVal step39_0 (quarter, [], 0, f, (0, 0))) (fun e1 =>
    optE (p56 (e1.2.1, e1.1)) (fun r2 =>
      some (r2))
      (none))
    (none)
theorem i39 : ItemOk Try.prog (.fn 39 [.d (.agg (.pair (.slice (.int .i64)) (.int .i64))), .d (.int .i64)] [.d (.agg (.pair (.int .i64) (.int .i64)))] s39) := item_fn (U := 9) (n := 4) noSpecial mixed Ga6K16_ok (fun x => by kernel_rfl)
theorem law39 (f : List Int × Int) (q : Int) (hg : filtE f = 0 ∧ win q 0 3 = true) : s39 (f, q) = some (binL rotB q (f.1.map fun c => (c, 0))) := by
  have hg' := filtE_zero.1 hg.1
  have h1 := loop_for (step := step39_0) (st := fun k => (q, (f.1.take k).map (fun c : Int => (c, (0 : Int))), (k : Int), f, ((0 : Int), (0 : Int)))) (n := f.1.length) (e := (q, f.1.map (fun c => (c, 0)), (0, 0)))
    (fun k hk => by
      simp only [step39_0, lt_cast, inB_cast, hk, decide_true, cond_true, Int.toNat_natCast, wr_succ (show k < 4611686018427387904 by omega)]
      rw [room_true (by simp; omega) (by simp; omega)]
      simp only [cond_true, take_map_succ (fun c : Int => (c, (0 : Int))) f.1 0 hk]) (by simp [step39_0]) 0 (by omega)
  rw [show ((0 : Nat) : Int) = 0 from rfl] at h1
  simp only [List.take_zero, List.map_nil] at h1
  have h2 : p56 (f.1.map (fun c => (c, 0)), q) = some (binL rotB q (f.1.map fun c => (c, 0))) := p56_pos (x := (f.1.map (fun c => (c, 0)), q)) ⟨by simp; omega, taps_ok hg.1, hg.2⟩
  simp only [s39, h1, optE, h2]
noncomputable def p39 : (List Int × Int) × (Int) → Option (Int × Int) := fun x => if filtE x.1 = 0 ∧ win x.2 0 3 = true then some (binL rotB x.2 (x.1.1.map fun c => (c, 0))) else none
theorem p39_pos {x : (List Int × Int) × (Int)} (h : filtE x.1 = 0 ∧ win x.2 0 3 = true) : p39 x = some (binL rotB x.2 (x.1.1.map fun c => (c, 0))) := if_pos h
theorem j39 : ItemOk Try.prog (.fn 39 [.d (.agg (.pair (.slice (.int .i64)) (.int .i64))), .d (.int .i64)] [.d (.agg (.pair (.int .i64) (.int .i64)))] (p39)) := item_imp i39 (by
  intro x y h
  unfold p39 at h
  split at h
  · rename_i hg
    rw [← h]
    exact law39 x.1 x.2 hg
  · cases h)
noncomputable def Ga6K17 : List Ev.Item := .fn 39 [.d (.agg (.pair (.slice (.int .i64)) (.int .i64))), .d (.int .i64)] [.d (.agg (.pair (.int .i64) (.int .i64)))] (p39) :: Ga6K16
theorem Ga6K17_ok : ∀ q ∈ Ga6K17, ItemOk Try.prog q := items_cons j39 Ga6K16_ok
end Go.Proofs.Ytinkhmfciealkaa
