/- Printed by gen.py: specifications of functions. -/
import Derived.Test.YtinkhmfciealkaaGa2
import Derived.Test.YtinkhmfciealkaaPure02
set_option linter.unusedSimpArgs false
set_option maxRecDepth 100000
namespace Go.Proofs.Ytinkhmfciealkaa
open Go.Ev

/-! cassegrain sample.samplesErr -/
@[reducible] def T138_0 : Tmpl := ⟨19, [(1, .fn 132)], [.val 0 (.slice (.agg (.pair (.int .i64) (.int .i64)))), .val 7 (.int .i64), .val 8 (.int .i64)]⟩
@[reducible] def X138_0 : List (Ex × Tmpl) := [(.ret, ⟨19, [], [.val 4 (.int .i64)]⟩), (.exit 0, ⟨19, [], []⟩)]
/-- data: s, t7, t8; ends: ret: t4; exit 0:  -/
noncomputable def step138_0 : (List (Int × Int)) × Int × Int → Option (((List (Int × Int)) × Int × Int) ⊕ ((Int) ⊕ (Unit))) := fun (s, t7, t8) =>
  bif decide (t8 < t7) then
    bif inBounds t8 s.length then
      bif !(okG 2000 (s.getD t8.toNat (0, 0))) then
        some (.inr (.inl t8))
      else
        some (.inl (s, t7, wr (t8 + 1)))
    else
      none
  else
    some (.inr (.inr ()))
theorem one138_0 : oneLoop Try.prog 138 0 = true := by kernel_rfl
theorem lp138_0 : ItemOk Try.prog (.loop 138 0 T138_0 X138_0 (loopVal step138_0)) := item_loop (U := 9) (n := 1) noSpecial mixed Ga2K7_ok one138_0 (fun x => by kernel_rfl)
noncomputable def Ga3K1 : List Ev.Item := .loop 138 0 T138_0 X138_0 (loopVal step138_0) :: Ga2K7
theorem Ga3K1_ok : ∀ q ∈ Ga3K1, ItemOk Try.prog q := items_cons lp138_0 Ga2K7_ok
noncomputable def s106 : List (Int × Int) → Option (Int) := fun x0 =>
  optE (loopVal step138_0 (x0, (x0.length : Int), 0)) (fun e1 =>
    sumE e1 (fun e2 =>
      some (firstE [unl (decide ((x0.length : Int) ≤ 400)) 8, unl (!(decide (e2 ≥ 0))) 2])) (fun _ =>
      some (firstE [unl (decide ((x0.length : Int) ≤ 400)) 8, unl true 2])))
    (none)
theorem i106 : ItemOk Try.prog (.fn 106 [.d (.slice (.agg (.pair (.int .i64) (.int .i64))))] [.d (.int .i64)] s106) := item_fn (U := 9) (n := 4) noSpecial mixed Ga3K1_ok (fun x => by kernel_rfl)
theorem law106 (x : List (Int × Int)) (hg : x.length ≤ 1000000) : s106 x = some (smpE x) := by
  have h1 := loop_scan (step := step138_0) (st := fun k => (x, (x.length : Int), (k : Int))) (n := x.length) (hit := fun k => bif !(okG 2000 (x.getD k (0, 0))) then some (Sum.inl (k : Int)) else none) (e := Sum.inr ())
    (fun k hk => by
      simp only [step138_0, lt_cast, inB_cast, hk, decide_true, cond_true, Int.toNat_natCast, wr_succ (show k < 4611686018427387904 by omega), pair_eta]
      cases okG 2000 (x.getD k (0, 0)) <;> rfl) (by simp [step138_0]) x.length 0 (by omega)
  rw [show ((0 : Nat) : Int) = 0 from rfl] at h1
  simp only [s106, h1, optE]
  rcases scan_find (fun k => !(okG 2000 (x.getD k (0, 0)))) x.length 0 with ⟨h2, h3⟩ | ⟨j, h2, h3, h4, h5⟩
  · rw [h2]
    have ha : x.all (okG 2000) = true := all_getD.2 fun j hj => by simpa using h3 j (by omega) (by omega)
    simp only [sumE, smpE, ha]
    by_cases hl : x.length ≤ 400
    · rw [decide_eq_true (show ((x.length : Nat) : Int) ≤ 400 by omega), if_neg (show ¬ 400 < x.length by omega)]; rfl
    · rw [decide_eq_false (show ¬ ((x.length : Nat) : Int) ≤ 400 by omega), if_pos (show 400 < x.length by omega)]; rfl
  · rw [h5]
    have ha : x.all (okG 2000) = false := by
      rw [Bool.eq_false_iff]; intro e
      have := (all_getD (d := (0, 0))).1 e j (by omega)
      rw [this] at h4; cases h4
    simp only [sumE, smpE, ha]
    rw [decide_eq_true (show ((j : Nat) : Int) ≥ 0 by omega)]
    by_cases hl : x.length ≤ 400
    · rw [decide_eq_true (show ((x.length : Nat) : Int) ≤ 400 by omega), if_neg (show ¬ 400 < x.length by omega)]; rfl
    · rw [decide_eq_false (show ¬ ((x.length : Nat) : Int) ≤ 400 by omega), if_pos (show 400 < x.length by omega)]; rfl
noncomputable def p106 : List (Int × Int) → Option (Int) := fun x => if x.length ≤ 1000000 then some (smpE x) else none
theorem p106_pos {x : List (Int × Int)} (h : x.length ≤ 1000000) : p106 x = some (smpE x) := if_pos h
theorem j106 : ItemOk Try.prog (.fn 106 [.d (.slice (.agg (.pair (.int .i64) (.int .i64))))] [.d (.int .i64)] (p106)) := item_imp i106 (by
  intro x y h
  unfold p106 at h
  split at h
  · rename_i hg
    rw [← h]
    exact law106 x hg
  · cases h)
noncomputable def Ga3K2 : List Ev.Item := .fn 106 [.d (.slice (.agg (.pair (.int .i64) (.int .i64))))] [.d (.int .i64)] (p106) :: Ga3K1
theorem Ga3K2_ok : ∀ q ∈ Ga3K2, ItemOk Try.prog q := items_cons j106 Ga3K1_ok

/-! cassegrain cassegrainref02.SamplesErr -/
@[reducible] def T43_0 : Tmpl := ⟨22, [], [.val 0 (.slice (.agg (.pair (.int .i64) (.int .i64)))), .val 3 (.int .i64)]⟩
@[reducible] def X43_0 : List (Ex × Tmpl) := [(.ret, ⟨22, [], [.val 2 (.int .i64)]⟩), (.exit 0, ⟨22, [], []⟩)]
/-- data: x0, i; ends: ret: t2; exit 0:  -/
noncomputable def step43_0 : (List (Int × Int)) × Int → Option (((List (Int × Int)) × Int) ⊕ ((Int) ⊕ (Unit))) := fun (x0, i) =>
  bif decide (i < (x0.length : Int)) then
    bif inBounds i x0.length then
      bif (gErr 2000 (x0.getD i.toNat (0, 0))) != 0 then
        some (.inr (.inl (gErr 2000 (x0.getD i.toNat (0, 0)))))
      else
        some (.inl (x0, wr (i + 1)))
    else
      none
  else
    some (.inr (.inr ()))
theorem one43_0 : oneLoop Try.prog 43 0 = true := by kernel_rfl
theorem lp43_0 : ItemOk Try.prog (.loop 43 0 T43_0 X43_0 (loopVal step43_0)) := item_loop (U := 9) (n := 3) noSpecial mixed Ga3K2_ok one43_0 (fun x => by kernel_rfl)
noncomputable def Ga3K3 : List Ev.Item := .loop 43 0 T43_0 X43_0 (loopVal step43_0) :: Ga3K2
theorem Ga3K3_ok : ∀ q ∈ Ga3K3, ItemOk Try.prog q := items_cons lp43_0 Ga3K2_ok
noncomputable def s43 : List (Int × Int) → Option (Int) := fun x0 =>
  bif decide ((x0.length : Int) > 400) then
    some (8)
  else
    optE (loopVal step43_0 (x0, 0)) (fun e1 =>
      sumE e1 (fun e2 =>
        some (e2)) (fun _ =>
        some (0)))
      (none)
theorem i43 : ItemOk Try.prog (.fn 43 [.d (.slice (.agg (.pair (.int .i64) (.int .i64))))] [.d (.int .i64)] s43) := item_fn (U := 9) (n := 4) noSpecial mixed Ga3K3_ok (fun x => by kernel_rfl)
theorem law43 (x : List (Int × Int)) : s43 x = some (smpE x) := by
  simp only [s43]
  by_cases hl : x.length ≤ 400
  · have h1 := loop_scan (step := step43_0) (st := fun k => (x, (k : Int))) (n := x.length) (hit := fun k => (fun g => bif gErr 2000 g != 0 then some (Sum.inl (gErr 2000 g)) else none) (x.getD k (0, 0))) (e := Sum.inr ())
      (fun k hk => by
        simp only [step43_0, lt_cast, inB_cast, hk, decide_true, cond_true, Int.toNat_natCast, wr_succ (show k < 4611686018427387904 by omega), pair_eta]
        cases gErr 2000 (x.getD k (0, 0)) != 0 <;> rfl) (by simp [step43_0]) x.length 0 (by omega)
    rw [show ((0 : Nat) : Int) = 0 from rfl, scan_list0 (fun g => bif gErr 2000 g != 0 then some (Sum.inl (gErr 2000 g)) else none) (Sum.inr ()) x (0, 0)] at h1
    rw [scanL_const (b := Sum.inl 2) (fun g _ => by cases h : okG 2000 g <;> simp [gErr, h])] at h1
    rw [decide_eq_false (by omega), cond_false, h1]
    have : x.all (fun g => (bif gErr 2000 g != 0 then some (Sum.inl (gErr 2000 g)) else (none : Option (Int ⊕ Unit))).isNone) = x.all (okG 2000) := by
      congr 1; funext g; cases h : okG 2000 g <;> simp [gErr, h]
    rw [this]
    cases ha : x.all (okG 2000) <;> simp [optE, sumE, smpE, ha] <;> omega
  · rw [decide_eq_true (by omega), cond_true, smpE, if_pos (by omega)]
theorem j43 : ItemOk Try.prog (.fn 43 [.d (.slice (.agg (.pair (.int .i64) (.int .i64))))] [.d (.int .i64)] (fun x => some (smpE x))) := item_imp i43 (by
  intro x y h
  rw [← h]
  exact law43 x)
noncomputable def Ga3K4 : List Ev.Item := .fn 43 [.d (.slice (.agg (.pair (.int .i64) (.int .i64))))] [.d (.int .i64)] (fun x => some (smpE x)) :: Ga3K3
theorem Ga3K4_ok : ∀ q ∈ Ga3K4, ItemOk Try.prog q := items_cons j43 Ga3K3_ok

/-! cassegrain cassegrainbase.CopyGausses -/
noncomputable def s45 : List (Int × Int) → Option (List (Int × Int)) := fun l =>
  bif room 16 (0 + l.length) then
    some (l)
  else
    none
theorem i45 : ItemOk Try.prog (.fn 45 [.d (.slice (.agg (.pair (.int .i64) (.int .i64))))] [.own 23 (.agg (.pair (.int .i64) (.int .i64)))] s45) := item_fn (U := 9) (n := 4) noSpecial mixed Ga3K4_ok (fun x => by kernel_rfl)
theorem law45 (x : List (Int × Int)) (hg : x.length ≤ 1000000) : s45 x = some (x) := by
  simp only [s45]
  rw [room_true (by omega) (by omega), cond_true]
noncomputable def p45 : List (Int × Int) → Option (List (Int × Int)) := fun x => if x.length ≤ 1000000 then some (x) else none
theorem p45_pos {x : List (Int × Int)} (h : x.length ≤ 1000000) : p45 x = some (x) := if_pos h
theorem j45 : ItemOk Try.prog (.fn 45 [.d (.slice (.agg (.pair (.int .i64) (.int .i64))))] [.own 23 (.agg (.pair (.int .i64) (.int .i64)))] (p45)) := item_imp i45 (by
  intro x y h
  unfold p45 at h
  split at h
  · rename_i hg
    rw [← h]
    exact law45 x hg
  · cases h)
noncomputable def Ga3K5 : List Ev.Item := .fn 45 [.d (.slice (.agg (.pair (.int .i64) (.int .i64))))] [.own 23 (.agg (.pair (.int .i64) (.int .i64)))] (p45) :: Ga3K4
theorem Ga3K5_ok : ∀ q ∈ Ga3K5, ItemOk Try.prog q := items_cons j45 Ga3K4_ok

/-! cassegrain cassegrainbase.CopyInts -/
noncomputable def s98 : List Int → Option (List Int) := fun l =>
  bif room 8 (0 + l.length) then
    some (l)
  else
    none
theorem i98 : ItemOk Try.prog (.fn 98 [.d (.slice (.int .i64))] [.own 3 (.int .i64)] s98) := item_fn (U := 9) (n := 4) noSpecial mixed Ga3K5_ok (fun x => by kernel_rfl)
theorem law98 (x : List Int) (hg : x.length ≤ 1000000) : s98 x = some (x) := by
  simp only [s98]
  rw [room_true (by omega) (by omega), cond_true]
noncomputable def p98 : List Int → Option (List Int) := fun x => if x.length ≤ 1000000 then some (x) else none
theorem p98_pos {x : List Int} (h : x.length ≤ 1000000) : p98 x = some (x) := if_pos h
theorem j98 : ItemOk Try.prog (.fn 98 [.d (.slice (.int .i64))] [.own 3 (.int .i64)] (p98)) := item_imp i98 (by
  intro x y h
  unfold p98 at h
  split at h
  · rename_i hg
    rw [← h]
    exact law98 x hg
  · cases h)
noncomputable def Ga3K6 : List Ev.Item := .fn 98 [.d (.slice (.int .i64))] [.own 3 (.int .i64)] (p98) :: Ga3K5
theorem Ga3K6_ok : ∀ q ∈ Ga3K6, ItemOk Try.prog q := items_cons j98 Ga3K5_ok

/-! cassegrain sample.signalOf -/
@[reducible] def T107_0 : Tmpl := ⟨24, [], [.own 3 21 127 .zc, .val 6 (.slice (.agg (.pair (.int .i64) (.int .i64)))), .val 7 (.int .i64), .val 8 (.int .i64)]⟩
@[reducible] def X107_0 : List (Ex × Tmpl) := [(.exit 0, ⟨24, [], [.own 3 21 127 .zc]⟩)]
/-- data: out, t6, t7, t8; ends: exit 0: out -/
noncomputable def step107_0 : (List (Int × Int)) × (List (Int × Int)) × Int × Int → Option (((List (Int × Int)) × (List (Int × Int)) × Int × Int) ⊕ (List (Int × Int))) := fun (out, t6, t7, t8) =>
  bif decide (t8 < t7) then
    bif inBounds t8 t6.length then
      bif small24 (t6.getD t8.toNat (0, 0)).1 then
        bif small24 (t6.getD t8.toNat (0, 0)).2 then
          bif room 8 (out.length + 1) then
            some (.inl (out ++ [(t6.getD t8.toNat (0, 0))], t6, t7, wr (t8 + 1)))
          else
            none
        else
          none
      else
        none
    else
      none
  else
    some (.inr out)
theorem one107_0 : oneLoop Try.prog 107 0 = true := by kernel_rfl
theorem lp107_0 : ItemOk Try.prog (.loop 107 0 T107_0 X107_0 (loopVal step107_0)) := item_loop (U := 9) (n := 3) noSpecial mixed Ga3K6_ok one107_0 (fun x => by kernel_rfl)
noncomputable def Ga3K7 : List Ev.Item := .loop 107 0 T107_0 X107_0 (loopVal step107_0) :: Ga3K6
theorem Ga3K7_ok : ∀ q ∈ Ga3K7, ItemOk Try.prog q := items_cons lp107_0 Ga3K6_ok
noncomputable def s107 : List (Int × Int) → Option (List (Int × Int)) := fun x0 =>
  optE (loopVal step107_0 ([], x0, (x0.length : Int), 0)) (fun e1 =>
    some (e1))
    (none)
theorem i107 : ItemOk Try.prog (.fn 107 [.d (.slice (.agg (.pair (.int .i64) (.int .i64))))] [.own 127 .zc] s107) := item_fn (U := 9) (n := 4) noSpecial mixed Ga3K7_ok (fun x => by kernel_rfl)
theorem law107 (x : List (Int × Int)) (hg : x.length ≤ 400 ∧ x.all (okG 8000) = true) : s107 x = some (x) := by
  have hg' := hg
  have h1 := loop_for (step := step107_0) (st := fun k => (x.take k, x, (x.length : Int), (k : Int))) (n := x.length) (e := x)
    (fun k hk => by
      have hx := okG_le (List.all_eq_true.1 hg'.2 (x.getD k (0, 0)) (getD_mem hk)) (by omega)
      simp only [step107_0, lt_cast, inB_cast, hk, decide_true, cond_true, Int.toNat_natCast, wr_succ (show k < 4611686018427387904 by omega), pair_eta]
      rw [show small24 (x.getD k (0, 0)).1 = true by simp only [small24, Bool.and_eq_true, decide_eq_true_eq]; omega, show small24 (x.getD k (0, 0)).2 = true by simp only [small24, Bool.and_eq_true, decide_eq_true_eq]; omega, room_true (by simp; omega) (by simp; omega)]
      simp only [cond_true, take_succ_getD x (0, 0) hk]) (by simp [step107_0]) 0 (by omega)
  rw [show ((0 : Nat) : Int) = 0 from rfl] at h1
  simp only [List.take_zero] at h1
  simp only [s107, h1, optE]
noncomputable def p107 : List (Int × Int) → Option (List (Int × Int)) := fun x => if x.length ≤ 400 ∧ x.all (okG 8000) = true then some (x) else none
theorem p107_pos {x : List (Int × Int)} (h : x.length ≤ 400 ∧ x.all (okG 8000) = true) : p107 x = some (x) := if_pos h
theorem j107 : ItemOk Try.prog (.fn 107 [.d (.slice (.agg (.pair (.int .i64) (.int .i64))))] [.own 127 .zc] (p107)) := item_imp i107 (by
  intro x y h
  unfold p107 at h
  split at h
  · rename_i hg
    rw [← h]
    exact law107 x hg
  · cases h)
noncomputable def Ga3K8 : List Ev.Item := .fn 107 [.d (.slice (.agg (.pair (.int .i64) (.int .i64))))] [.own 127 .zc] (p107) :: Ga3K7
theorem Ga3K8_ok : ∀ q ∈ Ga3K8, ItemOk Try.prog q := items_cons j107 Ga3K7_ok

/-! cassegrain sample.gauss -/
noncomputable def s100 : Int × Int → Option (Int × Int) := fun z =>
  some (z)
theorem i100 : ItemOk Try.prog (.fn 100 [.d .zc] [.d (.agg (.pair (.int .i64) (.int .i64)))] s100) := item_fn (U := 9) (n := 4) noSpecial mixed Ga3K8_ok (fun x => by kernel_rfl)
theorem j100 : ItemOk Try.prog (.fn 100 [.d .zc] [.d (.agg (.pair (.int .i64) (.int .i64)))] (fun x => some x)) := item_imp i100 (by
  intro x y h
  rw [← h]; rfl)
noncomputable def Ga3K9 : List Ev.Item := .fn 100 [.d .zc] [.d (.agg (.pair (.int .i64) (.int .i64)))] (fun x => some x) :: Ga3K8
theorem Ga3K9_ok : ∀ q ∈ Ga3K9, ItemOk Try.prog q := items_cons j100 Ga3K8_ok

/-! (cassegrain sample.signal).samples -/
@[reducible] def T130_0 : Tmpl := ⟨19, [], [.own 3 16 23 (.agg (.pair (.int .i64) (.int .i64))), .val 6 (.slice .zc), .val 7 (.int .i64), .val 8 (.int .i64)]⟩
@[reducible] def X130_0 : List (Ex × Tmpl) := [(.exit 0, ⟨19, [], [.own 3 16 23 (.agg (.pair (.int .i64) (.int .i64)))]⟩)]
/-- data: out, t6, t7, t8; ends: exit 0: out -/
noncomputable def step130_0 : (List (Int × Int)) × (List (Int × Int)) × Int × Int → Option (((List (Int × Int)) × (List (Int × Int)) × Int × Int) ⊕ (List (Int × Int))) := fun (out, t6, t7, t8) =>
  bif decide (t8 < t7) then
    bif inBounds t8 t6.length then
      bif room 16 (out.length + 1) then
        some (.inl (out ++ [((t6.getD t8.toNat (0, 0)))], t6, t7, wr (t8 + 1)))
      else
        none
    else
      none
  else
    some (.inr out)
theorem one130_0 : oneLoop Try.prog 130 0 = true := by kernel_rfl
theorem lp130_0 : ItemOk Try.prog (.loop 130 0 T130_0 X130_0 (loopVal step130_0)) := item_loop (U := 9) (n := 3) noSpecial mixed Ga3K9_ok one130_0 (fun x => by kernel_rfl)
noncomputable def Ga3K10 : List Ev.Item := .loop 130 0 T130_0 X130_0 (loopVal step130_0) :: Ga3K9
theorem Ga3K10_ok : ∀ q ∈ Ga3K10, ItemOk Try.prog q := items_cons lp130_0 Ga3K9_ok
noncomputable def s130 : List (Int × Int) → Option (List (Int × Int)) := fun s =>
  optE (loopVal step130_0 ([], s, (s.length : Int), 0)) (fun e1 =>
    some (e1))
    (none)
theorem i130 : ItemOk Try.prog (.fn 130 [.d (.slice .zc)] [.own 23 (.agg (.pair (.int .i64) (.int .i64)))] s130) := item_fn (U := 9) (n := 4) noSpecial mixed Ga3K10_ok (fun x => by kernel_rfl)
theorem law130 (x : List (Int × Int)) (hg : x.length ≤ 1000000) : s130 x = some (x) := by
  have h1 := loop_for (step := step130_0) (st := fun k => (x.take k, x, (x.length : Int), (k : Int))) (n := x.length) (e := x)
    (fun k hk => by
      simp only [step130_0, lt_cast, inB_cast, hk, decide_true, cond_true, Int.toNat_natCast, wr_succ (show k < 4611686018427387904 by omega), pair_eta]
      rw [room_true (by simp; omega) (by simp; omega)]
      simp only [cond_true, take_succ_getD x (0, 0) hk]) (by simp [step130_0]) 0 (by omega)
  rw [show ((0 : Nat) : Int) = 0 from rfl] at h1
  simp only [List.take_zero] at h1
  simp only [s130, h1, optE]
noncomputable def p130 : List (Int × Int) → Option (List (Int × Int)) := fun x => if x.length ≤ 1000000 then some (x) else none
theorem p130_pos {x : List (Int × Int)} (h : x.length ≤ 1000000) : p130 x = some (x) := if_pos h
theorem j130 : ItemOk Try.prog (.fn 130 [.d (.slice .zc)] [.own 23 (.agg (.pair (.int .i64) (.int .i64)))] (p130)) := item_imp i130 (by
  intro x y h
  unfold p130 at h
  split at h
  · rename_i hg
    rw [← h]
    exact law130 x hg
  · cases h)
noncomputable def Ga3K11 : List Ev.Item := .fn 130 [.d (.slice .zc)] [.own 23 (.agg (.pair (.int .i64) (.int .i64)))] (p130) :: Ga3K10
theorem Ga3K11_ok : ∀ q ∈ Ga3K11, ItemOk Try.prog q := items_cons j130 Ga3K10_ok

/-! cassegrain sample.backward -/
noncomputable def s103 : Int → Option (Int × Int) := fun turns =>
  bif inBounds (Int.tmod turns 4) 4 then
    some (([(1, 0), (0, (-1)), ((-1), 0), (0, 1)].getD (Int.tmod turns 4).toNat (0, 0)))
  else
    none
theorem i103 : ItemOk Try.prog (.fn 103 [.d (.int .i64)] [.d .zc] s103) := item_fn (U := 9) (n := 4) noSpecial mixed Ga3K11_ok (fun x => by kernel_rfl)
theorem law103 (t : Int) (hg : 0 ≤ t) : s103 t = some (rotB t) := by
  simp only [s103]
  rw [Int.tmod_eq_emod_of_nonneg hg]
  have h1 : inBounds (t % 4) 4 = true := by simp [inBounds]; omega
  rw [h1]; rfl
noncomputable def p103 : Int → Option (Int × Int) := fun x => if 0 ≤ x then some (rotB x) else none
theorem p103_pos {x : Int} (h : 0 ≤ x) : p103 x = some (rotB x) := if_pos h
theorem j103 : ItemOk Try.prog (.fn 103 [.d (.int .i64)] [.d .zc] (p103)) := item_imp i103 (by
  intro x y h
  unfold p103 at h
  split at h
  · rename_i hg
    rw [← h]
    exact law103 x hg
  · cases h)
noncomputable def Ga3K12 : List Ev.Item := .fn 103 [.d (.int .i64)] [.d .zc] (p103) :: Ga3K11
theorem Ga3K12_ok : ∀ q ∈ Ga3K12, ItemOk Try.prog q := items_cons j103 Ga3K11_ok

/-! cassegrain sample.forward -/
noncomputable def s109 : Int → Option (Int × Int) := fun turns =>
  bif inBounds (Int.tmod turns 4) 4 then
    some (([(1, 0), (0, 1), ((-1), 0), (0, (-1))].getD (Int.tmod turns 4).toNat (0, 0)))
  else
    none
theorem i109 : ItemOk Try.prog (.fn 109 [.d (.int .i64)] [.d .zc] s109) := item_fn (U := 9) (n := 4) noSpecial mixed Ga3K12_ok (fun x => by kernel_rfl)
theorem law109 (t : Int) (hg : 0 ≤ t) : s109 t = some (rotF t) := by
  simp only [s109]
  rw [Int.tmod_eq_emod_of_nonneg hg]
  have h1 : inBounds (t % 4) 4 = true := by simp [inBounds]; omega
  rw [h1]; rfl
noncomputable def p109 : Int → Option (Int × Int) := fun x => if 0 ≤ x then some (rotF x) else none
theorem p109_pos {x : Int} (h : 0 ≤ x) : p109 x = some (rotF x) := if_pos h
theorem j109 : ItemOk Try.prog (.fn 109 [.d (.int .i64)] [.d .zc] (p109)) := item_imp i109 (by
  intro x y h
  unfold p109 at h
  split at h
  · rename_i hg
    rw [← h]
    exact law109 x hg
  · cases h)
noncomputable def Ga3K13 : List Ev.Item := .fn 109 [.d (.int .i64)] [.d .zc] (p109) :: Ga3K12
theorem Ga3K13_ok : ∀ q ∈ Ga3K13, ItemOk Try.prog q := items_cons j109 Ga3K12_ok

/-! cassegrain cassegrainbase.GMul -/
noncomputable def s80 : (Int × Int) × (Int × Int) → Option (Int × Int) := fun (a, b) =>
  some ((wr ((wr (a.1 * b.1)) - (wr (a.2 * b.2))), wr ((wr (a.1 * b.2)) + (wr (a.2 * b.1)))))
theorem i80 : ItemOk Try.prog (.fn 80 [.d (.agg (.pair (.int .i64) (.int .i64))), .d (.agg (.pair (.int .i64) (.int .i64)))] [.d (.agg (.pair (.int .i64) (.int .i64)))] s80) := item_fn (U := 9) (n := 4) noSpecial mixed Ga3K13_ok (fun x => by kernel_rfl)
theorem j80 : ItemOk Try.prog (.fn 80 [.d (.agg (.pair (.int .i64) (.int .i64))), .d (.agg (.pair (.int .i64) (.int .i64)))] [.d (.agg (.pair (.int .i64) (.int .i64)))] (fun x => some (gmulW x.1 x.2))) := item_imp i80 (by
  intro x y h
  rw [← h]; rfl)
noncomputable def Ga3K14 : List Ev.Item := .fn 80 [.d (.agg (.pair (.int .i64) (.int .i64))), .d (.agg (.pair (.int .i64) (.int .i64)))] [.d (.agg (.pair (.int .i64) (.int .i64)))] (fun x => some (gmulW x.1 x.2)) :: Ga3K13
theorem Ga3K14_ok : ∀ q ∈ Ga3K14, ItemOk Try.prog q := items_cons j80 Ga3K13_ok

/-! cassegrain cassegrainbase.GAdd -/
noncomputable def s110 : (Int × Int) × (Int × Int) → Option (Int × Int) := fun (a, b) =>
  some ((wr (a.1 + b.1), wr (a.2 + b.2)))
theorem i110 : ItemOk Try.prog (.fn 110 [.d (.agg (.pair (.int .i64) (.int .i64))), .d (.agg (.pair (.int .i64) (.int .i64)))] [.d (.agg (.pair (.int .i64) (.int .i64)))] s110) := item_fn (U := 9) (n := 4) noSpecial mixed Ga3K14_ok (fun x => by kernel_rfl)
theorem j110 : ItemOk Try.prog (.fn 110 [.d (.agg (.pair (.int .i64) (.int .i64))), .d (.agg (.pair (.int .i64) (.int .i64)))] [.d (.agg (.pair (.int .i64) (.int .i64)))] (fun x => some (gaddW x.1 x.2))) := item_imp i110 (by
  intro x y h
  rw [← h]; rfl)
noncomputable def Ga3K15 : List Ev.Item := .fn 110 [.d (.agg (.pair (.int .i64) (.int .i64))), .d (.agg (.pair (.int .i64) (.int .i64)))] [.d (.agg (.pair (.int .i64) (.int .i64)))] (fun x => some (gaddW x.1 x.2)) :: Ga3K14
theorem Ga3K15_ok : ∀ q ∈ Ga3K15, ItemOk Try.prog q := items_cons j110 Ga3K14_ok

/-! cassegrain cassegrainbase.GNorm -/
noncomputable def s47 : Int × Int → Option (Int) := fun a =>
  some (wr ((wr (a.1 * a.1)) + (wr (a.2 * a.2))))
theorem i47 : ItemOk Try.prog (.fn 47 [.d (.agg (.pair (.int .i64) (.int .i64)))] [.d (.int .i64)] s47) := item_fn (U := 9) (n := 4) noSpecial mixed Ga3K15_ok (fun x => by kernel_rfl)
theorem j47 : ItemOk Try.prog (.fn 47 [.d (.agg (.pair (.int .i64) (.int .i64)))] [.d (.int .i64)] (fun x => some (normW x))) := item_imp i47 (by
  intro x y h
  rw [← h]; rfl)
noncomputable def Ga3K16 : List Ev.Item := .fn 47 [.d (.agg (.pair (.int .i64) (.int .i64)))] [.d (.int .i64)] (fun x => some (normW x)) :: Ga3K15
theorem Ga3K16_ok : ∀ q ∈ Ga3K16, ItemOk Try.prog q := items_cons j47 Ga3K15_ok

/-! cassegrain cassegrainbase.Size -/
noncomputable def s46 : Int → Option (Int) := fun n =>
  some (mx n (wr (-n)))
theorem i46 : ItemOk Try.prog (.fn 46 [.d (.int .i64)] [.d (.int .i64)] s46) := item_fn (U := 9) (n := 4) noSpecial mixed Ga3K16_ok (fun x => by kernel_rfl)
theorem j46 : ItemOk Try.prog (.fn 46 [.d (.int .i64)] [.d (.int .i64)] (fun x => some (sizeW x))) := item_imp i46 (by
  intro x y h
  rw [← h]; rfl)
noncomputable def Ga3K17 : List Ev.Item := .fn 46 [.d (.int .i64)] [.d (.int .i64)] (fun x => some (sizeW x)) :: Ga3K16
theorem Ga3K17_ok : ∀ q ∈ Ga3K17, ItemOk Try.prog q := items_cons j46 Ga3K16_ok

/-! cassegrain cassegrainref02.power -/
@[reducible] def T111_0 : Tmpl := ⟨16, [(2, .ref 2 0 0 0), (3, .ref 3 0 0 0)], [.val 0 (.int .i64), .val 4 (.int .i64), .cells 2 [.d (.pair (.int .i64) (.int .i64))], .cells 3 [.d (.pair (.int .i64) (.int .i64))]]⟩
@[reducible] def X111_0 : List (Ex × Tmpl) := [(.exit 0, ⟨16, [(2, .ref 2 0 0 0), (3, .ref 3 0 0 0)], [.cells 2 [.d (.pair (.int .i64) (.int .i64))], .cells 3 [.d (.pair (.int .i64) (.int .i64))]]⟩)]
/-- data: n, k, t2, out; ends: exit 0: t2, out -/
noncomputable def step111_0 : Int × Int × (Int × Int) × (Int × Int) → Option ((Int × Int × (Int × Int) × (Int × Int)) ⊕ ((Int × Int) × (Int × Int))) := fun (n, k, t2, out) =>
  bif decide (k < (n % 4)) then
    some (.inl (n, wr (k + 1), t2, (gmulW out (0, 1))))
  else
    some (.inr (t2, out))
theorem one111_0 : oneLoop Try.prog 111 0 = true := by kernel_rfl
theorem lp111_0 : ItemOk Try.prog (.loop 111 0 T111_0 X111_0 (loopVal step111_0)) := item_loop (U := 9) (n := 3) noSpecial mixed Ga3K17_ok one111_0 (fun x => by kernel_rfl)
noncomputable def Ga3K18 : List Ev.Item := .loop 111 0 T111_0 X111_0 (loopVal step111_0) :: Ga3K17
theorem Ga3K18_ok : ∀ q ∈ Ga3K18, ItemOk Try.prog q := items_cons lp111_0 Ga3K17_ok
noncomputable def s111 : Int → Option (Int × Int) := fun n =>
  optE (loopVal step111_0 (n, 0, (0, 0), (1, 0))) (fun e1 =>
    some (e1.2))
    (none)
theorem i111 : ItemOk Try.prog (.fn 111 [.d (.int .i64)] [.d (.agg (.pair (.int .i64) (.int .i64)))] s111) := item_fn (U := 9) (n := 4) noSpecial mixed Ga3K18_ok (fun x => by kernel_rfl)
theorem law111 (n : Int) : s111 n = some (rotF n) := by
  have h0 : 0 ≤ n % 4 ∧ n % 4 < 4 := by omega
  have st : ∀ k t o, step111_0 (n, k, t, o) = bif decide (k < n % 4) then some (.inl (n, wr (k + 1), t, gmulW o (0, 1))) else some (.inr (t, o)) := fun k t o => rfl
  have hr : n % 4 = 0 ∨ n % 4 = 1 ∨ n % 4 = 2 ∨ n % 4 = 3 := by omega
  simp only [s111, rotF]
  rcases hr with h | h | h | h <;> rw [h] at st ⊢
  · rw [loopVal_last (st _ _ _)]; rfl
  · rw [loopVal_next (st _ _ _), loopVal_last (st _ _ _)]; rfl
  · rw [loopVal_next (st _ _ _), loopVal_next (st _ _ _), loopVal_last (st _ _ _)]; rfl
  · rw [loopVal_next (st _ _ _), loopVal_next (st _ _ _), loopVal_next (st _ _ _), loopVal_last (st _ _ _)]; rfl
theorem j111 : ItemOk Try.prog (.fn 111 [.d (.int .i64)] [.d (.agg (.pair (.int .i64) (.int .i64)))] (fun x => some (rotF x))) := item_imp i111 (by
  intro x y h
  rw [← h]
  exact law111 x)
noncomputable def Ga3K19 : List Ev.Item := .fn 111 [.d (.int .i64)] [.d (.agg (.pair (.int .i64) (.int .i64)))] (fun x => some (rotF x)) :: Ga3K18
theorem Ga3K19_ok : ∀ q ∈ Ga3K19, ItemOk Try.prog q := items_cons j111 Ga3K18_ok

/-! cassegrain cassegrainlaw02.short -/
noncomputable def s50 : List (Int × Int) → Option (Bool) := fun x0 =>
  bif decide ((x0.length : Int) ≤ 60) then
    some (true)
  else
    bif decide ((x0.length : Int) > 400) then
      some (decide ((x0.length : Int) ≤ 404))
    else
      some (false)
theorem i50 : ItemOk Try.prog (.fn 50 [.d (.slice (.agg (.pair (.int .i64) (.int .i64))))] [.d .bool] s50) := item_fn (U := 9) (n := 4) noSpecial mixed Ga3K19_ok (fun x => by kernel_rfl)
theorem j50 : ItemOk Try.prog (.fn 50 [.d (.slice (.agg (.pair (.int .i64) (.int .i64))))] [.d .bool] (fun x => some (shortB x))) := item_imp i50 (by
  intro x y h
  rw [← h]; show s50 x = some (shortB x); simp only [s50, shortB]
  by_cases h1 : x.length ≤ 60
  · rw [decide_eq_true (by omega), cond_true]; simp [h1]
  · rw [decide_eq_false (by omega), cond_false]
    by_cases h2 : 400 < x.length
    · rw [decide_eq_true (by omega), cond_true]; simp [h1, h2]; omega
    · rw [decide_eq_false (by omega), cond_false]; simp [h1, h2])
noncomputable def Ga3K20 : List Ev.Item := .fn 50 [.d (.slice (.agg (.pair (.int .i64) (.int .i64))))] [.d .bool] (fun x => some (shortB x)) :: Ga3K19
theorem Ga3K20_ok : ∀ q ∈ Ga3K20, ItemOk Try.prog q := items_cons j50 Ga3K19_ok
end Go.Proofs.Ytinkhmfciealkaa
