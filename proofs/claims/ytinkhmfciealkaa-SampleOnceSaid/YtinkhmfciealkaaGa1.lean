/- Printed by gen.py: specifications of functions. -/
import Derived.Test.YtinkhmfciealkaaGa0
set_option linter.unusedSimpArgs false
set_option maxRecDepth 100000
namespace Go.Proofs.Ytinkhmfciealkaa
open Go.Ev

/-! cassegrain cassegrainbase.Mod -/
noncomputable def s75 : Int × Int → Option (Int) := fun (n, by0) =>
  bif !(by0 == 0) then
    bif decide ((Int.tmod n by0) < 0) then
      some (wr ((Int.tmod n by0) + by0))
    else
      some (Int.tmod n by0)
  else
    none
theorem i75 : ItemOk Try.prog (.fn 75 [.d (.int .i64), .d (.int .i64)] [.d (.int .i64)] s75) := item_fn (U := 9) (n := 4) noSpecial mixed Ga0K13_ok (fun x => by kernel_rfl)
noncomputable def mod75 : Int × Int → Option Int := fun x => if 0 < x.2 ∧ x.2 < 4611686018427387904 then some (x.1 % x.2) else none
theorem j75 : ItemOk Try.prog (.fn 75 [.d (.int .i64), .d (.int .i64)] [.d (.int .i64)] (mod75)) := item_imp i75 (by
  rintro ⟨n, m⟩ y h
  unfold mod75 at h
  split at h
  · rename_i hm
    obtain ⟨h1, h2⟩ := hm
    rw [← h]
    exact mod_law (n := n) (m := m) h1 h2
  · cases h)
noncomputable def Ga1K1 : List Ev.Item := .fn 75 [.d (.int .i64), .d (.int .i64)] [.d (.int .i64)] (mod75) :: Ga0K13
theorem Ga1K1_ok : ∀ q ∈ Ga1K1, ItemOk Try.prog q := items_cons j75 Ga0K13_ok

/-! cassegrain cassegrainbase.Floor -/
noncomputable def s97 : Int × Int → Option (Int) := fun (n, by0) =>
  bif !(by0 == 0) then
    bif !(by0 == 0) then
      bif decide ((Int.tmod n by0) < 0) then
        some (wr ((wr (Int.tdiv n by0)) - 1))
      else
        some (wr (Int.tdiv n by0))
    else
      none
  else
    none
theorem i97 : ItemOk Try.prog (.fn 97 [.d (.int .i64), .d (.int .i64)] [.d (.int .i64)] s97) := item_fn (U := 9) (n := 4) noSpecial mixed Ga1K1_ok (fun x => by kernel_rfl)
noncomputable def floor97 : Int × Int → Option Int := fun x => if 0 < x.2 then some (wr (x.1 / x.2)) else none
theorem j97 : ItemOk Try.prog (.fn 97 [.d (.int .i64), .d (.int .i64)] [.d (.int .i64)] (floor97)) := item_imp i97 (by
  rintro ⟨n, m⟩ y h
  unfold floor97 at h
  split at h
  · rename_i hm
    rw [← h]
    exact floor_law (n := n) (m := m) hm
  · cases h)
noncomputable def Ga1K2 : List Ev.Item := .fn 97 [.d (.int .i64), .d (.int .i64)] [.d (.int .i64)] (floor97) :: Ga1K1
theorem Ga1K2_ok : ∀ q ∈ Ga1K2, ItemOk Try.prog q := items_cons j97 Ga1K1_ok

/-! cassegrain sample.reduced -/
noncomputable def s94 : Int → Option (Int) := fun n =>
  bif decide ((Int.tmod n 4096) < 0) then
    some (wr ((Int.tmod n 4096) + 4096))
  else
    some (Int.tmod n 4096)
theorem i94 : ItemOk Try.prog (.fn 94 [.d (.int .i64)] [.d (.int .i64)] s94) := item_fn (U := 9) (n := 4) noSpecial mixed Ga1K2_ok (fun x => by kernel_rfl)
theorem j94 : ItemOk Try.prog (.fn 94 [.d (.int .i64)] [.d (.int .i64)] (fun x => some (x % 4096))) := item_imp i94 (by
  intro n y h
  rw [← h]
  exact mod4096_law n)
noncomputable def Ga1K3 : List Ev.Item := .fn 94 [.d (.int .i64)] [.d (.int .i64)] (fun x => some (x % 4096)) :: Ga1K2
theorem Ga1K3_ok : ∀ q ∈ Ga1K3, ItemOk Try.prog q := items_cons j94 Ga1K2_ok

/-! cassegrain sample.phaseAt -/
noncomputable def s93 : (Int × Int × Int) × Int → Option (Int) := fun (p, n) =>
  some ((wr ((wr (p.1 + (wr (n * p.2.1)))) + (wr ((wr (Int.tdiv (wr (n * (wr (n - 1)))) 2)) * p.2.2)))) % 4096)
theorem i93 : ItemOk Try.prog (.fn 93 [.d (.agg (.pair (.int .i64) (.pair (.int .i64) (.int .i64)))), .d (.int .i64)] [.d (.int .i64)] s93) := item_fn (U := 9) (n := 4) noSpecial mixed Ga1K3_ok (fun x => by kernel_rfl)
theorem j93 : ItemOk Try.prog (.fn 93 [.d (.agg (.pair (.int .i64) (.pair (.int .i64) (.int .i64)))), .d (.int .i64)] [.d (.int .i64)] (fun x => some (phaseOf x.1 x.2))) := item_imp i93 (by
  rintro ⟨p, n⟩ y h
  rw [← h]; rfl)
noncomputable def Ga1K4 : List Ev.Item := .fn 93 [.d (.agg (.pair (.int .i64) (.pair (.int .i64) (.int .i64)))), .d (.int .i64)] [.d (.int .i64)] (fun x => some (phaseOf x.1 x.2)) :: Ga1K3
theorem Ga1K4_ok : ∀ q ∈ Ga1K4, ItemOk Try.prog q := items_cons j93 Ga1K3_ok

/-! cassegrain sample.turnsAt -/
noncomputable def s95 : (Int × Int × Int) × Int → Option (Int) := fun (p, n) =>
  some (Int.tmod (wr (Int.tdiv (wr ((phaseOf p n) + 512)) 1024)) 4)
theorem i95 : ItemOk Try.prog (.fn 95 [.d (.agg (.pair (.int .i64) (.pair (.int .i64) (.int .i64)))), .d (.int .i64)] [.d (.int .i64)] s95) := item_fn (U := 9) (n := 4) noSpecial mixed Ga1K4_ok (fun x => by kernel_rfl)
theorem j95 : ItemOk Try.prog (.fn 95 [.d (.agg (.pair (.int .i64) (.pair (.int .i64) (.int .i64)))), .d (.int .i64)] [.d (.int .i64)] (fun x => some (turnOf x.1 x.2))) := item_imp i95 (by
  rintro ⟨p, n⟩ y h
  rw [← h]; exact turn_law1 p n)
noncomputable def Ga1K5 : List Ev.Item := .fn 95 [.d (.agg (.pair (.int .i64) (.pair (.int .i64) (.int .i64)))), .d (.int .i64)] [.d (.int .i64)] (fun x => some (turnOf x.1 x.2)) :: Ga1K4
theorem Ga1K5_ok : ∀ q ∈ Ga1K5, ItemOk Try.prog q := items_cons j95 Ga1K4_ok

/-! cassegrain cassegrainref02.PhaseAt -/
noncomputable def s31 : (Int × Int × Int) × Int → Option (Int) := fun (p, n) =>
  some ((wr ((wr (p.1 + (wr (n * p.2.1)))) + (wr ((wr (Int.tdiv (wr (n * (wr (n - 1)))) 2)) * p.2.2)))) % 4096)
theorem i31 : ItemOk Try.prog (.fn 31 [.d (.agg (.pair (.int .i64) (.pair (.int .i64) (.int .i64)))), .d (.int .i64)] [.d (.int .i64)] s31) := item_fn (U := 9) (n := 4) noSpecial mixed Ga1K5_ok (fun x => by kernel_rfl)
theorem j31 : ItemOk Try.prog (.fn 31 [.d (.agg (.pair (.int .i64) (.pair (.int .i64) (.int .i64)))), .d (.int .i64)] [.d (.int .i64)] (fun x => some (phaseOf x.1 x.2))) := item_imp i31 (by
  rintro ⟨p, n⟩ y h
  rw [← h]; rfl)
noncomputable def Ga1K6 : List Ev.Item := .fn 31 [.d (.agg (.pair (.int .i64) (.pair (.int .i64) (.int .i64)))), .d (.int .i64)] [.d (.int .i64)] (fun x => some (phaseOf x.1 x.2)) :: Ga1K5
theorem Ga1K6_ok : ∀ q ∈ Ga1K6, ItemOk Try.prog q := items_cons j31 Ga1K5_ok

/-! cassegrain cassegrainref02.TurnAt -/
noncomputable def s28 : (Int × Int × Int) × Int → Option (Int) := fun (p, n) =>
  some ((wr ((wr ((phaseOf p n) + 512)) / 1024)) % 4)
theorem i28 : ItemOk Try.prog (.fn 28 [.d (.agg (.pair (.int .i64) (.pair (.int .i64) (.int .i64)))), .d (.int .i64)] [.d (.int .i64)] s28) := item_fn (U := 9) (n := 4) noSpecial mixed Ga1K6_ok (fun x => by kernel_rfl)
theorem j28 : ItemOk Try.prog (.fn 28 [.d (.agg (.pair (.int .i64) (.pair (.int .i64) (.int .i64)))), .d (.int .i64)] [.d (.int .i64)] (fun x => some (turnOf x.1 x.2))) := item_imp i28 (by
  rintro ⟨p, n⟩ y h
  rw [← h]; exact turn_law2 p n)
noncomputable def Ga1K7 : List Ev.Item := .fn 28 [.d (.agg (.pair (.int .i64) (.pair (.int .i64) (.int .i64)))), .d (.int .i64)] [.d (.int .i64)] (fun x => some (turnOf x.1 x.2)) :: Ga1K6
theorem Ga1K7_ok : ∀ q ∈ Ga1K7, ItemOk Try.prog q := items_cons j28 Ga1K6_ok

/-! cassegrain sample.CheckProgram$1 -/
noncomputable def s96 : Int → Option (Bool) := fun n =>
  some (win n (-4096) 4096)
theorem i96 : ItemOk Try.prog (.fn 96 [.d (.int .i64)] [.d .bool] s96) := item_fn (U := 9) (n := 4) noSpecial mixed Ga1K7_ok (fun x => by kernel_rfl)
theorem j96 : ItemOk Try.prog (.fn 96 [.d (.int .i64)] [.d .bool] (fun x => some (win x (-4096) 4096))) := item_imp i96 (by
  intro n y h
  rw [← h]; rfl)
noncomputable def Ga1K8 : List Ev.Item := .fn 96 [.d (.int .i64)] [.d .bool] (fun x => some (win x (-4096) 4096)) :: Ga1K7
theorem Ga1K8_ok : ∀ q ∈ Ga1K8, ItemOk Try.prog q := items_cons j96 Ga1K7_ok

/-! cassegrain sample.CheckProgram -/
noncomputable def s27 : Int × Int × Int → Option (Int) := fun p =>
  bif win p.1 0 4095 then
    bif win p.2.1 (-4096) 4096 then
      some (unl (win p.2.2 (-4096) 4096) 2)
    else
      some (unl false 2)
  else
    some (unl false 2)
theorem i27 : ItemOk Try.prog (.fn 27 [.d (.agg (.pair (.int .i64) (.pair (.int .i64) (.int .i64))))] [.d (.int .i64)] s27) := item_fn (U := 9) (n := 4) noSpecial mixed Ga1K8_ok (fun x => by kernel_rfl)
theorem j27 : ItemOk Try.prog (.fn 27 [.d (.agg (.pair (.int .i64) (.pair (.int .i64) (.int .i64))))] [.d (.int .i64)] (fun x => some (progE x))) := item_imp i27 (by
  intro p y h
  rw [← h]; show s27 p = some (progE p); simp only [s27, progE, unl]; cases win p.1 0 4095 <;> cases win p.2.1 (-4096) 4096 <;> cases win p.2.2 (-4096) 4096 <;> rfl)
noncomputable def Ga1K9 : List Ev.Item := .fn 27 [.d (.agg (.pair (.int .i64) (.pair (.int .i64) (.int .i64))))] [.d (.int .i64)] (fun x => some (progE x)) :: Ga1K8
theorem Ga1K9_ok : ∀ q ∈ Ga1K9, ItemOk Try.prog q := items_cons j27 Ga1K8_ok

/-! cassegrain cassegrainref02.ProgramErr -/
noncomputable def s26 : Int × Int × Int → Option (Int) := fun p =>
  bif !(win p.1 0 4095) then
    some (2)
  else
    bif !(win p.2.1 (-4096) 4096) then
      some (2)
    else
      bif !(win p.2.2 (-4096) 4096) then
        some (2)
      else
        some (0)
theorem i26 : ItemOk Try.prog (.fn 26 [.d (.agg (.pair (.int .i64) (.pair (.int .i64) (.int .i64))))] [.d (.int .i64)] s26) := item_fn (U := 9) (n := 4) noSpecial mixed Ga1K9_ok (fun x => by kernel_rfl)
theorem j26 : ItemOk Try.prog (.fn 26 [.d (.agg (.pair (.int .i64) (.pair (.int .i64) (.int .i64))))] [.d (.int .i64)] (fun x => some (progE x))) := item_imp i26 (by
  intro p y h
  rw [← h]; show s26 p = some (progE p); simp only [s26, progE, unl]; cases win p.1 0 4095 <;> cases win p.2.1 (-4096) 4096 <;> cases win p.2.2 (-4096) 4096 <;> rfl)
noncomputable def Ga1K10 : List Ev.Item := .fn 26 [.d (.agg (.pair (.int .i64) (.pair (.int .i64) (.int .i64))))] [.d (.int .i64)] (fun x => some (progE x)) :: Ga1K9
theorem Ga1K10_ok : ∀ q ∈ Ga1K10, ItemOk Try.prog q := items_cons j26 Ga1K9_ok

/-! cassegrain cassegrainref02.Advanced -/
noncomputable def s32 : (Int × Int × Int) × Int → Option (Int × Int × Int) := fun (p, n) =>
  some ((phaseOf p n, (wr (p.2.1 + (wr (n * p.2.2)))) % 4096, p.2.2))
theorem i32 : ItemOk Try.prog (.fn 32 [.d (.agg (.pair (.int .i64) (.pair (.int .i64) (.int .i64)))), .d (.int .i64)] [.d (.agg (.pair (.int .i64) (.pair (.int .i64) (.int .i64))))] s32) := item_fn (U := 9) (n := 4) noSpecial mixed Ga1K10_ok (fun x => by kernel_rfl)
theorem j32 : ItemOk Try.prog (.fn 32 [.d (.agg (.pair (.int .i64) (.pair (.int .i64) (.int .i64)))), .d (.int .i64)] [.d (.agg (.pair (.int .i64) (.pair (.int .i64) (.int .i64))))] (fun x => some (laterOf x.1 x.2))) := item_imp i32 (by
  rintro ⟨p, n⟩ y h
  rw [← h]; rfl)
noncomputable def Ga1K11 : List Ev.Item := .fn 32 [.d (.agg (.pair (.int .i64) (.pair (.int .i64) (.int .i64)))), .d (.int .i64)] [.d (.agg (.pair (.int .i64) (.pair (.int .i64) (.int .i64))))] (fun x => some (laterOf x.1 x.2)) :: Ga1K10
theorem Ga1K11_ok : ∀ q ∈ Ga1K11, ItemOk Try.prog q := items_cons j32 Ga1K10_ok

/-! cassegrain cassegrainbase.Ints -/
@[reducible] def T29_0 : Tmpl := ⟨26, [], [.val 0 (.slice (.int .i64)), .val 1 (.slice (.int .i64)), .val 5 (.int .i64)]⟩
@[reducible] def X29_0 : List (Ex × Tmpl) := [(.ret, ⟨26, [], [.val 4 .bool]⟩), (.exit 0, ⟨26, [], []⟩)]
/-- data: a, b, i; ends: ret: t4; exit 0:  -/
noncomputable def step29_0 : (List Int) × (List Int) × Int → Option (((List Int) × (List Int) × Int) ⊕ ((Bool) ⊕ (Unit))) := fun (a, b, i) =>
  bif decide (i < (a.length : Int)) then
    bif inBounds i a.length then
      bif inBounds i b.length then
        bif (a.getD i.toNat 0) != (b.getD i.toNat 0) then
          some (.inr (.inl false))
        else
          some (.inl (a, b, wr (i + 1)))
      else
        none
    else
      none
  else
    some (.inr (.inr ()))
theorem one29_0 : oneLoop Try.prog 29 0 = true := by kernel_rfl
theorem lp29_0 : ItemOk Try.prog (.loop 29 0 T29_0 X29_0 (loopVal step29_0)) := item_loop (U := 9) (n := 3) noSpecial mixed Ga1K11_ok one29_0 (fun x => by kernel_rfl)
noncomputable def Ga1K12 : List Ev.Item := .loop 29 0 T29_0 X29_0 (loopVal step29_0) :: Ga1K11
theorem Ga1K12_ok : ∀ q ∈ Ga1K12, ItemOk Try.prog q := items_cons lp29_0 Ga1K11_ok
noncomputable def s29 : (List Int) × (List Int) → Option (Bool) := fun (a, b) =>
  bif (a.length : Int) != (b.length : Int) then
    some (false)
  else
    optE (loopVal step29_0 (a, b, 0)) (fun e1 =>
      sumE e1 (fun e2 =>
        some (e2)) (fun _ =>
        some (true)))
      (none)
theorem i29 : ItemOk Try.prog (.fn 29 [.d (.slice (.int .i64)), .d (.slice (.int .i64))] [.d .bool] s29) := item_fn (U := 9) (n := 4) noSpecial mixed Ga1K12_ok (fun x => by kernel_rfl)
noncomputable def same29 : List Int × List Int → Option Bool := fun x => if x.1.length ≤ 1000000 then some (x.1 == x.2) else none
theorem j29 : ItemOk Try.prog (.fn 29 [.d (.slice (.int .i64)), .d (.slice (.int .i64))] [.d .bool] (same29)) := item_imp i29 (by
  rintro ⟨a, b⟩ y h
  unfold same29 at h
  split at h
  · rename_i hl
    rw [← h]
    show s29 (a, b) = some (a == b)
    have hl : a.length ≤ 1000000 := hl
    simp only [s29, ne_cast]
    by_cases he : a.length = b.length
    · have h1 := loop_scan (step := step29_0) (st := fun k => (a, b, (k : Int))) (n := a.length) (hit := fun k => if a.getD k 0 = b.getD k 0 then none else some (Sum.inl false)) (e := Sum.inr ())
        (fun k hk => by
          have hk' : k < b.length := by omega
          simp only [step29_0, lt_cast, inB_cast, hk, hk', decide_true, cond_true, Int.toNat_natCast, wr_succ (show k < 4611686018427387904 by omega)]
          by_cases hg : a.getD k 0 = b.getD k 0
          · rw [hg]; simp
          · simp only [hg, if_false]
            first
              | (rw [bne_iff_ne.2 hg]; rfl)
              | (rw [pair_ne hg]; rfl)) (by simp [step29_0]) a.length 0 (by omega)
      rw [show ((0 : Nat) : Int) = 0 from rfl, scan_same a b 0 he] at h1
      rw [h1]
      by_cases hab : a = b
      · subst hab; simp [optE, sumE]
      · simp [he, optE, sumE, hab]
    · have : a ≠ b := fun e => he (by rw [e])
      simp [he, this]
  · cases h)
noncomputable def Ga1K13 : List Ev.Item := .fn 29 [.d (.slice (.int .i64)), .d (.slice (.int .i64))] [.d .bool] (same29) :: Ga1K12
theorem Ga1K13_ok : ∀ q ∈ Ga1K13, ItemOk Try.prog q := items_cons j29 Ga1K12_ok

/-! cassegrain cassegrainbase.Gausses -/
@[reducible] def T60_0 : Tmpl := ⟨26, [], [.val 0 (.slice (.agg (.pair (.int .i64) (.int .i64)))), .val 1 (.slice (.agg (.pair (.int .i64) (.int .i64)))), .val 5 (.int .i64)]⟩
@[reducible] def X60_0 : List (Ex × Tmpl) := [(.ret, ⟨26, [], [.val 4 .bool]⟩), (.exit 0, ⟨26, [], []⟩)]
/-- data: a, b, i; ends: ret: t4; exit 0:  -/
noncomputable def step60_0 : (List (Int × Int)) × (List (Int × Int)) × Int → Option (((List (Int × Int)) × (List (Int × Int)) × Int) ⊕ ((Bool) ⊕ (Unit))) := fun (a, b, i) =>
  bif decide (i < (a.length : Int)) then
    bif inBounds i a.length then
      bif inBounds i b.length then
        bif !(((a.getD i.toNat (0, 0)).1 == (b.getD i.toNat (0, 0)).1) && (((a.getD i.toNat (0, 0)).2 == (b.getD i.toNat (0, 0)).2) && true)) then
          some (.inr (.inl false))
        else
          some (.inl (a, b, wr (i + 1)))
      else
        none
    else
      none
  else
    some (.inr (.inr ()))
theorem one60_0 : oneLoop Try.prog 60 0 = true := by kernel_rfl
theorem lp60_0 : ItemOk Try.prog (.loop 60 0 T60_0 X60_0 (loopVal step60_0)) := item_loop (U := 9) (n := 3) noSpecial mixed Ga1K13_ok one60_0 (fun x => by kernel_rfl)
noncomputable def Ga1K14 : List Ev.Item := .loop 60 0 T60_0 X60_0 (loopVal step60_0) :: Ga1K13
theorem Ga1K14_ok : ∀ q ∈ Ga1K14, ItemOk Try.prog q := items_cons lp60_0 Ga1K13_ok
noncomputable def s60 : (List (Int × Int)) × (List (Int × Int)) → Option (Bool) := fun (a, b) =>
  bif (a.length : Int) != (b.length : Int) then
    some (false)
  else
    optE (loopVal step60_0 (a, b, 0)) (fun e1 =>
      sumE e1 (fun e2 =>
        some (e2)) (fun _ =>
        some (true)))
      (none)
theorem i60 : ItemOk Try.prog (.fn 60 [.d (.slice (.agg (.pair (.int .i64) (.int .i64)))), .d (.slice (.agg (.pair (.int .i64) (.int .i64))))] [.d .bool] s60) := item_fn (U := 9) (n := 4) noSpecial mixed Ga1K14_ok (fun x => by kernel_rfl)
noncomputable def same60 : List (Int × Int) × List (Int × Int) → Option Bool := fun x => if x.1.length ≤ 1000000 then some (x.1 == x.2) else none
theorem j60 : ItemOk Try.prog (.fn 60 [.d (.slice (.agg (.pair (.int .i64) (.int .i64)))), .d (.slice (.agg (.pair (.int .i64) (.int .i64))))] [.d .bool] (same60)) := item_imp i60 (by
  rintro ⟨a, b⟩ y h
  unfold same60 at h
  split at h
  · rename_i hl
    rw [← h]
    show s60 (a, b) = some (a == b)
    have hl : a.length ≤ 1000000 := hl
    simp only [s60, ne_cast]
    by_cases he : a.length = b.length
    · have h1 := loop_scan (step := step60_0) (st := fun k => (a, b, (k : Int))) (n := a.length) (hit := fun k => if a.getD k (0, 0) = b.getD k (0, 0) then none else some (Sum.inl false)) (e := Sum.inr ())
        (fun k hk => by
          have hk' : k < b.length := by omega
          simp only [step60_0, lt_cast, inB_cast, hk, hk', decide_true, cond_true, Int.toNat_natCast, wr_succ (show k < 4611686018427387904 by omega)]
          by_cases hg : a.getD k (0, 0) = b.getD k (0, 0)
          · rw [hg]; simp
          · simp only [hg, if_false]
            first
              | (rw [bne_iff_ne.2 hg]; rfl)
              | (rw [pair_ne hg]; rfl)) (by simp [step60_0]) a.length 0 (by omega)
      rw [show ((0 : Nat) : Int) = 0 from rfl, scan_same a b (0, 0) he] at h1
      rw [h1]
      by_cases hab : a = b
      · subst hab; simp [optE, sumE]
      · simp [he, optE, sumE, hab]
    · have : a ≠ b := fun e => he (by rw [e])
      simp [he, this]
  · cases h)
noncomputable def Ga1K15 : List Ev.Item := .fn 60 [.d (.slice (.agg (.pair (.int .i64) (.int .i64)))), .d (.slice (.agg (.pair (.int .i64) (.int .i64))))] [.d .bool] (same60) :: Ga1K14
theorem Ga1K15_ok : ∀ q ∈ Ga1K15, ItemOk Try.prog q := items_cons j60 Ga1K14_ok

/-! cassegrain cassegrainbase.Ranges -/
@[reducible] def T125_0 : Tmpl := ⟨26, [], [.val 0 (.slice (.agg (.pair (.int .i64) (.int .i64)))), .val 1 (.slice (.agg (.pair (.int .i64) (.int .i64)))), .val 5 (.int .i64)]⟩
@[reducible] def X125_0 : List (Ex × Tmpl) := [(.ret, ⟨26, [], [.val 4 .bool]⟩), (.exit 0, ⟨26, [], []⟩)]
/-- data: a, b, i; ends: ret: t4; exit 0:  -/
noncomputable def step125_0 : (List (Int × Int)) × (List (Int × Int)) × Int → Option (((List (Int × Int)) × (List (Int × Int)) × Int) ⊕ ((Bool) ⊕ (Unit))) := fun (a, b, i) =>
  bif decide (i < (a.length : Int)) then
    bif inBounds i a.length then
      bif inBounds i b.length then
        bif !(((a.getD i.toNat (0, 0)).1 == (b.getD i.toNat (0, 0)).1) && (((a.getD i.toNat (0, 0)).2 == (b.getD i.toNat (0, 0)).2) && true)) then
          some (.inr (.inl false))
        else
          some (.inl (a, b, wr (i + 1)))
      else
        none
    else
      none
  else
    some (.inr (.inr ()))
theorem one125_0 : oneLoop Try.prog 125 0 = true := by kernel_rfl
theorem lp125_0 : ItemOk Try.prog (.loop 125 0 T125_0 X125_0 (loopVal step125_0)) := item_loop (U := 9) (n := 3) noSpecial mixed Ga1K15_ok one125_0 (fun x => by kernel_rfl)
noncomputable def Ga1K16 : List Ev.Item := .loop 125 0 T125_0 X125_0 (loopVal step125_0) :: Ga1K15
theorem Ga1K16_ok : ∀ q ∈ Ga1K16, ItemOk Try.prog q := items_cons lp125_0 Ga1K15_ok
noncomputable def s125 : (List (Int × Int)) × (List (Int × Int)) → Option (Bool) := fun (a, b) =>
  bif (a.length : Int) != (b.length : Int) then
    some (false)
  else
    optE (loopVal step125_0 (a, b, 0)) (fun e1 =>
      sumE e1 (fun e2 =>
        some (e2)) (fun _ =>
        some (true)))
      (none)
theorem i125 : ItemOk Try.prog (.fn 125 [.d (.slice (.agg (.pair (.int .i64) (.int .i64)))), .d (.slice (.agg (.pair (.int .i64) (.int .i64))))] [.d .bool] s125) := item_fn (U := 9) (n := 4) noSpecial mixed Ga1K16_ok (fun x => by kernel_rfl)
noncomputable def same125 : List (Int × Int) × List (Int × Int) → Option Bool := fun x => if x.1.length ≤ 1000000 then some (x.1 == x.2) else none
theorem j125 : ItemOk Try.prog (.fn 125 [.d (.slice (.agg (.pair (.int .i64) (.int .i64)))), .d (.slice (.agg (.pair (.int .i64) (.int .i64))))] [.d .bool] (same125)) := item_imp i125 (by
  rintro ⟨a, b⟩ y h
  unfold same125 at h
  split at h
  · rename_i hl
    rw [← h]
    show s125 (a, b) = some (a == b)
    have hl : a.length ≤ 1000000 := hl
    simp only [s125, ne_cast]
    by_cases he : a.length = b.length
    · have h1 := loop_scan (step := step125_0) (st := fun k => (a, b, (k : Int))) (n := a.length) (hit := fun k => if a.getD k (0, 0) = b.getD k (0, 0) then none else some (Sum.inl false)) (e := Sum.inr ())
        (fun k hk => by
          have hk' : k < b.length := by omega
          simp only [step125_0, lt_cast, inB_cast, hk, hk', decide_true, cond_true, Int.toNat_natCast, wr_succ (show k < 4611686018427387904 by omega)]
          by_cases hg : a.getD k (0, 0) = b.getD k (0, 0)
          · rw [hg]; simp
          · simp only [hg, if_false]
            first
              | (rw [bne_iff_ne.2 hg]; rfl)
              | (rw [pair_ne hg]; rfl)) (by simp [step125_0]) a.length 0 (by omega)
      rw [show ((0 : Nat) : Int) = 0 from rfl, scan_same a b (0, 0) he] at h1
      rw [h1]
      by_cases hab : a = b
      · subst hab; simp [optE, sumE]
      · simp [he, optE, sumE, hab]
    · have : a ≠ b := fun e => he (by rw [e])
      simp [he, this]
  · cases h)
noncomputable def Ga1K17 : List Ev.Item := .fn 125 [.d (.slice (.agg (.pair (.int .i64) (.int .i64)))), .d (.slice (.agg (.pair (.int .i64) (.int .i64))))] [.d .bool] (same125) :: Ga1K16
theorem Ga1K17_ok : ∀ q ∈ Ga1K17, ItemOk Try.prog q := items_cons j125 Ga1K16_ok
end Go.Proofs.Ytinkhmfciealkaa
