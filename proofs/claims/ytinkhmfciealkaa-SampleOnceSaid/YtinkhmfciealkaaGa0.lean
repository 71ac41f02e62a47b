/- Printed by gen.py: specifications of functions. -/
import Derived.Test.YtinkhmfciealkaaLoops
set_option linter.unusedSimpArgs false
set_option maxRecDepth 100000
namespace Go.Proofs.Ytinkhmfciealkaa
open Go.Ev

/-! cassegrain sample.within -/
noncomputable def s87 : Int × Int × Int → Option (Bool) := fun (n, lo, hi) =>
  bif decide (lo ≤ n) then
    some (decide (n ≤ hi))
  else
    some (false)
theorem i87 : ItemOk Try.prog (.fn 87 [.d (.int .i64), .d (.int .i64), .d (.int .i64)] [.d .bool] s87) := item_fn (U := 9) (n := 4) noSpecial mixed items_nil (fun x => by kernel_rfl)
theorem j87 : ItemOk Try.prog (.fn 87 [.d (.int .i64), .d (.int .i64), .d (.int .i64)] [.d .bool] (fun x => some (win x.1 x.2.1 x.2.2))) := item_imp i87 (by
  rintro ⟨n, lo, hi⟩ y h
  rw [← h]; show s87 (n, lo, hi) = some (win n lo hi); simp only [s87, win]; cases decide (lo ≤ n) <;> rfl)
noncomputable def Ga0K1 : List Ev.Item := .fn 87 [.d (.int .i64), .d (.int .i64), .d (.int .i64)] [.d .bool] (fun x => some (win x.1 x.2.1 x.2.2)) :: ([] : List Ev.Item)
theorem Ga0K1_ok : ∀ q ∈ Ga0K1, ItemOk Try.prog q := items_cons j87 items_nil

/-! cassegrain sample.isPart -/
noncomputable def s108 : (Int × Int) × Int → Option (Bool) := fun (g, most) =>
  bif win g.1 (wr (-most)) most then
    some (win g.2 (wr (-most)) most)
  else
    some (false)
theorem i108 : ItemOk Try.prog (.fn 108 [.d (.agg (.pair (.int .i64) (.int .i64))), .d (.int .i64)] [.d .bool] s108) := item_fn (U := 9) (n := 4) noSpecial mixed Ga0K1_ok (fun x => by kernel_rfl)
theorem j108 : ItemOk Try.prog (.fn 108 [.d (.agg (.pair (.int .i64) (.int .i64))), .d (.int .i64)] [.d .bool] (fun x => some (okG x.2 x.1))) := item_imp i108 (by
  rintro ⟨g, m⟩ y h
  rw [← h]; show s108 (g, m) = some (okG m g); simp only [s108, okG]; cases win g.1 (wr (-m)) m <;> rfl)
noncomputable def Ga0K2 : List Ev.Item := .fn 108 [.d (.agg (.pair (.int .i64) (.int .i64))), .d (.int .i64)] [.d .bool] (fun x => some (okG x.2 x.1)) :: Ga0K1
theorem Ga0K2_ok : ∀ q ∈ Ga0K2, ItemOk Try.prog q := items_cons j108 Ga0K1_ok

/-! cassegrain sample.isSample -/
noncomputable def s89 : Int × Int → Option (Bool) := fun g =>
  some (okG 2000 g)
theorem i89 : ItemOk Try.prog (.fn 89 [.d (.agg (.pair (.int .i64) (.int .i64)))] [.d .bool] s89) := item_fn (U := 9) (n := 4) noSpecial mixed Ga0K2_ok (fun x => by kernel_rfl)
theorem j89 : ItemOk Try.prog (.fn 89 [.d (.agg (.pair (.int .i64) (.int .i64)))] [.d .bool] (fun x => some (okG 2000 x))) := item_imp i89 (by
  intro g y h
  rw [← h]; rfl)
noncomputable def Ga0K3 : List Ev.Item := .fn 89 [.d (.agg (.pair (.int .i64) (.int .i64)))] [.d .bool] (fun x => some (okG 2000 x)) :: Ga0K2
theorem Ga0K3_ok : ∀ q ∈ Ga0K3, ItemOk Try.prog q := items_cons j89 Ga0K2_ok

/-! cassegrain cassegrainbase.Within -/
noncomputable def s21 : Int × Int × Int → Option (Bool) := fun (n, lo, hi) =>
  bif decide (lo ≤ n) then
    some (decide (n ≤ hi))
  else
    some (false)
theorem i21 : ItemOk Try.prog (.fn 21 [.d (.int .i64), .d (.int .i64), .d (.int .i64)] [.d .bool] s21) := item_fn (U := 9) (n := 4) noSpecial mixed Ga0K3_ok (fun x => by kernel_rfl)
theorem j21 : ItemOk Try.prog (.fn 21 [.d (.int .i64), .d (.int .i64), .d (.int .i64)] [.d .bool] (fun x => some (win x.1 x.2.1 x.2.2))) := item_imp i21 (by
  rintro ⟨n, lo, hi⟩ y h
  rw [← h]; show s21 (n, lo, hi) = some (win n lo hi); simp only [s21, win]; cases decide (lo ≤ n) <;> rfl)
noncomputable def Ga0K4 : List Ev.Item := .fn 21 [.d (.int .i64), .d (.int .i64), .d (.int .i64)] [.d .bool] (fun x => some (win x.1 x.2.1 x.2.2)) :: Ga0K3
theorem Ga0K4_ok : ∀ q ∈ Ga0K4, ItemOk Try.prog q := items_cons j21 Ga0K3_ok

/-! cassegrain sample.first -/
@[reducible] def T91_0 : Tmpl := ⟨15, [], [.val 5 (.slice (.int .i64)), .val 6 (.int .i64), .val 7 (.int .i64)]⟩
@[reducible] def X91_0 : List (Ex × Tmpl) := [(.ret, ⟨15, [], [.val 2 (.int .i64)]⟩), (.exit 0, ⟨15, [], []⟩)]
/-- data: t5, t6, t7; ends: ret: t2; exit 0:  -/
noncomputable def step91_0 : (List Int) × Int × Int → Option (((List Int) × Int × Int) ⊕ ((Int) ⊕ (Unit))) := fun (t5, t6, t7) =>
  bif decide (t7 < t6) then
    bif inBounds t7 t5.length then
      bif (t5.getD t7.toNat 0) != 0 then
        some (.inr (.inl (t5.getD t7.toNat 0)))
      else
        some (.inl (t5, t6, wr (t7 + 1)))
    else
      none
  else
    some (.inr (.inr ()))
theorem one91_0 : oneLoop Try.prog 91 0 = true := by kernel_rfl
theorem lp91_0 : ItemOk Try.prog (.loop 91 0 T91_0 X91_0 (loopVal step91_0)) := item_loop (U := 9) (n := 3) noSpecial mixed Ga0K4_ok one91_0 (fun x => by kernel_rfl)
noncomputable def Ga0K5 : List Ev.Item := .loop 91 0 T91_0 X91_0 (loopVal step91_0) :: Ga0K4
theorem Ga0K5_ok : ∀ q ∈ Ga0K5, ItemOk Try.prog q := items_cons lp91_0 Ga0K4_ok
noncomputable def s91 : List Int → Option (Int) := fun l =>
  optE (loopVal step91_0 (l, (l.length : Int), 0)) (fun e1 =>
    sumE e1 (fun e2 =>
      some (e2)) (fun _ =>
      some (0)))
    (none)
theorem i91 : ItemOk Try.prog (.fn 91 [.d (.slice (.int .i64))] [.d (.int .i64)] s91) := item_fn (U := 9) (n := 4) noSpecial mixed Ga0K5_ok (fun x => by kernel_rfl)
noncomputable def first91 : List Int → Option Int := fun l => if l.length ≤ 1000000 then some (firstE l) else none
theorem j91 : ItemOk Try.prog (.fn 91 [.d (.slice (.int .i64))] [.d (.int .i64)] (first91)) := item_imp i91 (by
  intro l y h
  unfold first91 at h
  split at h
  · rename_i hl
    rw [← h]
    unfold s91
    have h1 := loop_scan (step := step91_0) (st := fun k => (l, (l.length : Int), (k : Int))) (n := l.length) (hit := fun k => bif l.getD k 0 != 0 then some (Sum.inl (l.getD k 0)) else none) (e := Sum.inr ())
      (fun k hk => by
        simp only [step91_0, lt_cast, inB_cast, hk, decide_true, cond_true, Int.toNat_natCast, wr_succ (show k < 4611686018427387904 by omega)]
        cases (l.getD k 0 != 0) <;> rfl) (by simp [step91_0]) l.length 0 (by omega)
    have h2 := scan_list0 (fun x => bif x != 0 then some (Sum.inl x) else none) (Sum.inr () : Int ⊕ Unit) l 0
    rw [h2, scanL_first] at h1
    rw [show ((0 : Nat) : Int) = 0 from rfl] at h1
    rw [h1]
    cases hf : firstE l != 0
    · have : firstE l = 0 := by simpa using hf
      simp [optE, sumE, this]
    · simp [optE, sumE]
  · cases h)
noncomputable def Ga0K6 : List Ev.Item := .fn 91 [.d (.slice (.int .i64))] [.d (.int .i64)] (first91) :: Ga0K5
theorem Ga0K6_ok : ∀ q ∈ Ga0K6, ItemOk Try.prog q := items_cons j91 Ga0K5_ok

/-! cassegrain sample.unless -/
noncomputable def s90 : Bool × Int → Option (Int) := fun (is, e0) =>
  bif is then
    some (0)
  else
    some (e0)
theorem i90 : ItemOk Try.prog (.fn 90 [.d .bool, .d (.int .i64)] [.d (.int .i64)] s90) := item_fn (U := 9) (n := 4) noSpecial mixed Ga0K6_ok (fun x => by kernel_rfl)
theorem j90 : ItemOk Try.prog (.fn 90 [.d .bool, .d (.int .i64)] [.d (.int .i64)] (fun x => some (unl x.1 x.2))) := item_imp i90 (by
  rintro ⟨b, e⟩ y h
  rw [← h]; show s90 (b, e) = some (unl b e); simp only [s90, unl]; cases b <;> rfl)
noncomputable def Ga0K7 : List Ev.Item := .fn 90 [.d .bool, .d (.int .i64)] [.d (.int .i64)] (fun x => some (unl x.1 x.2)) :: Ga0K6
theorem Ga0K7_ok : ∀ q ∈ Ga0K7, ItemOk Try.prog q := items_cons j90 Ga0K6_ok

/-! cassegrain sample.quarterErr -/
noncomputable def s99 : Int → Option (Int) := fun n =>
  some (unl (win n 0 3) 2)
theorem i99 : ItemOk Try.prog (.fn 99 [.d (.int .i64)] [.d (.int .i64)] s99) := item_fn (U := 9) (n := 4) noSpecial mixed Ga0K7_ok (fun x => by kernel_rfl)
theorem j99 : ItemOk Try.prog (.fn 99 [.d (.int .i64)] [.d (.int .i64)] (fun x => some (unl (win x 0 3) 2))) := item_imp i99 (by
  intro n y h
  rw [← h]; rfl)
noncomputable def Ga0K8 : List Ev.Item := .fn 99 [.d (.int .i64)] [.d (.int .i64)] (fun x => some (unl (win x 0 3) 2)) :: Ga0K7
theorem Ga0K8_ok : ∀ q ∈ Ga0K8, ItemOk Try.prog q := items_cons j99 Ga0K7_ok

/-! cassegrain sample.indexErr -/
noncomputable def s92 : Int → Option (Int) := fun n =>
  some (unl (win n 0 1000000) 2)
theorem i92 : ItemOk Try.prog (.fn 92 [.d (.int .i64)] [.d (.int .i64)] s92) := item_fn (U := 9) (n := 4) noSpecial mixed Ga0K8_ok (fun x => by kernel_rfl)
theorem j92 : ItemOk Try.prog (.fn 92 [.d (.int .i64)] [.d (.int .i64)] (fun x => some (unl (win x 0 1000000) 2))) := item_imp i92 (by
  intro n y h
  rw [← h]; rfl)
noncomputable def Ga0K9 : List Ev.Item := .fn 92 [.d (.int .i64)] [.d (.int .i64)] (fun x => some (unl (win x 0 1000000) 2)) :: Ga0K8
theorem Ga0K9_ok : ∀ q ∈ Ga0K9, ItemOk Try.prog q := items_cons j92 Ga0K8_ok

/-! cassegrain cassegrainref02.QuarterErr -/
noncomputable def s38 : Int → Option (Int) := fun n =>
  bif !(win n 0 3) then
    some (2)
  else
    some (0)
theorem i38 : ItemOk Try.prog (.fn 38 [.d (.int .i64)] [.d (.int .i64)] s38) := item_fn (U := 9) (n := 4) noSpecial mixed Ga0K9_ok (fun x => by kernel_rfl)
theorem j38 : ItemOk Try.prog (.fn 38 [.d (.int .i64)] [.d (.int .i64)] (fun x => some (unl (win x 0 3) 2))) := item_imp i38 (by
  intro n y h
  rw [← h]; show s38 n = some (unl (win n 0 3) 2); simp only [s38, unl]; cases win n 0 3 <;> rfl)
noncomputable def Ga0K10 : List Ev.Item := .fn 38 [.d (.int .i64)] [.d (.int .i64)] (fun x => some (unl (win x 0 3) 2)) :: Ga0K9
theorem Ga0K10_ok : ∀ q ∈ Ga0K10, ItemOk Try.prog q := items_cons j38 Ga0K9_ok

/-! cassegrain cassegrainref02.IndexErr -/
noncomputable def s30 : Int → Option (Int) := fun n =>
  bif !(win n 0 1000000) then
    some (2)
  else
    some (0)
theorem i30 : ItemOk Try.prog (.fn 30 [.d (.int .i64)] [.d (.int .i64)] s30) := item_fn (U := 9) (n := 4) noSpecial mixed Ga0K10_ok (fun x => by kernel_rfl)
theorem j30 : ItemOk Try.prog (.fn 30 [.d (.int .i64)] [.d (.int .i64)] (fun x => some (unl (win x 0 1000000) 2))) := item_imp i30 (by
  intro n y h
  rw [← h]; show s30 n = some (unl (win n 0 1000000) 2); simp only [s30, unl]; cases win n 0 1000000 <;> rfl)
noncomputable def Ga0K11 : List Ev.Item := .fn 30 [.d (.int .i64)] [.d (.int .i64)] (fun x => some (unl (win x 0 1000000) 2)) :: Ga0K10
theorem Ga0K11_ok : ∀ q ∈ Ga0K11, ItemOk Try.prog q := items_cons j30 Ga0K10_ok

/-! cassegrain cassegrainref02.GaussErr -/
noncomputable def s49 : (Int × Int) × Int → Option (Int) := fun (g, most) =>
  bif !(win g.1 (wr (-most)) most) then
    some (2)
  else
    bif !(win g.2 (wr (-most)) most) then
      some (2)
    else
      some (0)
theorem i49 : ItemOk Try.prog (.fn 49 [.d (.agg (.pair (.int .i64) (.int .i64))), .d (.int .i64)] [.d (.int .i64)] s49) := item_fn (U := 9) (n := 4) noSpecial mixed Ga0K11_ok (fun x => by kernel_rfl)
theorem j49 : ItemOk Try.prog (.fn 49 [.d (.agg (.pair (.int .i64) (.int .i64))), .d (.int .i64)] [.d (.int .i64)] (fun x => some (gErr x.2 x.1))) := item_imp i49 (by
  rintro ⟨g, m⟩ y h
  rw [← h]; show s49 (g, m) = some (gErr m g); simp only [s49, gErr, okG]; cases win g.1 (wr (-m)) m <;> cases win g.2 (wr (-m)) m <;> rfl)
noncomputable def Ga0K12 : List Ev.Item := .fn 49 [.d (.agg (.pair (.int .i64) (.int .i64))), .d (.int .i64)] [.d (.int .i64)] (fun x => some (gErr x.2 x.1)) :: Ga0K11
theorem Ga0K12_ok : ∀ q ∈ Ga0K12, ItemOk Try.prog q := items_cons j49 Ga0K11_ok

/-! cassegrain sample.samplesErr$1 -/
noncomputable def s132 : Int × Int → Option (Bool) := fun g =>
  some (!(okG 2000 g))
theorem i132 : ItemOk Try.prog (.fn 132 [.d (.agg (.pair (.int .i64) (.int .i64)))] [.d .bool] s132) := item_fn (U := 9) (n := 4) noSpecial mixed Ga0K12_ok (fun x => by kernel_rfl)
theorem j132 : ItemOk Try.prog (.fn 132 [.d (.agg (.pair (.int .i64) (.int .i64)))] [.d .bool] (fun x => some (!(okG 2000 x)))) := item_imp i132 (by
  intro g y h
  rw [← h]; rfl)
noncomputable def Ga0K13 : List Ev.Item := .fn 132 [.d (.agg (.pair (.int .i64) (.int .i64)))] [.d .bool] (fun x => some (!(okG 2000 x))) :: Ga0K12
theorem Ga0K13_ok : ∀ q ∈ Ga0K13, ItemOk Try.prog q := items_cons j132 Ga0K12_ok
end Go.Proofs.Ytinkhmfciealkaa
