/- Printed by gen.py: specifications of functions. -/
import Derived.Test.YtinkhmfciealkaaGa12
import Derived.Test.YtinkhmfciealkaaPure02c
set_option linter.unusedSimpArgs false
set_option maxRecDepth 100000
namespace Go.Proofs.Ytinkhmfciealkaa
open Go.Ev

/-! cassegrain sample.MinimumNorm -/
noncomputable def s41 : Int × Int → Option (Int × Int) := fun (amplitude, count) =>
  bif !(win amplitude 0 2000) then
    some ((0, 2))
  else
    bif !(win count 0 400) then
      some ((0, 2))
    else
      some ((wr (Int.tdiv (wr ((wr ((wr ((wr (count * count)) * amplitude)) * amplitude)) + 1)) 2), 0))
theorem i41 : ItemOk Try.prog (.fn 41 [.d (.int .i64), .d (.int .i64)] [.d (.int .i64), .d (.int .i64)] s41) := item_fn (U := 9) (n := 4) noSpecial mixed Ga12K1_ok (fun x => by kernel_rfl)
theorem law41 (a : Int) (c : Int) : s41 (a, c) = some (minR a c) := by
  simp only [s41, minR, minV]
  cases win a 0 2000 <;> cases win c 0 400 <;> rfl
theorem j41 : ItemOk Try.prog (.fn 41 [.d (.int .i64), .d (.int .i64)] [.d (.int .i64), .d (.int .i64)] (fun x => some (minR x.1 x.2))) := item_imp i41 (by
  intro x y h
  rw [← h]
  exact law41 x.1 x.2)
noncomputable def Ga13K1 : List Ev.Item := .fn 41 [.d (.int .i64), .d (.int .i64)] [.d (.int .i64), .d (.int .i64)] (fun x => some (minR x.1 x.2)) :: Ga12K1
theorem Ga13K1_ok : ∀ q ∈ Ga13K1, ItemOk Try.prog q := items_cons j41 Ga12K1_ok

/-! cassegrain cassegrainbase.Ceil -/
noncomputable def s104 : Int × Int → Option (Int) := fun (n, by0) =>
  optE (floor97 (wr (-n), by0)) (fun r1 =>
    some (wr (-r1)))
    (none)
theorem i104 : ItemOk Try.prog (.fn 104 [.d (.int .i64), .d (.int .i64)] [.d (.int .i64)] s104) := item_fn (U := 9) (n := 4) noSpecial mixed Ga13K1_ok (fun x => by kernel_rfl)
noncomputable def ceil104 : Int × Int → Option Int := fun x => if 0 < x.2 then some (wr (-(wr (wr (-x.1) / x.2)))) else none
theorem j104 : ItemOk Try.prog (.fn 104 [.d (.int .i64), .d (.int .i64)] [.d (.int .i64)] (ceil104)) := item_imp i104 (by
  rintro ⟨n, m⟩ y h
  unfold ceil104 at h
  split at h
  · rename_i hm
    rw [← h]
    have : floor97 (wr (-n), m) = some (wr (wr (-n) / m)) := if_pos hm
    simp only [s104, this, optE]
  · cases h)
noncomputable def Ga13K2 : List Ev.Item := .fn 104 [.d (.int .i64), .d (.int .i64)] [.d (.int .i64)] (ceil104) :: Ga13K1
theorem Ga13K2_ok : ∀ q ∈ Ga13K2, ItemOk Try.prog q := items_cons j104 Ga13K1_ok

/-! cassegrain cassegrainref02.MinimumNorm -/
noncomputable def s42 : Int × Int → Option (Int) := fun (amplitude, count) =>
  some (wr (-(wr (wr (-(wr ((wr ((wr (count * count)) * amplitude)) * amplitude))) / 2))))
theorem i42 : ItemOk Try.prog (.fn 42 [.d (.int .i64), .d (.int .i64)] [.d (.int .i64)] s42) := item_fn (U := 9) (n := 4) noSpecial mixed Ga13K2_ok (fun x => by kernel_rfl)
noncomputable def Ga13K3 : List Ev.Item := .fn 42 [.d (.int .i64), .d (.int .i64)] [.d (.int .i64)] s42 :: Ga13K2
theorem Ga13K3_ok : ∀ q ∈ Ga13K3, ItemOk Try.prog q := items_cons i42 Ga13K2_ok

/-! cassegrain cassegrainlaw02.SampleHidden -/
@[reducible] def T6_0 : Tmpl := ⟨128, [], [.val 2 (.int .i64), .val 7 (.int .i64), .val 9 (.slice (.agg (.pair (.int .i64) (.int .i64)))), .val 11 (.int .i64)]⟩
@[reducible] def X6_0 : List (Ex × Tmpl) := [(.ret, ⟨128, [], [.val 6 .bool]⟩), (.exit 0, ⟨128, [], [.val 7 (.int .i64), .val 9 (.slice (.agg (.pair (.int .i64) (.int .i64))))]⟩)]
/-- data: t2, t7, t9, t11; ends: ret: t6; exit 0: t7, t9 -/
noncomputable def step6_0 : Int × Int × (List (Int × Int)) × Int → Option ((Int × Int × (List (Int × Int)) × Int) ⊕ ((Bool) ⊕ (Int × (List (Int × Int))))) := fun (t2, t7, t9, t11) =>
  bif decide (t11 < (t9.length : Int)) then
    bif inBounds t11 t9.length then
      bif inBounds t11 t9.length then
        bif decide ((t9.getD t11.toNat (0, 0)).1 < (sizeW (t9.getD t11.toNat (0, 0)).2)) then
          some (.inr (.inl true))
        else
          bif inBounds t11 t9.length then
            bif decide ((normW (t9.getD t11.toNat (0, 0))) < (wr (t2 * t2))) then
              some (.inr (.inl true))
            else
              some (.inl (t2, t7, t9, wr (t11 + 1)))
          else
            none
      else
        none
    else
      none
  else
    some (.inr (.inr (t7, t9)))
theorem one6_0 : oneLoop Try.prog 6 0 = true := by kernel_rfl
theorem lp6_0 : ItemOk Try.prog (.loop 6 0 T6_0 X6_0 (loopVal step6_0)) := item_loop (U := 9) (n := 3) noSpecial mixed Ga13K3_ok one6_0 (fun x => by kernel_rfl)
noncomputable def Ga13K4 : List Ev.Item := .loop 6 0 T6_0 X6_0 (loopVal step6_0) :: Ga13K3
theorem Ga13K4_ok : ∀ q ∈ Ga13K4, ItemOk Try.prog q := items_cons lp6_0 Ga13K3_ok
noncomputable def s6 : (Int × Int × Int) × (List (Int × Int)) × Int → Option (Bool) := fun (a0, a1, a2) =>
  bif !true then
    some (false)
  else
    bif !(win a2 0 2000) then
      bif (minR a2 (a1.length : Int)).2 == 2 then
        some ((minR a2 (a1.length : Int)).1 == 0)
      else
        some (false)
    else
      bif decide ((a1.length : Int) > 400) then
        bif (minR a2 (a1.length : Int)).2 == 2 then
          some ((minR a2 (a1.length : Int)).1 == 0)
        else
          some (false)
      else
        bif (minR a2 (a1.length : Int)).2 != 0 then
          some (false)
        else
          optE (s42 (a2, (a1.length : Int))) (fun r1 =>
            bif (minR a2 (a1.length : Int)).1 != r1 then
              some (false)
            else
              bif decide ((a1.length : Int) > 60) then
                some (true)
              else
                bif (progE a0) != 0 then
                  some (true)
                else
                  bif (smpE a1) != 0 then
                    some (true)
                  else
                    optE (p45 a1) (fun r2 =>
                      optE (p44 (a0, r2)) (fun r3 =>
                        bif r3.2 != 0 then
                          some (false)
                        else
                          bif (r3.1.length : Int) != (a1.length : Int) then
                            some (false)
                          else
                            bif (smpE r3.1) != 0 then
                              some (false)
                            else
                              optE (loopVal step6_0 (a2, (minR a2 (a1.length : Int)).1, r3.1, 0)) (fun e4 =>
                                sumE e4 (fun e5 =>
                                  some (e5)) (fun e6 =>
                                  optE (p48 (e6.2, 0)) (fun r7 =>
                                    bif r7.2 == 0 then
                                      bif (gErr 120000 r7.1) == 0 then
                                        some (decide ((normW r7.1) ≥ e6.1))
                                      else
                                        some (false)
                                    else
                                      some (false))
                                    (none)))
                                (none))
                        (none))
                      (none))
            (none)
theorem i6 : ItemOk Try.prog (.fn 6 [.d (.agg (.pair (.int .i64) (.pair (.int .i64) (.int .i64)))), .d (.slice (.agg (.pair (.int .i64) (.int .i64)))), .d (.int .i64)] [.d .bool] s6) := item_fn (U := 9) (n := 4) noSpecial mixed Ga13K4_ok (fun x => by kernel_rfl)
noncomputable def Ga13K5 : List Ev.Item := .fn 6 [.d (.agg (.pair (.int .i64) (.pair (.int .i64) (.int .i64)))), .d (.slice (.agg (.pair (.int .i64) (.int .i64)))), .d (.int .i64)] [.d .bool] s6 :: Ga13K4
theorem Ga13K5_ok : ∀ q ∈ Ga13K5, ItemOk Try.prog q := items_cons i6 Ga13K4_ok
end Go.Proofs.Ytinkhmfciealkaa
