/- Printed by gen.py: specifications of functions. -/
import Derived.Test.YtinkhmfciealkaaGa1
set_option linter.unusedSimpArgs false
set_option maxRecDepth 100000
namespace Go.Proofs.Ytinkhmfciealkaa
open Go.Ev

/-! cassegrain cassegrainlaw02.awake -/
theorem i17 : ItemOk Try.prog (.fn 17 [] [.d .bool] (fun _ => some true)) := item_fn (U := 64) (n := 12) noSpecial mixed items_nil (fun x => by kernel_rfl)
noncomputable def Ga2K1 : List Ev.Item := .fn 17 [] [.d .bool] (fun _ => some true) :: Ga1K17
theorem Ga2K1_ok : ∀ q ∈ Ga2K1, ItemOk Try.prog q := items_cons i17 Ga1K17_ok

/-! cassegrain sample.PhaseAt -/
noncomputable def s23 : (Int × Int × Int) × Int → Option (Int × Int) := fun (p, index) =>
  bif (firstE [progE p, unl (win index 0 1000000) 2]) != 0 then
    some ((0, firstE [progE p, unl (win index 0 1000000) 2]))
  else
    some ((phaseOf p index, 0))
theorem i23 : ItemOk Try.prog (.fn 23 [.d (.agg (.pair (.int .i64) (.pair (.int .i64) (.int .i64)))), .d (.int .i64)] [.d (.int .i64), .d (.int .i64)] s23) := item_fn (U := 9) (n := 4) noSpecial mixed Ga2K1_ok (fun x => by kernel_rfl)
theorem j23 : ItemOk Try.prog (.fn 23 [.d (.agg (.pair (.int .i64) (.pair (.int .i64) (.int .i64)))), .d (.int .i64)] [.d (.int .i64), .d (.int .i64)] (fun x => some (orE (firstE [progE x.1, unl (win x.2 0 1000000) 2]) 0 (phaseOf x.1 x.2)))) := item_imp i23 (by
  rintro ⟨p, n⟩ y h
  rw [← h]; show s23 (p, n) = _; simp only [s23, orE]; cases firstE [progE p, unl (win n 0 1000000) 2] != 0 <;> rfl)
noncomputable def Ga2K2 : List Ev.Item := .fn 23 [.d (.agg (.pair (.int .i64) (.pair (.int .i64) (.int .i64)))), .d (.int .i64)] [.d (.int .i64), .d (.int .i64)] (fun x => some (orE (firstE [progE x.1, unl (win x.2 0 1000000) 2]) 0 (phaseOf x.1 x.2))) :: Ga2K1
theorem Ga2K2_ok : ∀ q ∈ Ga2K2, ItemOk Try.prog q := items_cons j23 Ga2K1_ok

/-! cassegrain sample.Advanced -/
noncomputable def s24 : (Int × Int × Int) × Int → Option ((Int × Int × Int) × Int) := fun (p, index) =>
  bif (firstE [progE p, unl (win index 0 1000000) 2]) != 0 then
    some (((0, 0, 0), firstE [progE p, unl (win index 0 1000000) 2]))
  else
    some (((phaseOf p index, (wr (p.2.1 + (wr (index * p.2.2)))) % 4096, p.2.2), 0))
theorem i24 : ItemOk Try.prog (.fn 24 [.d (.agg (.pair (.int .i64) (.pair (.int .i64) (.int .i64)))), .d (.int .i64)] [.d (.agg (.pair (.int .i64) (.pair (.int .i64) (.int .i64)))), .d (.int .i64)] s24) := item_fn (U := 9) (n := 4) noSpecial mixed Ga2K2_ok (fun x => by kernel_rfl)
theorem j24 : ItemOk Try.prog (.fn 24 [.d (.agg (.pair (.int .i64) (.pair (.int .i64) (.int .i64)))), .d (.int .i64)] [.d (.agg (.pair (.int .i64) (.pair (.int .i64) (.int .i64)))), .d (.int .i64)] (fun x => some (orE (firstE [progE x.1, unl (win x.2 0 1000000) 2]) (0, 0, 0) (laterOf x.1 x.2)))) := item_imp i24 (by
  rintro ⟨p, n⟩ y h
  rw [← h]; show s24 (p, n) = _; simp only [s24, orE, laterOf]; cases firstE [progE p, unl (win n 0 1000000) 2] != 0 <;> rfl)
noncomputable def Ga2K3 : List Ev.Item := .fn 24 [.d (.agg (.pair (.int .i64) (.pair (.int .i64) (.int .i64)))), .d (.int .i64)] [.d (.agg (.pair (.int .i64) (.pair (.int .i64) (.int .i64)))), .d (.int .i64)] (fun x => some (orE (firstE [progE x.1, unl (win x.2 0 1000000) 2]) (0, 0, 0) (laterOf x.1 x.2))) :: Ga2K2
theorem Ga2K3_ok : ∀ q ∈ Ga2K3, ItemOk Try.prog q := items_cons j24 Ga2K2_ok

/-! cassegrain sample.TurnsOf -/
@[reducible] def T25_0 : Tmpl := ⟨31, [(2, .ref 2 0 0 0)], [.own 7 28 3 (.int .i64), .val 19 (.int .i64), .val 20 (.int .i64), .cells 2 [.d (.pair (.int .i64) (.pair (.int .i64) (.int .i64)))]]⟩
@[reducible] def X25_0 : List (Ex × Tmpl) := [(.exit 0, ⟨31, [], [.own 7 28 3 (.int .i64)]⟩)]
/-- data: out, t19, t20, p; ends: exit 0: out -/
noncomputable def step25_0 : (List Int) × Int × Int × (Int × Int × Int) → Option (((List Int) × Int × Int × (Int × Int × Int)) ⊕ (List Int)) := fun (out, t19, t20, p) =>
  bif decide (t20 < t19) then
    bif room 8 (out.length + 1) then
      some (.inl (out ++ [turnOf p t20], t19, wr (t20 + 1), p))
    else
      none
  else
    some (.inr out)
theorem one25_0 : oneLoop Try.prog 25 0 = true := by kernel_rfl
theorem lp25_0 : ItemOk Try.prog (.loop 25 0 T25_0 X25_0 (loopVal step25_0)) := item_loop (U := 9) (n := 3) noSpecial mixed Ga2K3_ok one25_0 (fun x => by kernel_rfl)
noncomputable def Ga2K4 : List Ev.Item := .loop 25 0 T25_0 X25_0 (loopVal step25_0) :: Ga2K3
theorem Ga2K4_ok : ∀ q ∈ Ga2K4, ItemOk Try.prog q := items_cons lp25_0 Ga2K3_ok
noncomputable def s25 : (Int × Int × Int) × Int → Option ((List Int) × Int) := fun (p, count) =>
  bif (firstE [progE p, unl (win count 0 400) 2]) != 0 then
    some (([], firstE [progE p, unl (win count 0 400) 2]))
  else
    optE (loopVal step25_0 ([], count, 0, p)) (fun e1 =>
      some ((e1, 0)))
      (none)
theorem i25 : ItemOk Try.prog (.fn 25 [.d (.agg (.pair (.int .i64) (.pair (.int .i64) (.int .i64)))), .d (.int .i64)] [.own 3 (.int .i64), .d (.int .i64)] s25) := item_fn (U := 9) (n := 4) noSpecial mixed Ga2K4_ok (fun x => by kernel_rfl)
theorem law25 (p : Int × Int × Int) (c : Int) : s25 (p, c) = some (orE (firstE [progE p, unl (win c 0 400) 2]) [] (turnsOf p c)) := by
  simp only [s25, orE]
  cases hf : firstE [progE p, unl (win c 0 400) 2] != 0
  · have hw := win_iff.1 (unl_zero (by decide) ((firstE_zero.1 (bne_eq_false_iff_eq.1 hf)) (unl (win c 0 400) 2) (by simp)))
    have h1 := loop_for (step := step25_0) (st := fun k => ((List.range k).map (fun j : Nat => turnOf p j), c, (k : Int), p)) (n := c.toNat) (e := turnsOf p c)
      (fun k hk => by
        simp only [step25_0]
        rw [decide_eq_true (by omega), room_true (by simp; omega) (by simp; omega), wr_succ (by omega)]
        simp only [cond_true, range_map_succ (fun j : Nat => turnOf p j)]) (by simp only [step25_0, turnsOf]; rw [decide_eq_false (by omega)]; rfl) 0 (by omega)
    rw [show ((0 : Nat) : Int) = 0 from rfl] at h1
    simp only [List.range_zero, List.map_nil] at h1
    simp only [cond_false, h1, optE]
  · rfl
theorem j25 : ItemOk Try.prog (.fn 25 [.d (.agg (.pair (.int .i64) (.pair (.int .i64) (.int .i64)))), .d (.int .i64)] [.own 3 (.int .i64), .d (.int .i64)] (fun x => some (orE (firstE [progE x.1, unl (win x.2 0 400) 2]) [] (turnsOf x.1 x.2)))) := item_imp i25 (by
  intro x y h
  rw [← h]
  exact law25 x.1 x.2)
noncomputable def Ga2K5 : List Ev.Item := .fn 25 [.d (.agg (.pair (.int .i64) (.pair (.int .i64) (.int .i64)))), .d (.int .i64)] [.own 3 (.int .i64), .d (.int .i64)] (fun x => some (orE (firstE [progE x.1, unl (win x.2 0 400) 2]) [] (turnsOf x.1 x.2))) :: Ga2K4
theorem Ga2K5_ok : ∀ q ∈ Ga2K5, ItemOk Try.prog q := items_cons j25 Ga2K4_ok

/-! cassegrain cassegrainlaw02.SamplePrograms -/
@[reducible] def T4_0 : Tmpl := ⟨130, [(3, .ref 3 0 0 0), (9, .ref 9 0 0 0)], [.val 1 (.int .i64), .val 2 (.int .i64), .val 7 (.int .i64), .val 8 (.int .i64), .val 10 (.int .i64), .own 11 35 3 (.int .i64), .val 12 (.int .i64), .val 13 (.int .i64), .own 14 70 3 (.int .i64), .val 15 (.int .i64), .cells 3 [.d (.pair (.int .i64) (.pair (.int .i64) (.int .i64)))], .cells 9 [.d (.pair (.int .i64) (.pair (.int .i64) (.int .i64)))]]⟩
@[reducible] def X4_0 : List (Ex × Tmpl) := [(.exit 0, ⟨130, [(3, .ref 3 0 0 0), (9, .ref 9 0 0 0)], [.val 1 (.int .i64), .val 7 (.int .i64), .val 8 (.int .i64), .val 10 (.int .i64), .own 11 35 3 (.int .i64), .val 12 (.int .i64), .val 13 (.int .i64), .own 14 70 3 (.int .i64), .cells 3 [.d (.pair (.int .i64) (.pair (.int .i64) (.int .i64)))], .cells 9 [.d (.pair (.int .i64) (.pair (.int .i64) (.int .i64)))]]⟩)]
/-- data: t1, t2, t7, t8, t10, t11, t12, t13, t14, t15, t3, t9; ends: exit 0: t1, t7, t8, t10, t11, t12, t13, t14, t3, t9 -/
noncomputable def step4_0 : Int × Int × Int × Int × Int × (List Int) × Int × Int × (List Int) × Int × (Int × Int × Int) × (Int × Int × Int) → Option ((Int × Int × Int × Int × Int × (List Int) × Int × Int × (List Int) × Int × (Int × Int × Int) × (Int × Int × Int)) ⊕ (Int × Int × Int × Int × (List Int) × Int × Int × (List Int) × (Int × Int × Int) × (Int × Int × Int))) := fun (t1, t2, t7, t8, t10, t11, t12, t13, t14, t15, t3, t9) =>
  bif decide (t15 < t2) then
    bif room 8 (t14.length + 1) then
      some (.inl (t1, t2, t7, t8, t10, t11, t12, t13, t14 ++ [turnOf t3 t15], wr (t15 + 1), t3, t9))
    else
      none
  else
    some (.inr (t1, t7, t8, t10, t11, t12, t13, t14, t3, t9))
theorem one4_0 : oneLoop Try.prog 4 0 = true := by kernel_rfl
theorem lp4_0 : ItemOk Try.prog (.loop 4 0 T4_0 X4_0 (loopVal step4_0)) := item_loop (U := 9) (n := 3) noSpecial mixed Ga2K5_ok one4_0 (fun x => by kernel_rfl)
noncomputable def Ga2K6 : List Ev.Item := .loop 4 0 T4_0 X4_0 (loopVal step4_0) :: Ga2K5
theorem Ga2K6_ok : ∀ q ∈ Ga2K6, ItemOk Try.prog q := items_cons lp4_0 Ga2K5_ok
noncomputable def s4 : (Int × Int × Int) × Int × Int → Option (Bool) := fun (a0, a1, a2) =>
  bif !true then
    some (false)
  else
    bif win a2 61 400 then
      some (true)
    else
      bif (progE a0) != (progE a0) then
        some (false)
      else
        bif (progE a0) == 0 then
          bif !(win a2 0 400) then
            bif (orE (firstE [progE a0, unl (win a2 0 400) 2]) [] (turnsOf a0 a2)).2 != 2 then
              some (false)
            else
              bif ((orE (firstE [progE a0, unl (win a2 0 400) 2]) [] (turnsOf a0 a2)).1.length : Int) != 0 then
                some (false)
              else
                bif (progE a0) == 0 then
                  bif (unl (win a1 0 1000000) 2) != 0 then
                    bif (orE (firstE [progE a0, unl (win a1 0 1000000) 2]) 0 (phaseOf a0 a1)).2 == (unl (win a1 0 1000000) 2) then
                      bif (orE (firstE [progE a0, unl (win a1 0 1000000) 2]) (0, 0, 0) (laterOf a0 a1)).2 == (unl (win a1 0 1000000) 2) then
                        bif (orE (firstE [progE a0, unl (win a1 0 1000000) 2]) 0 (phaseOf a0 a1)).1 == 0 then
                          some (((orE (firstE [progE a0, unl (win a1 0 1000000) 2]) (0, 0, 0) (laterOf a0 a1)).1.1 == 0) && (((orE (firstE [progE a0, unl (win a1 0 1000000) 2]) (0, 0, 0) (laterOf a0 a1)).1.2.1 == 0) && (((orE (firstE [progE a0, unl (win a1 0 1000000) 2]) (0, 0, 0) (laterOf a0 a1)).1.2.2 == 0) && true)))
                        else
                          some (false)
                      else
                        some (false)
                    else
                      some (false)
                  else
                    bif (orE (firstE [progE a0, unl (win a1 0 1000000) 2]) 0 (phaseOf a0 a1)).2 == 0 then
                      bif (orE (firstE [progE a0, unl (win a1 0 1000000) 2]) 0 (phaseOf a0 a1)).1 == (phaseOf a0 a1) then
                        bif (orE (firstE [progE a0, unl (win a1 0 1000000) 2]) (0, 0, 0) (laterOf a0 a1)).2 == 0 then
                          some (((orE (firstE [progE a0, unl (win a1 0 1000000) 2]) (0, 0, 0) (laterOf a0 a1)).1.1 == (laterOf a0 a1).1) && (((orE (firstE [progE a0, unl (win a1 0 1000000) 2]) (0, 0, 0) (laterOf a0 a1)).1.2.1 == (laterOf a0 a1).2.1) && (((orE (firstE [progE a0, unl (win a1 0 1000000) 2]) (0, 0, 0) (laterOf a0 a1)).1.2.2 == (laterOf a0 a1).2.2) && true)))
                        else
                          some (false)
                      else
                        some (false)
                    else
                      some (false)
                else
                  bif (progE a0) != 0 then
                    bif (orE (firstE [progE a0, unl (win a1 0 1000000) 2]) 0 (phaseOf a0 a1)).2 == (progE a0) then
                      bif (orE (firstE [progE a0, unl (win a1 0 1000000) 2]) (0, 0, 0) (laterOf a0 a1)).2 == (progE a0) then
                        bif (orE (firstE [progE a0, unl (win a1 0 1000000) 2]) 0 (phaseOf a0 a1)).1 == 0 then
                          some (((orE (firstE [progE a0, unl (win a1 0 1000000) 2]) (0, 0, 0) (laterOf a0 a1)).1.1 == 0) && (((orE (firstE [progE a0, unl (win a1 0 1000000) 2]) (0, 0, 0) (laterOf a0 a1)).1.2.1 == 0) && (((orE (firstE [progE a0, unl (win a1 0 1000000) 2]) (0, 0, 0) (laterOf a0 a1)).1.2.2 == 0) && true)))
                        else
                          some (false)
                      else
                        some (false)
                    else
                      some (false)
                  else
                    bif (orE (firstE [progE a0, unl (win a1 0 1000000) 2]) 0 (phaseOf a0 a1)).2 == 0 then
                      bif (orE (firstE [progE a0, unl (win a1 0 1000000) 2]) 0 (phaseOf a0 a1)).1 == (phaseOf a0 a1) then
                        bif (orE (firstE [progE a0, unl (win a1 0 1000000) 2]) (0, 0, 0) (laterOf a0 a1)).2 == 0 then
                          some (((orE (firstE [progE a0, unl (win a1 0 1000000) 2]) (0, 0, 0) (laterOf a0 a1)).1.1 == (laterOf a0 a1).1) && (((orE (firstE [progE a0, unl (win a1 0 1000000) 2]) (0, 0, 0) (laterOf a0 a1)).1.2.1 == (laterOf a0 a1).2.1) && (((orE (firstE [progE a0, unl (win a1 0 1000000) 2]) (0, 0, 0) (laterOf a0 a1)).1.2.2 == (laterOf a0 a1).2.2) && true)))
                        else
                          some (false)
                      else
                        some (false)
                    else
                      some (false)
          else
            bif (progE a0) == 0 then
              optE (loopVal step4_0 (a1, a2, (orE (firstE [progE a0, unl (win a1 0 1000000) 2]) 0 (phaseOf a0 a1)).1, (orE (firstE [progE a0, unl (win a1 0 1000000) 2]) 0 (phaseOf a0 a1)).2, (orE (firstE [progE a0, unl (win a1 0 1000000) 2]) (0, 0, 0) (laterOf a0 a1)).2, (orE (firstE [progE a0, unl (win a2 0 400) 2]) [] (turnsOf a0 a2)).1, (orE (firstE [progE a0, unl (win a2 0 400) 2]) [] (turnsOf a0 a2)).2, progE a0, [], 0, a0, (orE (firstE [progE a0, unl (win a1 0 1000000) 2]) (0, 0, 0) (laterOf a0 a1)).1)) (fun e1 =>
                bif e1.2.2.2.2.2.1 != 0 then
                  some (false)
                else
                  optE (same29 (e1.2.2.2.2.1, e1.2.2.2.2.2.2.2.1)) (fun r2 =>
                    bif !r2 then
                      some (false)
                    else
                      bif e1.2.2.2.2.2.2.1 == 0 then
                        bif (unl (win e1.1 0 1000000) 2) != 0 then
                          bif e1.2.2.1 == (unl (win e1.1 0 1000000) 2) then
                            bif e1.2.2.2.1 == (unl (win e1.1 0 1000000) 2) then
                              bif e1.2.1 == 0 then
                                some ((e1.2.2.2.2.2.2.2.2.2.1 == 0) && ((e1.2.2.2.2.2.2.2.2.2.2.1 == 0) && ((e1.2.2.2.2.2.2.2.2.2.2.2 == 0) && true)))
                              else
                                some (false)
                            else
                              some (false)
                          else
                            some (false)
                        else
                          bif e1.2.2.1 == 0 then
                            bif e1.2.1 == (phaseOf e1.2.2.2.2.2.2.2.2.1 e1.1) then
                              bif e1.2.2.2.1 == 0 then
                                some ((e1.2.2.2.2.2.2.2.2.2.1 == (laterOf e1.2.2.2.2.2.2.2.2.1 e1.1).1) && ((e1.2.2.2.2.2.2.2.2.2.2.1 == (laterOf e1.2.2.2.2.2.2.2.2.1 e1.1).2.1) && ((e1.2.2.2.2.2.2.2.2.2.2.2 == (laterOf e1.2.2.2.2.2.2.2.2.1 e1.1).2.2) && true)))
                              else
                                some (false)
                            else
                              some (false)
                          else
                            some (false)
                      else
                        bif e1.2.2.2.2.2.2.1 != 0 then
                          bif e1.2.2.1 == e1.2.2.2.2.2.2.1 then
                            bif e1.2.2.2.1 == e1.2.2.2.2.2.2.1 then
                              bif e1.2.1 == 0 then
                                some ((e1.2.2.2.2.2.2.2.2.2.1 == 0) && ((e1.2.2.2.2.2.2.2.2.2.2.1 == 0) && ((e1.2.2.2.2.2.2.2.2.2.2.2 == 0) && true)))
                              else
                                some (false)
                            else
                              some (false)
                          else
                            some (false)
                        else
                          bif e1.2.2.1 == 0 then
                            bif e1.2.1 == (phaseOf e1.2.2.2.2.2.2.2.2.1 e1.1) then
                              bif e1.2.2.2.1 == 0 then
                                some ((e1.2.2.2.2.2.2.2.2.2.1 == (laterOf e1.2.2.2.2.2.2.2.2.1 e1.1).1) && ((e1.2.2.2.2.2.2.2.2.2.2.1 == (laterOf e1.2.2.2.2.2.2.2.2.1 e1.1).2.1) && ((e1.2.2.2.2.2.2.2.2.2.2.2 == (laterOf e1.2.2.2.2.2.2.2.2.1 e1.1).2.2) && true)))
                              else
                                some (false)
                            else
                              some (false)
                          else
                            some (false))
                    (none))
                (none)
            else
              bif (orE (firstE [progE a0, unl (win a2 0 400) 2]) [] (turnsOf a0 a2)).2 != (progE a0) then
                some (false)
              else
                bif ((orE (firstE [progE a0, unl (win a2 0 400) 2]) [] (turnsOf a0 a2)).1.length : Int) != 0 then
                  some (false)
                else
                  bif (progE a0) == 0 then
                    bif (unl (win a1 0 1000000) 2) != 0 then
                      bif (orE (firstE [progE a0, unl (win a1 0 1000000) 2]) 0 (phaseOf a0 a1)).2 == (unl (win a1 0 1000000) 2) then
                        bif (orE (firstE [progE a0, unl (win a1 0 1000000) 2]) (0, 0, 0) (laterOf a0 a1)).2 == (unl (win a1 0 1000000) 2) then
                          bif (orE (firstE [progE a0, unl (win a1 0 1000000) 2]) 0 (phaseOf a0 a1)).1 == 0 then
                            some (((orE (firstE [progE a0, unl (win a1 0 1000000) 2]) (0, 0, 0) (laterOf a0 a1)).1.1 == 0) && (((orE (firstE [progE a0, unl (win a1 0 1000000) 2]) (0, 0, 0) (laterOf a0 a1)).1.2.1 == 0) && (((orE (firstE [progE a0, unl (win a1 0 1000000) 2]) (0, 0, 0) (laterOf a0 a1)).1.2.2 == 0) && true)))
                          else
                            some (false)
                        else
                          some (false)
                      else
                        some (false)
                    else
                      bif (orE (firstE [progE a0, unl (win a1 0 1000000) 2]) 0 (phaseOf a0 a1)).2 == 0 then
                        bif (orE (firstE [progE a0, unl (win a1 0 1000000) 2]) 0 (phaseOf a0 a1)).1 == (phaseOf a0 a1) then
                          bif (orE (firstE [progE a0, unl (win a1 0 1000000) 2]) (0, 0, 0) (laterOf a0 a1)).2 == 0 then
                            some (((orE (firstE [progE a0, unl (win a1 0 1000000) 2]) (0, 0, 0) (laterOf a0 a1)).1.1 == (laterOf a0 a1).1) && (((orE (firstE [progE a0, unl (win a1 0 1000000) 2]) (0, 0, 0) (laterOf a0 a1)).1.2.1 == (laterOf a0 a1).2.1) && (((orE (firstE [progE a0, unl (win a1 0 1000000) 2]) (0, 0, 0) (laterOf a0 a1)).1.2.2 == (laterOf a0 a1).2.2) && true)))
                          else
                            some (false)
                        else
                          some (false)
                      else
                        some (false)
                  else
                    bif (progE a0) != 0 then
                      bif (orE (firstE [progE a0, unl (win a1 0 1000000) 2]) 0 (phaseOf a0 a1)).2 == (progE a0) then
                        bif (orE (firstE [progE a0, unl (win a1 0 1000000) 2]) (0, 0, 0) (laterOf a0 a1)).2 == (progE a0) then
                          bif (orE (firstE [progE a0, unl (win a1 0 1000000) 2]) 0 (phaseOf a0 a1)).1 == 0 then
                            some (((orE (firstE [progE a0, unl (win a1 0 1000000) 2]) (0, 0, 0) (laterOf a0 a1)).1.1 == 0) && (((orE (firstE [progE a0, unl (win a1 0 1000000) 2]) (0, 0, 0) (laterOf a0 a1)).1.2.1 == 0) && (((orE (firstE [progE a0, unl (win a1 0 1000000) 2]) (0, 0, 0) (laterOf a0 a1)).1.2.2 == 0) && true)))
                          else
                            some (false)
                        else
                          some (false)
                      else
                        some (false)
                    else
                      bif (orE (firstE [progE a0, unl (win a1 0 1000000) 2]) 0 (phaseOf a0 a1)).2 == 0 then
                        bif (orE (firstE [progE a0, unl (win a1 0 1000000) 2]) 0 (phaseOf a0 a1)).1 == (phaseOf a0 a1) then
                          bif (orE (firstE [progE a0, unl (win a1 0 1000000) 2]) (0, 0, 0) (laterOf a0 a1)).2 == 0 then
                            some (((orE (firstE [progE a0, unl (win a1 0 1000000) 2]) (0, 0, 0) (laterOf a0 a1)).1.1 == (laterOf a0 a1).1) && (((orE (firstE [progE a0, unl (win a1 0 1000000) 2]) (0, 0, 0) (laterOf a0 a1)).1.2.1 == (laterOf a0 a1).2.1) && (((orE (firstE [progE a0, unl (win a1 0 1000000) 2]) (0, 0, 0) (laterOf a0 a1)).1.2.2 == (laterOf a0 a1).2.2) && true)))
                          else
                            some (false)
                        else
                          some (false)
                      else
                        some (false)
        else
          bif (progE a0) == 0 then
            optE (loopVal step4_0 (a1, a2, (orE (firstE [progE a0, unl (win a1 0 1000000) 2]) 0 (phaseOf a0 a1)).1, (orE (firstE [progE a0, unl (win a1 0 1000000) 2]) 0 (phaseOf a0 a1)).2, (orE (firstE [progE a0, unl (win a1 0 1000000) 2]) (0, 0, 0) (laterOf a0 a1)).2, (orE (firstE [progE a0, unl (win a2 0 400) 2]) [] (turnsOf a0 a2)).1, (orE (firstE [progE a0, unl (win a2 0 400) 2]) [] (turnsOf a0 a2)).2, progE a0, [], 0, a0, (orE (firstE [progE a0, unl (win a1 0 1000000) 2]) (0, 0, 0) (laterOf a0 a1)).1)) (fun e3 =>
              bif e3.2.2.2.2.2.1 != 0 then
                some (false)
              else
                optE (same29 (e3.2.2.2.2.1, e3.2.2.2.2.2.2.2.1)) (fun r4 =>
                  bif !r4 then
                    some (false)
                  else
                    bif e3.2.2.2.2.2.2.1 == 0 then
                      bif (unl (win e3.1 0 1000000) 2) != 0 then
                        bif e3.2.2.1 == (unl (win e3.1 0 1000000) 2) then
                          bif e3.2.2.2.1 == (unl (win e3.1 0 1000000) 2) then
                            bif e3.2.1 == 0 then
                              some ((e3.2.2.2.2.2.2.2.2.2.1 == 0) && ((e3.2.2.2.2.2.2.2.2.2.2.1 == 0) && ((e3.2.2.2.2.2.2.2.2.2.2.2 == 0) && true)))
                            else
                              some (false)
                          else
                            some (false)
                        else
                          some (false)
                      else
                        bif e3.2.2.1 == 0 then
                          bif e3.2.1 == (phaseOf e3.2.2.2.2.2.2.2.2.1 e3.1) then
                            bif e3.2.2.2.1 == 0 then
                              some ((e3.2.2.2.2.2.2.2.2.2.1 == (laterOf e3.2.2.2.2.2.2.2.2.1 e3.1).1) && ((e3.2.2.2.2.2.2.2.2.2.2.1 == (laterOf e3.2.2.2.2.2.2.2.2.1 e3.1).2.1) && ((e3.2.2.2.2.2.2.2.2.2.2.2 == (laterOf e3.2.2.2.2.2.2.2.2.1 e3.1).2.2) && true)))
                            else
                              some (false)
                          else
                            some (false)
                        else
                          some (false)
                    else
                      bif e3.2.2.2.2.2.2.1 != 0 then
                        bif e3.2.2.1 == e3.2.2.2.2.2.2.1 then
                          bif e3.2.2.2.1 == e3.2.2.2.2.2.2.1 then
                            bif e3.2.1 == 0 then
                              some ((e3.2.2.2.2.2.2.2.2.2.1 == 0) && ((e3.2.2.2.2.2.2.2.2.2.2.1 == 0) && ((e3.2.2.2.2.2.2.2.2.2.2.2 == 0) && true)))
                            else
                              some (false)
                          else
                            some (false)
                        else
                          some (false)
                      else
                        bif e3.2.2.1 == 0 then
                          bif e3.2.1 == (phaseOf e3.2.2.2.2.2.2.2.2.1 e3.1) then
                            bif e3.2.2.2.1 == 0 then
                              some ((e3.2.2.2.2.2.2.2.2.2.1 == (laterOf e3.2.2.2.2.2.2.2.2.1 e3.1).1) && ((e3.2.2.2.2.2.2.2.2.2.2.1 == (laterOf e3.2.2.2.2.2.2.2.2.1 e3.1).2.1) && ((e3.2.2.2.2.2.2.2.2.2.2.2 == (laterOf e3.2.2.2.2.2.2.2.2.1 e3.1).2.2) && true)))
                            else
                              some (false)
                          else
                            some (false)
                        else
                          some (false))
                  (none))
              (none)
          else
            bif (orE (firstE [progE a0, unl (win a2 0 400) 2]) [] (turnsOf a0 a2)).2 != (progE a0) then
              some (false)
            else
              bif ((orE (firstE [progE a0, unl (win a2 0 400) 2]) [] (turnsOf a0 a2)).1.length : Int) != 0 then
                some (false)
              else
                bif (progE a0) == 0 then
                  bif (unl (win a1 0 1000000) 2) != 0 then
                    bif (orE (firstE [progE a0, unl (win a1 0 1000000) 2]) 0 (phaseOf a0 a1)).2 == (unl (win a1 0 1000000) 2) then
                      bif (orE (firstE [progE a0, unl (win a1 0 1000000) 2]) (0, 0, 0) (laterOf a0 a1)).2 == (unl (win a1 0 1000000) 2) then
                        bif (orE (firstE [progE a0, unl (win a1 0 1000000) 2]) 0 (phaseOf a0 a1)).1 == 0 then
                          some (((orE (firstE [progE a0, unl (win a1 0 1000000) 2]) (0, 0, 0) (laterOf a0 a1)).1.1 == 0) && (((orE (firstE [progE a0, unl (win a1 0 1000000) 2]) (0, 0, 0) (laterOf a0 a1)).1.2.1 == 0) && (((orE (firstE [progE a0, unl (win a1 0 1000000) 2]) (0, 0, 0) (laterOf a0 a1)).1.2.2 == 0) && true)))
                        else
                          some (false)
                      else
                        some (false)
                    else
                      some (false)
                  else
                    bif (orE (firstE [progE a0, unl (win a1 0 1000000) 2]) 0 (phaseOf a0 a1)).2 == 0 then
                      bif (orE (firstE [progE a0, unl (win a1 0 1000000) 2]) 0 (phaseOf a0 a1)).1 == (phaseOf a0 a1) then
                        bif (orE (firstE [progE a0, unl (win a1 0 1000000) 2]) (0, 0, 0) (laterOf a0 a1)).2 == 0 then
                          some (((orE (firstE [progE a0, unl (win a1 0 1000000) 2]) (0, 0, 0) (laterOf a0 a1)).1.1 == (laterOf a0 a1).1) && (((orE (firstE [progE a0, unl (win a1 0 1000000) 2]) (0, 0, 0) (laterOf a0 a1)).1.2.1 == (laterOf a0 a1).2.1) && (((orE (firstE [progE a0, unl (win a1 0 1000000) 2]) (0, 0, 0) (laterOf a0 a1)).1.2.2 == (laterOf a0 a1).2.2) && true)))
                        else
                          some (false)
                      else
                        some (false)
                    else
                      some (false)
                else
                  bif (progE a0) != 0 then
                    bif (orE (firstE [progE a0, unl (win a1 0 1000000) 2]) 0 (phaseOf a0 a1)).2 == (progE a0) then
                      bif (orE (firstE [progE a0, unl (win a1 0 1000000) 2]) (0, 0, 0) (laterOf a0 a1)).2 == (progE a0) then
                        bif (orE (firstE [progE a0, unl (win a1 0 1000000) 2]) 0 (phaseOf a0 a1)).1 == 0 then
                          some (((orE (firstE [progE a0, unl (win a1 0 1000000) 2]) (0, 0, 0) (laterOf a0 a1)).1.1 == 0) && (((orE (firstE [progE a0, unl (win a1 0 1000000) 2]) (0, 0, 0) (laterOf a0 a1)).1.2.1 == 0) && (((orE (firstE [progE a0, unl (win a1 0 1000000) 2]) (0, 0, 0) (laterOf a0 a1)).1.2.2 == 0) && true)))
                        else
                          some (false)
                      else
                        some (false)
                    else
                      some (false)
                  else
                    bif (orE (firstE [progE a0, unl (win a1 0 1000000) 2]) 0 (phaseOf a0 a1)).2 == 0 then
                      bif (orE (firstE [progE a0, unl (win a1 0 1000000) 2]) 0 (phaseOf a0 a1)).1 == (phaseOf a0 a1) then
                        bif (orE (firstE [progE a0, unl (win a1 0 1000000) 2]) (0, 0, 0) (laterOf a0 a1)).2 == 0 then
                          some (((orE (firstE [progE a0, unl (win a1 0 1000000) 2]) (0, 0, 0) (laterOf a0 a1)).1.1 == (laterOf a0 a1).1) && (((orE (firstE [progE a0, unl (win a1 0 1000000) 2]) (0, 0, 0) (laterOf a0 a1)).1.2.1 == (laterOf a0 a1).2.1) && (((orE (firstE [progE a0, unl (win a1 0 1000000) 2]) (0, 0, 0) (laterOf a0 a1)).1.2.2 == (laterOf a0 a1).2.2) && true)))
                        else
                          some (false)
                      else
                        some (false)
                    else
                      some (false)
theorem i4 : ItemOk Try.prog (.fn 4 [.d (.agg (.pair (.int .i64) (.pair (.int .i64) (.int .i64)))), .d (.int .i64), .d (.int .i64)] [.d .bool] s4) := item_fn (U := 9) (n := 4) noSpecial mixed Ga2K6_ok (fun x => by kernel_rfl)
noncomputable def Ga2K7 : List Ev.Item := .fn 4 [.d (.agg (.pair (.int .i64) (.pair (.int .i64) (.int .i64)))), .d (.int .i64), .d (.int .i64)] [.d .bool] s4 :: Ga2K6
theorem Ga2K7_ok : ∀ q ∈ Ga2K7, ItemOk Try.prog q := items_cons i4 Ga2K6_ok
end Go.Proofs.Ytinkhmfciealkaa
