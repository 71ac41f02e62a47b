/- Printed by gen.py: specifications of functions. -/
import Derived.Test.YtinkhmfciealkaaGa22
set_option linter.unusedSimpArgs false
set_option maxRecDepth 100000
namespace Go.Proofs.Ytinkhmfciealkaa
open Go.Ev

/-! cassegrain cassegrainlaw02.SampleOnce -/
@[reducible] def T10_0 : Tmpl := ⟨246, [(5, .ref 5 0 0 0)], [.val 0 (.slice (.agg (.pair (.int .i64) (.pair (.int .i64) (.pair (.pair (.int .i64) (.int .i64)) (.pair (.pair (.int .i64) (.int .i64)) (.pair (.pair (.int .i64) (.int .i64)) (.pair (.pair (.int .i64) (.int .i64)) (.pair (.pair (.int .i64) (.int .i64)) (.pair (.pair (.int .i64) (.int .i64)) (.pair (.pair (.int .i64) (.int .i64)) (.pair (.int .i64) (.int .i64))))))))))))), .val 1 (.int .i64), .own 7 42 3 (.int .i64), .own 9 48 3 (.int .i64), .val 11 (.int .i64), .val 12 (.int .i64), .cells 5 [.d (.pair (.int .i64) (.pair (.slice (.agg (.pair (.int .i64) (.int .i64)))) (.slice (.agg (.pair (.int .i64) (.int .i64))))))]]⟩
@[reducible] def X10_0 : List (Ex × Tmpl) := [(.exit 0, ⟨246, [(5, .ref 5 0 0 0)], [.val 0 (.slice (.agg (.pair (.int .i64) (.pair (.int .i64) (.pair (.pair (.int .i64) (.int .i64)) (.pair (.pair (.int .i64) (.int .i64)) (.pair (.pair (.int .i64) (.int .i64)) (.pair (.pair (.int .i64) (.int .i64)) (.pair (.pair (.int .i64) (.int .i64)) (.pair (.pair (.int .i64) (.int .i64)) (.pair (.pair (.int .i64) (.int .i64)) (.pair (.int .i64) (.int .i64))))))))))))), .val 1 (.int .i64), .own 7 42 3 (.int .i64), .val 11 (.int .i64), .cells 5 [.d (.pair (.int .i64) (.pair (.slice (.agg (.pair (.int .i64) (.int .i64)))) (.slice (.agg (.pair (.int .i64) (.int .i64))))))]]⟩)]
/-- data: t0, t1, t7, t9, t11, t12, t5; ends: exit 0: t0, t1, t7, t11, t5 -/
noncomputable def step10_0 : (List Pkt) × Int × (List Int) × (List Int) × Int × Int × (Int × (List (Int × Int)) × List (Int × Int)) → Option (((List Pkt) × Int × (List Int) × (List Int) × Int × Int × (Int × (List (Int × Int)) × List (Int × Int))) ⊕ ((List Pkt) × Int × (List Int) × Int × (Int × (List (Int × Int)) × List (Int × Int)))) := fun (t0, t1, t7, t9, t11, t12, t5) =>
  bif decide (t12 < (t9.length : Int)) then
    bif inBounds t12 t9.length then
      bif (t9.getD t12.toNat 0) != 2 then
        some (.inl (t0, t1, t7, t9, wr (t11 + 1), wr (t12 + 1), t5))
      else
        some (.inl (t0, t1, t7, t9, t11, wr (t12 + 1), t5))
    else
      none
  else
    some (.inr (t0, t1, t7, t11, t5))
theorem one10_0 : oneLoop Try.prog 10 0 = true := by kernel_rfl
theorem lp10_0 : ItemOk Try.prog (.loop 10 0 T10_0 X10_0 (loopVal step10_0)) := item_loop (U := 9) (n := 3) noSpecial mixed Ga22K1_ok one10_0 (fun x => by kernel_rfl)
noncomputable def Ga23K1 : List Ev.Item := .loop 10 0 T10_0 X10_0 (loopVal step10_0) :: Ga22K1
theorem Ga23K1_ok : ∀ q ∈ Ga23K1, ItemOk Try.prog q := items_cons lp10_0 Ga22K1_ok
@[reducible] def T10_2 : Tmpl := ⟨246, [(5, .ref 5 0 0 0)], [.val 0 (.slice (.agg (.pair (.int .i64) (.pair (.int .i64) (.pair (.pair (.int .i64) (.int .i64)) (.pair (.pair (.int .i64) (.int .i64)) (.pair (.pair (.int .i64) (.int .i64)) (.pair (.pair (.int .i64) (.int .i64)) (.pair (.pair (.int .i64) (.int .i64)) (.pair (.pair (.int .i64) (.int .i64)) (.pair (.pair (.int .i64) (.int .i64)) (.pair (.int .i64) (.int .i64))))))))))))), .val 1 (.int .i64), .own 7 42 3 (.int .i64), .own 13 102 3 (.int .i64), .val 14 (.int .i64), .cells 5 [.d (.pair (.int .i64) (.pair (.slice (.agg (.pair (.int .i64) (.int .i64)))) (.slice (.agg (.pair (.int .i64) (.int .i64))))))]]⟩
@[reducible] def X10_2 : List (Ex × Tmpl) := [(.ret, ⟨246, [], [.val 4 .bool]⟩), (.exit 2, ⟨246, [(5, .ref 5 0 0 0)], [.val 0 (.slice (.agg (.pair (.int .i64) (.pair (.int .i64) (.pair (.pair (.int .i64) (.int .i64)) (.pair (.pair (.int .i64) (.int .i64)) (.pair (.pair (.int .i64) (.int .i64)) (.pair (.pair (.int .i64) (.int .i64)) (.pair (.pair (.int .i64) (.int .i64)) (.pair (.pair (.int .i64) (.int .i64)) (.pair (.pair (.int .i64) (.int .i64)) (.pair (.int .i64) (.int .i64))))))))))))), .val 1 (.int .i64), .own 7 42 3 (.int .i64), .cells 5 [.d (.pair (.int .i64) (.pair (.slice (.agg (.pair (.int .i64) (.int .i64)))) (.slice (.agg (.pair (.int .i64) (.int .i64))))))]]⟩)]
/-- data: t0, t1, t7, t13, t14, t5; ends: ret: t4; exit 2: t0, t1, t7, t5 -/
noncomputable def step10_2 : (List Pkt) × Int × (List Int) × (List Int) × Int × (Int × (List (Int × Int)) × List (Int × Int)) → Option (((List Pkt) × Int × (List Int) × (List Int) × Int × (Int × (List (Int × Int)) × List (Int × Int))) ⊕ ((Bool) ⊕ ((List Pkt) × Int × (List Int) × (Int × (List (Int × Int)) × List (Int × Int))))) := fun (t0, t1, t7, t13, t14, t5) =>
  bif decide (t14 < (t0.length : Int)) then
    bif inBounds t14 t13.length then
      bif !(win t5.1 0 1000000000) then
        some (.inr (.inl false))
      else
        bif !(win (wr ((wr ((t13.getD t14.toNat 0) - t5.1)) * 8)) 0 (wr ((t5.2.1.length : Int) - 8))) then
          some (.inr (.inl false))
        else
          bif (decide (0 ≤ (wr ((wr ((t13.getD t14.toNat 0) - t5.1)) * 8)))) && ((decide ((wr ((wr ((t13.getD t14.toNat 0) - t5.1)) * 8)) ≤ (wr ((wr ((wr ((t13.getD t14.toNat 0) - t5.1)) * 8)) + 8)))) && (decide ((wr ((wr ((wr ((t13.getD t14.toNat 0) - t5.1)) * 8)) + 8)) ≤ (t5.2.1.length : Int)))) then
            bif inBounds t14 t0.length then
              optE (same60 ((t5.2.1.take (wr ((wr ((wr ((t13.getD t14.toNat 0) - t5.1)) * 8)) + 8)).toNat).drop (wr ((wr ((t13.getD t14.toNat 0) - t5.1)) * 8)).toNat, [(t0.getD t14.toNat pkt0).2.2.1, (t0.getD t14.toNat pkt0).2.2.2.1, (t0.getD t14.toNat pkt0).2.2.2.2.1, (t0.getD t14.toNat pkt0).2.2.2.2.2.1, (t0.getD t14.toNat pkt0).2.2.2.2.2.2.1, (t0.getD t14.toNat pkt0).2.2.2.2.2.2.2.1, (t0.getD t14.toNat pkt0).2.2.2.2.2.2.2.2.1, (t0.getD t14.toNat pkt0).2.2.2.2.2.2.2.2.2])) (fun r10 =>
                bif !r10 then
                  some (.inr (.inl false))
                else
                  some (.inl (t0, t1, t7, t13, wr (t14 + 1), t5)))
                (none)
            else
              none
          else
            none
    else
      none
  else
    some (.inr (.inr (t0, t1, t7, t5)))
theorem one10_2 : oneLoop Try.prog 10 2 = true := by kernel_rfl
theorem lp10_2 : ItemOk Try.prog (.loop 10 2 T10_2 X10_2 (loopVal step10_2)) := item_loop (U := 9) (n := 3) noSpecial mixed Ga23K1_ok one10_2 (fun x => by kernel_rfl)
noncomputable def Ga23K2 : List Ev.Item := .loop 10 2 T10_2 X10_2 (loopVal step10_2) :: Ga23K1
theorem Ga23K2_ok : ∀ q ∈ Ga23K2, ItemOk Try.prog q := items_cons lp10_2 Ga23K1_ok
@[reducible] def T10_6 : Tmpl := ⟨246, [(5, .ref 5 0 0 0), (18, .ref 18 0 0 0)], [.val 0 (.slice (.agg (.pair (.int .i64) (.pair (.int .i64) (.pair (.pair (.int .i64) (.int .i64)) (.pair (.pair (.int .i64) (.int .i64)) (.pair (.pair (.int .i64) (.int .i64)) (.pair (.pair (.int .i64) (.int .i64)) (.pair (.pair (.int .i64) (.int .i64)) (.pair (.pair (.int .i64) (.int .i64)) (.pair (.pair (.int .i64) (.int .i64)) (.pair (.int .i64) (.int .i64))))))))))))), .val 1 (.int .i64), .own 7 42 3 (.int .i64), .val 16 (.int .i64), .val 17 (.int .i64), .val 19 (.int .i64), .cells 5 [.d (.pair (.int .i64) (.pair (.slice (.agg (.pair (.int .i64) (.int .i64)))) (.slice (.agg (.pair (.int .i64) (.int .i64))))))], .cells 18 [.d (.pair (.int .i64) (.int .i64))]]⟩
@[reducible] def X10_6 : List (Ex × Tmpl) := [(.ret, ⟨246, [], [.val 4 .bool]⟩), (.exit 6, ⟨246, [(5, .ref 5 0 0 0)], [.val 0 (.slice (.agg (.pair (.int .i64) (.pair (.int .i64) (.pair (.pair (.int .i64) (.int .i64)) (.pair (.pair (.int .i64) (.int .i64)) (.pair (.pair (.int .i64) (.int .i64)) (.pair (.pair (.int .i64) (.int .i64)) (.pair (.pair (.int .i64) (.int .i64)) (.pair (.pair (.int .i64) (.int .i64)) (.pair (.pair (.int .i64) (.int .i64)) (.pair (.int .i64) (.int .i64))))))))))))), .val 1 (.int .i64), .own 7 42 3 (.int .i64), .val 16 (.int .i64), .val 17 (.int .i64), .cells 5 [.d (.pair (.int .i64) (.pair (.slice (.agg (.pair (.int .i64) (.int .i64)))) (.slice (.agg (.pair (.int .i64) (.int .i64))))))]]⟩)]
/-- data: t0, t1, t7, t16, t17, t19, t5, t18; ends: ret: t4; exit 6: t0, t1, t7, t16, t17, t5 -/
noncomputable def step10_6 : (List Pkt) × Int × (List Int) × Int × Int × Int × (Int × (List (Int × Int)) × List (Int × Int)) × (Int × Int) → Option (((List Pkt) × Int × (List Int) × Int × Int × Int × (Int × (List (Int × Int)) × List (Int × Int)) × (Int × Int)) ⊕ ((Bool) ⊕ ((List Pkt) × Int × (List Int) × Int × Int × (Int × (List (Int × Int)) × List (Int × Int))))) := fun (t0, t1, t7, t16, t17, t19, t5, t18) =>
  bif decide (t19 ≤ t18.2) then
    bif inBounds t19 t5.2.1.length then
      bif !(((t5.2.1.getD t19.toNat (0, 0)).1 == 0) && (((t5.2.1.getD t19.toNat (0, 0)).2 == 0) && true)) then
        some (.inr (.inl false))
      else
        optE (s74 (t7, wr (t5.1 + (wr (Int.tdiv t19 8))))) (fun r13 =>
          bif !r13 then
            some (.inr (.inl false))
          else
            some (.inl (t0, t1, t7, wr (t16 + 1), t17, wr (t19 + 1), t5, t18)))
          (none)
    else
      none
  else
    some (.inr (.inr (t0, t1, t7, t16, t17, t5)))
theorem one10_6 : oneLoop Try.prog 10 6 = true := by kernel_rfl
theorem lp10_6 : ItemOk Try.prog (.loop 10 6 T10_6 X10_6 (loopVal step10_6)) := item_loop (U := 9) (n := 3) noSpecial mixed Ga23K2_ok one10_6 (fun x => by kernel_rfl)
noncomputable def Ga23K3 : List Ev.Item := .loop 10 6 T10_6 X10_6 (loopVal step10_6) :: Ga23K2
theorem Ga23K3_ok : ∀ q ∈ Ga23K3, ItemOk Try.prog q := items_cons lp10_6 Ga23K2_ok
@[reducible] def T10_4 : Tmpl := ⟨246, [(5, .ref 5 0 0 0)], [.val 0 (.slice (.agg (.pair (.int .i64) (.pair (.int .i64) (.pair (.pair (.int .i64) (.int .i64)) (.pair (.pair (.int .i64) (.int .i64)) (.pair (.pair (.int .i64) (.int .i64)) (.pair (.pair (.int .i64) (.int .i64)) (.pair (.pair (.int .i64) (.int .i64)) (.pair (.pair (.int .i64) (.int .i64)) (.pair (.pair (.int .i64) (.int .i64)) (.pair (.int .i64) (.int .i64))))))))))))), .val 1 (.int .i64), .own 7 42 3 (.int .i64), .val 16 (.int .i64), .val 17 (.int .i64), .cells 5 [.d (.pair (.int .i64) (.pair (.slice (.agg (.pair (.int .i64) (.int .i64)))) (.slice (.agg (.pair (.int .i64) (.int .i64))))))]]⟩
@[reducible] def X10_4 : List (Ex × Tmpl) := [(.ret, ⟨246, [], [.val 4 .bool]⟩), (.exit 4, ⟨246, [(5, .ref 5 0 0 0)], [.val 0 (.slice (.agg (.pair (.int .i64) (.pair (.int .i64) (.pair (.pair (.int .i64) (.int .i64)) (.pair (.pair (.int .i64) (.int .i64)) (.pair (.pair (.int .i64) (.int .i64)) (.pair (.pair (.int .i64) (.int .i64)) (.pair (.pair (.int .i64) (.int .i64)) (.pair (.pair (.int .i64) (.int .i64)) (.pair (.pair (.int .i64) (.int .i64)) (.pair (.int .i64) (.int .i64))))))))))))), .val 1 (.int .i64), .own 7 42 3 (.int .i64), .val 16 (.int .i64), .cells 5 [.d (.pair (.int .i64) (.pair (.slice (.agg (.pair (.int .i64) (.int .i64)))) (.slice (.agg (.pair (.int .i64) (.int .i64))))))]]⟩)]
/-- data: t0, t1, t7, t16, t17, t5; ends: ret: t4; exit 4: t0, t1, t7, t16, t5 -/
noncomputable def step10_4 : (List Pkt) × Int × (List Int) × Int × Int × (Int × (List (Int × Int)) × List (Int × Int)) → Option (((List Pkt) × Int × (List Int) × Int × Int × (Int × (List (Int × Int)) × List (Int × Int))) ⊕ ((Bool) ⊕ ((List Pkt) × Int × (List Int) × Int × (Int × (List (Int × Int)) × List (Int × Int))))) := fun (t0, t1, t7, t16, t17, t5) =>
  bif decide (t17 < (t5.2.2.length : Int)) then
    bif inBounds t17 t5.2.2.length then
      bif !(win (t5.2.2.getD t17.toNat (0, 0)).1 0 (t5.2.2.getD t17.toNat (0, 0)).2) then
        some (.inr (.inl false))
      else
        bif decide ((t5.2.2.getD t17.toNat (0, 0)).2 ≥ (t5.2.1.length : Int)) then
          some (.inr (.inl false))
        else
          bif decide (t17 > 0) then
            bif inBounds (wr (t17 - 1)) t5.2.2.length then
              bif decide ((t5.2.2.getD t17.toNat (0, 0)).1 ≤ (wr ((t5.2.2.getD (wr (t17 - 1)).toNat (0, 0)).2 + 1))) then
                some (.inr (.inl false))
              else
                optE (loopVal step10_6 (t0, t1, t7, t16, t17, (t5.2.2.getD t17.toNat (0, 0)).1, t5, (t5.2.2.getD t17.toNat (0, 0)))) (fun e13 =>
                  sumE e13 (fun e14 =>
                    some (.inr (.inl e14))) (fun e15 =>
                    some (.inl (e15.1, e15.2.1, e15.2.2.1, e15.2.2.2.1, wr (e15.2.2.2.2.1 + 1), e15.2.2.2.2.2))))
                  (none)
            else
              none
          else
            optE (loopVal step10_6 (t0, t1, t7, t16, t17, (t5.2.2.getD t17.toNat (0, 0)).1, t5, (t5.2.2.getD t17.toNat (0, 0)))) (fun e16 =>
              sumE e16 (fun e17 =>
                some (.inr (.inl e17))) (fun e18 =>
                some (.inl (e18.1, e18.2.1, e18.2.2.1, e18.2.2.2.1, wr (e18.2.2.2.2.1 + 1), e18.2.2.2.2.2))))
              (none)
    else
      none
  else
    some (.inr (.inr (t0, t1, t7, t16, t5)))
theorem one10_4 : oneLoop Try.prog 10 4 = true := by kernel_rfl
theorem lp10_4 : ItemOk Try.prog (.loop 10 4 T10_4 X10_4 (loopVal step10_4)) := item_loop (U := 9) (n := 3) noSpecial mixed Ga23K3_ok one10_4 (fun x => by kernel_rfl)
noncomputable def Ga23K4 : List Ev.Item := .loop 10 4 T10_4 X10_4 (loopVal step10_4) :: Ga23K3
theorem Ga23K4_ok : ∀ q ∈ Ga23K4, ItemOk Try.prog q := items_cons lp10_4 Ga23K3_ok
noncomputable def s10 : (List Pkt) × Int → Option (Bool) := fun (a0, a1) =>
  bif !true then
    some (false)
  else
    bif decide ((a0.length : Int) > 20) then
      some (true)
    else
      optE (s68 a0) (fun r1 =>
        bif r1 != 0 then
          some (true)
        else
          optE (s65 a0) (fun r2 =>
            optE (s67 r2) (fun r3 =>
              optE (s65 a0) (fun r4 =>
                optE (s66 r4) (fun r5 =>
                  optE (s65 a0) (fun r6 =>
                    optE (s64 r6) (fun r7 =>
                      bif r3.2 != 0 then
                        some (false)
                      else
                        bif r5.2 != 0 then
                          some (false)
                        else
                          bif r7.2 != 0 then
                            some (false)
                          else
                            bif (r7.1.length : Int) != (a0.length : Int) then
                              some (false)
                            else
                              bif decide ((r3.1.2.1.length : Int) > 320) then
                                some (false)
                              else
                                bif decide ((r5.1.length : Int) > 40) then
                                  some (false)
                                else
                                  optE (loopVal step10_0 (a0, a1, r5.1, r7.1, 0, 0, r3.1)) (fun e8 =>
                                    bif (e8.2.2.2.2.2.1.length : Int) != (wr (8 * (wr (e8.2.2.2.1 + (e8.2.2.1.length : Int))))) then
                                      some (false)
                                    else
                                      optE (s73 e8.1) (fun r9 =>
                                        optE (loopVal step10_2 (e8.1, e8.2.1, e8.2.2.1, r9, 0, e8.2.2.2.2)) (fun e10 =>
                                          sumE e10 (fun e11 =>
                                            some (e11)) (fun e12 =>
                                            optE (loopVal step10_4 (e12.1, e12.2.1, e12.2.2.1, 0, 0, e12.2.2.2)) (fun e13 =>
                                              sumE e13 (fun e14 =>
                                                some (e14)) (fun e15 =>
                                                bif e15.2.2.2.1 != (wr (8 * (e15.2.2.1.length : Int))) then
                                                  some (false)
                                                else
                                                  optE (s65 e15.1) (fun r16 =>
                                                    optE (mod75 (e15.2.1, (e15.1.length : Int))) (fun r17 =>
                                                      bif inBounds r17 e15.1.length then
                                                        bif room 144 (r16.length + 1) then
                                                          optE (s68 (r16 ++ [(e15.1.getD r17.toNat pkt0)])) (fun r18 =>
                                                            bif r18 != 0 then
                                                              some (true)
                                                            else
                                                              optE (s67 (r16 ++ [(e15.1.getD r17.toNat pkt0)])) (fun r19 =>
                                                                bif r19.2 == 0 then
                                                                  optE (s69 (e15.2.2.2.2, r19.1)) (fun r20 =>
                                                                    some (r20))
                                                                    (none)
                                                                else
                                                                  some (false))
                                                                (none))
                                                            (none)
                                                        else
                                                          none
                                                      else
                                                        none)
                                                      (none))
                                                    (none)))
                                              (none)))
                                          (none))
                                        (none))
                                    (none))
                      (none))
                    (none))
                  (none))
                (none))
              (none))
            (none))
        (none)
theorem i10 : ItemOk Try.prog (.fn 10 [.d (.slice (.agg (.pair (.int .i64) (.pair (.int .i64) (.pair (.pair (.int .i64) (.int .i64)) (.pair (.pair (.int .i64) (.int .i64)) (.pair (.pair (.int .i64) (.int .i64)) (.pair (.pair (.int .i64) (.int .i64)) (.pair (.pair (.int .i64) (.int .i64)) (.pair (.pair (.int .i64) (.int .i64)) (.pair (.pair (.int .i64) (.int .i64)) (.pair (.int .i64) (.int .i64))))))))))))), .d (.int .i64)] [.d .bool] s10) := item_fn (U := 9) (n := 4) noSpecial mixed Ga23K4_ok (fun x => by kernel_rfl)
noncomputable def Ga23K5 : List Ev.Item := .fn 10 [.d (.slice (.agg (.pair (.int .i64) (.pair (.int .i64) (.pair (.pair (.int .i64) (.int .i64)) (.pair (.pair (.int .i64) (.int .i64)) (.pair (.pair (.int .i64) (.int .i64)) (.pair (.pair (.int .i64) (.int .i64)) (.pair (.pair (.int .i64) (.int .i64)) (.pair (.pair (.int .i64) (.int .i64)) (.pair (.pair (.int .i64) (.int .i64)) (.pair (.int .i64) (.int .i64))))))))))))), .d (.int .i64)] [.d .bool] s10 :: Ga23K4
theorem Ga23K5_ok : ∀ q ∈ Ga23K5, ItemOk Try.prog q := items_cons i10 Ga23K4_ok
end Go.Proofs.Ytinkhmfciealkaa
