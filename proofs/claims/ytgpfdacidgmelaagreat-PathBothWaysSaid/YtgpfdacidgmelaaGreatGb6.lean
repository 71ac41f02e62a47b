/- Printed by gen.py: specifications of functions. -/
import Derived.Test.YtgpfdacidgmelaaGreatGb5
set_option linter.unusedSimpArgs false
set_option maxRecDepth 100000
namespace Go.Proofs.YtgpfdacidgmelaaGreat
open Go.Ev

/-! cassegrain path.RoundTrip -/
noncomputable def s22 : ((List (Int × Int × Int × Int)) × Int) × ((List (Int × Int × Int × Int)) × Int) × Int → Option ((Int × Int) × Int) := fun (a, b, sent) =>
  optE (s24 (a, b, sent)) (fun r1 =>
    bif r1.2 != 0 then
      some (((0, 0), r1.2))
    else
      optE (s24 (b, a, r1.1.1)) (fun r2 =>
        optE (s24 (b, a, r1.1.2)) (fun r3 =>
          optE (s65 [r2.2, r3.2]) (fun r4 =>
            bif r4 != 0 then
              some (((0, 0), r4))
            else
              some (((r2.1.1, r3.1.2), 0)))
            (none))
          (none))
        (none))
    (none)
theorem i22 : ItemOk Tryz.prog (.fn 22 [.d (.agg (.pair (.slice (.agg (.pair (.int .i64) (.pair (.int .i64) (.pair (.int .i64) (.int .i64)))))) (.int .i64))), .d (.agg (.pair (.slice (.agg (.pair (.int .i64) (.pair (.int .i64) (.pair (.int .i64) (.int .i64)))))) (.int .i64))), .d (.int .i64)] [.d (.agg (.pair (.int .i64) (.int .i64))), .d (.int .i64)] s22) := item_fnM md1 ext1 (U := 9) (n := 4) noSpecial mixed Gb5K10_ok (fun x => by kernel_rfl)
noncomputable def Gb6K1 : List Ev.Item := .fn 22 [.d (.agg (.pair (.slice (.agg (.pair (.int .i64) (.pair (.int .i64) (.pair (.int .i64) (.int .i64)))))) (.int .i64))), .d (.agg (.pair (.slice (.agg (.pair (.int .i64) (.pair (.int .i64) (.pair (.int .i64) (.int .i64)))))) (.int .i64))), .d (.int .i64)] [.d (.agg (.pair (.int .i64) (.int .i64))), .d (.int .i64)] s22 :: Gb5K10
theorem Gb6K1_ok : ∀ q ∈ Gb6K1, ItemOk Tryz.prog q := items_cons i22 Gb5K10_ok

/-! cassegrain cassegrainref01.RoundTrip -/
@[reducible] def T23_0 : Tmpl := ⟨75, [(3, .ref 3 0 0 0), (4, .ref 4 0 0 0), (6, .ref 6 0 0 0), (11, .ref 11 0 0 0)], [.own 12 37 3 (.int .i64), .val 13 (.int .i64), .cells 3 [.d (.pair (.slice (.agg (.pair (.int .i64) (.pair (.int .i64) (.pair (.int .i64) (.int .i64)))))) (.int .i64))], .cells 4 [.d (.pair (.slice (.agg (.pair (.int .i64) (.pair (.int .i64) (.pair (.int .i64) (.int .i64)))))) (.int .i64))], .cells 6 [.d (.pair (.int .i64) (.int .i64))], .arr 11 (.agg (.pair (.int .i64) (.int .i64)))]⟩
@[reducible] def X23_0 : List (Ex × Tmpl) := [(.ret, ⟨75, [(6, .ref 6 0 0 0)], [.val 7 (.int .i64), .cells 6 [.d (.pair (.int .i64) (.int .i64))]]⟩), (.exit 0, ⟨75, [(6, .ref 6 0 0 0), (11, .ref 11 0 0 0)], [.cells 6 [.d (.pair (.int .i64) (.int .i64))], .arr 11 (.agg (.pair (.int .i64) (.int .i64)))]⟩)]
/-- data: t12, t13, t3, t4, t6, t11; ends: ret: t7, t6; exit 0: t6, t11 -/
noncomputable def step23_0 : (List Int) × Int × ((List (Int × Int × Int × Int)) × Int) × ((List (Int × Int × Int × Int)) × Int) × (Int × Int) × (List (Int × Int)) → Option (((List Int) × Int × ((List (Int × Int × Int × Int)) × Int) × ((List (Int × Int × Int × Int)) × Int) × (Int × Int) × (List (Int × Int))) ⊕ ((Int × (Int × Int)) ⊕ ((Int × Int) × (List (Int × Int))))) := fun (t12, t13, t3, t4, t6, t11) =>
  bif decide (t13 < 2) then
    bif inBounds t13 t12.length then
      optE (s17 (t4, t3, t12.getD t13.toNat 0)) (fun r5 =>
        bif r5 != 0 then
          some (.inr (.inl (r5, (0, 0))))
        else
          bif inBounds t13 t12.length then
            optE (s26 (t4, t3, t12.getD t13.toNat 0)) (fun r6 =>
              bif (inBounds t13 2) && (decide (t11.length = 2)) then
                bif !r6.2 then
                  some (.inr (.inl (12, (0, 0))))
                else
                  some (.inl (t12, wr (t13 + 1), t3, t4, t6, t11.set t13.toNat r6.1))
              else
                none)
              (none)
          else
            none)
        (none)
    else
      none
  else
    some (.inr (.inr (t6, t11)))
theorem one23_0 : oneLoop Tryz.prog 23 0 = true := by kernel_rfl
theorem lp23_0 : ItemOk Tryz.prog (.loop 23 0 T23_0 X23_0 (loopVal step23_0)) := item_loopM md1 ext1 (U := 9) (n := 3) noSpecial mixed Gb6K1_ok one23_0 (fun x => by kernel_rfl)
noncomputable def Gb6K2 : List Ev.Item := .loop 23 0 T23_0 X23_0 (loopVal step23_0) :: Gb6K1
theorem Gb6K2_ok : ∀ q ∈ Gb6K2, ItemOk Tryz.prog q := items_cons lp23_0 Gb6K1_ok
noncomputable def s23 : ((List (Int × Int × Int × Int)) × Int) × ((List (Int × Int × Int × Int)) × Int) × Int → Option ((Int × Int) × Int) := fun (a0, a1, a2) =>
  optE (s17 (a0, a1, a2)) (fun r1 =>
    bif r1 != 0 then
      some (((0, 0), r1))
    else
      optE (s26 (a0, a1, a2)) (fun r2 =>
        bif !r2.2 then
          some (((0, 0), 12))
        else
          optE (loopVal step23_0 ([r2.1.1, r2.1.2], 0, a0, a1, (0, 0), [(0, 0), (0, 0)])) (fun e3 =>
            sumE e3 (fun e4 =>
              some ((e4.2, e4.1))) (fun e5 =>
              bif decide (e5.2.length = 2) then
                bif decide (e5.2.length = 2) then
                  some ((((e5.2.getD 0 (0, 0)).1, (e5.2.getD 1 (0, 0)).2), 0))
                else
                  none
              else
                none))
            (none))
        (none))
    (none)
theorem i23 : ItemOk Tryz.prog (.fn 23 [.d (.agg (.pair (.slice (.agg (.pair (.int .i64) (.pair (.int .i64) (.pair (.int .i64) (.int .i64)))))) (.int .i64))), .d (.agg (.pair (.slice (.agg (.pair (.int .i64) (.pair (.int .i64) (.pair (.int .i64) (.int .i64)))))) (.int .i64))), .d (.int .i64)] [.d (.agg (.pair (.int .i64) (.int .i64))), .d (.int .i64)] s23) := item_fnM md1 ext1 (U := 9) (n := 4) noSpecial mixed Gb6K2_ok (fun x => by kernel_rfl)
noncomputable def Gb6K3 : List Ev.Item := .fn 23 [.d (.agg (.pair (.slice (.agg (.pair (.int .i64) (.pair (.int .i64) (.pair (.int .i64) (.int .i64)))))) (.int .i64))), .d (.agg (.pair (.slice (.agg (.pair (.int .i64) (.pair (.int .i64) (.pair (.int .i64) (.int .i64)))))) (.int .i64))), .d (.int .i64)] [.d (.agg (.pair (.int .i64) (.int .i64))), .d (.int .i64)] s23 :: Gb6K2
theorem Gb6K3_ok : ∀ q ∈ Gb6K3, ItemOk Tryz.prog q := items_cons i23 Gb6K2_ok

/-! cassegrain cassegrainlaw01.PathTrips -/
noncomputable def s5 : ((List (Int × Int × Int × Int)) × Int) × ((List (Int × Int × Int × Int)) × Int) × Int → Option (Bool) := fun (a, b, sent) =>
  bif !true then
    some (false)
  else
    optE (s12 (a, b)) (fun r1 =>
      bif !r1 then
        some (true)
      else
        optE (s14 a) (fun r2 =>
          optE (s14 b) (fun r3 =>
            optE (s22 (r2, r3, sent)) (fun r4 =>
              optE (s16 (a, b)) (fun r5 =>
                bif r5 != 0 then
                  bif r4.2 == r5 then
                    some ((r4.1.1 == 0) && ((r4.1.2 == 0) && true))
                  else
                    some (false)
                else
                  optE (s23 (a, b, sent)) (fun r6 =>
                    bif r4.2 == r6.2 then
                      some ((r4.1.1 == r6.1.1) && ((r4.1.2 == r6.1.2) && true))
                    else
                      some (false))
                    (none))
                (none))
              (none))
            (none))
          (none))
      (none)
theorem i5 : ItemOk Tryz.prog (.fn 5 [.d (.agg (.pair (.slice (.agg (.pair (.int .i64) (.pair (.int .i64) (.pair (.int .i64) (.int .i64)))))) (.int .i64))), .d (.agg (.pair (.slice (.agg (.pair (.int .i64) (.pair (.int .i64) (.pair (.int .i64) (.int .i64)))))) (.int .i64))), .d (.int .i64)] [.d .bool] s5) := item_fnM md1 ext1 (U := 9) (n := 4) noSpecial mixed Gb6K3_ok (fun x => by kernel_rfl)
noncomputable def Gb6K4 : List Ev.Item := .fn 5 [.d (.agg (.pair (.slice (.agg (.pair (.int .i64) (.pair (.int .i64) (.pair (.int .i64) (.int .i64)))))) (.int .i64))), .d (.agg (.pair (.slice (.agg (.pair (.int .i64) (.pair (.int .i64) (.pair (.int .i64) (.int .i64)))))) (.int .i64))), .d (.int .i64)] [.d .bool] s5 :: Gb6K3
theorem Gb6K4_ok : ∀ q ∈ Gb6K4, ItemOk Tryz.prog q := items_cons i5 Gb6K3_ok
end Go.Proofs.YtgpfdacidgmelaaGreat
