/- Printed by gen.py: specifications of functions. -/
import Derived.Test.YtgpfdacidgmelaaGreatGb4
set_option linter.unusedSimpArgs false
set_option maxRecDepth 100000
namespace Go.Proofs.YtgpfdacidgmelaaGreat
open Go.Ev

/-! cassegrain path.Windows -/
@[reducible] def T41_0 : Tmpl := ⟨100, [(2, .ref 2 0 0 0), (3, .ref 3 0 0 0)], [.own 9 97 80 (.agg (.pair (.int .i64) (.pair (.int .i64) (.int .i64)))), .val 59 (.int .i64), .val 60 (.int .i64), .cells 2 [.d (.pair (.pair (.pair (.int .i64) (.pair (.int .i64) (.int .i64))) (.slice (.agg (.pair (.pair (.int .i64) (.pair (.int .i64) (.int .i64))) (.pair (.int .i64) (.int .i64)))))) (.pair (.pair (.slice (.agg (.pair (.int .i64) (.pair (.int .i64) (.pair (.int .i64) (.int .i64)))))) (.int .i64)) (.pair (.slice (.agg (.pair (.int .i64) (.pair (.int .i64) (.pair (.int .i64) (.int .i64)))))) (.int .i64))))], .cells 3 [.d (.pair (.int .i64) (.pair (.int .i64) (.int .i64)))]]⟩
@[reducible] def X41_0 : List (Ex × Tmpl) := [(.exit 0, ⟨100, [], [.own 9 97 80 (.agg (.pair (.int .i64) (.pair (.int .i64) (.int .i64))))]⟩)]
/-- data: t9, t59, t60, t2, t3; ends: exit 0: t9 -/
noncomputable def step41_0 : (List (Int × Int × Int)) × Int × Int × (((Int × Int × Int) × List ((Int × Int × Int) × Int × Int)) × ((List (Int × Int × Int × Int)) × Int) × (List (Int × Int × Int × Int)) × Int) × (Int × Int × Int) → Option (((List (Int × Int × Int)) × Int × Int × (((Int × Int × Int) × List ((Int × Int × Int) × Int × Int)) × ((List (Int × Int × Int × Int)) × Int) × (List (Int × Int × Int × Int)) × Int) × (Int × Int × Int)) ⊕ (List (Int × Int × Int))) := fun (t9, t59, t60, t2, t3) =>
  bif decide (t60 < t59) then
    optE (s82 (t2, wr (t3.1 + (wr (t60 * t3.2.1))))) (fun r8 =>
      bif decide ((wr ((t9.length : Int) - 1)) ≥ 0) then
        bif inBounds (wr ((t9.length : Int) - 1)) t9.length then
          bif (t9.getD (wr ((t9.length : Int) - 1)).toNat (0, 0, 0)).1 == r8 then
            bif inBounds (wr ((t9.length : Int) - 1)) t9.length then
              some (.inl (t9.set (wr ((t9.length : Int) - 1)).toNat ((t9.getD (wr ((t9.length : Int) - 1)).toNat (0, 0, 0)).1, (t9.getD (wr ((t9.length : Int) - 1)).toNat (0, 0, 0)).2.1, t60), t59, wr (t60 + 1), t2, t3))
            else
              none
          else
            bif room 24 (t9.length + 1) then
              some (.inl (t9 ++ [(r8, t60, t60)], t59, wr (t60 + 1), t2, t3))
            else
              none
        else
          none
      else
        bif room 24 (t9.length + 1) then
          some (.inl (t9 ++ [(r8, t60, t60)], t59, wr (t60 + 1), t2, t3))
        else
          none)
      (none)
  else
    some (.inr t9)
theorem one41_0 : oneLoop Tryz.prog 41 0 = true := by kernel_rfl
theorem lp41_0 : ItemOk Tryz.prog (.loop 41 0 T41_0 X41_0 (loopVal step41_0)) := item_loopM md1 ext1 (U := 9) (n := 3) noSpecial mixed Gb4K26_ok one41_0 (fun x => by kernel_rfl)
noncomputable def Gb5K1 : List Ev.Item := .loop 41 0 T41_0 X41_0 (loopVal step41_0) :: Gb4K26
theorem Gb5K1_ok : ∀ q ∈ Gb5K1, ItemOk Tryz.prog q := items_cons lp41_0 Gb4K26_ok
noncomputable def s41 : (((Int × Int × Int) × List ((Int × Int × Int) × Int × Int)) × ((List (Int × Int × Int × Int)) × Int) × (List (Int × Int × Int × Int)) × Int) × (Int × Int × Int) → Option ((List (Int × Int × Int)) × Int) := fun (a0, a1) =>
  optE (s81 a0) (fun r1 =>
    optE (s80 (a1.2.1, 1, 10000)) (fun r2 =>
      bif r2 then
        optE (s80 (a1.2.2, 1, 200)) (fun r3 =>
          optE (s66 (r3, 2)) (fun r4 =>
            optE (s65 [r1, r4]) (fun r5 =>
              bif r5 != 0 then
                some (([], r5))
              else
                optE (s62 (a1.1, [a0.2.1, a0.2.2])) (fun r6 =>
                  bif r6 != 0 then
                    some (([], r6))
                  else
                    optE (s62 (wr (a1.1 + (wr (a1.2.1 * (wr (a1.2.2 - 1))))), [a0.2.1, a0.2.2])) (fun r7 =>
                      bif r7 != 0 then
                        some (([], r7))
                      else
                        optE (loopVal step41_0 ([], a1.2.2, 0, a0, a1)) (fun e8 =>
                          some ((e8, 0)))
                          (none))
                      (none))
                  (none))
              (none))
            (none))
          (none)
      else
        optE (s66 (false, 2)) (fun r9 =>
          optE (s65 [r1, r9]) (fun r10 =>
            bif r10 != 0 then
              some (([], r10))
            else
              optE (s62 (a1.1, [a0.2.1, a0.2.2])) (fun r11 =>
                bif r11 != 0 then
                  some (([], r11))
                else
                  optE (s62 (wr (a1.1 + (wr (a1.2.1 * (wr (a1.2.2 - 1))))), [a0.2.1, a0.2.2])) (fun r12 =>
                    bif r12 != 0 then
                      some (([], r12))
                    else
                      optE (loopVal step41_0 ([], a1.2.2, 0, a0, a1)) (fun e13 =>
                        some ((e13, 0)))
                        (none))
                    (none))
                (none))
            (none))
          (none))
      (none))
    (none)
theorem i41 : ItemOk Tryz.prog (.fn 41 [.d (.agg (.pair (.pair (.pair (.int .i64) (.pair (.int .i64) (.int .i64))) (.slice (.agg (.pair (.pair (.int .i64) (.pair (.int .i64) (.int .i64))) (.pair (.int .i64) (.int .i64)))))) (.pair (.pair (.slice (.agg (.pair (.int .i64) (.pair (.int .i64) (.pair (.int .i64) (.int .i64)))))) (.int .i64)) (.pair (.slice (.agg (.pair (.int .i64) (.pair (.int .i64) (.pair (.int .i64) (.int .i64)))))) (.int .i64))))), .d (.agg (.pair (.int .i64) (.pair (.int .i64) (.int .i64))))] [.own 80 (.agg (.pair (.int .i64) (.pair (.int .i64) (.int .i64)))), .d (.int .i64)] s41) := item_fnM md1 ext1 (U := 9) (n := 4) noSpecial mixed Gb5K1_ok (fun x => by kernel_rfl)
noncomputable def Gb5K2 : List Ev.Item := .fn 41 [.d (.agg (.pair (.pair (.pair (.int .i64) (.pair (.int .i64) (.int .i64))) (.slice (.agg (.pair (.pair (.int .i64) (.pair (.int .i64) (.int .i64))) (.pair (.int .i64) (.int .i64)))))) (.pair (.pair (.slice (.agg (.pair (.int .i64) (.pair (.int .i64) (.pair (.int .i64) (.int .i64)))))) (.int .i64)) (.pair (.slice (.agg (.pair (.int .i64) (.pair (.int .i64) (.pair (.int .i64) (.int .i64)))))) (.int .i64))))), .d (.agg (.pair (.int .i64) (.pair (.int .i64) (.int .i64))))] [.own 80 (.agg (.pair (.int .i64) (.pair (.int .i64) (.int .i64)))), .d (.int .i64)] s41 :: Gb5K1
theorem Gb5K2_ok : ∀ q ∈ Gb5K2, ItemOk Tryz.prog q := items_cons i41 Gb5K1_ok

/-! cassegrain cassegrainref01.GridErr -/
noncomputable def s42 : (((Int × Int × Int) × List ((Int × Int × Int) × Int × Int)) × ((List (Int × Int × Int × Int)) × Int) × (List (Int × Int × Int × Int)) × Int) × (Int × Int × Int) → Option (Int) := fun (v, g) =>
  optE (s28 (g.2.1, 1, 10000)) (fun r1 =>
    bif !r1 then
      some (2)
    else
      optE (s28 (g.2.2, 1, 200)) (fun r2 =>
        bif !r2 then
          some (2)
        else
          optE (s17 (v.2.1, v.2.2, g.1)) (fun r3 =>
            bif r3 != 0 then
              some (r3)
            else
              optE (s17 (v.2.1, v.2.2, wr (g.1 + (wr ((wr (g.2.2 - 1)) * g.2.1))))) (fun r4 =>
                some (r4))
                (none))
            (none))
        (none))
    (none)
theorem i42 : ItemOk Tryz.prog (.fn 42 [.d (.agg (.pair (.pair (.pair (.int .i64) (.pair (.int .i64) (.int .i64))) (.slice (.agg (.pair (.pair (.int .i64) (.pair (.int .i64) (.int .i64))) (.pair (.int .i64) (.int .i64)))))) (.pair (.pair (.slice (.agg (.pair (.int .i64) (.pair (.int .i64) (.pair (.int .i64) (.int .i64)))))) (.int .i64)) (.pair (.slice (.agg (.pair (.int .i64) (.pair (.int .i64) (.pair (.int .i64) (.int .i64)))))) (.int .i64))))), .d (.agg (.pair (.int .i64) (.pair (.int .i64) (.int .i64))))] [.d (.int .i64)] s42) := item_fnM md1 ext1 (U := 9) (n := 4) noSpecial mixed Gb5K2_ok (fun x => by kernel_rfl)
noncomputable def Gb5K3 : List Ev.Item := .fn 42 [.d (.agg (.pair (.pair (.pair (.int .i64) (.pair (.int .i64) (.int .i64))) (.slice (.agg (.pair (.pair (.int .i64) (.pair (.int .i64) (.int .i64))) (.pair (.int .i64) (.int .i64)))))) (.pair (.pair (.slice (.agg (.pair (.int .i64) (.pair (.int .i64) (.pair (.int .i64) (.int .i64)))))) (.int .i64)) (.pair (.slice (.agg (.pair (.int .i64) (.pair (.int .i64) (.pair (.int .i64) (.int .i64)))))) (.int .i64))))), .d (.agg (.pair (.int .i64) (.pair (.int .i64) (.int .i64))))] [.d (.int .i64)] s42 :: Gb5K2
theorem Gb5K3_ok : ∀ q ∈ Gb5K3, ItemOk Tryz.prog q := items_cons i42 Gb5K2_ok

/-! cassegrain cassegrainref01.Windows -/
@[reducible] def T44_0 : Tmpl := ⟨52, [(2, .ref 2 0 0 0), (3, .ref 3 0 0 0)], [.own 5 50 80 (.agg (.pair (.int .i64) (.pair (.int .i64) (.int .i64)))), .val 6 (.int .i64), .cells 2 [.d (.pair (.pair (.pair (.int .i64) (.pair (.int .i64) (.int .i64))) (.slice (.agg (.pair (.pair (.int .i64) (.pair (.int .i64) (.int .i64))) (.pair (.int .i64) (.int .i64)))))) (.pair (.pair (.slice (.agg (.pair (.int .i64) (.pair (.int .i64) (.pair (.int .i64) (.int .i64)))))) (.int .i64)) (.pair (.slice (.agg (.pair (.int .i64) (.pair (.int .i64) (.pair (.int .i64) (.int .i64)))))) (.int .i64))))], .cells 3 [.d (.pair (.int .i64) (.pair (.int .i64) (.int .i64)))]]⟩
@[reducible] def X44_0 : List (Ex × Tmpl) := [(.exit 0, ⟨52, [], [.own 5 50 80 (.agg (.pair (.int .i64) (.pair (.int .i64) (.int .i64))))]⟩)]
/-- data: out, i, v, g; ends: exit 0: out -/
noncomputable def step44_0 : (List (Int × Int × Int)) × Int × (((Int × Int × Int) × List ((Int × Int × Int) × Int × Int)) × ((List (Int × Int × Int × Int)) × Int) × (List (Int × Int × Int × Int)) × Int) × (Int × Int × Int) → Option (((List (Int × Int × Int)) × Int × (((Int × Int × Int) × List ((Int × Int × Int) × Int × Int)) × ((List (Int × Int × Int × Int)) × Int) × (List (Int × Int × Int × Int)) × Int) × (Int × Int × Int)) ⊕ (List (Int × Int × Int))) := fun (out, i, v, g) =>
  bif decide (i < g.2.2) then
    optE (s40 (v, wr (g.1 + (wr (i * g.2.1))))) (fun r1 =>
      bif decide ((out.length : Int) > 0) then
        bif inBounds (wr ((out.length : Int) - 1)) out.length then
          bif (out.getD (wr ((out.length : Int) - 1)).toNat (0, 0, 0)).1 == r1 then
            bif inBounds (wr ((out.length : Int) - 1)) out.length then
              some (.inl (out.set (wr ((out.length : Int) - 1)).toNat ((out.getD (wr ((out.length : Int) - 1)).toNat (0, 0, 0)).1, (out.getD (wr ((out.length : Int) - 1)).toNat (0, 0, 0)).2.1, i), wr (i + 1), v, g))
            else
              none
          else
            bif room 24 (out.length + 1) then
              some (.inl (out ++ [(r1, i, i)], wr (i + 1), v, g))
            else
              none
        else
          none
      else
        bif room 24 (out.length + 1) then
          some (.inl (out ++ [(r1, i, i)], wr (i + 1), v, g))
        else
          none)
      (none)
  else
    some (.inr out)
theorem one44_0 : oneLoop Tryz.prog 44 0 = true := by kernel_rfl
theorem lp44_0 : ItemOk Tryz.prog (.loop 44 0 T44_0 X44_0 (loopVal step44_0)) := item_loopM md1 ext1 (U := 9) (n := 3) noSpecial mixed Gb5K3_ok one44_0 (fun x => by kernel_rfl)
noncomputable def Gb5K4 : List Ev.Item := .loop 44 0 T44_0 X44_0 (loopVal step44_0) :: Gb5K3
theorem Gb5K4_ok : ∀ q ∈ Gb5K4, ItemOk Tryz.prog q := items_cons lp44_0 Gb5K3_ok
noncomputable def s44 : (((Int × Int × Int) × List ((Int × Int × Int) × Int × Int)) × ((List (Int × Int × Int × Int)) × Int) × (List (Int × Int × Int × Int)) × Int) × (Int × Int × Int) → Option (List (Int × Int × Int)) := fun (v, g) =>
  optE (loopVal step44_0 ([], 0, v, g)) (fun e1 =>
    some (e1))
    (none)
theorem i44 : ItemOk Tryz.prog (.fn 44 [.d (.agg (.pair (.pair (.pair (.int .i64) (.pair (.int .i64) (.int .i64))) (.slice (.agg (.pair (.pair (.int .i64) (.pair (.int .i64) (.int .i64))) (.pair (.int .i64) (.int .i64)))))) (.pair (.pair (.slice (.agg (.pair (.int .i64) (.pair (.int .i64) (.pair (.int .i64) (.int .i64)))))) (.int .i64)) (.pair (.slice (.agg (.pair (.int .i64) (.pair (.int .i64) (.pair (.int .i64) (.int .i64)))))) (.int .i64))))), .d (.agg (.pair (.int .i64) (.pair (.int .i64) (.int .i64))))] [.own 80 (.agg (.pair (.int .i64) (.pair (.int .i64) (.int .i64))))] s44) := item_fnM md1 ext1 (U := 9) (n := 4) noSpecial mixed Gb5K4_ok (fun x => by kernel_rfl)
noncomputable def Gb5K5 : List Ev.Item := .fn 44 [.d (.agg (.pair (.pair (.pair (.int .i64) (.pair (.int .i64) (.int .i64))) (.slice (.agg (.pair (.pair (.int .i64) (.pair (.int .i64) (.int .i64))) (.pair (.int .i64) (.int .i64)))))) (.pair (.pair (.slice (.agg (.pair (.int .i64) (.pair (.int .i64) (.pair (.int .i64) (.int .i64)))))) (.int .i64)) (.pair (.slice (.agg (.pair (.int .i64) (.pair (.int .i64) (.pair (.int .i64) (.int .i64)))))) (.int .i64))))), .d (.agg (.pair (.int .i64) (.pair (.int .i64) (.int .i64))))] [.own 80 (.agg (.pair (.int .i64) (.pair (.int .i64) (.int .i64))))] s44 :: Gb5K4
theorem Gb5K5_ok : ∀ q ∈ Gb5K5, ItemOk Tryz.prog q := items_cons i44 Gb5K4_ok

/-! cassegrain cassegrainref01.SameWindows -/
@[reducible] def T43_0 : Tmpl := ⟨26, [], [.val 0 (.slice (.agg (.pair (.int .i64) (.pair (.int .i64) (.int .i64))))), .val 1 (.slice (.agg (.pair (.int .i64) (.pair (.int .i64) (.int .i64))))), .val 5 (.int .i64)]⟩
@[reducible] def X43_0 : List (Ex × Tmpl) := [(.ret, ⟨26, [], [.val 4 .bool]⟩), (.exit 0, ⟨26, [], []⟩)]
/-- data: a, b, i; ends: ret: t4; exit 0:  -/
noncomputable def step43_0 : (List (Int × Int × Int)) × (List (Int × Int × Int)) × Int → Option (((List (Int × Int × Int)) × (List (Int × Int × Int)) × Int) ⊕ ((Bool) ⊕ (Unit))) := fun (a, b, i) =>
  bif decide (i < (a.length : Int)) then
    bif inBounds i a.length then
      bif inBounds i b.length then
        bif !(((a.getD i.toNat (0, 0, 0)).1 == (b.getD i.toNat (0, 0, 0)).1) && (((a.getD i.toNat (0, 0, 0)).2.1 == (b.getD i.toNat (0, 0, 0)).2.1) && (((a.getD i.toNat (0, 0, 0)).2.2 == (b.getD i.toNat (0, 0, 0)).2.2) && true))) then
          some (.inr (.inl false))
        else
          some (.inl (a, b, wr (i + 1)))
      else
        none
    else
      none
  else
    some (.inr (.inr ()))
theorem one43_0 : oneLoop Tryz.prog 43 0 = true := by kernel_rfl
theorem lp43_0 : ItemOk Tryz.prog (.loop 43 0 T43_0 X43_0 (loopVal step43_0)) := item_loopM md1 ext1 (U := 9) (n := 3) noSpecial mixed Gb5K5_ok one43_0 (fun x => by kernel_rfl)
noncomputable def Gb5K6 : List Ev.Item := .loop 43 0 T43_0 X43_0 (loopVal step43_0) :: Gb5K5
theorem Gb5K6_ok : ∀ q ∈ Gb5K6, ItemOk Tryz.prog q := items_cons lp43_0 Gb5K5_ok
noncomputable def s43 : (List (Int × Int × Int)) × (List (Int × Int × Int)) → Option (Bool) := fun (a, b) =>
  bif (a.length : Int) != (b.length : Int) then
    some (false)
  else
    optE (loopVal step43_0 (a, b, 0)) (fun e1 =>
      sumE e1 (fun e2 =>
        some (e2)) (fun _ =>
        some (true)))
      (none)
theorem i43 : ItemOk Tryz.prog (.fn 43 [.d (.slice (.agg (.pair (.int .i64) (.pair (.int .i64) (.int .i64))))), .d (.slice (.agg (.pair (.int .i64) (.pair (.int .i64) (.int .i64)))))] [.d .bool] s43) := item_fnM md1 ext1 (U := 9) (n := 4) noSpecial mixed Gb5K6_ok (fun x => by kernel_rfl)
noncomputable def Gb5K7 : List Ev.Item := .fn 43 [.d (.slice (.agg (.pair (.int .i64) (.pair (.int .i64) (.int .i64))))), .d (.slice (.agg (.pair (.int .i64) (.pair (.int .i64) (.int .i64)))))] [.d .bool] s43 :: Gb5K6
theorem Gb5K7_ok : ∀ q ∈ Gb5K7, ItemOk Tryz.prog q := items_cons i43 Gb5K6_ok

/-! cassegrain cassegrainlaw01.PathWindows -/
@[reducible] def T9_2 : Tmpl := ⟨161, [(2, .ref 2 0 0 0), (3, .ref 3 0 0 0)], [.val 5 (.slice (.agg (.pair (.int .i64) (.pair (.int .i64) (.int .i64))))), .val 9 (.int .i64), .val 10 (.int .i64), .cells 2 [.d (.pair (.pair (.pair (.int .i64) (.pair (.int .i64) (.int .i64))) (.slice (.agg (.pair (.pair (.int .i64) (.pair (.int .i64) (.int .i64))) (.pair (.int .i64) (.int .i64)))))) (.pair (.pair (.slice (.agg (.pair (.int .i64) (.pair (.int .i64) (.pair (.int .i64) (.int .i64)))))) (.int .i64)) (.pair (.slice (.agg (.pair (.int .i64) (.pair (.int .i64) (.pair (.int .i64) (.int .i64)))))) (.int .i64))))], .cells 3 [.d (.pair (.int .i64) (.pair (.int .i64) (.int .i64)))]]⟩
@[reducible] def X9_2 : List (Ex × Tmpl) := [(.ret, ⟨161, [], [.val 4 .bool]⟩), (.exit 2, ⟨161, [(2, .ref 2 0 0 0), (3, .ref 3 0 0 0)], [.val 5 (.slice (.agg (.pair (.int .i64) (.pair (.int .i64) (.int .i64))))), .val 9 (.int .i64), .cells 2 [.d (.pair (.pair (.pair (.int .i64) (.pair (.int .i64) (.int .i64))) (.slice (.agg (.pair (.pair (.int .i64) (.pair (.int .i64) (.int .i64))) (.pair (.int .i64) (.int .i64)))))) (.pair (.pair (.slice (.agg (.pair (.int .i64) (.pair (.int .i64) (.pair (.int .i64) (.int .i64)))))) (.int .i64)) (.pair (.slice (.agg (.pair (.int .i64) (.pair (.int .i64) (.pair (.int .i64) (.int .i64)))))) (.int .i64))))], .cells 3 [.d (.pair (.int .i64) (.pair (.int .i64) (.int .i64)))]]⟩)]
/-- data: t5, t9, t10, t2, t3; ends: ret: t4; exit 2: t5, t9, t2, t3 -/
noncomputable def step9_2 : (List (Int × Int × Int)) × Int × Int × (((Int × Int × Int) × List ((Int × Int × Int) × Int × Int)) × ((List (Int × Int × Int × Int)) × Int) × (List (Int × Int × Int × Int)) × Int) × (Int × Int × Int) → Option (((List (Int × Int × Int)) × Int × Int × (((Int × Int × Int) × List ((Int × Int × Int) × Int × Int)) × ((List (Int × Int × Int × Int)) × Int) × (List (Int × Int × Int × Int)) × Int) × (Int × Int × Int)) ⊕ ((Bool) ⊕ ((List (Int × Int × Int)) × Int × (((Int × Int × Int) × List ((Int × Int × Int) × Int × Int)) × ((List (Int × Int × Int × Int)) × Int) × (List (Int × Int × Int × Int)) × Int) × (Int × Int × Int)))) := fun (t5, t9, t10, t2, t3) =>
  bif inBounds t9 t5.length then
    bif decide (t10 ≤ (t5.getD t9.toNat (0, 0, 0)).2.2) then
      optE (s37 t2) (fun r10 =>
        optE (s36 (r10, wr (t3.1 + (wr (t10 * t3.2.1))))) (fun r11 =>
          bif r11.2 != 0 then
            some (.inr (.inl false))
          else
            bif inBounds t9 t5.length then
              bif r11.1 != (t5.getD t9.toNat (0, 0, 0)).1 then
                some (.inr (.inl false))
              else
                some (.inl (t5, t9, wr (t10 + 1), t2, t3))
            else
              none)
          (none))
        (none)
    else
      some (.inr (.inr (t5, t9, t2, t3)))
  else
    none
theorem one9_2 : oneLoop Tryz.prog 9 2 = true := by kernel_rfl
theorem lp9_2 : ItemOk Tryz.prog (.loop 9 2 T9_2 X9_2 (loopVal step9_2)) := item_loopM md1 ext1 (U := 9) (n := 3) noSpecial mixed Gb5K7_ok one9_2 (fun x => by kernel_rfl)
noncomputable def Gb5K8 : List Ev.Item := .loop 9 2 T9_2 X9_2 (loopVal step9_2) :: Gb5K7
theorem Gb5K8_ok : ∀ q ∈ Gb5K8, ItemOk Tryz.prog q := items_cons lp9_2 Gb5K7_ok
@[reducible] def T9_0 : Tmpl := ⟨161, [(2, .ref 2 0 0 0), (3, .ref 3 0 0 0)], [.val 5 (.slice (.agg (.pair (.int .i64) (.pair (.int .i64) (.int .i64))))), .val 8 (.int .i64), .val 9 (.int .i64), .cells 2 [.d (.pair (.pair (.pair (.int .i64) (.pair (.int .i64) (.int .i64))) (.slice (.agg (.pair (.pair (.int .i64) (.pair (.int .i64) (.int .i64))) (.pair (.int .i64) (.int .i64)))))) (.pair (.pair (.slice (.agg (.pair (.int .i64) (.pair (.int .i64) (.pair (.int .i64) (.int .i64)))))) (.int .i64)) (.pair (.slice (.agg (.pair (.int .i64) (.pair (.int .i64) (.pair (.int .i64) (.int .i64)))))) (.int .i64))))], .cells 3 [.d (.pair (.int .i64) (.pair (.int .i64) (.int .i64)))]]⟩
@[reducible] def X9_0 : List (Ex × Tmpl) := [(.ret, ⟨161, [], [.val 4 .bool]⟩), (.exit 0, ⟨161, [(3, .ref 3 0 0 0)], [.val 8 (.int .i64), .cells 3 [.d (.pair (.int .i64) (.pair (.int .i64) (.int .i64)))]]⟩)]
/-- data: t5, t8, t9, t2, t3; ends: ret: t4; exit 0: t8, t3 -/
noncomputable def step9_0 : (List (Int × Int × Int)) × Int × Int × (((Int × Int × Int) × List ((Int × Int × Int) × Int × Int)) × ((List (Int × Int × Int × Int)) × Int) × (List (Int × Int × Int × Int)) × Int) × (Int × Int × Int) → Option (((List (Int × Int × Int)) × Int × Int × (((Int × Int × Int) × List ((Int × Int × Int) × Int × Int)) × ((List (Int × Int × Int × Int)) × Int) × (List (Int × Int × Int × Int)) × Int) × (Int × Int × Int)) ⊕ ((Bool) ⊕ (Int × (Int × Int × Int)))) := fun (t5, t8, t9, t2, t3) =>
  bif decide (t9 < (t5.length : Int)) then
    bif inBounds t9 t5.length then
      bif (t5.getD t9.toNat (0, 0, 0)).2.1 != t8 then
        some (.inr (.inl false))
      else
        bif inBounds t9 t5.length then
          optE (s28 ((t5.getD t9.toNat (0, 0, 0)).2.2, t8, wr (t3.2.2 - 1))) (fun r9 =>
            bif !r9 then
              some (.inr (.inl false))
            else
              bif decide (t9 > 0) then
                bif inBounds t9 t5.length then
                  bif inBounds (wr (t9 - 1)) t5.length then
                    bif (t5.getD t9.toNat (0, 0, 0)).1 == (t5.getD (wr (t9 - 1)).toNat (0, 0, 0)).1 then
                      some (.inr (.inl false))
                    else
                      bif inBounds t9 t5.length then
                        optE (loopVal step9_2 (t5, t9, (t5.getD t9.toNat (0, 0, 0)).2.1, t2, t3)) (fun e10 =>
                          sumE e10 (fun e11 =>
                            some (.inr (.inl e11))) (fun e12 =>
                            bif inBounds e12.2.1 e12.1.length then
                              some (.inl (e12.1, wr ((e12.1.getD e12.2.1.toNat (0, 0, 0)).2.2 + 1), wr (e12.2.1 + 1), e12.2.2.1, e12.2.2.2))
                            else
                              none))
                          (none)
                      else
                        none
                  else
                    none
                else
                  none
              else
                bif inBounds t9 t5.length then
                  optE (loopVal step9_2 (t5, t9, (t5.getD t9.toNat (0, 0, 0)).2.1, t2, t3)) (fun e13 =>
                    sumE e13 (fun e14 =>
                      some (.inr (.inl e14))) (fun e15 =>
                      bif inBounds e15.2.1 e15.1.length then
                        some (.inl (e15.1, wr ((e15.1.getD e15.2.1.toNat (0, 0, 0)).2.2 + 1), wr (e15.2.1 + 1), e15.2.2.1, e15.2.2.2))
                      else
                        none))
                    (none)
                else
                  none)
            (none)
        else
          none
    else
      none
  else
    some (.inr (.inr (t8, t3)))
theorem one9_0 : oneLoop Tryz.prog 9 0 = true := by kernel_rfl
theorem lp9_0 : ItemOk Tryz.prog (.loop 9 0 T9_0 X9_0 (loopVal step9_0)) := item_loopM md1 ext1 (U := 9) (n := 3) noSpecial mixed Gb5K8_ok one9_0 (fun x => by kernel_rfl)
noncomputable def Gb5K9 : List Ev.Item := .loop 9 0 T9_0 X9_0 (loopVal step9_0) :: Gb5K8
theorem Gb5K9_ok : ∀ q ∈ Gb5K9, ItemOk Tryz.prog q := items_cons lp9_0 Gb5K8_ok
noncomputable def s9 : (((Int × Int × Int) × List ((Int × Int × Int) × Int × Int)) × ((List (Int × Int × Int × Int)) × Int) × (List (Int × Int × Int × Int)) × Int) × (Int × Int × Int) → Option (Bool) := fun (a0, a1) =>
  bif !true then
    some (false)
  else
    optE (s33 a0) (fun r1 =>
      bif !r1 then
        some (true)
      else
        optE (s28 (a1.2.2, 41, 200)) (fun r2 =>
          bif r2 then
            some (true)
          else
            optE (s37 a0) (fun r3 =>
              optE (s41 (r3, a1)) (fun r4 =>
                optE (s39 a0) (fun r5 =>
                  bif r5 == 0 then
                    optE (s42 (a0, a1)) (fun r6 =>
                      bif r6 != 0 then
                        bif r4.2 == r6 then
                          some ((r4.1.length : Int) == 0)
                        else
                          some (false)
                      else
                        bif r4.2 != 0 then
                          some (false)
                        else
                          bif (r4.1.length : Int) == 0 then
                            some (false)
                          else
                            bif decide ((r4.1.length : Int) > a1.2.2) then
                              some (false)
                            else
                              optE (s44 (a0, a1)) (fun r7 =>
                                optE (s43 (r4.1, r7)) (fun r8 =>
                                  bif !r8 then
                                    some (false)
                                  else
                                    optE (loopVal step9_0 (r4.1, 0, 0, a0, a1)) (fun e9 =>
                                      sumE e9 (fun e10 =>
                                        some (e10)) (fun e11 =>
                                        some (e11.1 == e11.2.2.2)))
                                      (none))
                                  (none))
                                (none))
                      (none)
                  else
                    bif r5 != 0 then
                      bif r4.2 == r5 then
                        some ((r4.1.length : Int) == 0)
                      else
                        some (false)
                    else
                      bif r4.2 != 0 then
                        some (false)
                      else
                        bif (r4.1.length : Int) == 0 then
                          some (false)
                        else
                          bif decide ((r4.1.length : Int) > a1.2.2) then
                            some (false)
                          else
                            optE (s44 (a0, a1)) (fun r12 =>
                              optE (s43 (r4.1, r12)) (fun r13 =>
                                bif !r13 then
                                  some (false)
                                else
                                  optE (loopVal step9_0 (r4.1, 0, 0, a0, a1)) (fun e14 =>
                                    sumE e14 (fun e15 =>
                                      some (e15)) (fun e16 =>
                                      some (e16.1 == e16.2.2.2)))
                                    (none))
                                (none))
                              (none))
                  (none))
                (none))
              (none))
          (none))
      (none)
theorem i9 : ItemOk Tryz.prog (.fn 9 [.d (.agg (.pair (.pair (.pair (.int .i64) (.pair (.int .i64) (.int .i64))) (.slice (.agg (.pair (.pair (.int .i64) (.pair (.int .i64) (.int .i64))) (.pair (.int .i64) (.int .i64)))))) (.pair (.pair (.slice (.agg (.pair (.int .i64) (.pair (.int .i64) (.pair (.int .i64) (.int .i64)))))) (.int .i64)) (.pair (.slice (.agg (.pair (.int .i64) (.pair (.int .i64) (.pair (.int .i64) (.int .i64)))))) (.int .i64))))), .d (.agg (.pair (.int .i64) (.pair (.int .i64) (.int .i64))))] [.d .bool] s9) := item_fnM md1 ext1 (U := 9) (n := 4) noSpecial mixed Gb5K9_ok (fun x => by kernel_rfl)
noncomputable def Gb5K10 : List Ev.Item := .fn 9 [.d (.agg (.pair (.pair (.pair (.int .i64) (.pair (.int .i64) (.int .i64))) (.slice (.agg (.pair (.pair (.int .i64) (.pair (.int .i64) (.int .i64))) (.pair (.int .i64) (.int .i64)))))) (.pair (.pair (.slice (.agg (.pair (.int .i64) (.pair (.int .i64) (.pair (.int .i64) (.int .i64)))))) (.int .i64)) (.pair (.slice (.agg (.pair (.int .i64) (.pair (.int .i64) (.pair (.int .i64) (.int .i64)))))) (.int .i64))))), .d (.agg (.pair (.int .i64) (.pair (.int .i64) (.int .i64))))] [.d .bool] s9 :: Gb5K9
theorem Gb5K10_ok : ∀ q ∈ Gb5K10, ItemOk Tryz.prog q := items_cons i9 Gb5K9_ok
end Go.Proofs.YtgpfdacidgmelaaGreat
