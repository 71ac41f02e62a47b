/- Printed by gen.py: specifications of functions. -/
import Derived.Test.YtgpfdacidgmelaaGreatGb3
set_option linter.unusedSimpArgs false
set_option maxRecDepth 100000
namespace Go.Proofs.YtgpfdacidgmelaaGreat
open Go.Ev

/-! cassegrain cassegrainlaw01.view -/
noncomputable def s33 : ((Int × Int × Int) × List ((Int × Int × Int) × Int × Int)) × ((List (Int × Int × Int × Int)) × Int) × (List (Int × Int × Int × Int)) × Int → Option (Bool) := fun v =>
  optE (s12 v.2) (fun r1 =>
    bif r1 then
      some (decide ((v.1.2.length : Int) ≤ 6))
    else
      some (false))
    (none)
theorem i33 : ItemOk Tryz.prog (.fn 33 [.d (.agg (.pair (.pair (.pair (.int .i64) (.pair (.int .i64) (.int .i64))) (.slice (.agg (.pair (.pair (.int .i64) (.pair (.int .i64) (.int .i64))) (.pair (.int .i64) (.int .i64)))))) (.pair (.pair (.slice (.agg (.pair (.int .i64) (.pair (.int .i64) (.pair (.int .i64) (.int .i64)))))) (.int .i64)) (.pair (.slice (.agg (.pair (.int .i64) (.pair (.int .i64) (.pair (.int .i64) (.int .i64)))))) (.int .i64)))))] [.d .bool] s33) := item_fnM md1 ext1 (U := 9) (n := 4) noSpecial mixed Gb3K14_ok (fun x => by kernel_rfl)
noncomputable def Gb4K1 : List Ev.Item := .fn 33 [.d (.agg (.pair (.pair (.pair (.int .i64) (.pair (.int .i64) (.int .i64))) (.slice (.agg (.pair (.pair (.int .i64) (.pair (.int .i64) (.int .i64))) (.pair (.int .i64) (.int .i64)))))) (.pair (.pair (.slice (.agg (.pair (.int .i64) (.pair (.int .i64) (.pair (.int .i64) (.int .i64)))))) (.int .i64)) (.pair (.slice (.agg (.pair (.int .i64) (.pair (.int .i64) (.pair (.int .i64) (.int .i64)))))) (.int .i64)))))] [.d .bool] s33 :: Gb3K14
theorem Gb4K1_ok : ∀ q ∈ Gb4K1, ItemOk Tryz.prog q := items_cons i33 Gb3K14_ok

/-! cassegrain cassegrainref01.CopySite -/
noncomputable def s35 : (Int × Int × Int) × List ((Int × Int × Int) × Int × Int) → Option ((Int × Int × Int) × List ((Int × Int × Int) × Int × Int)) := fun s =>
  listE (s.2)
    (some ((s.1, [])))
    (fun y1 l2 =>
      bif room 40 (l2.length + 1) then
        some ((s.1, y1 :: l2))
      else
        none)
theorem i35 : ItemOk Tryz.prog (.fn 35 [.d (.agg (.pair (.pair (.int .i64) (.pair (.int .i64) (.int .i64))) (.slice (.agg (.pair (.pair (.int .i64) (.pair (.int .i64) (.int .i64))) (.pair (.int .i64) (.int .i64)))))))] [.d (.agg (.pair (.pair (.int .i64) (.pair (.int .i64) (.int .i64))) (.slice (.agg (.pair (.pair (.int .i64) (.pair (.int .i64) (.int .i64))) (.pair (.int .i64) (.int .i64)))))))] s35) := item_fnM md1 ext1 (U := 9) (n := 4) noSpecial mixed Gb4K1_ok (fun x => by kernel_rfl)
noncomputable def Gb4K2 : List Ev.Item := .fn 35 [.d (.agg (.pair (.pair (.int .i64) (.pair (.int .i64) (.int .i64))) (.slice (.agg (.pair (.pair (.int .i64) (.pair (.int .i64) (.int .i64))) (.pair (.int .i64) (.int .i64)))))))] [.d (.agg (.pair (.pair (.int .i64) (.pair (.int .i64) (.int .i64))) (.slice (.agg (.pair (.pair (.int .i64) (.pair (.int .i64) (.int .i64))) (.pair (.int .i64) (.int .i64)))))))] s35 :: Gb4K1
theorem Gb4K2_ok : ∀ q ∈ Gb4K2, ItemOk Tryz.prog q := items_cons i35 Gb4K1_ok

/-! cassegrain path.directionErr$1 -/
noncomputable def s114 : Int → Option (Bool) := fun n =>
  optE (s115 (n, 100)) (fun r1 =>
    some (r1))
    (none)
theorem i114 : ItemOk Tryz.prog (.fn 114 [.d (.int .i64)] [.d .bool] s114) := item_fnM md1 ext1 (U := 9) (n := 4) noSpecial mixed Gb4K2_ok (fun x => by kernel_rfl)
noncomputable def Gb4K3 : List Ev.Item := .fn 114 [.d (.int .i64)] [.d .bool] s114 :: Gb4K2
theorem Gb4K3_ok : ∀ q ∈ Gb4K3, ItemOk Tryz.prog q := items_cons i114 Gb4K2_ok

/-! cassegrain path.ofVector -/
noncomputable def s116 : Int × Int × Int → Option (Int × Int × Int) := fun v =>
  some (v)
theorem i116 : ItemOk Tryz.prog (.fn 116 [.d (.agg (.pair (.int .i64) (.pair (.int .i64) (.int .i64))))] [.d (.agg (.pair (.int .i64) (.pair (.int .i64) (.int .i64))))] s116) := item_fnM md1 ext1 (U := 9) (n := 4) noSpecial mixed Gb4K3_ok (fun x => by kernel_rfl)
noncomputable def Gb4K4 : List Ev.Item := .fn 116 [.d (.agg (.pair (.int .i64) (.pair (.int .i64) (.int .i64))))] [.d (.agg (.pair (.int .i64) (.pair (.int .i64) (.int .i64))))] s116 :: Gb4K3
theorem Gb4K4_ok : ∀ q ∈ Gb4K4, ItemOk Tryz.prog q := items_cons i116 Gb4K3_ok

/-! cassegrain path.directionErr -/
noncomputable def s79 : Int × Int × Int → Option (Int) := fun v =>
  optE (s116 v) (fun r1 =>
    optE (s114 r1.1) (fun r2 =>
      bif r2 then
        optE (s114 r1.2.1) (fun r3 =>
          bif r3 then
            optE (s114 r1.2.2) (fun r4 =>
              optE (s66 (r4, 2)) (fun r5 =>
                optE (s66 (!((v.1 == 0) && ((v.2.1 == 0) && ((v.2.2 == 0) && true))), 11)) (fun r6 =>
                  optE (s65 [r5, r6]) (fun r7 =>
                    some (r7))
                    (none))
                  (none))
                (none))
              (none)
          else
            optE (s66 (false, 2)) (fun r8 =>
              optE (s66 (!((v.1 == 0) && ((v.2.1 == 0) && ((v.2.2 == 0) && true))), 11)) (fun r9 =>
                optE (s65 [r8, r9]) (fun r10 =>
                  some (r10))
                  (none))
                (none))
              (none))
          (none)
      else
        optE (s66 (false, 2)) (fun r11 =>
          optE (s66 (!((v.1 == 0) && ((v.2.1 == 0) && ((v.2.2 == 0) && true))), 11)) (fun r12 =>
            optE (s65 [r11, r12]) (fun r13 =>
              some (r13))
              (none))
            (none))
          (none))
      (none))
    (none)
theorem i79 : ItemOk Tryz.prog (.fn 79 [.d (.agg (.pair (.int .i64) (.pair (.int .i64) (.int .i64))))] [.d (.int .i64)] s79) := item_fnM md1 ext1 (U := 9) (n := 4) noSpecial mixed Gb4K4_ok (fun x => by kernel_rfl)
noncomputable def Gb4K5 : List Ev.Item := .fn 79 [.d (.agg (.pair (.int .i64) (.pair (.int .i64) (.int .i64))))] [.d (.int .i64)] s79 :: Gb4K4
theorem Gb4K5_ok : ∀ q ∈ Gb4K5, ItemOk Tryz.prog q := items_cons i79 Gb4K4_ok

/-! cassegrain path.CheckSite -/
@[reducible] def T34_0 : Tmpl := ⟨50, [], [.val 22 (.slice (.agg (.pair (.pair (.int .i64) (.pair (.int .i64) (.int .i64))) (.pair (.int .i64) (.int .i64))))), .val 23 (.int .i64), .val 24 (.int .i64)]⟩
@[reducible] def X34_0 : List (Ex × Tmpl) := [(.ret, ⟨50, [], [.val 2 (.int .i64), .val 3 (.int .i64)]⟩), (.exit 0, ⟨50, [], []⟩)]
/-- data: t22, t23, t24; ends: ret: t2, t3; exit 0:  -/
noncomputable def step34_0 : (List ((Int × Int × Int) × Int × Int)) × Int × Int → Option (((List ((Int × Int × Int) × Int × Int)) × Int × Int) ⊕ ((Int × Int) ⊕ (Unit))) := fun (t22, t23, t24) =>
  bif decide (t24 < t23) then
    bif inBounds t24 t22.length then
      optE (s79 (t22.getD t24.toNat ((0, 0, 0), 0, 0)).1) (fun r4 =>
        optE (s80 ((t22.getD t24.toNat ((0, 0, 0), 0, 0)).2.2, 1, 100)) (fun r5 =>
          bif r5 then
            optE (s80 ((t22.getD t24.toNat ((0, 0, 0), 0, 0)).2.1, 0, (t22.getD t24.toNat ((0, 0, 0), 0, 0)).2.2)) (fun r6 =>
              optE (s66 (r6, 2)) (fun r7 =>
                optE (s65 [r4, r7]) (fun r8 =>
                  bif r8 != 0 then
                    some (.inr (.inl (t24, r8)))
                  else
                    some (.inl (t22, t23, wr (t24 + 1))))
                  (none))
                (none))
              (none)
          else
            optE (s66 (false, 2)) (fun r9 =>
              optE (s65 [r4, r9]) (fun r10 =>
                bif r10 != 0 then
                  some (.inr (.inl (t24, r10)))
                else
                  some (.inl (t22, t23, wr (t24 + 1))))
                (none))
              (none))
          (none))
        (none)
    else
      none
  else
    some (.inr (.inr ()))
theorem one34_0 : oneLoop Tryz.prog 34 0 = true := by kernel_rfl
theorem lp34_0 : ItemOk Tryz.prog (.loop 34 0 T34_0 X34_0 (loopVal step34_0)) := item_loopM md1 ext1 (U := 9) (n := 3) noSpecial mixed Gb4K5_ok one34_0 (fun x => by kernel_rfl)
noncomputable def Gb4K6 : List Ev.Item := .loop 34 0 T34_0 X34_0 (loopVal step34_0) :: Gb4K5
theorem Gb4K6_ok : ∀ q ∈ Gb4K6, ItemOk Tryz.prog q := items_cons lp34_0 Gb4K5_ok
noncomputable def s34 : (Int × Int × Int) × List ((Int × Int × Int) × Int × Int) → Option (Int × Int) := fun s =>
  optE (s79 s.1) (fun r1 =>
    optE (s66 (decide ((s.2.length : Int) ≤ 4), 8)) (fun r2 =>
      optE (s65 [r1, r2]) (fun r3 =>
        bif r3 != 0 then
          some ((0, r3))
        else
          optE (loopVal step34_0 (s.2, (s.2.length : Int), 0)) (fun e4 =>
            sumE e4 (fun e5 =>
              some (e5)) (fun _ =>
              some ((0, 0))))
            (none))
        (none))
      (none))
    (none)
theorem i34 : ItemOk Tryz.prog (.fn 34 [.d (.agg (.pair (.pair (.int .i64) (.pair (.int .i64) (.int .i64))) (.slice (.agg (.pair (.pair (.int .i64) (.pair (.int .i64) (.int .i64))) (.pair (.int .i64) (.int .i64)))))))] [.d (.int .i64), .d (.int .i64)] s34) := item_fnM md1 ext1 (U := 9) (n := 4) noSpecial mixed Gb4K6_ok (fun x => by kernel_rfl)
noncomputable def Gb4K7 : List Ev.Item := .fn 34 [.d (.agg (.pair (.pair (.int .i64) (.pair (.int .i64) (.int .i64))) (.slice (.agg (.pair (.pair (.int .i64) (.pair (.int .i64) (.int .i64))) (.pair (.int .i64) (.int .i64)))))))] [.d (.int .i64), .d (.int .i64)] s34 :: Gb4K6
theorem Gb4K7_ok : ∀ q ∈ Gb4K7, ItemOk Tryz.prog q := items_cons i34 Gb4K6_ok

/-! cassegrain cassegrainref01.CopyView -/
noncomputable def s37 : ((Int × Int × Int) × List ((Int × Int × Int) × Int × Int)) × ((List (Int × Int × Int × Int)) × Int) × (List (Int × Int × Int × Int)) × Int → Option (((Int × Int × Int) × List ((Int × Int × Int) × Int × Int)) × ((List (Int × Int × Int × Int)) × Int) × (List (Int × Int × Int × Int)) × Int) := fun v =>
  optE (s35 v.1) (fun r1 =>
    optE (s14 v.2.1) (fun r2 =>
      optE (s14 v.2.2) (fun r3 =>
        some ((r1, r2, r3.1, r3.2)))
        (none))
      (none))
    (none)
theorem i37 : ItemOk Tryz.prog (.fn 37 [.d (.agg (.pair (.pair (.pair (.int .i64) (.pair (.int .i64) (.int .i64))) (.slice (.agg (.pair (.pair (.int .i64) (.pair (.int .i64) (.int .i64))) (.pair (.int .i64) (.int .i64)))))) (.pair (.pair (.slice (.agg (.pair (.int .i64) (.pair (.int .i64) (.pair (.int .i64) (.int .i64)))))) (.int .i64)) (.pair (.slice (.agg (.pair (.int .i64) (.pair (.int .i64) (.pair (.int .i64) (.int .i64)))))) (.int .i64)))))] [.d (.agg (.pair (.pair (.pair (.int .i64) (.pair (.int .i64) (.int .i64))) (.slice (.agg (.pair (.pair (.int .i64) (.pair (.int .i64) (.int .i64))) (.pair (.int .i64) (.int .i64)))))) (.pair (.pair (.slice (.agg (.pair (.int .i64) (.pair (.int .i64) (.pair (.int .i64) (.int .i64)))))) (.int .i64)) (.pair (.slice (.agg (.pair (.int .i64) (.pair (.int .i64) (.pair (.int .i64) (.int .i64)))))) (.int .i64)))))] s37) := item_fnM md1 ext1 (U := 9) (n := 4) noSpecial mixed Gb4K7_ok (fun x => by kernel_rfl)
noncomputable def Gb4K8 : List Ev.Item := .fn 37 [.d (.agg (.pair (.pair (.pair (.int .i64) (.pair (.int .i64) (.int .i64))) (.slice (.agg (.pair (.pair (.int .i64) (.pair (.int .i64) (.int .i64))) (.pair (.int .i64) (.int .i64)))))) (.pair (.pair (.slice (.agg (.pair (.int .i64) (.pair (.int .i64) (.pair (.int .i64) (.int .i64)))))) (.int .i64)) (.pair (.slice (.agg (.pair (.int .i64) (.pair (.int .i64) (.pair (.int .i64) (.int .i64)))))) (.int .i64)))))] [.d (.agg (.pair (.pair (.pair (.int .i64) (.pair (.int .i64) (.int .i64))) (.slice (.agg (.pair (.pair (.int .i64) (.pair (.int .i64) (.int .i64))) (.pair (.int .i64) (.int .i64)))))) (.pair (.pair (.slice (.agg (.pair (.int .i64) (.pair (.int .i64) (.pair (.int .i64) (.int .i64)))))) (.int .i64)) (.pair (.slice (.agg (.pair (.int .i64) (.pair (.int .i64) (.pair (.int .i64) (.int .i64)))))) (.int .i64)))))] s37 :: Gb4K7
theorem Gb4K8_ok : ∀ q ∈ Gb4K8, ItemOk Tryz.prog q := items_cons i37 Gb4K7_ok

/-! cassegrain path.viewErr -/
noncomputable def s81 : ((Int × Int × Int) × List ((Int × Int × Int) × Int × Int)) × ((List (Int × Int × Int × Int)) × Int) × (List (Int × Int × Int × Int)) × Int → Option (Int) := fun v =>
  optE (s34 v.1) (fun r1 =>
    optE (s61 [v.2.1, v.2.2]) (fun r2 =>
      optE (s65 [r1.2, r2]) (fun r3 =>
        some (r3))
        (none))
      (none))
    (none)
theorem i81 : ItemOk Tryz.prog (.fn 81 [.d (.agg (.pair (.pair (.pair (.int .i64) (.pair (.int .i64) (.int .i64))) (.slice (.agg (.pair (.pair (.int .i64) (.pair (.int .i64) (.int .i64))) (.pair (.int .i64) (.int .i64)))))) (.pair (.pair (.slice (.agg (.pair (.int .i64) (.pair (.int .i64) (.pair (.int .i64) (.int .i64)))))) (.int .i64)) (.pair (.slice (.agg (.pair (.int .i64) (.pair (.int .i64) (.pair (.int .i64) (.int .i64)))))) (.int .i64)))))] [.d (.int .i64)] s81) := item_fnM md1 ext1 (U := 9) (n := 4) noSpecial mixed Gb4K8_ok (fun x => by kernel_rfl)
noncomputable def Gb4K9 : List Ev.Item := .fn 81 [.d (.agg (.pair (.pair (.pair (.int .i64) (.pair (.int .i64) (.int .i64))) (.slice (.agg (.pair (.pair (.int .i64) (.pair (.int .i64) (.int .i64))) (.pair (.int .i64) (.int .i64)))))) (.pair (.pair (.slice (.agg (.pair (.int .i64) (.pair (.int .i64) (.pair (.int .i64) (.int .i64)))))) (.int .i64)) (.pair (.slice (.agg (.pair (.int .i64) (.pair (.int .i64) (.pair (.int .i64) (.int .i64)))))) (.int .i64)))))] [.d (.int .i64)] s81 :: Gb4K8
theorem Gb4K9_ok : ∀ q ∈ Gb4K9, ItemOk Tryz.prog q := items_cons i81 Gb4K8_ok

/-! (cassegrain path.triple).sizes -/
@[reducible] def T147_0 : Tmpl := ⟨18, [], [.val 3 (.int .i64), .val 6 (.agg (.pair (.int .i64) (.pair (.int .i64) (.int .i64)))), .val 7 (.int .i64)]⟩
@[reducible] def X147_0 : List (Ex × Tmpl) := [(.exit 0, ⟨18, [], [.val 3 (.int .i64)]⟩)]
/-- data: n, t6, t7; ends: exit 0: n -/
noncomputable def step147_0 : Int × (Int × Int × Int) × Int → Option ((Int × (Int × Int × Int) × Int) ⊕ (Int)) := fun (n, t6, t7) =>
  bif decide (t7 < 3) then
    bif inBounds t7 3 then
      some (.inl (wr (n + (mx ([t6.1, t6.2.1, t6.2.2].getD t7.toNat 0) (wr (-([t6.1, t6.2.1, t6.2.2].getD t7.toNat 0))))), t6, wr (t7 + 1)))
    else
      none
  else
    some (.inr n)
theorem one147_0 : oneLoop Tryz.prog 147 0 = true := by kernel_rfl
theorem lp147_0 : ItemOk Tryz.prog (.loop 147 0 T147_0 X147_0 (loopVal step147_0)) := item_loopM md1 ext1 (U := 9) (n := 3) noSpecial mixed Gb4K9_ok one147_0 (fun x => by kernel_rfl)
noncomputable def Gb4K10 : List Ev.Item := .loop 147 0 T147_0 X147_0 (loopVal step147_0) :: Gb4K9
theorem Gb4K10_ok : ∀ q ∈ Gb4K10, ItemOk Tryz.prog q := items_cons lp147_0 Gb4K9_ok
noncomputable def s147 : Int × Int × Int → Option (Int) := fun t =>
  optE (loopVal step147_0 (0, t, 0)) (fun e1 =>
    some (e1))
    (none)
theorem i147 : ItemOk Tryz.prog (.fn 147 [.d (.agg (.pair (.int .i64) (.pair (.int .i64) (.int .i64))))] [.d (.int .i64)] s147) := item_fnM md1 ext1 (U := 9) (n := 4) noSpecial mixed Gb4K10_ok (fun x => by kernel_rfl)
noncomputable def Gb4K11 : List Ev.Item := .fn 147 [.d (.agg (.pair (.int .i64) (.pair (.int .i64) (.int .i64))))] [.d (.int .i64)] s147 :: Gb4K10
theorem Gb4K11_ok : ∀ q ∈ Gb4K11, ItemOk Tryz.prog q := items_cons i147 Gb4K10_ok

/-! (cassegrain path.gap).along -/
noncomputable def s118 : (((Int × Int × Int) × Int) × Int) × (Int × Int × Int) → Option (Int × Int) := fun (g, v) =>
  optE (s116 v) (fun r1 =>
    optE (s146 (r1, g.1.1)) (fun r2 =>
      optE (s147 r1) (fun r3 =>
        some ((wr (r2 - (wr ((wr (g.2 * r3)) * g.1.2))), wr (r2 + (wr ((wr (g.2 * r3)) * g.1.2))))))
        (none))
      (none))
    (none)
theorem i118 : ItemOk Tryz.prog (.fn 118 [.d (.agg (.pair (.pair (.pair (.int .i64) (.pair (.int .i64) (.int .i64))) (.int .i64)) (.int .i64))), .d (.agg (.pair (.int .i64) (.pair (.int .i64) (.int .i64))))] [.d (.agg (.pair (.int .i64) (.int .i64)))] s118) := item_fnM md1 ext1 (U := 9) (n := 4) noSpecial mixed Gb4K11_ok (fun x => by kernel_rfl)
noncomputable def Gb4K12 : List Ev.Item := .fn 118 [.d (.agg (.pair (.pair (.pair (.int .i64) (.pair (.int .i64) (.int .i64))) (.int .i64)) (.int .i64))), .d (.agg (.pair (.int .i64) (.pair (.int .i64) (.int .i64))))] [.d (.agg (.pair (.int .i64) (.int .i64)))] s118 :: Gb4K11
theorem Gb4K12_ok : ∀ q ∈ Gb4K12, ItemOk Tryz.prog q := items_cons i118 Gb4K11_ok

/-! (cassegrain path.wide).times -/
noncomputable def s148 : (Int × Int) × Int → Option (Int × Int) := fun (w, n) =>
  optE (s139 (w.2, IntKind.u64.wrap n)) (fun r1 =>
    some ((IntKind.u64.wrap (r1.1 + (IntKind.u64.wrap (w.1 * (IntKind.u64.wrap n)))), r1.2)))
    (none)
theorem i148 : ItemOk Tryz.prog (.fn 148 [.d (.agg (.pair (.int .u64) (.int .u64))), .d (.int .i64)] [.d (.agg (.pair (.int .u64) (.int .u64)))] s148) := item_fnM md1 ext1 (U := 9) (n := 4) noSpecial mixed Gb4K12_ok (fun x => by kernel_rfl)
noncomputable def Gb4K13 : List Ev.Item := .fn 148 [.d (.agg (.pair (.int .u64) (.int .u64))), .d (.int .i64)] [.d (.agg (.pair (.int .u64) (.int .u64)))] s148 :: Gb4K12
theorem Gb4K13_ok : ∀ q ∈ Gb4K13, ItemOk Tryz.prog q := items_cons i148 Gb4K12_ok

/-! cassegrain path.hides -/
noncomputable def s119 : ((Int × Int × Int) × Int × Int) × Int × (Int × Int) → Option (Bool) := fun (c, product, square) =>
  optE (s116 c.1) (fun r1 =>
    bif decide (product > 0) then
      optE (s146 (r1, r1)) (fun r2 =>
        optE (s148 (square, wr (c.2.1 * r2))) (fun r3 =>
          optE (s105 product) (fun r4 =>
            optE (s148 (r4, c.2.2)) (fun r5 =>
              optE (s104 (r3, r5)) (fun r6 =>
                some (r6))
                (none))
              (none))
            (none))
          (none))
        (none)
    else
      some (false))
    (none)
theorem i119 : ItemOk Tryz.prog (.fn 119 [.d (.agg (.pair (.pair (.int .i64) (.pair (.int .i64) (.int .i64))) (.pair (.int .i64) (.int .i64)))), .d (.int .i64), .d (.agg (.pair (.int .u64) (.int .u64)))] [.d .bool] s119) := item_fnM md1 ext1 (U := 9) (n := 4) noSpecial mixed Gb4K13_ok (fun x => by kernel_rfl)
noncomputable def Gb4K14 : List Ev.Item := .fn 119 [.d (.agg (.pair (.pair (.int .i64) (.pair (.int .i64) (.int .i64))) (.pair (.int .i64) (.int .i64)))), .d (.int .i64), .d (.agg (.pair (.int .u64) (.int .u64)))] [.d .bool] s119 :: Gb4K13
theorem Gb4K14_ok : ∀ q ∈ Gb4K14, ItemOk Tryz.prog q := items_cons i119 Gb4K13_ok

/-! cassegrain path.visible -/
@[reducible] def T82_0 : Tmpl := ⟨66, [(5, .ref 5 0 0 0)], [.val 7 .bool, .val 8 .bool, .val 32 (.slice (.agg (.pair (.pair (.int .i64) (.pair (.int .i64) (.int .i64))) (.pair (.int .i64) (.int .i64))))), .val 33 (.int .i64), .val 34 (.int .i64), .cells 5 [.d (.pair (.pair (.pair (.int .i64) (.pair (.int .i64) (.int .i64))) (.int .i64)) (.int .i64))]]⟩
@[reducible] def X82_0 : List (Ex × Tmpl) := [(.exit 0, ⟨66, [], [.val 7 .bool, .val 8 .bool]⟩)]
/-- data: t7, t8, t32, t33, t34, t5; ends: exit 0: t7, t8 -/
noncomputable def step82_0 : Bool × Bool × (List ((Int × Int × Int) × Int × Int)) × Int × Int × (((Int × Int × Int) × Int) × Int) → Option ((Bool × Bool × (List ((Int × Int × Int) × Int × Int)) × Int × Int × (((Int × Int × Int) × Int) × Int)) ⊕ (Bool × Bool)) := fun (t7, t8, t32, t33, t34, t5) =>
  bif decide (t34 < t33) then
    bif inBounds t34 t32.length then
      optE (s118 (t5, (t32.getD t34.toNat ((0, 0, 0), 0, 0)).1)) (fun r3 =>
        bif t7 then
          optE (s101 t5) (fun r4 =>
            optE (s119 ((t32.getD t34.toNat ((0, 0, 0), 0, 0)), r3.2, r4)) (fun r5 =>
              bif t8 then
                some (.inl (!r5, true, t32, t33, wr (t34 + 1), t5))
              else
                optE (s102 t5) (fun r6 =>
                  optE (s119 ((t32.getD t34.toNat ((0, 0, 0), 0, 0)), r3.1, r6)) (fun r7 =>
                    some (.inl (!r5, r7, t32, t33, wr (t34 + 1), t5)))
                    (none))
                  (none))
              (none))
            (none)
        else
          bif t8 then
            some (.inl (false, true, t32, t33, wr (t34 + 1), t5))
          else
            optE (s102 t5) (fun r8 =>
              optE (s119 ((t32.getD t34.toNat ((0, 0, 0), 0, 0)), r3.1, r8)) (fun r9 =>
                some (.inl (false, r9, t32, t33, wr (t34 + 1), t5)))
                (none))
              (none))
        (none)
    else
      none
  else
    some (.inr (t7, t8))
theorem one82_0 : oneLoop Tryz.prog 82 0 = true := by kernel_rfl
theorem lp82_0 : ItemOk Tryz.prog (.loop 82 0 T82_0 X82_0 (loopVal step82_0)) := item_loopM md1 ext1 (U := 9) (n := 3) noSpecial mixed Gb4K14_ok one82_0 (fun x => by kernel_rfl)
noncomputable def Gb4K15 : List Ev.Item := .loop 82 0 T82_0 X82_0 (loopVal step82_0) :: Gb4K14
theorem Gb4K15_ok : ∀ q ∈ Gb4K15, ItemOk Tryz.prog q := items_cons lp82_0 Gb4K14_ok
noncomputable def s82 : (((Int × Int × Int) × List ((Int × Int × Int) × Int × Int)) × ((List (Int × Int × Int × Int)) × Int) × (List (Int × Int × Int × Int)) × Int) × Int → Option (Int) := fun (a0, a1) =>
  optE (s63 (a0.2.1, a1, a0.2.2, a1)) (fun r1 =>
    optE (s118 (r1, a0.1.1)) (fun r2 =>
      optE (loopVal step82_0 (decide (r2.1 ≥ 0), decide (r2.2 < 0), a0.1.2, (a0.1.2.length : Int), 0, r1)) (fun e3 =>
        bif e3.1 then
          some (2)
        else
          bif e3.2 then
            some (0)
          else
            some (1))
        (none))
      (none))
    (none)
theorem i82 : ItemOk Tryz.prog (.fn 82 [.d (.agg (.pair (.pair (.pair (.int .i64) (.pair (.int .i64) (.int .i64))) (.slice (.agg (.pair (.pair (.int .i64) (.pair (.int .i64) (.int .i64))) (.pair (.int .i64) (.int .i64)))))) (.pair (.pair (.slice (.agg (.pair (.int .i64) (.pair (.int .i64) (.pair (.int .i64) (.int .i64)))))) (.int .i64)) (.pair (.slice (.agg (.pair (.int .i64) (.pair (.int .i64) (.pair (.int .i64) (.int .i64)))))) (.int .i64))))), .d (.int .i64)] [.d (.int .i64)] s82) := item_fnM md1 ext1 (U := 9) (n := 4) noSpecial mixed Gb4K15_ok (fun x => by kernel_rfl)
noncomputable def Gb4K16 : List Ev.Item := .fn 82 [.d (.agg (.pair (.pair (.pair (.int .i64) (.pair (.int .i64) (.int .i64))) (.slice (.agg (.pair (.pair (.int .i64) (.pair (.int .i64) (.int .i64))) (.pair (.int .i64) (.int .i64)))))) (.pair (.pair (.slice (.agg (.pair (.int .i64) (.pair (.int .i64) (.pair (.int .i64) (.int .i64)))))) (.int .i64)) (.pair (.slice (.agg (.pair (.int .i64) (.pair (.int .i64) (.pair (.int .i64) (.int .i64)))))) (.int .i64))))), .d (.int .i64)] [.d (.int .i64)] s82 :: Gb4K15
theorem Gb4K16_ok : ∀ q ∈ Gb4K16, ItemOk Tryz.prog q := items_cons i82 Gb4K15_ok

/-! cassegrain path.VisibleAt -/
noncomputable def s36 : (((Int × Int × Int) × List ((Int × Int × Int) × Int × Int)) × ((List (Int × Int × Int × Int)) × Int) × (List (Int × Int × Int × Int)) × Int) × Int → Option (Int × Int) := fun (v, time) =>
  optE (s81 v) (fun r1 =>
    bif r1 != 0 then
      some ((0, r1))
    else
      optE (s62 (time, [v.2.1, v.2.2])) (fun r2 =>
        bif r2 != 0 then
          some ((0, r2))
        else
          optE (s82 (v, time)) (fun r3 =>
            some ((r3, 0)))
            (none))
        (none))
    (none)
theorem i36 : ItemOk Tryz.prog (.fn 36 [.d (.agg (.pair (.pair (.pair (.int .i64) (.pair (.int .i64) (.int .i64))) (.slice (.agg (.pair (.pair (.int .i64) (.pair (.int .i64) (.int .i64))) (.pair (.int .i64) (.int .i64)))))) (.pair (.pair (.slice (.agg (.pair (.int .i64) (.pair (.int .i64) (.pair (.int .i64) (.int .i64)))))) (.int .i64)) (.pair (.slice (.agg (.pair (.int .i64) (.pair (.int .i64) (.pair (.int .i64) (.int .i64)))))) (.int .i64))))), .d (.int .i64)] [.d (.int .i64), .d (.int .i64)] s36) := item_fnM md1 ext1 (U := 9) (n := 4) noSpecial mixed Gb4K16_ok (fun x => by kernel_rfl)
noncomputable def Gb4K17 : List Ev.Item := .fn 36 [.d (.agg (.pair (.pair (.pair (.int .i64) (.pair (.int .i64) (.int .i64))) (.slice (.agg (.pair (.pair (.int .i64) (.pair (.int .i64) (.int .i64))) (.pair (.int .i64) (.int .i64)))))) (.pair (.pair (.slice (.agg (.pair (.int .i64) (.pair (.int .i64) (.pair (.int .i64) (.int .i64)))))) (.int .i64)) (.pair (.slice (.agg (.pair (.int .i64) (.pair (.int .i64) (.pair (.int .i64) (.int .i64)))))) (.int .i64))))), .d (.int .i64)] [.d (.int .i64), .d (.int .i64)] s36 :: Gb4K16
theorem Gb4K17_ok : ∀ q ∈ Gb4K17, ItemOk Tryz.prog q := items_cons i36 Gb4K16_ok

/-! cassegrain cassegrainref01.isAxis -/
noncomputable def s83 : Int × Int × Int → Option (Bool) := fun v =>
  optE (s28 (v.1, (-100), 100)) (fun r1 =>
    bif r1 then
      optE (s28 (v.2.1, (-100), 100)) (fun r2 =>
        bif r2 then
          optE (s28 (v.2.2, (-100), 100)) (fun r3 =>
            some (r3))
            (none)
        else
          some (false))
        (none)
    else
      some (false))
    (none)
theorem i83 : ItemOk Tryz.prog (.fn 83 [.d (.agg (.pair (.int .i64) (.pair (.int .i64) (.int .i64))))] [.d .bool] s83) := item_fnM md1 ext1 (U := 9) (n := 4) noSpecial mixed Gb4K17_ok (fun x => by kernel_rfl)
noncomputable def Gb4K18 : List Ev.Item := .fn 83 [.d (.agg (.pair (.int .i64) (.pair (.int .i64) (.int .i64))))] [.d .bool] s83 :: Gb4K17
theorem Gb4K18_ok : ∀ q ∈ Gb4K18, ItemOk Tryz.prog q := items_cons i83 Gb4K17_ok

/-! cassegrain cassegrainref01.CheckSite -/
@[reducible] def T38_0 : Tmpl := ⟨53, [(1, .ref 1 0 0 0)], [.val 4 (.int .i64), .cells 1 [.d (.pair (.pair (.int .i64) (.pair (.int .i64) (.int .i64))) (.slice (.agg (.pair (.pair (.int .i64) (.pair (.int .i64) (.int .i64))) (.pair (.int .i64) (.int .i64))))))]]⟩
@[reducible] def X38_0 : List (Ex × Tmpl) := [(.ret, ⟨53, [], [.val 2 (.int .i64), .val 3 (.int .i64)]⟩), (.exit 0, ⟨53, [], []⟩)]
/-- data: i, s; ends: ret: t2, t3; exit 0:  -/
noncomputable def step38_0 : Int × ((Int × Int × Int) × List ((Int × Int × Int) × Int × Int)) → Option ((Int × ((Int × Int × Int) × List ((Int × Int × Int) × Int × Int))) ⊕ ((Int × Int) ⊕ (Unit))) := fun (i, s) =>
  bif decide (i < (s.2.length : Int)) then
    bif inBounds i s.2.length then
      optE (s83 (s.2.getD i.toNat ((0, 0, 0), 0, 0)).1) (fun r2 =>
        bif !r2 then
          some (.inr (.inl (i, 2)))
        else
          bif ((s.2.getD i.toNat ((0, 0, 0), 0, 0)).1.1 == 0) && (((s.2.getD i.toNat ((0, 0, 0), 0, 0)).1.2.1 == 0) && (((s.2.getD i.toNat ((0, 0, 0), 0, 0)).1.2.2 == 0) && true)) then
            some (.inr (.inl (i, 11)))
          else
            optE (s28 ((s.2.getD i.toNat ((0, 0, 0), 0, 0)).2.2, 1, 100)) (fun r3 =>
              bif !r3 then
                some (.inr (.inl (i, 2)))
              else
                optE (s28 ((s.2.getD i.toNat ((0, 0, 0), 0, 0)).2.1, 0, (s.2.getD i.toNat ((0, 0, 0), 0, 0)).2.2)) (fun r4 =>
                  bif !r4 then
                    some (.inr (.inl (i, 2)))
                  else
                    some (.inl (wr (i + 1), s)))
                  (none))
              (none))
        (none)
    else
      none
  else
    some (.inr (.inr ()))
theorem one38_0 : oneLoop Tryz.prog 38 0 = true := by kernel_rfl
theorem lp38_0 : ItemOk Tryz.prog (.loop 38 0 T38_0 X38_0 (loopVal step38_0)) := item_loopM md1 ext1 (U := 9) (n := 3) noSpecial mixed Gb4K18_ok one38_0 (fun x => by kernel_rfl)
noncomputable def Gb4K19 : List Ev.Item := .loop 38 0 T38_0 X38_0 (loopVal step38_0) :: Gb4K18
theorem Gb4K19_ok : ∀ q ∈ Gb4K19, ItemOk Tryz.prog q := items_cons lp38_0 Gb4K18_ok
noncomputable def s38 : (Int × Int × Int) × List ((Int × Int × Int) × Int × Int) → Option (Int × Int) := fun s =>
  optE (s83 s.1) (fun r1 =>
    bif !r1 then
      some ((0, 2))
    else
      bif (s.1.1 == 0) && ((s.1.2.1 == 0) && ((s.1.2.2 == 0) && true)) then
        some ((0, 11))
      else
        bif decide ((s.2.length : Int) > 4) then
          some ((0, 8))
        else
          optE (loopVal step38_0 (0, s)) (fun e2 =>
            sumE e2 (fun e3 =>
              some (e3)) (fun _ =>
              some ((0, 0))))
            (none))
    (none)
theorem i38 : ItemOk Tryz.prog (.fn 38 [.d (.agg (.pair (.pair (.int .i64) (.pair (.int .i64) (.int .i64))) (.slice (.agg (.pair (.pair (.int .i64) (.pair (.int .i64) (.int .i64))) (.pair (.int .i64) (.int .i64)))))))] [.d (.int .i64), .d (.int .i64)] s38) := item_fnM md1 ext1 (U := 9) (n := 4) noSpecial mixed Gb4K19_ok (fun x => by kernel_rfl)
noncomputable def Gb4K20 : List Ev.Item := .fn 38 [.d (.agg (.pair (.pair (.int .i64) (.pair (.int .i64) (.int .i64))) (.slice (.agg (.pair (.pair (.int .i64) (.pair (.int .i64) (.int .i64))) (.pair (.int .i64) (.int .i64)))))))] [.d (.int .i64), .d (.int .i64)] s38 :: Gb4K19
theorem Gb4K20_ok : ∀ q ∈ Gb4K20, ItemOk Tryz.prog q := items_cons i38 Gb4K19_ok

/-! cassegrain cassegrainref01.ViewErr -/
noncomputable def s39 : ((Int × Int × Int) × List ((Int × Int × Int) × Int × Int)) × ((List (Int × Int × Int × Int)) × Int) × (List (Int × Int × Int × Int)) × Int → Option (Int) := fun v =>
  optE (s38 v.1) (fun r1 =>
    bif r1.2 != 0 then
      some (r1.2)
    else
      optE (s16 v.2) (fun r2 =>
        some (r2))
        (none))
    (none)
theorem i39 : ItemOk Tryz.prog (.fn 39 [.d (.agg (.pair (.pair (.pair (.int .i64) (.pair (.int .i64) (.int .i64))) (.slice (.agg (.pair (.pair (.int .i64) (.pair (.int .i64) (.int .i64))) (.pair (.int .i64) (.int .i64)))))) (.pair (.pair (.slice (.agg (.pair (.int .i64) (.pair (.int .i64) (.pair (.int .i64) (.int .i64)))))) (.int .i64)) (.pair (.slice (.agg (.pair (.int .i64) (.pair (.int .i64) (.pair (.int .i64) (.int .i64)))))) (.int .i64)))))] [.d (.int .i64)] s39) := item_fnM md1 ext1 (U := 9) (n := 4) noSpecial mixed Gb4K20_ok (fun x => by kernel_rfl)
noncomputable def Gb4K21 : List Ev.Item := .fn 39 [.d (.agg (.pair (.pair (.pair (.int .i64) (.pair (.int .i64) (.int .i64))) (.slice (.agg (.pair (.pair (.int .i64) (.pair (.int .i64) (.int .i64))) (.pair (.int .i64) (.int .i64)))))) (.pair (.pair (.slice (.agg (.pair (.int .i64) (.pair (.int .i64) (.pair (.int .i64) (.int .i64)))))) (.int .i64)) (.pair (.slice (.agg (.pair (.int .i64) (.pair (.int .i64) (.pair (.int .i64) (.int .i64)))))) (.int .i64)))))] [.d (.int .i64)] s39 :: Gb4K20
theorem Gb4K21_ok : ∀ q ∈ Gb4K21, ItemOk Tryz.prog q := items_cons i39 Gb4K20_ok

/-! cassegrain cassegrainref01.spread -/
noncomputable def s86 : Int × Int × Int → Option (Int) := fun v =>
  optE (s93 v.1) (fun r1 =>
    optE (s93 v.2.1) (fun r2 =>
      optE (s93 v.2.2) (fun r3 =>
        some (wr ((wr (r1 + r2)) + r3)))
        (none))
      (none))
    (none)
theorem i86 : ItemOk Tryz.prog (.fn 86 [.d (.agg (.pair (.int .i64) (.pair (.int .i64) (.int .i64))))] [.d (.int .i64)] s86) := item_fnM md1 ext1 (U := 9) (n := 4) noSpecial mixed Gb4K21_ok (fun x => by kernel_rfl)
noncomputable def Gb4K22 : List Ev.Item := .fn 86 [.d (.agg (.pair (.int .i64) (.pair (.int .i64) (.int .i64))))] [.d (.int .i64)] s86 :: Gb4K21
theorem Gb4K22_ok : ∀ q ∈ Gb4K22, ItemOk Tryz.prog q := items_cons i86 Gb4K21_ok

/-! cassegrain cassegrainref01.hides -/
noncomputable def s87 : ((Int × Int × Int) × Int × Int) × Int × (Int × List Int) → Option (Bool) := fun (c, product, distance) =>
  optE (s78 product) (fun r1 =>
    optE (s108 c.2.2) (fun r2 =>
      optE (s113 (r1, r2)) (fun r3 =>
        optE (s122 c.1) (fun r4 =>
          optE (s108 (wr (c.2.1 * r4))) (fun r5 =>
            optE (s113 (distance, r5)) (fun r6 =>
              bif decide (product > 0) then
                optE (s77 (r3, r6)) (fun r7 =>
                  some (decide (r7 > 0)))
                  (none)
              else
                some (false))
              (none))
            (none))
          (none))
        (none))
      (none))
    (none)
theorem i87 : ItemOk Tryz.prog (.fn 87 [.d (.agg (.pair (.pair (.int .i64) (.pair (.int .i64) (.int .i64))) (.pair (.int .i64) (.int .i64)))), .d (.int .i64), .d (.agg (.pair (.int .i64) (.slice (.int .i64))))] [.d .bool] s87) := item_fnM md1 ext1 (U := 9) (n := 4) noSpecial mixed Gb4K22_ok (fun x => by kernel_rfl)
noncomputable def Gb4K23 : List Ev.Item := .fn 87 [.d (.agg (.pair (.pair (.int .i64) (.pair (.int .i64) (.int .i64))) (.pair (.int .i64) (.int .i64)))), .d (.int .i64), .d (.agg (.pair (.int .i64) (.slice (.int .i64))))] [.d .bool] s87 :: Gb4K22
theorem Gb4K23_ok : ∀ q ∈ Gb4K23, ItemOk Tryz.prog q := items_cons i87 Gb4K22_ok

/-! cassegrain cassegrainref01.VisibleAt -/
@[reducible] def T40_0 : Tmpl := ⟨114, [(2, .ref 2 0 0 0), (5, .ref 5 0 0 0), (6, .ref 6 0 0 0), (7, .ref 7 0 0 0)], [.val 9 (.int .i64), .val 11 .bool, .val 12 .bool, .val 13 (.int .i64), .cells 2 [.d (.pair (.pair (.pair (.int .i64) (.pair (.int .i64) (.int .i64))) (.slice (.agg (.pair (.pair (.int .i64) (.pair (.int .i64) (.int .i64))) (.pair (.int .i64) (.int .i64)))))) (.pair (.pair (.slice (.agg (.pair (.int .i64) (.pair (.int .i64) (.pair (.int .i64) (.int .i64)))))) (.int .i64)) (.pair (.slice (.agg (.pair (.int .i64) (.pair (.int .i64) (.pair (.int .i64) (.int .i64)))))) (.int .i64))))], .cells 5 [.d (.pair (.pair (.int .i64) (.pair (.int .i64) (.int .i64))) (.int .i64))], .cells 6 [.d (.pair (.int .i64) (.slice (.int .i64)))], .cells 7 [.d (.pair (.int .i64) (.slice (.int .i64)))]]⟩
@[reducible] def X40_0 : List (Ex × Tmpl) := [(.exit 0, ⟨114, [], [.val 11 .bool, .val 12 .bool]⟩)]
/-- data: t9, t11, t12, t13, t2, t5, t6, t7; ends: exit 0: t11, t12 -/
noncomputable def step40_0 : Int × Bool × Bool × Int × (((Int × Int × Int) × List ((Int × Int × Int) × Int × Int)) × ((List (Int × Int × Int × Int)) × Int) × (List (Int × Int × Int × Int)) × Int) × ((Int × Int × Int) × Int) × (Int × List Int) × (Int × List Int) → Option ((Int × Bool × Bool × Int × (((Int × Int × Int) × List ((Int × Int × Int) × Int × Int)) × ((List (Int × Int × Int × Int)) × Int) × (List (Int × Int × Int × Int)) × Int) × ((Int × Int × Int) × Int) × (Int × List Int) × (Int × List Int)) ⊕ (Bool × Bool)) := fun (t9, t11, t12, t13, t2, t5, t6, t7) =>
  bif decide (t13 < (t2.1.2.length : Int)) then
    bif inBounds t13 t2.1.2.length then
      optE (s85 ((t2.1.2.getD t13.toNat ((0, 0, 0), 0, 0)).1, t5.1)) (fun r6 =>
        optE (s86 (t2.1.2.getD t13.toNat ((0, 0, 0), 0, 0)).1) (fun r7 =>
          bif t11 then
            optE (s87 ((t2.1.2.getD t13.toNat ((0, 0, 0), 0, 0)), wr (r6 + (wr (t9 * r7))), t6)) (fun r8 =>
              bif t12 then
                some (.inl (t9, !r8, true, wr (t13 + 1), t2, t5, t6, t7))
              else
                optE (s87 ((t2.1.2.getD t13.toNat ((0, 0, 0), 0, 0)), wr (r6 - (wr (t9 * r7))), t7)) (fun r9 =>
                  some (.inl (t9, !r8, r9, wr (t13 + 1), t2, t5, t6, t7)))
                  (none))
              (none)
          else
            bif t12 then
              some (.inl (t9, false, true, wr (t13 + 1), t2, t5, t6, t7))
            else
              optE (s87 ((t2.1.2.getD t13.toNat ((0, 0, 0), 0, 0)), wr (r6 - (wr (t9 * r7))), t7)) (fun r10 =>
                some (.inl (t9, false, r10, wr (t13 + 1), t2, t5, t6, t7)))
                (none))
          (none))
        (none)
    else
      none
  else
    some (.inr (t11, t12))
theorem one40_0 : oneLoop Tryz.prog 40 0 = true := by kernel_rfl
theorem lp40_0 : ItemOk Tryz.prog (.loop 40 0 T40_0 X40_0 (loopVal step40_0)) := item_loopM md1 ext1 (U := 9) (n := 3) noSpecial mixed Gb4K23_ok one40_0 (fun x => by kernel_rfl)
noncomputable def Gb4K24 : List Ev.Item := .loop 40 0 T40_0 X40_0 (loopVal step40_0) :: Gb4K23
theorem Gb4K24_ok : ∀ q ∈ Gb4K24, ItemOk Tryz.prog q := items_cons lp40_0 Gb4K23_ok
noncomputable def s40 : (((Int × Int × Int) × List ((Int × Int × Int) × Int × Int)) × ((List (Int × Int × Int × Int)) × Int) × (List (Int × Int × Int × Int)) × Int) × Int → Option (Int) := fun (a0, a1) =>
  optE (s84 (a0.2.1, a0.2.2, a1, a1)) (fun r1 =>
    optE (s69 (a0.2.1, a0.2.2, a1, a1)) (fun r2 =>
      optE (s85 (a0.1.1, r1.1)) (fun r3 =>
        optE (s86 a0.1.1) (fun r4 =>
          optE (s86 a0.1.1) (fun r5 =>
            optE (loopVal step40_0 (wr ((wr (a0.2.1.2 + a0.2.2.2)) * r1.2), decide ((wr (r3 - (wr ((wr ((wr (a0.2.1.2 + a0.2.2.2)) * r1.2)) * r4)))) ≥ 0), decide ((wr (r3 + (wr ((wr ((wr (a0.2.1.2 + a0.2.2.2)) * r1.2)) * r5)))) < 0), 0, a0, r1, r2.1, r2.2.1)) (fun e6 =>
              bif e6.2 then
                some (0)
              else
                bif e6.1 then
                  some (2)
                else
                  some (1))
              (none))
            (none))
          (none))
        (none))
      (none))
    (none)
theorem i40 : ItemOk Tryz.prog (.fn 40 [.d (.agg (.pair (.pair (.pair (.int .i64) (.pair (.int .i64) (.int .i64))) (.slice (.agg (.pair (.pair (.int .i64) (.pair (.int .i64) (.int .i64))) (.pair (.int .i64) (.int .i64)))))) (.pair (.pair (.slice (.agg (.pair (.int .i64) (.pair (.int .i64) (.pair (.int .i64) (.int .i64)))))) (.int .i64)) (.pair (.slice (.agg (.pair (.int .i64) (.pair (.int .i64) (.pair (.int .i64) (.int .i64)))))) (.int .i64))))), .d (.int .i64)] [.d (.int .i64)] s40) := item_fnM md1 ext1 (U := 9) (n := 4) noSpecial mixed Gb4K24_ok (fun x => by kernel_rfl)
noncomputable def Gb4K25 : List Ev.Item := .fn 40 [.d (.agg (.pair (.pair (.pair (.int .i64) (.pair (.int .i64) (.int .i64))) (.slice (.agg (.pair (.pair (.int .i64) (.pair (.int .i64) (.int .i64))) (.pair (.int .i64) (.int .i64)))))) (.pair (.pair (.slice (.agg (.pair (.int .i64) (.pair (.int .i64) (.pair (.int .i64) (.int .i64)))))) (.int .i64)) (.pair (.slice (.agg (.pair (.int .i64) (.pair (.int .i64) (.pair (.int .i64) (.int .i64)))))) (.int .i64))))), .d (.int .i64)] [.d (.int .i64)] s40 :: Gb4K24
theorem Gb4K25_ok : ∀ q ∈ Gb4K25, ItemOk Tryz.prog q := items_cons i40 Gb4K24_ok

/-! cassegrain cassegrainlaw01.PathSites -/
noncomputable def s8 : (((Int × Int × Int) × List ((Int × Int × Int) × Int × Int)) × ((List (Int × Int × Int × Int)) × Int) × (List (Int × Int × Int × Int)) × Int) × Int → Option (Bool) := fun (a0, a1) =>
  bif !true then
    some (false)
  else
    optE (s33 a0) (fun r1 =>
      bif !r1 then
        some (true)
      else
        optE (s35 a0.1) (fun r2 =>
          optE (s34 r2) (fun r3 =>
            optE (s37 a0) (fun r4 =>
              optE (s36 (r4, a1)) (fun r5 =>
                optE (s38 a0.1) (fun r6 =>
                  bif r3.2 != r6.2 then
                    some (false)
                  else
                    bif r3.1 != r6.1 then
                      some (false)
                    else
                      optE (s39 a0) (fun r7 =>
                        bif r7 == 0 then
                          optE (s17 (a0.2.1, a0.2.2, a1)) (fun r8 =>
                            bif r8 != 0 then
                              bif r5.2 == r8 then
                                some (r5.1 == 0)
                              else
                                some (false)
                            else
                              bif r5.2 == 0 then
                                optE (s40 (a0, a1)) (fun r9 =>
                                  some (r5.1 == r9))
                                  (none)
                              else
                                some (false))
                            (none)
                        else
                          bif r7 != 0 then
                            bif r5.2 == r7 then
                              some (r5.1 == 0)
                            else
                              some (false)
                          else
                            bif r5.2 == 0 then
                              optE (s40 (a0, a1)) (fun r10 =>
                                some (r5.1 == r10))
                                (none)
                            else
                              some (false))
                        (none))
                  (none))
                (none))
              (none))
            (none))
          (none))
      (none)
theorem i8 : ItemOk Tryz.prog (.fn 8 [.d (.agg (.pair (.pair (.pair (.int .i64) (.pair (.int .i64) (.int .i64))) (.slice (.agg (.pair (.pair (.int .i64) (.pair (.int .i64) (.int .i64))) (.pair (.int .i64) (.int .i64)))))) (.pair (.pair (.slice (.agg (.pair (.int .i64) (.pair (.int .i64) (.pair (.int .i64) (.int .i64)))))) (.int .i64)) (.pair (.slice (.agg (.pair (.int .i64) (.pair (.int .i64) (.pair (.int .i64) (.int .i64)))))) (.int .i64))))), .d (.int .i64)] [.d .bool] s8) := item_fnM md1 ext1 (U := 9) (n := 4) noSpecial mixed Gb4K25_ok (fun x => by kernel_rfl)
noncomputable def Gb4K26 : List Ev.Item := .fn 8 [.d (.agg (.pair (.pair (.pair (.int .i64) (.pair (.int .i64) (.int .i64))) (.slice (.agg (.pair (.pair (.int .i64) (.pair (.int .i64) (.int .i64))) (.pair (.int .i64) (.int .i64)))))) (.pair (.pair (.slice (.agg (.pair (.int .i64) (.pair (.int .i64) (.pair (.int .i64) (.int .i64)))))) (.int .i64)) (.pair (.slice (.agg (.pair (.int .i64) (.pair (.int .i64) (.pair (.int .i64) (.int .i64)))))) (.int .i64))))), .d (.int .i64)] [.d .bool] s8 :: Gb4K25
theorem Gb4K26_ok : ∀ q ∈ Gb4K26, ItemOk Tryz.prog q := items_cons i8 Gb4K25_ok
end Go.Proofs.YtgpfdacidgmelaaGreat
