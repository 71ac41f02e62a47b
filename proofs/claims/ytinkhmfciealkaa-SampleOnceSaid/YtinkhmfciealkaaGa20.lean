/- Printed by gen.py: specifications of functions. -/
import Derived.Test.YtinkhmfciealkaaGa19
set_option linter.unusedSimpArgs false
set_option maxRecDepth 100000
namespace Go.Proofs.Ytinkhmfciealkaa
open Go.Ev

/-! slices.Index[[]int,int] -/
@[reducible] def T134_0 : Tmpl := ⟨19, [], [.val 0 (.slice (.int .i64)), .val 1 (.int .i64), .val 7 (.int .i64), .val 8 (.int .i64)]⟩
@[reducible] def X134_0 : List (Ex × Tmpl) := [(.ret, ⟨19, [], [.val 4 (.int .i64)]⟩), (.exit 0, ⟨19, [], []⟩)]
/-- data: s, v, t7, t8; ends: ret: t4; exit 0:  -/
noncomputable def step134_0 : (List Int) × Int × Int × Int → Option (((List Int) × Int × Int × Int) ⊕ ((Int) ⊕ (Unit))) := fun (s, v, t7, t8) =>
  bif decide (t8 < t7) then
    bif inBounds t8 s.length then
      bif v == (s.getD t8.toNat 0) then
        some (.inr (.inl t8))
      else
        some (.inl (s, v, t7, wr (t8 + 1)))
    else
      none
  else
    some (.inr (.inr ()))
theorem one134_0 : oneLoop Try.prog 134 0 = true := by kernel_rfl
theorem lp134_0 : ItemOk Try.prog (.loop 134 0 T134_0 X134_0 (loopVal step134_0)) := item_loop (U := 9) (n := 3) noSpecial mixed Ga19K8_ok one134_0 (fun x => by kernel_rfl)
noncomputable def Ga20K1 : List Ev.Item := .loop 134 0 T134_0 X134_0 (loopVal step134_0) :: Ga19K8
theorem Ga20K1_ok : ∀ q ∈ Ga20K1, ItemOk Try.prog q := items_cons lp134_0 Ga19K8_ok
noncomputable def s134 : (List Int) × Int → Option (Int) := fun (s, v) =>
  optE (loopVal step134_0 (s, v, (s.length : Int), 0)) (fun e1 =>
    sumE e1 (fun e2 =>
      some (e2)) (fun _ =>
      some ((-1))))
    (none)
theorem i134 : ItemOk Try.prog (.fn 134 [.d (.slice (.int .i64)), .d (.int .i64)] [.d (.int .i64)] s134) := item_fn (U := 9) (n := 4) noSpecial mixed Ga20K1_ok (fun x => by kernel_rfl)
noncomputable def Ga20K2 : List Ev.Item := .fn 134 [.d (.slice (.int .i64)), .d (.int .i64)] [.d (.int .i64)] s134 :: Ga20K1
theorem Ga20K2_ok : ∀ q ∈ Ga20K2, ItemOk Try.prog q := items_cons i134 Ga20K1_ok

/-! slices.Contains[[]int,int] -/
noncomputable def s118 : (List Int) × Int → Option (Bool) := fun (s, v) =>
  optE (s134 (s, v)) (fun r1 =>
    some (decide (r1 ≥ 0)))
    (none)
theorem i118 : ItemOk Try.prog (.fn 118 [.d (.slice (.int .i64)), .d (.int .i64)] [.d .bool] s118) := item_fn (U := 9) (n := 4) noSpecial mixed Ga20K2_ok (fun x => by kernel_rfl)
noncomputable def Ga20K3 : List Ev.Item := .fn 118 [.d (.slice (.int .i64)), .d (.int .i64)] [.d .bool] s118 :: Ga20K2
theorem Ga20K3_ok : ∀ q ∈ Ga20K3, ItemOk Try.prog q := items_cons i118 Ga20K2_ok

/-! cassegrain sample.KindsOf -/
@[reducible] def T64_0 : Tmpl := ⟨58, [], [.ptr 4 (.pair (.map (.int .i64) (.agg (.pair (.int .i64) (.pair (.int .i64) (.pair (.pair (.int .i64) (.int .i64)) (.pair (.pair (.int .i64) (.int .i64)) (.pair (.pair (.int .i64) (.int .i64)) (.pair (.pair (.int .i64) (.int .i64)) (.pair (.pair (.int .i64) (.int .i64)) (.pair (.pair (.int .i64) (.int .i64)) (.pair (.pair (.int .i64) (.int .i64)) (.pair (.int .i64) (.int .i64))))))))))))) (.slice (.int .i64))), .own 6 36 3 (.int .i64), .val 21 (.slice (.int .i64)), .val 22 (.int .i64), .val 23 (.int .i64)]⟩
@[reducible] def X64_0 : List (Ex × Tmpl) := [(.exit 0, ⟨58, [], [.own 6 36 3 (.int .i64)]⟩)]
/-- data: r0, out, t21, t22, t23; ends: exit 0: out -/
noncomputable def step64_0 : ((List (Int × Pkt)) × List Int) × (List Int) × (List Int) × Int × Int → Option ((((List (Int × Pkt)) × List Int) × (List Int) × (List Int) × Int × Int) ⊕ (List Int)) := fun (r0, out, t21, t22, t23) =>
  bif decide (t23 < t22) then
    bif inBounds t23 t21.length then
      bif (decide (0 ≤ t23)) && (decide (t23 ≤ (r0.2.length : Int))) then
        optE (s118 (r0.2.take t23.toNat, t21.getD t23.toNat 0)) (fun r3 =>
          bif r3 then
            bif room 8 (out.length + 1) then
              some (.inl (r0, out ++ [2], t21, t22, wr (t23 + 1)))
            else
              none
          else
            bif decide (t23 > 0) then
              optE (s119 (r0.2.take t23.toNat)) (fun r4 =>
                bif decide (r4 > (t21.getD t23.toNat 0)) then
                  bif room 8 (out.length + 1) then
                    some (.inl (r0, out ++ [1], t21, t22, wr (t23 + 1)))
                  else
                    none
                else
                  bif room 8 (out.length + 1) then
                    some (.inl (r0, out ++ [0], t21, t22, wr (t23 + 1)))
                  else
                    none)
                (none)
            else
              bif room 8 (out.length + 1) then
                some (.inl (r0, out ++ [0], t21, t22, wr (t23 + 1)))
              else
                none)
          (none)
      else
        none
    else
      none
  else
    some (.inr out)
theorem one64_0 : oneLoop Try.prog 64 0 = true := by kernel_rfl
theorem lp64_0 : ItemOk Try.prog (.loop 64 0 T64_0 X64_0 (loopVal step64_0)) := item_loop (U := 9) (n := 3) noSpecial mixed Ga20K3_ok one64_0 (fun x => by kernel_rfl)
noncomputable def Ga20K4 : List Ev.Item := .loop 64 0 T64_0 X64_0 (loopVal step64_0) :: Ga20K3
theorem Ga20K4_ok : ∀ q ∈ Ga20K4, ItemOk Try.prog q := items_cons lp64_0 Ga20K3_ok
noncomputable def s64 : List Pkt → Option ((List Int) × Int) := fun l =>
  optE (s117 l) (fun r1 =>
    optE (r1.1) (fun q2 =>
      bif r1.2 != 0 then
        some (([], r1.2))
      else
        optE (loopVal step64_0 (q2, [], q2.2, (q2.2.length : Int), 0)) (fun e3 =>
          some ((e3, 0)))
          (none))
      (bif r1.2 != 0 then
        some (([], r1.2))
      else
        none))
    (none)
theorem i64 : ItemOk Try.prog (.fn 64 [.d (.slice (.agg (.pair (.int .i64) (.pair (.int .i64) (.pair (.pair (.int .i64) (.int .i64)) (.pair (.pair (.int .i64) (.int .i64)) (.pair (.pair (.int .i64) (.int .i64)) (.pair (.pair (.int .i64) (.int .i64)) (.pair (.pair (.int .i64) (.int .i64)) (.pair (.pair (.int .i64) (.int .i64)) (.pair (.pair (.int .i64) (.int .i64)) (.pair (.int .i64) (.int .i64)))))))))))))] [.own 3 (.int .i64), .d (.int .i64)] s64) := item_fn (U := 9) (n := 4) noSpecial mixed Ga20K4_ok (fun x => by kernel_rfl)
noncomputable def Ga20K5 : List Ev.Item := .fn 64 [.d (.slice (.agg (.pair (.int .i64) (.pair (.int .i64) (.pair (.pair (.int .i64) (.int .i64)) (.pair (.pair (.int .i64) (.int .i64)) (.pair (.pair (.int .i64) (.int .i64)) (.pair (.pair (.int .i64) (.int .i64)) (.pair (.pair (.int .i64) (.int .i64)) (.pair (.pair (.int .i64) (.int .i64)) (.pair (.pair (.int .i64) (.int .i64)) (.pair (.int .i64) (.int .i64)))))))))))))] [.own 3 (.int .i64), .d (.int .i64)] s64 :: Ga20K4
theorem Ga20K5_ok : ∀ q ∈ Ga20K5, ItemOk Try.prog q := items_cons i64 Ga20K4_ok

/-! (*cassegrain sample.record).missing -/
@[reducible] def T120_0 : Tmpl := ⟨31, [], [.ptr 0 (.pair (.map (.int .i64) (.agg (.pair (.int .i64) (.pair (.int .i64) (.pair (.pair (.int .i64) (.int .i64)) (.pair (.pair (.int .i64) (.int .i64)) (.pair (.pair (.int .i64) (.int .i64)) (.pair (.pair (.int .i64) (.int .i64)) (.pair (.pair (.int .i64) (.int .i64)) (.pair (.pair (.int .i64) (.int .i64)) (.pair (.pair (.int .i64) (.int .i64)) (.pair (.int .i64) (.int .i64))))))))))))) (.slice (.int .i64))), .own 3 29 3 (.int .i64), .val 4 (.int .i64)]⟩
@[reducible] def X120_0 : List (Ex × Tmpl) := [(.exit 0, ⟨31, [], [.own 3 29 3 (.int .i64)]⟩)]
/-- data: r0, out, n; ends: exit 0: out -/
noncomputable def step120_0 : ((List (Int × Pkt)) × List Int) × (List Int) × Int → Option ((((List (Int × Pkt)) × List Int) × (List Int) × Int) ⊕ (List Int)) := fun (r0, out, n) =>
  optE (s122 r0) (fun r2 =>
    bif decide (n ≤ r2) then
      bif !(mapHas n r0.1) then
        bif room 8 (out.length + 1) then
          some (.inl (r0, out ++ [n], wr (n + 1)))
        else
          none
      else
        some (.inl (r0, out, wr (n + 1)))
    else
      some (.inr out))
    (none)
theorem one120_0 : oneLoop Try.prog 120 0 = true := by kernel_rfl
theorem lp120_0 : ItemOk Try.prog (.loop 120 0 T120_0 X120_0 (loopVal step120_0)) := item_loop (U := 9) (n := 3) noSpecial mixed Ga20K5_ok one120_0 (fun x => by kernel_rfl)
noncomputable def Ga20K6 : List Ev.Item := .loop 120 0 T120_0 X120_0 (loopVal step120_0) :: Ga20K5
theorem Ga20K6_ok : ∀ q ∈ Ga20K6, ItemOk Try.prog q := items_cons lp120_0 Ga20K5_ok
noncomputable def s120 : (List (Int × Pkt)) × List Int → Option (List Int) := fun r0 =>
  optE (s121 r0) (fun r1 =>
    optE (loopVal step120_0 (r0, [], r1)) (fun e2 =>
      some (e2))
      (none))
    (none)
theorem i120 : ItemOk Try.prog (.fn 120 [.tgt (.pair (.map (.int .i64) (.agg (.pair (.int .i64) (.pair (.int .i64) (.pair (.pair (.int .i64) (.int .i64)) (.pair (.pair (.int .i64) (.int .i64)) (.pair (.pair (.int .i64) (.int .i64)) (.pair (.pair (.int .i64) (.int .i64)) (.pair (.pair (.int .i64) (.int .i64)) (.pair (.pair (.int .i64) (.int .i64)) (.pair (.pair (.int .i64) (.int .i64)) (.pair (.int .i64) (.int .i64))))))))))))) (.slice (.int .i64)))] [.own 3 (.int .i64)] s120) := item_fn (U := 9) (n := 4) noSpecial mixed Ga20K6_ok (fun x => by kernel_rfl)
noncomputable def Ga20K7 : List Ev.Item := .fn 120 [.tgt (.pair (.map (.int .i64) (.agg (.pair (.int .i64) (.pair (.int .i64) (.pair (.pair (.int .i64) (.int .i64)) (.pair (.pair (.int .i64) (.int .i64)) (.pair (.pair (.int .i64) (.int .i64)) (.pair (.pair (.int .i64) (.int .i64)) (.pair (.pair (.int .i64) (.int .i64)) (.pair (.pair (.int .i64) (.int .i64)) (.pair (.pair (.int .i64) (.int .i64)) (.pair (.int .i64) (.int .i64))))))))))))) (.slice (.int .i64)))] [.own 3 (.int .i64)] s120 :: Ga20K6
theorem Ga20K7_ok : ∀ q ∈ Ga20K7, ItemOk Try.prog q := items_cons i120 Ga20K6_ok

/-! cassegrain sample.MissingOf -/
noncomputable def s66 : List Pkt → Option ((List Int) × Int) := fun l =>
  optE (s117 l) (fun r1 =>
    optE (r1.1) (fun q2 =>
      bif r1.2 != 0 then
        some (([], r1.2))
      else
        optE (s120 q2) (fun r3 =>
          some ((r3, 0)))
          (none))
      (bif r1.2 != 0 then
        some (([], r1.2))
      else
        none))
    (none)
theorem i66 : ItemOk Try.prog (.fn 66 [.d (.slice (.agg (.pair (.int .i64) (.pair (.int .i64) (.pair (.pair (.int .i64) (.int .i64)) (.pair (.pair (.int .i64) (.int .i64)) (.pair (.pair (.int .i64) (.int .i64)) (.pair (.pair (.int .i64) (.int .i64)) (.pair (.pair (.int .i64) (.int .i64)) (.pair (.pair (.int .i64) (.int .i64)) (.pair (.pair (.int .i64) (.int .i64)) (.pair (.int .i64) (.int .i64)))))))))))))] [.own 3 (.int .i64), .d (.int .i64)] s66) := item_fn (U := 9) (n := 4) noSpecial mixed Ga20K7_ok (fun x => by kernel_rfl)
noncomputable def Ga20K8 : List Ev.Item := .fn 66 [.d (.slice (.agg (.pair (.int .i64) (.pair (.int .i64) (.pair (.pair (.int .i64) (.int .i64)) (.pair (.pair (.int .i64) (.int .i64)) (.pair (.pair (.int .i64) (.int .i64)) (.pair (.pair (.int .i64) (.int .i64)) (.pair (.pair (.int .i64) (.int .i64)) (.pair (.pair (.int .i64) (.int .i64)) (.pair (.pair (.int .i64) (.int .i64)) (.pair (.int .i64) (.int .i64)))))))))))))] [.own 3 (.int .i64), .d (.int .i64)] s66 :: Ga20K7
theorem Ga20K8_ok : ∀ q ∈ Ga20K8, ItemOk Try.prog q := items_cons i66 Ga20K7_ok

/-! cassegrain sample.Assembled -/
@[reducible] def T67_0 : Tmpl := ⟨99, [(2, .ref 2 0 0 0), (6, .ref 6 0 0 0)], [.ptr 4 (.pair (.map (.int .i64) (.agg (.pair (.int .i64) (.pair (.int .i64) (.pair (.pair (.int .i64) (.int .i64)) (.pair (.pair (.int .i64) (.int .i64)) (.pair (.pair (.int .i64) (.int .i64)) (.pair (.pair (.int .i64) (.int .i64)) (.pair (.pair (.int .i64) (.int .i64)) (.pair (.pair (.int .i64) (.int .i64)) (.pair (.pair (.int .i64) (.int .i64)) (.pair (.int .i64) (.int .i64))))))))))))) (.slice (.int .i64))), .val 7 (.int .i64), .cells 2 [.d (.pair (.int .i64) (.pair (.slice (.agg (.pair (.int .i64) (.int .i64)))) (.slice (.agg (.pair (.int .i64) (.int .i64))))))], .cells 6 [.d (.int .i64), .own 43 23 (.agg (.pair (.int .i64) (.int .i64))), .own 95 104 (.agg (.pair (.int .i64) (.int .i64)))]]⟩
@[reducible] def X67_0 : List (Ex × Tmpl) := [(.exit 0, ⟨99, [(2, .ref 2 0 0 0), (6, .ref 6 0 0 0)], [.ptr 4 (.pair (.map (.int .i64) (.agg (.pair (.int .i64) (.pair (.int .i64) (.pair (.pair (.int .i64) (.int .i64)) (.pair (.pair (.int .i64) (.int .i64)) (.pair (.pair (.int .i64) (.int .i64)) (.pair (.pair (.int .i64) (.int .i64)) (.pair (.pair (.int .i64) (.int .i64)) (.pair (.pair (.int .i64) (.int .i64)) (.pair (.pair (.int .i64) (.int .i64)) (.pair (.int .i64) (.int .i64))))))))))))) (.slice (.int .i64))), .cells 2 [.d (.pair (.int .i64) (.pair (.slice (.agg (.pair (.int .i64) (.int .i64)))) (.slice (.agg (.pair (.int .i64) (.int .i64))))))], .cells 6 [.d (.int .i64), .own 43 23 (.agg (.pair (.int .i64) (.int .i64))), .own 95 104 (.agg (.pair (.int .i64) (.int .i64)))]]⟩)]
/-- data: t4, t7, t2, t6; ends: exit 0: t4, t2, t6 -/
noncomputable def step67_0 : ((List (Int × Pkt)) × List Int) × Int × (Int × (List (Int × Int)) × List (Int × Int)) × (Int × (List (Int × Int)) × (List (Int × Int))) → Option ((((List (Int × Pkt)) × List Int) × Int × (Int × (List (Int × Int)) × List (Int × Int)) × (Int × (List (Int × Int)) × (List (Int × Int)))) ⊕ (((List (Int × Pkt)) × List Int) × (Int × (List (Int × Int)) × List (Int × Int)) × (Int × (List (Int × Int)) × (List (Int × Int))))) := fun (t4, t7, t2, t6) =>
  optE (s122 t4) (fun r4 =>
    bif decide (t7 ≤ r4) then
      bif room 16 (t6.2.1.length + 8) then
        some (.inl (t4, wr (t7 + 1), t2, (t6.1, t6.2.1 ++ [(mapGet t7 pkt0 t4.1).2.2.1, (mapGet t7 pkt0 t4.1).2.2.2.1, (mapGet t7 pkt0 t4.1).2.2.2.2.1, (mapGet t7 pkt0 t4.1).2.2.2.2.2.1, (mapGet t7 pkt0 t4.1).2.2.2.2.2.2.1, (mapGet t7 pkt0 t4.1).2.2.2.2.2.2.2.1, (mapGet t7 pkt0 t4.1).2.2.2.2.2.2.2.2.1, (mapGet t7 pkt0 t4.1).2.2.2.2.2.2.2.2.2], t6.2.2)))
      else
        none
    else
      some (.inr (t4, t2, t6)))
    (none)
theorem one67_0 : oneLoop Try.prog 67 0 = true := by kernel_rfl
theorem lp67_0 : ItemOk Try.prog (.loop 67 0 T67_0 X67_0 (loopVal step67_0)) := item_loop (U := 9) (n := 3) noSpecial mixed Ga20K8_ok one67_0 (fun x => by kernel_rfl)
noncomputable def Ga20K9 : List Ev.Item := .loop 67 0 T67_0 X67_0 (loopVal step67_0) :: Ga20K8
theorem Ga20K9_ok : ∀ q ∈ Ga20K9, ItemOk Try.prog q := items_cons lp67_0 Ga20K8_ok
@[reducible] def T67_2 : Tmpl := ⟨99, [(2, .ref 2 0 0 0), (6, .ref 6 0 0 0)], [.own 46 46 3 (.int .i64), .val 47 (.int .i64), .val 48 (.int .i64), .cells 2 [.d (.pair (.int .i64) (.pair (.slice (.agg (.pair (.int .i64) (.int .i64)))) (.slice (.agg (.pair (.int .i64) (.int .i64))))))], .cells 6 [.d (.int .i64), .own 43 23 (.agg (.pair (.int .i64) (.int .i64))), .own 95 104 (.agg (.pair (.int .i64) (.int .i64)))]]⟩
@[reducible] def X67_2 : List (Ex × Tmpl) := [(.exit 2, ⟨99, [(2, .ref 2 0 0 0), (6, .ref 6 0 0 0)], [.cells 2 [.d (.pair (.int .i64) (.pair (.slice (.agg (.pair (.int .i64) (.int .i64)))) (.slice (.agg (.pair (.int .i64) (.int .i64))))))], .cells 6 [.d (.int .i64), .own 43 23 (.agg (.pair (.int .i64) (.int .i64))), .own 95 104 (.agg (.pair (.int .i64) (.int .i64)))]]⟩)]
/-- data: t46, t47, t48, t2, t6; ends: exit 2: t2, t6 -/
noncomputable def step67_2 : (List Int) × Int × Int × (Int × (List (Int × Int)) × List (Int × Int)) × (Int × (List (Int × Int)) × (List (Int × Int))) → Option (((List Int) × Int × Int × (Int × (List (Int × Int)) × List (Int × Int)) × (Int × (List (Int × Int)) × (List (Int × Int)))) ⊕ ((Int × (List (Int × Int)) × List (Int × Int)) × (Int × (List (Int × Int)) × (List (Int × Int))))) := fun (t46, t47, t48, t2, t6) =>
  bif decide (t48 < t47) then
    bif inBounds t48 t46.length then
      bif decide ((t6.2.2.length : Int) > 0) then
        bif inBounds (wr ((t6.2.2.length : Int) - 1)) t6.2.2.length then
          bif (wr ((t6.2.2.getD (wr ((t6.2.2.length : Int) - 1)).toNat (0, 0)).2 + 1)) == (wr ((wr ((t46.getD t48.toNat 0) - t6.1)) * 8)) then
            bif inBounds (wr ((t6.2.2.length : Int) - 1)) t6.2.2.length then
              some (.inl (t46, t47, wr (t48 + 1), t2, (t6.1, t6.2.1, t6.2.2.set (wr ((t6.2.2.length : Int) - 1)).toNat ((t6.2.2.getD (wr ((t6.2.2.length : Int) - 1)).toNat (0, 0)).1, wr ((wr ((wr ((wr ((t46.getD t48.toNat 0) - t6.1)) + 1)) * 8)) - 1)))))
            else
              none
          else
            bif room 16 (t6.2.2.length + 1) then
              some (.inl (t46, t47, wr (t48 + 1), t2, (t6.1, t6.2.1, t6.2.2 ++ [(wr ((wr ((t46.getD t48.toNat 0) - t6.1)) * 8), wr ((wr ((wr ((wr ((t46.getD t48.toNat 0) - t6.1)) + 1)) * 8)) - 1))])))
            else
              none
        else
          none
      else
        bif room 16 (t6.2.2.length + 1) then
          some (.inl (t46, t47, wr (t48 + 1), t2, (t6.1, t6.2.1, t6.2.2 ++ [(wr ((wr ((t46.getD t48.toNat 0) - t6.1)) * 8), wr ((wr ((wr ((wr ((t46.getD t48.toNat 0) - t6.1)) + 1)) * 8)) - 1))])))
        else
          none
    else
      none
  else
    some (.inr (t2, t6))
theorem one67_2 : oneLoop Try.prog 67 2 = true := by kernel_rfl
theorem lp67_2 : ItemOk Try.prog (.loop 67 2 T67_2 X67_2 (loopVal step67_2)) := item_loop (U := 9) (n := 3) noSpecial mixed Ga20K9_ok one67_2 (fun x => by kernel_rfl)
noncomputable def Ga20K10 : List Ev.Item := .loop 67 2 T67_2 X67_2 (loopVal step67_2) :: Ga20K9
theorem Ga20K10_ok : ∀ q ∈ Ga20K10, ItemOk Try.prog q := items_cons lp67_2 Ga20K9_ok
noncomputable def s67 : List Pkt → Option ((Int × (List (Int × Int)) × List (Int × Int)) × Int) := fun a0 =>
  optE (s117 a0) (fun r1 =>
    optE (r1.1) (fun q2 =>
      bif r1.2 != 0 then
        some (((0, [], []), r1.2))
      else
        optE (s121 q2) (fun r3 =>
          optE (loopVal step67_0 (q2, r3, (0, [], []), (r3, [], []))) (fun e4 =>
            optE (s120 e4.1) (fun r5 =>
              optE (loopVal step67_2 (r5, (r5.length : Int), 0, e4.2.1, e4.2.2)) (fun e6 =>
                some ((e6.2, 0)))
                (none))
              (none))
            (none))
          (none))
      (bif r1.2 != 0 then
        some (((0, [], []), r1.2))
      else
        none))
    (none)
theorem i67 : ItemOk Try.prog (.fn 67 [.d (.slice (.agg (.pair (.int .i64) (.pair (.int .i64) (.pair (.pair (.int .i64) (.int .i64)) (.pair (.pair (.int .i64) (.int .i64)) (.pair (.pair (.int .i64) (.int .i64)) (.pair (.pair (.int .i64) (.int .i64)) (.pair (.pair (.int .i64) (.int .i64)) (.pair (.pair (.int .i64) (.int .i64)) (.pair (.pair (.int .i64) (.int .i64)) (.pair (.int .i64) (.int .i64)))))))))))))] [.d (.agg (.pair (.int .i64) (.pair (.slice (.agg (.pair (.int .i64) (.int .i64)))) (.slice (.agg (.pair (.int .i64) (.int .i64))))))), .d (.int .i64)] s67) := item_fn (U := 9) (n := 4) noSpecial mixed Ga20K10_ok (fun x => by kernel_rfl)
noncomputable def Ga20K11 : List Ev.Item := .fn 67 [.d (.slice (.agg (.pair (.int .i64) (.pair (.int .i64) (.pair (.pair (.int .i64) (.int .i64)) (.pair (.pair (.int .i64) (.int .i64)) (.pair (.pair (.int .i64) (.int .i64)) (.pair (.pair (.int .i64) (.int .i64)) (.pair (.pair (.int .i64) (.int .i64)) (.pair (.pair (.int .i64) (.int .i64)) (.pair (.pair (.int .i64) (.int .i64)) (.pair (.int .i64) (.int .i64)))))))))))))] [.d (.agg (.pair (.int .i64) (.pair (.slice (.agg (.pair (.int .i64) (.int .i64)))) (.slice (.agg (.pair (.int .i64) (.int .i64))))))), .d (.int .i64)] s67 :: Ga20K10
theorem Ga20K11_ok : ∀ q ∈ Ga20K11, ItemOk Try.prog q := items_cons i67 Ga20K10_ok
end Go.Proofs.Ytinkhmfciealkaa
