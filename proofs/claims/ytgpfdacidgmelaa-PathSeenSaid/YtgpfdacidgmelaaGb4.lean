/- Printed by gen.py: specifications of functions. -/
import Derived.Test.YtgpfdacidgmelaaGb3
set_option linter.unusedSimpArgs false
set_option maxRecDepth 100000
namespace Go.Proofs.Ytgpfdacidgmelaa
open Go.Ev

/-! cassegrain cassegrainlaw01.view -/
noncomputable def s36 : ((Int × Int × Int) × List ((Int × Int × Int) × Int × Int)) × ((List (Int × Int × Int × Int)) × Int) × (List (Int × Int × Int × Int)) × Int → Option (Bool) := fun v =>
  optE (s29 v.2) (fun r1 =>
    bif r1 then
      some (decide ((v.1.2.length : Int) ≤ 6))
    else
      some (false))
    (none)
theorem i36 : ItemOk Try.prog (.fn 36 [.d (.agg (.pair (.pair (.pair (.int .i64) (.pair (.int .i64) (.int .i64))) (.slice (.agg (.pair (.pair (.int .i64) (.pair (.int .i64) (.int .i64))) (.pair (.int .i64) (.int .i64)))))) (.pair (.pair (.slice (.agg (.pair (.int .i64) (.pair (.int .i64) (.pair (.int .i64) (.int .i64)))))) (.int .i64)) (.pair (.slice (.agg (.pair (.int .i64) (.pair (.int .i64) (.pair (.int .i64) (.int .i64)))))) (.int .i64)))))] [.d .bool] s36) := item_fnM md1 ext1 (U := 9) (n := 4) noSpecial mixed Gb3K17_ok (fun x => by kernel_rfl)
noncomputable def Gb4K1 : List Ev.Item := .fn 36 [.d (.agg (.pair (.pair (.pair (.int .i64) (.pair (.int .i64) (.int .i64))) (.slice (.agg (.pair (.pair (.int .i64) (.pair (.int .i64) (.int .i64))) (.pair (.int .i64) (.int .i64)))))) (.pair (.pair (.slice (.agg (.pair (.int .i64) (.pair (.int .i64) (.pair (.int .i64) (.int .i64)))))) (.int .i64)) (.pair (.slice (.agg (.pair (.int .i64) (.pair (.int .i64) (.pair (.int .i64) (.int .i64)))))) (.int .i64)))))] [.d .bool] s36 :: Gb3K17
theorem Gb4K1_ok : ∀ q ∈ Gb4K1, ItemOk Try.prog q := items_cons i36 Gb3K17_ok

/-! cassegrain cassegrainref01.isAxis -/
noncomputable def s101 : Int × Int × Int → Option (Bool) := fun v =>
  optE (s33 (v.1, (-100), 100)) (fun r1 =>
    bif r1 then
      optE (s33 (v.2.1, (-100), 100)) (fun r2 =>
        bif r2 then
          optE (s33 (v.2.2, (-100), 100)) (fun r3 =>
            some (r3))
            (none)
        else
          some (false))
        (none)
    else
      some (false))
    (none)
theorem i101 : ItemOk Try.prog (.fn 101 [.d (.agg (.pair (.int .i64) (.pair (.int .i64) (.int .i64))))] [.d .bool] s101) := item_fnM md1 ext1 (U := 9) (n := 4) noSpecial mixed Gb4K1_ok (fun x => by kernel_rfl)
noncomputable def Gb4K2 : List Ev.Item := .fn 101 [.d (.agg (.pair (.int .i64) (.pair (.int .i64) (.int .i64))))] [.d .bool] s101 :: Gb4K1
theorem Gb4K2_ok : ∀ q ∈ Gb4K2, ItemOk Try.prog q := items_cons i101 Gb4K1_ok

/-! cassegrain cassegrainref01.CheckSite -/
@[reducible] def T71_0 : Tmpl := ⟨53, [(1, .ref 1 0 0 0)], [.val 4 (.int .i64), .cells 1 [.d (.pair (.pair (.int .i64) (.pair (.int .i64) (.int .i64))) (.slice (.agg (.pair (.pair (.int .i64) (.pair (.int .i64) (.int .i64))) (.pair (.int .i64) (.int .i64))))))]]⟩
@[reducible] def X71_0 : List (Ex × Tmpl) := [(.ret, ⟨53, [], [.val 2 (.int .i64), .val 3 (.int .i64)]⟩), (.exit 0, ⟨53, [], []⟩)]
/-- data: i, s; ends: ret: t2, t3; exit 0:  -/
noncomputable def step71_0 : Int × ((Int × Int × Int) × List ((Int × Int × Int) × Int × Int)) → Option ((Int × ((Int × Int × Int) × List ((Int × Int × Int) × Int × Int))) ⊕ ((Int × Int) ⊕ (Unit))) := fun (i, s) =>
  bif decide (i < (s.2.length : Int)) then
    bif inBounds i s.2.length then
      optE (s101 (s.2.getD i.toNat ((0, 0, 0), 0, 0)).1) (fun r2 =>
        bif !r2 then
          some (.inr (.inl (i, 2)))
        else
          bif ((s.2.getD i.toNat ((0, 0, 0), 0, 0)).1.1 == 0) && (((s.2.getD i.toNat ((0, 0, 0), 0, 0)).1.2.1 == 0) && (((s.2.getD i.toNat ((0, 0, 0), 0, 0)).1.2.2 == 0) && true)) then
            some (.inr (.inl (i, 11)))
          else
            optE (s33 ((s.2.getD i.toNat ((0, 0, 0), 0, 0)).2.2, 1, 100)) (fun r3 =>
              bif !r3 then
                some (.inr (.inl (i, 2)))
              else
                optE (s33 ((s.2.getD i.toNat ((0, 0, 0), 0, 0)).2.1, 0, (s.2.getD i.toNat ((0, 0, 0), 0, 0)).2.2)) (fun r4 =>
                  bif !r4 then
                    some (.inr (.inl (i, 2)))
                  else
                    some (.inl (wr (i + 1), s)))
                  (none))
              (none))
        (none)
    else
      none
  else
    some (.inr (.inr ()))
theorem one71_0 : oneLoop Try.prog 71 0 = true := by kernel_rfl
theorem lp71_0 : ItemOk Try.prog (.loop 71 0 T71_0 X71_0 (loopVal step71_0)) := item_loopM md1 ext1 (U := 9) (n := 3) noSpecial mixed Gb4K2_ok one71_0 (fun x => by kernel_rfl)
noncomputable def Gb4K3 : List Ev.Item := .loop 71 0 T71_0 X71_0 (loopVal step71_0) :: Gb4K2
theorem Gb4K3_ok : ∀ q ∈ Gb4K3, ItemOk Try.prog q := items_cons lp71_0 Gb4K2_ok
noncomputable def s71 : (Int × Int × Int) × List ((Int × Int × Int) × Int × Int) → Option (Int × Int) := fun s =>
  optE (s101 s.1) (fun r1 =>
    bif !r1 then
      some ((0, 2))
    else
      bif (s.1.1 == 0) && ((s.1.2.1 == 0) && ((s.1.2.2 == 0) && true)) then
        some ((0, 11))
      else
        bif decide ((s.2.length : Int) > 4) then
          some ((0, 8))
        else
          optE (loopVal step71_0 (0, s)) (fun e2 =>
            sumE e2 (fun e3 =>
              some (e3)) (fun _ =>
              some ((0, 0))))
            (none))
    (none)
theorem i71 : ItemOk Try.prog (.fn 71 [.d (.agg (.pair (.pair (.int .i64) (.pair (.int .i64) (.int .i64))) (.slice (.agg (.pair (.pair (.int .i64) (.pair (.int .i64) (.int .i64))) (.pair (.int .i64) (.int .i64)))))))] [.d (.int .i64), .d (.int .i64)] s71) := item_fnM md1 ext1 (U := 9) (n := 4) noSpecial mixed Gb4K3_ok (fun x => by kernel_rfl)
noncomputable def Gb4K4 : List Ev.Item := .fn 71 [.d (.agg (.pair (.pair (.int .i64) (.pair (.int .i64) (.int .i64))) (.slice (.agg (.pair (.pair (.int .i64) (.pair (.int .i64) (.int .i64))) (.pair (.int .i64) (.int .i64)))))))] [.d (.int .i64), .d (.int .i64)] s71 :: Gb4K3
theorem Gb4K4_ok : ∀ q ∈ Gb4K4, ItemOk Try.prog q := items_cons i71 Gb4K3_ok

/-! cassegrain cassegrainref01.ViewErr -/
noncomputable def s37 : ((Int × Int × Int) × List ((Int × Int × Int) × Int × Int)) × ((List (Int × Int × Int × Int)) × Int) × (List (Int × Int × Int × Int)) × Int → Option (Int) := fun v =>
  optE (s71 v.1) (fun r1 =>
    bif r1.2 != 0 then
      some (r1.2)
    else
      optE (s30 v.2) (fun r2 =>
        some (r2))
        (none))
    (none)
theorem i37 : ItemOk Try.prog (.fn 37 [.d (.agg (.pair (.pair (.pair (.int .i64) (.pair (.int .i64) (.int .i64))) (.slice (.agg (.pair (.pair (.int .i64) (.pair (.int .i64) (.int .i64))) (.pair (.int .i64) (.int .i64)))))) (.pair (.pair (.slice (.agg (.pair (.int .i64) (.pair (.int .i64) (.pair (.int .i64) (.int .i64)))))) (.int .i64)) (.pair (.slice (.agg (.pair (.int .i64) (.pair (.int .i64) (.pair (.int .i64) (.int .i64)))))) (.int .i64)))))] [.d (.int .i64)] s37) := item_fnM md1 ext1 (U := 9) (n := 4) noSpecial mixed Gb4K4_ok (fun x => by kernel_rfl)
noncomputable def Gb4K5 : List Ev.Item := .fn 37 [.d (.agg (.pair (.pair (.pair (.int .i64) (.pair (.int .i64) (.int .i64))) (.slice (.agg (.pair (.pair (.int .i64) (.pair (.int .i64) (.int .i64))) (.pair (.int .i64) (.int .i64)))))) (.pair (.pair (.slice (.agg (.pair (.int .i64) (.pair (.int .i64) (.pair (.int .i64) (.int .i64)))))) (.int .i64)) (.pair (.slice (.agg (.pair (.int .i64) (.pair (.int .i64) (.pair (.int .i64) (.int .i64)))))) (.int .i64)))))] [.d (.int .i64)] s37 :: Gb4K4
theorem Gb4K5_ok : ∀ q ∈ Gb4K5, ItemOk Try.prog q := items_cons i37 Gb4K4_ok

/-! cassegrain cassegrainref01.CopySite -/
noncomputable def s74 : (Int × Int × Int) × List ((Int × Int × Int) × Int × Int) → Option ((Int × Int × Int) × List ((Int × Int × Int) × Int × Int)) := fun s =>
  listE (s.2)
    (some ((s.1, [])))
    (fun y1 l2 =>
      bif room 40 (l2.length + 1) then
        some ((s.1, y1 :: l2))
      else
        none)
theorem i74 : ItemOk Try.prog (.fn 74 [.d (.agg (.pair (.pair (.int .i64) (.pair (.int .i64) (.int .i64))) (.slice (.agg (.pair (.pair (.int .i64) (.pair (.int .i64) (.int .i64))) (.pair (.int .i64) (.int .i64)))))))] [.d (.agg (.pair (.pair (.int .i64) (.pair (.int .i64) (.int .i64))) (.slice (.agg (.pair (.pair (.int .i64) (.pair (.int .i64) (.int .i64))) (.pair (.int .i64) (.int .i64)))))))] s74) := item_fnM md1 ext1 (U := 9) (n := 4) noSpecial mixed Gb4K5_ok (fun x => by kernel_rfl)
noncomputable def Gb4K6 : List Ev.Item := .fn 74 [.d (.agg (.pair (.pair (.int .i64) (.pair (.int .i64) (.int .i64))) (.slice (.agg (.pair (.pair (.int .i64) (.pair (.int .i64) (.int .i64))) (.pair (.int .i64) (.int .i64)))))))] [.d (.agg (.pair (.pair (.int .i64) (.pair (.int .i64) (.int .i64))) (.slice (.agg (.pair (.pair (.int .i64) (.pair (.int .i64) (.int .i64))) (.pair (.int .i64) (.int .i64)))))))] s74 :: Gb4K5
theorem Gb4K6_ok : ∀ q ∈ Gb4K6, ItemOk Try.prog q := items_cons i74 Gb4K5_ok

/-! cassegrain cassegrainref01.CopyView -/
noncomputable def s39 : ((Int × Int × Int) × List ((Int × Int × Int) × Int × Int)) × ((List (Int × Int × Int × Int)) × Int) × (List (Int × Int × Int × Int)) × Int → Option (((Int × Int × Int) × List ((Int × Int × Int) × Int × Int)) × ((List (Int × Int × Int × Int)) × Int) × (List (Int × Int × Int × Int)) × Int) := fun v =>
  optE (s74 v.1) (fun r1 =>
    optE (s24 v.2.1) (fun r2 =>
      optE (s24 v.2.2) (fun r3 =>
        some ((r1, r2, r3.1, r3.2)))
        (none))
      (none))
    (none)
theorem i39 : ItemOk Try.prog (.fn 39 [.d (.agg (.pair (.pair (.pair (.int .i64) (.pair (.int .i64) (.int .i64))) (.slice (.agg (.pair (.pair (.int .i64) (.pair (.int .i64) (.int .i64))) (.pair (.int .i64) (.int .i64)))))) (.pair (.pair (.slice (.agg (.pair (.int .i64) (.pair (.int .i64) (.pair (.int .i64) (.int .i64)))))) (.int .i64)) (.pair (.slice (.agg (.pair (.int .i64) (.pair (.int .i64) (.pair (.int .i64) (.int .i64)))))) (.int .i64)))))] [.d (.agg (.pair (.pair (.pair (.int .i64) (.pair (.int .i64) (.int .i64))) (.slice (.agg (.pair (.pair (.int .i64) (.pair (.int .i64) (.int .i64))) (.pair (.int .i64) (.int .i64)))))) (.pair (.pair (.slice (.agg (.pair (.int .i64) (.pair (.int .i64) (.pair (.int .i64) (.int .i64)))))) (.int .i64)) (.pair (.slice (.agg (.pair (.int .i64) (.pair (.int .i64) (.pair (.int .i64) (.int .i64)))))) (.int .i64)))))] s39) := item_fnM md1 ext1 (U := 9) (n := 4) noSpecial mixed Gb4K6_ok (fun x => by kernel_rfl)
noncomputable def Gb4K7 : List Ev.Item := .fn 39 [.d (.agg (.pair (.pair (.pair (.int .i64) (.pair (.int .i64) (.int .i64))) (.slice (.agg (.pair (.pair (.int .i64) (.pair (.int .i64) (.int .i64))) (.pair (.int .i64) (.int .i64)))))) (.pair (.pair (.slice (.agg (.pair (.int .i64) (.pair (.int .i64) (.pair (.int .i64) (.int .i64)))))) (.int .i64)) (.pair (.slice (.agg (.pair (.int .i64) (.pair (.int .i64) (.pair (.int .i64) (.int .i64)))))) (.int .i64)))))] [.d (.agg (.pair (.pair (.pair (.int .i64) (.pair (.int .i64) (.int .i64))) (.slice (.agg (.pair (.pair (.int .i64) (.pair (.int .i64) (.int .i64))) (.pair (.int .i64) (.int .i64)))))) (.pair (.pair (.slice (.agg (.pair (.int .i64) (.pair (.int .i64) (.pair (.int .i64) (.int .i64)))))) (.int .i64)) (.pair (.slice (.agg (.pair (.int .i64) (.pair (.int .i64) (.pair (.int .i64) (.int .i64)))))) (.int .i64)))))] s39 :: Gb4K6
theorem Gb4K7_ok : ∀ q ∈ Gb4K7, ItemOk Try.prog q := items_cons i39 Gb4K6_ok

/-! cassegrain path.directionErr$1 -/
noncomputable def s126 : Int → Option (Bool) := fun n =>
  optE (s45 (n, 100)) (fun r1 =>
    some (r1))
    (none)
theorem i126 : ItemOk Try.prog (.fn 126 [.d (.int .i64)] [.d .bool] s126) := item_fnM md1 ext1 (U := 9) (n := 4) noSpecial mixed Gb4K7_ok (fun x => by kernel_rfl)
noncomputable def Gb4K8 : List Ev.Item := .fn 126 [.d (.int .i64)] [.d .bool] s126 :: Gb4K7
theorem Gb4K8_ok : ∀ q ∈ Gb4K8, ItemOk Try.prog q := items_cons i126 Gb4K7_ok

/-! cassegrain path.ofVector -/
noncomputable def s121 : Int × Int × Int → Option (Int × Int × Int) := fun v =>
  some (v)
theorem i121 : ItemOk Try.prog (.fn 121 [.d (.agg (.pair (.int .i64) (.pair (.int .i64) (.int .i64))))] [.d (.agg (.pair (.int .i64) (.pair (.int .i64) (.int .i64))))] s121) := item_fnM md1 ext1 (U := 9) (n := 4) noSpecial mixed Gb4K8_ok (fun x => by kernel_rfl)
noncomputable def Gb4K9 : List Ev.Item := .fn 121 [.d (.agg (.pair (.int .i64) (.pair (.int .i64) (.int .i64))))] [.d (.agg (.pair (.int .i64) (.pair (.int .i64) (.int .i64))))] s121 :: Gb4K8
theorem Gb4K9_ok : ∀ q ∈ Gb4K9, ItemOk Try.prog q := items_cons i121 Gb4K8_ok

/-! cassegrain path.directionErr -/
noncomputable def s120 : Int × Int × Int → Option (Int) := fun v =>
  optE (s121 v) (fun r1 =>
    optE (s126 r1.1) (fun r2 =>
      bif r2 then
        optE (s126 r1.2.1) (fun r3 =>
          bif r3 then
            optE (s126 r1.2.2) (fun r4 =>
              optE (s47 (r4, 2)) (fun r5 =>
                optE (s47 (!((v.1 == 0) && ((v.2.1 == 0) && ((v.2.2 == 0) && true))), 11)) (fun r6 =>
                  optE (s46 [r5, r6]) (fun r7 =>
                    some (r7))
                    (none))
                  (none))
                (none))
              (none)
          else
            optE (s47 (false, 2)) (fun r8 =>
              optE (s47 (!((v.1 == 0) && ((v.2.1 == 0) && ((v.2.2 == 0) && true))), 11)) (fun r9 =>
                optE (s46 [r8, r9]) (fun r10 =>
                  some (r10))
                  (none))
                (none))
              (none))
          (none)
      else
        optE (s47 (false, 2)) (fun r11 =>
          optE (s47 (!((v.1 == 0) && ((v.2.1 == 0) && ((v.2.2 == 0) && true))), 11)) (fun r12 =>
            optE (s46 [r11, r12]) (fun r13 =>
              some (r13))
              (none))
            (none))
          (none))
      (none))
    (none)
theorem i120 : ItemOk Try.prog (.fn 120 [.d (.agg (.pair (.int .i64) (.pair (.int .i64) (.int .i64))))] [.d (.int .i64)] s120) := item_fnM md1 ext1 (U := 9) (n := 4) noSpecial mixed Gb4K9_ok (fun x => by kernel_rfl)
noncomputable def Gb4K10 : List Ev.Item := .fn 120 [.d (.agg (.pair (.int .i64) (.pair (.int .i64) (.int .i64))))] [.d (.int .i64)] s120 :: Gb4K9
theorem Gb4K10_ok : ∀ q ∈ Gb4K10, ItemOk Try.prog q := items_cons i120 Gb4K9_ok

/-! cassegrain path.CheckSite -/
@[reducible] def T102_0 : Tmpl := ⟨50, [], [.val 22 (.slice (.agg (.pair (.pair (.int .i64) (.pair (.int .i64) (.int .i64))) (.pair (.int .i64) (.int .i64))))), .val 23 (.int .i64), .val 24 (.int .i64)]⟩
@[reducible] def X102_0 : List (Ex × Tmpl) := [(.ret, ⟨50, [], [.val 2 (.int .i64), .val 3 (.int .i64)]⟩), (.exit 0, ⟨50, [], []⟩)]
/-- data: t22, t23, t24; ends: ret: t2, t3; exit 0:  -/
noncomputable def step102_0 : (List ((Int × Int × Int) × Int × Int)) × Int × Int → Option (((List ((Int × Int × Int) × Int × Int)) × Int × Int) ⊕ ((Int × Int) ⊕ (Unit))) := fun (t22, t23, t24) =>
  bif decide (t24 < t23) then
    bif inBounds t24 t22.length then
      optE (s120 (t22.getD t24.toNat ((0, 0, 0), 0, 0)).1) (fun r4 =>
        optE (s44 ((t22.getD t24.toNat ((0, 0, 0), 0, 0)).2.2, 1, 100)) (fun r5 =>
          bif r5 then
            optE (s44 ((t22.getD t24.toNat ((0, 0, 0), 0, 0)).2.1, 0, (t22.getD t24.toNat ((0, 0, 0), 0, 0)).2.2)) (fun r6 =>
              optE (s47 (r6, 2)) (fun r7 =>
                optE (s46 [r4, r7]) (fun r8 =>
                  bif r8 != 0 then
                    some (.inr (.inl (t24, r8)))
                  else
                    some (.inl (t22, t23, wr (t24 + 1))))
                  (none))
                (none))
              (none)
          else
            optE (s47 (false, 2)) (fun r9 =>
              optE (s46 [r4, r9]) (fun r10 =>
                bif r10 != 0 then
                  some (.inr (.inl (t24, r10)))
                else
                  some (.inl (t22, t23, wr (t24 + 1))))
                (none))
              (none))
          (none))
        (none)
    else
      none
  else
    some (.inr (.inr ()))
theorem one102_0 : oneLoop Try.prog 102 0 = true := by kernel_rfl
theorem lp102_0 : ItemOk Try.prog (.loop 102 0 T102_0 X102_0 (loopVal step102_0)) := item_loopM md1 ext1 (U := 9) (n := 3) noSpecial mixed Gb4K10_ok one102_0 (fun x => by kernel_rfl)
noncomputable def Gb4K11 : List Ev.Item := .loop 102 0 T102_0 X102_0 (loopVal step102_0) :: Gb4K10
theorem Gb4K11_ok : ∀ q ∈ Gb4K11, ItemOk Try.prog q := items_cons lp102_0 Gb4K10_ok
noncomputable def s102 : (Int × Int × Int) × List ((Int × Int × Int) × Int × Int) → Option (Int × Int) := fun s =>
  optE (s120 s.1) (fun r1 =>
    optE (s47 (decide ((s.2.length : Int) ≤ 4), 8)) (fun r2 =>
      optE (s46 [r1, r2]) (fun r3 =>
        bif r3 != 0 then
          some ((0, r3))
        else
          optE (loopVal step102_0 (s.2, (s.2.length : Int), 0)) (fun e4 =>
            sumE e4 (fun e5 =>
              some (e5)) (fun _ =>
              some ((0, 0))))
            (none))
        (none))
      (none))
    (none)
theorem i102 : ItemOk Try.prog (.fn 102 [.d (.agg (.pair (.pair (.int .i64) (.pair (.int .i64) (.int .i64))) (.slice (.agg (.pair (.pair (.int .i64) (.pair (.int .i64) (.int .i64))) (.pair (.int .i64) (.int .i64)))))))] [.d (.int .i64), .d (.int .i64)] s102) := item_fnM md1 ext1 (U := 9) (n := 4) noSpecial mixed Gb4K11_ok (fun x => by kernel_rfl)
noncomputable def Gb4K12 : List Ev.Item := .fn 102 [.d (.agg (.pair (.pair (.int .i64) (.pair (.int .i64) (.int .i64))) (.slice (.agg (.pair (.pair (.int .i64) (.pair (.int .i64) (.int .i64))) (.pair (.int .i64) (.int .i64)))))))] [.d (.int .i64), .d (.int .i64)] s102 :: Gb4K11
theorem Gb4K12_ok : ∀ q ∈ Gb4K12, ItemOk Try.prog q := items_cons i102 Gb4K11_ok

/-! cassegrain path.viewErr -/
noncomputable def s72 : ((Int × Int × Int) × List ((Int × Int × Int) × Int × Int)) × ((List (Int × Int × Int × Int)) × Int) × (List (Int × Int × Int × Int)) × Int → Option (Int) := fun v =>
  optE (s102 v.1) (fun r1 =>
    optE (s59 [v.2.1, v.2.2]) (fun r2 =>
      optE (s46 [r1.2, r2]) (fun r3 =>
        some (r3))
        (none))
      (none))
    (none)
theorem i72 : ItemOk Try.prog (.fn 72 [.d (.agg (.pair (.pair (.pair (.int .i64) (.pair (.int .i64) (.int .i64))) (.slice (.agg (.pair (.pair (.int .i64) (.pair (.int .i64) (.int .i64))) (.pair (.int .i64) (.int .i64)))))) (.pair (.pair (.slice (.agg (.pair (.int .i64) (.pair (.int .i64) (.pair (.int .i64) (.int .i64)))))) (.int .i64)) (.pair (.slice (.agg (.pair (.int .i64) (.pair (.int .i64) (.pair (.int .i64) (.int .i64)))))) (.int .i64)))))] [.d (.int .i64)] s72) := item_fnM md1 ext1 (U := 9) (n := 4) noSpecial mixed Gb4K12_ok (fun x => by kernel_rfl)
noncomputable def Gb4K13 : List Ev.Item := .fn 72 [.d (.agg (.pair (.pair (.pair (.int .i64) (.pair (.int .i64) (.int .i64))) (.slice (.agg (.pair (.pair (.int .i64) (.pair (.int .i64) (.int .i64))) (.pair (.int .i64) (.int .i64)))))) (.pair (.pair (.slice (.agg (.pair (.int .i64) (.pair (.int .i64) (.pair (.int .i64) (.int .i64)))))) (.int .i64)) (.pair (.slice (.agg (.pair (.int .i64) (.pair (.int .i64) (.pair (.int .i64) (.int .i64)))))) (.int .i64)))))] [.d (.int .i64)] s72 :: Gb4K12
theorem Gb4K13_ok : ∀ q ∈ Gb4K13, ItemOk Try.prog q := items_cons i72 Gb4K12_ok

/-! (cassegrain path.triple).sizes -/
@[reducible] def T122_0 : Tmpl := ⟨18, [], [.val 3 (.int .i64), .val 6 (.agg (.pair (.int .i64) (.pair (.int .i64) (.int .i64)))), .val 7 (.int .i64)]⟩
@[reducible] def X122_0 : List (Ex × Tmpl) := [(.exit 0, ⟨18, [], [.val 3 (.int .i64)]⟩)]
/-- data: n, t6, t7; ends: exit 0: n -/
noncomputable def step122_0 : Int × (Int × Int × Int) × Int → Option ((Int × (Int × Int × Int) × Int) ⊕ (Int)) := fun (n, t6, t7) =>
  bif decide (t7 < 3) then
    bif inBounds t7 3 then
      some (.inl (wr (n + (mx ([t6.1, t6.2.1, t6.2.2].getD t7.toNat 0) (wr (-([t6.1, t6.2.1, t6.2.2].getD t7.toNat 0))))), t6, wr (t7 + 1)))
    else
      none
  else
    some (.inr n)
theorem one122_0 : oneLoop Try.prog 122 0 = true := by kernel_rfl
theorem lp122_0 : ItemOk Try.prog (.loop 122 0 T122_0 X122_0 (loopVal step122_0)) := item_loopM md1 ext1 (U := 9) (n := 3) noSpecial mixed Gb4K13_ok one122_0 (fun x => by kernel_rfl)
noncomputable def Gb4K14 : List Ev.Item := .loop 122 0 T122_0 X122_0 (loopVal step122_0) :: Gb4K13
theorem Gb4K14_ok : ∀ q ∈ Gb4K14, ItemOk Try.prog q := items_cons lp122_0 Gb4K13_ok
noncomputable def s122 : Int × Int × Int → Option (Int) := fun t =>
  optE (loopVal step122_0 (0, t, 0)) (fun e1 =>
    some (e1))
    (none)
theorem i122 : ItemOk Try.prog (.fn 122 [.d (.agg (.pair (.int .i64) (.pair (.int .i64) (.int .i64))))] [.d (.int .i64)] s122) := item_fnM md1 ext1 (U := 9) (n := 4) noSpecial mixed Gb4K14_ok (fun x => by kernel_rfl)
noncomputable def Gb4K15 : List Ev.Item := .fn 122 [.d (.agg (.pair (.int .i64) (.pair (.int .i64) (.int .i64))))] [.d (.int .i64)] s122 :: Gb4K14
theorem Gb4K15_ok : ∀ q ∈ Gb4K15, ItemOk Try.prog q := items_cons i122 Gb4K14_ok

/-! (cassegrain path.gap).along -/
noncomputable def s103 : (((Int × Int × Int) × Int) × Int) × (Int × Int × Int) → Option (Int × Int) := fun (g, v) =>
  optE (s121 v) (fun r1 =>
    optE (s85 (r1, g.1.1)) (fun r2 =>
      optE (s122 r1) (fun r3 =>
        some ((wr (r2 - (wr ((wr (g.2 * r3)) * g.1.2))), wr (r2 + (wr ((wr (g.2 * r3)) * g.1.2))))))
        (none))
      (none))
    (none)
theorem i103 : ItemOk Try.prog (.fn 103 [.d (.agg (.pair (.pair (.pair (.int .i64) (.pair (.int .i64) (.int .i64))) (.int .i64)) (.int .i64))), .d (.agg (.pair (.int .i64) (.pair (.int .i64) (.int .i64))))] [.d (.agg (.pair (.int .i64) (.int .i64)))] s103) := item_fnM md1 ext1 (U := 9) (n := 4) noSpecial mixed Gb4K15_ok (fun x => by kernel_rfl)
noncomputable def Gb4K16 : List Ev.Item := .fn 103 [.d (.agg (.pair (.pair (.pair (.int .i64) (.pair (.int .i64) (.int .i64))) (.int .i64)) (.int .i64))), .d (.agg (.pair (.int .i64) (.pair (.int .i64) (.int .i64))))] [.d (.agg (.pair (.int .i64) (.int .i64)))] s103 :: Gb4K15
theorem Gb4K16_ok : ∀ q ∈ Gb4K16, ItemOk Try.prog q := items_cons i103 Gb4K15_ok

/-! (cassegrain path.wide).times -/
noncomputable def s123 : (Int × Int) × Int → Option (Int × Int) := fun (w, n) =>
  optE (s119 (w.2, IntKind.u64.wrap n)) (fun r1 =>
    some ((IntKind.u64.wrap (r1.1 + (IntKind.u64.wrap (w.1 * (IntKind.u64.wrap n)))), r1.2)))
    (none)
theorem i123 : ItemOk Try.prog (.fn 123 [.d (.agg (.pair (.int .u64) (.int .u64))), .d (.int .i64)] [.d (.agg (.pair (.int .u64) (.int .u64)))] s123) := item_fnM md1 ext1 (U := 9) (n := 4) noSpecial mixed Gb4K16_ok (fun x => by kernel_rfl)
noncomputable def Gb4K17 : List Ev.Item := .fn 123 [.d (.agg (.pair (.int .u64) (.int .u64))), .d (.int .i64)] [.d (.agg (.pair (.int .u64) (.int .u64)))] s123 :: Gb4K16
theorem Gb4K17_ok : ∀ q ∈ Gb4K17, ItemOk Try.prog q := items_cons i123 Gb4K16_ok

/-! (cassegrain path.wide).less -/
noncomputable def s98 : (Int × Int) × (Int × Int) → Option (Bool) := fun (w, o) =>
  bif decide (w.1 < o.1) then
    some (true)
  else
    bif w.1 == o.1 then
      some (decide (w.2 < o.2))
    else
      some (false)
theorem i98 : ItemOk Try.prog (.fn 98 [.d (.agg (.pair (.int .u64) (.int .u64))), .d (.agg (.pair (.int .u64) (.int .u64)))] [.d .bool] s98) := item_fnM md1 ext1 (U := 9) (n := 4) noSpecial mixed Gb4K17_ok (fun x => by kernel_rfl)
noncomputable def Gb4K18 : List Ev.Item := .fn 98 [.d (.agg (.pair (.int .u64) (.int .u64))), .d (.agg (.pair (.int .u64) (.int .u64)))] [.d .bool] s98 :: Gb4K17
theorem Gb4K18_ok : ∀ q ∈ Gb4K18, ItemOk Try.prog q := items_cons i98 Gb4K17_ok

/-! cassegrain path.hides -/
noncomputable def s104 : ((Int × Int × Int) × Int × Int) × Int × (Int × Int) → Option (Bool) := fun (c, product, square) =>
  optE (s121 c.1) (fun r1 =>
    bif decide (product > 0) then
      optE (s85 (r1, r1)) (fun r2 =>
        optE (s123 (square, wr (c.2.1 * r2))) (fun r3 =>
          optE (s99 product) (fun r4 =>
            optE (s123 (r4, c.2.2)) (fun r5 =>
              optE (s98 (r3, r5)) (fun r6 =>
                some (r6))
                (none))
              (none))
            (none))
          (none))
        (none)
    else
      some (false))
    (none)
theorem i104 : ItemOk Try.prog (.fn 104 [.d (.agg (.pair (.pair (.int .i64) (.pair (.int .i64) (.int .i64))) (.pair (.int .i64) (.int .i64)))), .d (.int .i64), .d (.agg (.pair (.int .u64) (.int .u64)))] [.d .bool] s104) := item_fnM md1 ext1 (U := 9) (n := 4) noSpecial mixed Gb4K18_ok (fun x => by kernel_rfl)
noncomputable def Gb4K19 : List Ev.Item := .fn 104 [.d (.agg (.pair (.pair (.int .i64) (.pair (.int .i64) (.int .i64))) (.pair (.int .i64) (.int .i64)))), .d (.int .i64), .d (.agg (.pair (.int .u64) (.int .u64)))] [.d .bool] s104 :: Gb4K18
theorem Gb4K19_ok : ∀ q ∈ Gb4K19, ItemOk Try.prog q := items_cons i104 Gb4K18_ok

/-! cassegrain path.visible -/
@[reducible] def T73_0 : Tmpl := ⟨66, [(5, .ref 5 0 0 0)], [.val 7 .bool, .val 8 .bool, .val 32 (.slice (.agg (.pair (.pair (.int .i64) (.pair (.int .i64) (.int .i64))) (.pair (.int .i64) (.int .i64))))), .val 33 (.int .i64), .val 34 (.int .i64), .cells 5 [.d (.pair (.pair (.pair (.int .i64) (.pair (.int .i64) (.int .i64))) (.int .i64)) (.int .i64))]]⟩
@[reducible] def X73_0 : List (Ex × Tmpl) := [(.exit 0, ⟨66, [], [.val 7 .bool, .val 8 .bool]⟩)]
/-- data: t7, t8, t32, t33, t34, t5; ends: exit 0: t7, t8 -/
noncomputable def step73_0 : Bool × Bool × (List ((Int × Int × Int) × Int × Int)) × Int × Int × (((Int × Int × Int) × Int) × Int) → Option ((Bool × Bool × (List ((Int × Int × Int) × Int × Int)) × Int × Int × (((Int × Int × Int) × Int) × Int)) ⊕ (Bool × Bool)) := fun (t7, t8, t32, t33, t34, t5) =>
  bif decide (t34 < t33) then
    bif inBounds t34 t32.length then
      optE (s103 (t5, (t32.getD t34.toNat ((0, 0, 0), 0, 0)).1)) (fun r3 =>
        bif t7 then
          optE (s95 t5) (fun r4 =>
            optE (s104 ((t32.getD t34.toNat ((0, 0, 0), 0, 0)), r3.2, r4)) (fun r5 =>
              bif t8 then
                some (.inl (!r5, true, t32, t33, wr (t34 + 1), t5))
              else
                optE (s96 t5) (fun r6 =>
                  optE (s104 ((t32.getD t34.toNat ((0, 0, 0), 0, 0)), r3.1, r6)) (fun r7 =>
                    some (.inl (!r5, r7, t32, t33, wr (t34 + 1), t5)))
                    (none))
                  (none))
              (none))
            (none)
        else
          bif t8 then
            some (.inl (false, true, t32, t33, wr (t34 + 1), t5))
          else
            optE (s96 t5) (fun r8 =>
              optE (s104 ((t32.getD t34.toNat ((0, 0, 0), 0, 0)), r3.1, r8)) (fun r9 =>
                some (.inl (false, r9, t32, t33, wr (t34 + 1), t5)))
                (none))
              (none))
        (none)
    else
      none
  else
    some (.inr (t7, t8))
theorem one73_0 : oneLoop Try.prog 73 0 = true := by kernel_rfl
theorem lp73_0 : ItemOk Try.prog (.loop 73 0 T73_0 X73_0 (loopVal step73_0)) := item_loopM md1 ext1 (U := 9) (n := 3) noSpecial mixed Gb4K19_ok one73_0 (fun x => by kernel_rfl)
noncomputable def Gb4K20 : List Ev.Item := .loop 73 0 T73_0 X73_0 (loopVal step73_0) :: Gb4K19
theorem Gb4K20_ok : ∀ q ∈ Gb4K20, ItemOk Try.prog q := items_cons lp73_0 Gb4K19_ok
noncomputable def s73 : (((Int × Int × Int) × List ((Int × Int × Int) × Int × Int)) × ((List (Int × Int × Int × Int)) × Int) × (List (Int × Int × Int × Int)) × Int) × Int → Option (Int) := fun (a0, a1) =>
  optE (s69 (a0.2.1, a1, a0.2.2, a1)) (fun r1 =>
    optE (s103 (r1, a0.1.1)) (fun r2 =>
      optE (loopVal step73_0 (decide (r2.1 ≥ 0), decide (r2.2 < 0), a0.1.2, (a0.1.2.length : Int), 0, r1)) (fun e3 =>
        bif e3.1 then
          some (2)
        else
          bif e3.2 then
            some (0)
          else
            some (1))
        (none))
      (none))
    (none)
theorem i73 : ItemOk Try.prog (.fn 73 [.d (.agg (.pair (.pair (.pair (.int .i64) (.pair (.int .i64) (.int .i64))) (.slice (.agg (.pair (.pair (.int .i64) (.pair (.int .i64) (.int .i64))) (.pair (.int .i64) (.int .i64)))))) (.pair (.pair (.slice (.agg (.pair (.int .i64) (.pair (.int .i64) (.pair (.int .i64) (.int .i64)))))) (.int .i64)) (.pair (.slice (.agg (.pair (.int .i64) (.pair (.int .i64) (.pair (.int .i64) (.int .i64)))))) (.int .i64))))), .d (.int .i64)] [.d (.int .i64)] s73) := item_fnM md1 ext1 (U := 9) (n := 4) noSpecial mixed Gb4K20_ok (fun x => by kernel_rfl)
noncomputable def Gb4K21 : List Ev.Item := .fn 73 [.d (.agg (.pair (.pair (.pair (.int .i64) (.pair (.int .i64) (.int .i64))) (.slice (.agg (.pair (.pair (.int .i64) (.pair (.int .i64) (.int .i64))) (.pair (.int .i64) (.int .i64)))))) (.pair (.pair (.slice (.agg (.pair (.int .i64) (.pair (.int .i64) (.pair (.int .i64) (.int .i64)))))) (.int .i64)) (.pair (.slice (.agg (.pair (.int .i64) (.pair (.int .i64) (.pair (.int .i64) (.int .i64)))))) (.int .i64))))), .d (.int .i64)] [.d (.int .i64)] s73 :: Gb4K20
theorem Gb4K21_ok : ∀ q ∈ Gb4K21, ItemOk Try.prog q := items_cons i73 Gb4K20_ok

/-! cassegrain path.VisibleAt -/
noncomputable def s38 : (((Int × Int × Int) × List ((Int × Int × Int) × Int × Int)) × ((List (Int × Int × Int × Int)) × Int) × (List (Int × Int × Int × Int)) × Int) × Int → Option (Int × Int) := fun (v, time) =>
  optE (s72 v) (fun r1 =>
    bif r1 != 0 then
      some ((0, r1))
    else
      optE (s60 (time, [v.2.1, v.2.2])) (fun r2 =>
        bif r2 != 0 then
          some ((0, r2))
        else
          optE (s73 (v, time)) (fun r3 =>
            some ((r3, 0)))
            (none))
        (none))
    (none)
theorem i38 : ItemOk Try.prog (.fn 38 [.d (.agg (.pair (.pair (.pair (.int .i64) (.pair (.int .i64) (.int .i64))) (.slice (.agg (.pair (.pair (.int .i64) (.pair (.int .i64) (.int .i64))) (.pair (.int .i64) (.int .i64)))))) (.pair (.pair (.slice (.agg (.pair (.int .i64) (.pair (.int .i64) (.pair (.int .i64) (.int .i64)))))) (.int .i64)) (.pair (.slice (.agg (.pair (.int .i64) (.pair (.int .i64) (.pair (.int .i64) (.int .i64)))))) (.int .i64))))), .d (.int .i64)] [.d (.int .i64), .d (.int .i64)] s38) := item_fnM md1 ext1 (U := 9) (n := 4) noSpecial mixed Gb4K21_ok (fun x => by kernel_rfl)
noncomputable def Gb4K22 : List Ev.Item := .fn 38 [.d (.agg (.pair (.pair (.pair (.int .i64) (.pair (.int .i64) (.int .i64))) (.slice (.agg (.pair (.pair (.int .i64) (.pair (.int .i64) (.int .i64))) (.pair (.int .i64) (.int .i64)))))) (.pair (.pair (.slice (.agg (.pair (.int .i64) (.pair (.int .i64) (.pair (.int .i64) (.int .i64)))))) (.int .i64)) (.pair (.slice (.agg (.pair (.int .i64) (.pair (.int .i64) (.pair (.int .i64) (.int .i64)))))) (.int .i64))))), .d (.int .i64)] [.d (.int .i64), .d (.int .i64)] s38 :: Gb4K21
theorem Gb4K22_ok : ∀ q ∈ Gb4K22, ItemOk Try.prog q := items_cons i38 Gb4K21_ok

/-! cassegrain cassegrainlaw01.PathSeen -/
noncomputable def s8 : (((Int × Int × Int) × List ((Int × Int × Int) × Int × Int)) × ((List (Int × Int × Int × Int)) × Int) × (List (Int × Int × Int × Int)) × Int) × Int × Int → Option (Bool) := fun (a0, a1, a2) =>
  bif !true then
    some (false)
  else
    optE (s36 a0) (fun r1 =>
      bif !r1 then
        some (true)
      else
        optE (s37 a0) (fun r2 =>
          bif r2 != 0 then
            some (true)
          else
            optE (s32 (a0.2.1, a0.2.2, a1)) (fun r3 =>
              bif r3 != 0 then
                some (true)
              else
                optE (s33 (a2, 0, a0.2.2.2)) (fun r4 =>
                  bif !r4 then
                    some (true)
                  else
                    optE (s39 a0) (fun r5 =>
                      optE (s38 (r5, a1)) (fun r6 =>
                        optE (s39 a0) (fun r7 =>
                          optE (s38 ((r7.1, r7.2.1, r7.2.2.1, wr (a0.2.2.2 - a2)), a1)) (fun r8 =>
                            bif r6.2 != 0 then
                              some (false)
                            else
                              bif r8.2 != 0 then
                                some (false)
                              else
                                bif r6.1 != 1 then
                                  bif r8.1 != r6.1 then
                                    some (false)
                                  else
                                    optE (s39 a0) (fun r9 =>
                                      optE (s39 ((r9.1.1, []), r9.2.1, r9.2.2)) (fun r10 =>
                                        optE (s38 (r10, a1)) (fun r11 =>
                                          optE (s39 ((r9.1.1, []), r9.2.1, r9.2.2)) (fun r12 =>
                                            optE (s38 ((((wr (-a0.1.1.1), wr (-a0.1.1.2.1), wr (-a0.1.1.2.2)), r12.1.2), r12.2.1, r12.2.2), a1)) (fun r13 =>
                                              bif r11.2 != 0 then
                                                some (false)
                                              else
                                                bif r13.2 != 0 then
                                                  some (false)
                                                else
                                                  bif r11.1 == 0 then
                                                    bif r6.1 != 0 then
                                                      some (false)
                                                    else
                                                      bif r13.1 != 2 then
                                                        some (false)
                                                      else
                                                        bif r6.1 == 2 then
                                                          bif r11.1 != 2 then
                                                            some (false)
                                                          else
                                                            bif (a0.1.2.length : Int) == 0 then
                                                              some (r11.1 == r6.1)
                                                            else
                                                              optE (s39 a0) (fun r14 =>
                                                                bif decide (1 ≤ (r14.1.2.length : Int)) then
                                                                  optE (s38 (((r14.1.1, r14.1.2.drop 1), r14.2.1, r14.2.2), a1)) (fun r15 =>
                                                                    bif r15.2 == 0 then
                                                                      bif r6.1 != 2 then
                                                                        bif r15.1 != 0 then
                                                                          some (true)
                                                                        else
                                                                          some (r6.1 == 0)
                                                                      else
                                                                        bif r15.1 == 2 then
                                                                          bif r15.1 != 0 then
                                                                            some (true)
                                                                          else
                                                                            some (r6.1 == 0)
                                                                        else
                                                                          some (false)
                                                                    else
                                                                      some (false))
                                                                    (none)
                                                                else
                                                                  none)
                                                                (none)
                                                        else
                                                          bif (a0.1.2.length : Int) == 0 then
                                                            some (r11.1 == r6.1)
                                                          else
                                                            optE (s39 a0) (fun r16 =>
                                                              bif decide (1 ≤ (r16.1.2.length : Int)) then
                                                                optE (s38 (((r16.1.1, r16.1.2.drop 1), r16.2.1, r16.2.2), a1)) (fun r17 =>
                                                                  bif r17.2 == 0 then
                                                                    bif r6.1 != 2 then
                                                                      bif r17.1 != 0 then
                                                                        some (true)
                                                                      else
                                                                        some (r6.1 == 0)
                                                                    else
                                                                      bif r17.1 == 2 then
                                                                        bif r17.1 != 0 then
                                                                          some (true)
                                                                        else
                                                                          some (r6.1 == 0)
                                                                      else
                                                                        some (false)
                                                                  else
                                                                    some (false))
                                                                  (none)
                                                              else
                                                                none)
                                                              (none)
                                                  else
                                                    bif r6.1 == 2 then
                                                      bif r11.1 != 2 then
                                                        some (false)
                                                      else
                                                        bif (a0.1.2.length : Int) == 0 then
                                                          some (r11.1 == r6.1)
                                                        else
                                                          optE (s39 a0) (fun r18 =>
                                                            bif decide (1 ≤ (r18.1.2.length : Int)) then
                                                              optE (s38 (((r18.1.1, r18.1.2.drop 1), r18.2.1, r18.2.2), a1)) (fun r19 =>
                                                                bif r19.2 == 0 then
                                                                  bif r6.1 != 2 then
                                                                    bif r19.1 != 0 then
                                                                      some (true)
                                                                    else
                                                                      some (r6.1 == 0)
                                                                  else
                                                                    bif r19.1 == 2 then
                                                                      bif r19.1 != 0 then
                                                                        some (true)
                                                                      else
                                                                        some (r6.1 == 0)
                                                                    else
                                                                      some (false)
                                                                else
                                                                  some (false))
                                                                (none)
                                                            else
                                                              none)
                                                            (none)
                                                    else
                                                      bif (a0.1.2.length : Int) == 0 then
                                                        some (r11.1 == r6.1)
                                                      else
                                                        optE (s39 a0) (fun r20 =>
                                                          bif decide (1 ≤ (r20.1.2.length : Int)) then
                                                            optE (s38 (((r20.1.1, r20.1.2.drop 1), r20.2.1, r20.2.2), a1)) (fun r21 =>
                                                              bif r21.2 == 0 then
                                                                bif r6.1 != 2 then
                                                                  bif r21.1 != 0 then
                                                                    some (true)
                                                                  else
                                                                    some (r6.1 == 0)
                                                                else
                                                                  bif r21.1 == 2 then
                                                                    bif r21.1 != 0 then
                                                                      some (true)
                                                                    else
                                                                      some (r6.1 == 0)
                                                                  else
                                                                    some (false)
                                                              else
                                                                some (false))
                                                              (none)
                                                          else
                                                            none)
                                                          (none))
                                              (none))
                                            (none))
                                          (none))
                                        (none))
                                      (none)
                                else
                                  optE (s39 a0) (fun r22 =>
                                    optE (s39 ((r22.1.1, []), r22.2.1, r22.2.2)) (fun r23 =>
                                      optE (s38 (r23, a1)) (fun r24 =>
                                        optE (s39 ((r22.1.1, []), r22.2.1, r22.2.2)) (fun r25 =>
                                          optE (s38 ((((wr (-a0.1.1.1), wr (-a0.1.1.2.1), wr (-a0.1.1.2.2)), r25.1.2), r25.2.1, r25.2.2), a1)) (fun r26 =>
                                            bif r24.2 != 0 then
                                              some (false)
                                            else
                                              bif r26.2 != 0 then
                                                some (false)
                                              else
                                                bif r24.1 == 0 then
                                                  bif r6.1 != 0 then
                                                    some (false)
                                                  else
                                                    bif r26.1 != 2 then
                                                      some (false)
                                                    else
                                                      bif r6.1 == 2 then
                                                        bif r24.1 != 2 then
                                                          some (false)
                                                        else
                                                          bif (a0.1.2.length : Int) == 0 then
                                                            some (r24.1 == r6.1)
                                                          else
                                                            optE (s39 a0) (fun r27 =>
                                                              bif decide (1 ≤ (r27.1.2.length : Int)) then
                                                                optE (s38 (((r27.1.1, r27.1.2.drop 1), r27.2.1, r27.2.2), a1)) (fun r28 =>
                                                                  bif r28.2 == 0 then
                                                                    bif r6.1 != 2 then
                                                                      bif r28.1 != 0 then
                                                                        some (true)
                                                                      else
                                                                        some (r6.1 == 0)
                                                                    else
                                                                      bif r28.1 == 2 then
                                                                        bif r28.1 != 0 then
                                                                          some (true)
                                                                        else
                                                                          some (r6.1 == 0)
                                                                      else
                                                                        some (false)
                                                                  else
                                                                    some (false))
                                                                  (none)
                                                              else
                                                                none)
                                                              (none)
                                                      else
                                                        bif (a0.1.2.length : Int) == 0 then
                                                          some (r24.1 == r6.1)
                                                        else
                                                          optE (s39 a0) (fun r29 =>
                                                            bif decide (1 ≤ (r29.1.2.length : Int)) then
                                                              optE (s38 (((r29.1.1, r29.1.2.drop 1), r29.2.1, r29.2.2), a1)) (fun r30 =>
                                                                bif r30.2 == 0 then
                                                                  bif r6.1 != 2 then
                                                                    bif r30.1 != 0 then
                                                                      some (true)
                                                                    else
                                                                      some (r6.1 == 0)
                                                                  else
                                                                    bif r30.1 == 2 then
                                                                      bif r30.1 != 0 then
                                                                        some (true)
                                                                      else
                                                                        some (r6.1 == 0)
                                                                    else
                                                                      some (false)
                                                                else
                                                                  some (false))
                                                                (none)
                                                            else
                                                              none)
                                                            (none)
                                                else
                                                  bif r6.1 == 2 then
                                                    bif r24.1 != 2 then
                                                      some (false)
                                                    else
                                                      bif (a0.1.2.length : Int) == 0 then
                                                        some (r24.1 == r6.1)
                                                      else
                                                        optE (s39 a0) (fun r31 =>
                                                          bif decide (1 ≤ (r31.1.2.length : Int)) then
                                                            optE (s38 (((r31.1.1, r31.1.2.drop 1), r31.2.1, r31.2.2), a1)) (fun r32 =>
                                                              bif r32.2 == 0 then
                                                                bif r6.1 != 2 then
                                                                  bif r32.1 != 0 then
                                                                    some (true)
                                                                  else
                                                                    some (r6.1 == 0)
                                                                else
                                                                  bif r32.1 == 2 then
                                                                    bif r32.1 != 0 then
                                                                      some (true)
                                                                    else
                                                                      some (r6.1 == 0)
                                                                  else
                                                                    some (false)
                                                              else
                                                                some (false))
                                                              (none)
                                                          else
                                                            none)
                                                          (none)
                                                  else
                                                    bif (a0.1.2.length : Int) == 0 then
                                                      some (r24.1 == r6.1)
                                                    else
                                                      optE (s39 a0) (fun r33 =>
                                                        bif decide (1 ≤ (r33.1.2.length : Int)) then
                                                          optE (s38 (((r33.1.1, r33.1.2.drop 1), r33.2.1, r33.2.2), a1)) (fun r34 =>
                                                            bif r34.2 == 0 then
                                                              bif r6.1 != 2 then
                                                                bif r34.1 != 0 then
                                                                  some (true)
                                                                else
                                                                  some (r6.1 == 0)
                                                              else
                                                                bif r34.1 == 2 then
                                                                  bif r34.1 != 0 then
                                                                    some (true)
                                                                  else
                                                                    some (r6.1 == 0)
                                                                else
                                                                  some (false)
                                                            else
                                                              some (false))
                                                            (none)
                                                        else
                                                          none)
                                                        (none))
                                            (none))
                                          (none))
                                        (none))
                                      (none))
                                    (none))
                            (none))
                          (none))
                        (none))
                      (none))
                  (none))
              (none))
          (none))
      (none)
theorem i8 : ItemOk Try.prog (.fn 8 [.d (.agg (.pair (.pair (.pair (.int .i64) (.pair (.int .i64) (.int .i64))) (.slice (.agg (.pair (.pair (.int .i64) (.pair (.int .i64) (.int .i64))) (.pair (.int .i64) (.int .i64)))))) (.pair (.pair (.slice (.agg (.pair (.int .i64) (.pair (.int .i64) (.pair (.int .i64) (.int .i64)))))) (.int .i64)) (.pair (.slice (.agg (.pair (.int .i64) (.pair (.int .i64) (.pair (.int .i64) (.int .i64)))))) (.int .i64))))), .d (.int .i64), .d (.int .i64)] [.d .bool] s8) := item_fnM md1 ext1 (U := 9) (n := 4) noSpecial mixed Gb4K22_ok (fun x => by kernel_rfl)
noncomputable def Gb4K23 : List Ev.Item := .fn 8 [.d (.agg (.pair (.pair (.pair (.int .i64) (.pair (.int .i64) (.int .i64))) (.slice (.agg (.pair (.pair (.int .i64) (.pair (.int .i64) (.int .i64))) (.pair (.int .i64) (.int .i64)))))) (.pair (.pair (.slice (.agg (.pair (.int .i64) (.pair (.int .i64) (.pair (.int .i64) (.int .i64)))))) (.int .i64)) (.pair (.slice (.agg (.pair (.int .i64) (.pair (.int .i64) (.pair (.int .i64) (.int .i64)))))) (.int .i64))))), .d (.int .i64), .d (.int .i64)] [.d .bool] s8 :: Gb4K22
theorem Gb4K23_ok : ∀ q ∈ Gb4K23, ItemOk Try.prog q := items_cons i8 Gb4K22_ok
end Go.Proofs.Ytgpfdacidgmelaa
