/- Printed by gen.py: specifications of functions. -/
import Derived.Test.YtgpfdacidgmelaaGb0
set_option linter.unusedSimpArgs false
set_option maxRecDepth 100000
namespace Go.Proofs.Ytgpfdacidgmelaa
open Go.Ev

/-! cassegrain cassegrainlaw01.Few -/
noncomputable def s22 : (List (Int × Int × Int × Int)) × Int → Option (Bool) := fun p =>
  some (decide ((p.1.length : Int) ≤ 14))
theorem i22 : ItemOk Try.prog (.fn 22 [.d (.agg (.pair (.slice (.agg (.pair (.int .i64) (.pair (.int .i64) (.pair (.int .i64) (.int .i64)))))) (.int .i64)))] [.d .bool] s22) := item_fnM md1 ext1 (U := 9) (n := 4) noSpecial mixed Gb0K1_ok (fun x => by kernel_rfl)
noncomputable def Gb1K1 : List Ev.Item := .fn 22 [.d (.agg (.pair (.slice (.agg (.pair (.int .i64) (.pair (.int .i64) (.pair (.int .i64) (.int .i64)))))) (.int .i64)))] [.d .bool] s22 :: Gb0K1
theorem Gb1K1_ok : ∀ q ∈ Gb1K1, ItemOk Try.prog q := items_cons i22 Gb0K1_ok

/-! cassegrain cassegrainref01.Copy -/
noncomputable def s24 : (List (Int × Int × Int × Int)) × Int → Option ((List (Int × Int × Int × Int)) × Int) := fun p =>
  listE (p.1)
    (some (([], p.2)))
    (fun y1 l2 =>
      bif room 32 (l2.length + 1) then
        some ((y1 :: l2, p.2))
      else
        none)
theorem i24 : ItemOk Try.prog (.fn 24 [.d (.agg (.pair (.slice (.agg (.pair (.int .i64) (.pair (.int .i64) (.pair (.int .i64) (.int .i64)))))) (.int .i64)))] [.d (.agg (.pair (.slice (.agg (.pair (.int .i64) (.pair (.int .i64) (.pair (.int .i64) (.int .i64)))))) (.int .i64)))] s24) := item_fnM md1 ext1 (U := 9) (n := 4) noSpecial mixed Gb1K1_ok (fun x => by kernel_rfl)
noncomputable def Gb1K2 : List Ev.Item := .fn 24 [.d (.agg (.pair (.slice (.agg (.pair (.int .i64) (.pair (.int .i64) (.pair (.int .i64) (.int .i64)))))) (.int .i64)))] [.d (.agg (.pair (.slice (.agg (.pair (.int .i64) (.pair (.int .i64) (.pair (.int .i64) (.int .i64)))))) (.int .i64)))] s24 :: Gb1K1
theorem Gb1K2_ok : ∀ q ∈ Gb1K2, ItemOk Try.prog q := items_cons i24 Gb1K1_ok

/-! cassegrain path.unless -/
noncomputable def s47 : Bool × Int → Option (Int) := fun (ok, e0) =>
  bif ok then
    some (0)
  else
    some (e0)
theorem i47 : ItemOk Try.prog (.fn 47 [.d .bool, .d (.int .i64)] [.d (.int .i64)] s47) := item_fnM md1 ext1 (U := 9) (n := 4) noSpecial mixed Gb1K2_ok (fun x => by kernel_rfl)
noncomputable def Gb1K3 : List Ev.Item := .fn 47 [.d .bool, .d (.int .i64)] [.d (.int .i64)] s47 :: Gb1K2
theorem Gb1K3_ok : ∀ q ∈ Gb1K3, ItemOk Try.prog q := items_cons i47 Gb1K2_ok

/-! cassegrain path.first -/
@[reducible] def T46_0 : Tmpl := ⟨15, [], [.val 5 (.slice (.int .i64)), .val 6 (.int .i64), .val 7 (.int .i64)]⟩
@[reducible] def X46_0 : List (Ex × Tmpl) := [(.ret, ⟨15, [], [.val 2 (.int .i64)]⟩), (.exit 0, ⟨15, [], []⟩)]
/-- data: t5, t6, t7; ends: ret: t2; exit 0:  -/
noncomputable def step46_0 : (List Int) × Int × Int → Option (((List Int) × Int × Int) ⊕ ((Int) ⊕ (Unit))) := fun (t5, t6, t7) =>
  bif decide (t7 < t6) then
    bif inBounds t7 t5.length then
      bif (t5.getD t7.toNat 0) != 0 then
        some (.inr (.inl (t5.getD t7.toNat 0)))
      else
        some (.inl (t5, t6, wr (t7 + 1)))
    else
      none
  else
    some (.inr (.inr ()))
theorem one46_0 : oneLoop Try.prog 46 0 = true := by kernel_rfl
theorem lp46_0 : ItemOk Try.prog (.loop 46 0 T46_0 X46_0 (loopVal step46_0)) := item_loopM md1 ext1 (U := 9) (n := 3) noSpecial mixed Gb1K3_ok one46_0 (fun x => by kernel_rfl)
noncomputable def Gb1K4 : List Ev.Item := .loop 46 0 T46_0 X46_0 (loopVal step46_0) :: Gb1K3
theorem Gb1K4_ok : ∀ q ∈ Gb1K4, ItemOk Try.prog q := items_cons lp46_0 Gb1K3_ok
noncomputable def s46 : List Int → Option (Int) := fun l =>
  optE (loopVal step46_0 (l, (l.length : Int), 0)) (fun e1 =>
    sumE e1 (fun e2 =>
      some (e2)) (fun _ =>
      some (0)))
    (none)
theorem i46 : ItemOk Try.prog (.fn 46 [.d (.slice (.int .i64))] [.d (.int .i64)] s46) := item_fnM md1 ext1 (U := 9) (n := 4) noSpecial mixed Gb1K4_ok (fun x => by kernel_rfl)
noncomputable def Gb1K5 : List Ev.Item := .fn 46 [.d (.slice (.int .i64))] [.d (.int .i64)] s46 :: Gb1K4
theorem Gb1K5_ok : ∀ q ∈ Gb1K5, ItemOk Try.prog q := items_cons i46 Gb1K4_ok

/-! cassegrain path.ofPoint -/
noncomputable def s81 : Int × Int × Int → Option (Int × Int × Int) := fun p =>
  some (p)
theorem i81 : ItemOk Try.prog (.fn 81 [.d (.agg (.pair (.int .i64) (.pair (.int .i64) (.int .i64))))] [.d (.agg (.pair (.int .i64) (.pair (.int .i64) (.int .i64))))] s81) := item_fnM md1 ext1 (U := 9) (n := 4) noSpecial mixed Gb1K5_ok (fun x => by kernel_rfl)
noncomputable def Gb1K6 : List Ev.Item := .fn 81 [.d (.agg (.pair (.int .i64) (.pair (.int .i64) (.int .i64))))] [.d (.agg (.pair (.int .i64) (.pair (.int .i64) (.int .i64))))] s81 :: Gb1K5
theorem Gb1K6_ok : ∀ q ∈ Gb1K6, ItemOk Try.prog q := items_cons i81 Gb1K5_ok

/-! cassegrain path.within -/
noncomputable def s44 : Int × Int × Int → Option (Bool) := fun (n, lo, hi) =>
  bif decide (lo ≤ n) then
    some (decide (n ≤ hi))
  else
    some (false)
theorem i44 : ItemOk Try.prog (.fn 44 [.d (.int .i64), .d (.int .i64), .d (.int .i64)] [.d .bool] s44) := item_fnM md1 ext1 (U := 9) (n := 4) noSpecial mixed Gb1K6_ok (fun x => by kernel_rfl)
noncomputable def Gb1K7 : List Ev.Item := .fn 44 [.d (.int .i64), .d (.int .i64), .d (.int .i64)] [.d .bool] s44 :: Gb1K6
theorem Gb1K7_ok : ∀ q ∈ Gb1K7, ItemOk Try.prog q := items_cons i44 Gb1K6_ok

/-! cassegrain path.small -/
noncomputable def s45 : Int × Int → Option (Bool) := fun (n, most) =>
  optE (s44 (n, wr (-most), most)) (fun r1 =>
    some (r1))
    (none)
theorem i45 : ItemOk Try.prog (.fn 45 [.d (.int .i64), .d (.int .i64)] [.d .bool] s45) := item_fnM md1 ext1 (U := 9) (n := 4) noSpecial mixed Gb1K7_ok (fun x => by kernel_rfl)
noncomputable def Gb1K8 : List Ev.Item := .fn 45 [.d (.int .i64), .d (.int .i64)] [.d .bool] s45 :: Gb1K7
theorem Gb1K8_ok : ∀ q ∈ Gb1K8, ItemOk Try.prog q := items_cons i45 Gb1K7_ok

/-! cassegrain path.knotErr$1 -/
noncomputable def s82 : Int → Option (Bool) := fun n =>
  optE (s45 (n, 1000000)) (fun r1 =>
    some (r1))
    (none)
theorem i82 : ItemOk Try.prog (.fn 82 [.d (.int .i64)] [.d .bool] s82) := item_fnM md1 ext1 (U := 9) (n := 4) noSpecial mixed Gb1K8_ok (fun x => by kernel_rfl)
noncomputable def Gb1K9 : List Ev.Item := .fn 82 [.d (.int .i64)] [.d .bool] s82 :: Gb1K8
theorem Gb1K9_ok : ∀ q ∈ Gb1K9, ItemOk Try.prog q := items_cons i82 Gb1K8_ok

/-! (cassegrain path.triple).minus -/
noncomputable def s84 : (Int × Int × Int) × (Int × Int × Int) → Option (Int × Int × Int) := fun (t, o) =>
  some ((wr (t.1 - o.1), wr (t.2.1 - o.2.1), wr (t.2.2 - o.2.2)))
theorem i84 : ItemOk Try.prog (.fn 84 [.d (.agg (.pair (.int .i64) (.pair (.int .i64) (.int .i64)))), .d (.agg (.pair (.int .i64) (.pair (.int .i64) (.int .i64))))] [.d (.agg (.pair (.int .i64) (.pair (.int .i64) (.int .i64))))] s84) := item_fnM md1 ext1 (U := 9) (n := 4) noSpecial mixed Gb1K9_ok (fun x => by kernel_rfl)
noncomputable def Gb1K10 : List Ev.Item := .fn 84 [.d (.agg (.pair (.int .i64) (.pair (.int .i64) (.int .i64)))), .d (.agg (.pair (.int .i64) (.pair (.int .i64) (.int .i64))))] [.d (.agg (.pair (.int .i64) (.pair (.int .i64) (.int .i64))))] s84 :: Gb1K9
theorem Gb1K10_ok : ∀ q ∈ Gb1K10, ItemOk Try.prog q := items_cons i84 Gb1K9_ok

/-! (cassegrain path.triple).dot -/
noncomputable def s85 : (Int × Int × Int) × (Int × Int × Int) → Option (Int) := fun (t, o) =>
  some (wr ((wr ((wr (t.1 * o.1)) + (wr (t.2.1 * o.2.1)))) + (wr (t.2.2 * o.2.2))))
theorem i85 : ItemOk Try.prog (.fn 85 [.d (.agg (.pair (.int .i64) (.pair (.int .i64) (.int .i64)))), .d (.agg (.pair (.int .i64) (.pair (.int .i64) (.int .i64))))] [.d (.int .i64)] s85) := item_fnM md1 ext1 (U := 9) (n := 4) noSpecial mixed Gb1K10_ok (fun x => by kernel_rfl)
noncomputable def Gb1K11 : List Ev.Item := .fn 85 [.d (.agg (.pair (.int .i64) (.pair (.int .i64) (.int .i64)))), .d (.agg (.pair (.int .i64) (.pair (.int .i64) (.int .i64))))] [.d (.int .i64)] s85 :: Gb1K10
theorem Gb1K11_ok : ∀ q ∈ Gb1K11, ItemOk Try.prog q := items_cons i85 Gb1K10_ok

/-! cassegrain path.knotErr -/
noncomputable def s58 : (Int × Int × Int × Int) × (Int × Int × Int × Int) → Option (Int) := fun (k, before) =>
  optE (s81 k.2) (fun r1 =>
    optE (s44 (k.1, 0, 1000000000000)) (fun r2 =>
      bif r2 then
        optE (s82 r1.1) (fun r3 =>
          bif r3 then
            optE (s82 r1.2.1) (fun r4 =>
              bif r4 then
                optE (s82 r1.2.2) (fun r5 =>
                  optE (s47 (r5, 2)) (fun r6 =>
                    bif r6 != 0 then
                      some (r6)
                    else
                      optE (s81 before.2) (fun r7 =>
                        optE (s84 (r1, r7)) (fun r8 =>
                          optE (s47 (decide ((wr (k.1 - before.1)) > 0), 9)) (fun r9 =>
                            optE (s47 (decide ((wr (k.1 - before.1)) ≤ 10000), 14)) (fun r10 =>
                              optE (s85 (r8, r8)) (fun r11 =>
                                optE (s47 (decide ((wr (4 * r11)) ≤ (wr ((wr (k.1 - before.1)) * (wr (k.1 - before.1))))), 23)) (fun r12 =>
                                  optE (s46 [r9, r10, r12]) (fun r13 =>
                                    some (r13))
                                    (none))
                                  (none))
                                (none))
                              (none))
                            (none))
                          (none))
                        (none))
                    (none))
                  (none)
              else
                optE (s47 (false, 2)) (fun r14 =>
                  bif r14 != 0 then
                    some (r14)
                  else
                    optE (s81 before.2) (fun r15 =>
                      optE (s84 (r1, r15)) (fun r16 =>
                        optE (s47 (decide ((wr (k.1 - before.1)) > 0), 9)) (fun r17 =>
                          optE (s47 (decide ((wr (k.1 - before.1)) ≤ 10000), 14)) (fun r18 =>
                            optE (s85 (r16, r16)) (fun r19 =>
                              optE (s47 (decide ((wr (4 * r19)) ≤ (wr ((wr (k.1 - before.1)) * (wr (k.1 - before.1))))), 23)) (fun r20 =>
                                optE (s46 [r17, r18, r20]) (fun r21 =>
                                  some (r21))
                                  (none))
                                (none))
                              (none))
                            (none))
                          (none))
                        (none))
                      (none))
                  (none))
              (none)
          else
            optE (s47 (false, 2)) (fun r22 =>
              bif r22 != 0 then
                some (r22)
              else
                optE (s81 before.2) (fun r23 =>
                  optE (s84 (r1, r23)) (fun r24 =>
                    optE (s47 (decide ((wr (k.1 - before.1)) > 0), 9)) (fun r25 =>
                      optE (s47 (decide ((wr (k.1 - before.1)) ≤ 10000), 14)) (fun r26 =>
                        optE (s85 (r24, r24)) (fun r27 =>
                          optE (s47 (decide ((wr (4 * r27)) ≤ (wr ((wr (k.1 - before.1)) * (wr (k.1 - before.1))))), 23)) (fun r28 =>
                            optE (s46 [r25, r26, r28]) (fun r29 =>
                              some (r29))
                              (none))
                            (none))
                          (none))
                        (none))
                      (none))
                    (none))
                  (none))
              (none))
          (none)
      else
        optE (s47 (false, 2)) (fun r30 =>
          bif r30 != 0 then
            some (r30)
          else
            optE (s81 before.2) (fun r31 =>
              optE (s84 (r1, r31)) (fun r32 =>
                optE (s47 (decide ((wr (k.1 - before.1)) > 0), 9)) (fun r33 =>
                  optE (s47 (decide ((wr (k.1 - before.1)) ≤ 10000), 14)) (fun r34 =>
                    optE (s85 (r32, r32)) (fun r35 =>
                      optE (s47 (decide ((wr (4 * r35)) ≤ (wr ((wr (k.1 - before.1)) * (wr (k.1 - before.1))))), 23)) (fun r36 =>
                        optE (s46 [r33, r34, r36]) (fun r37 =>
                          some (r37))
                          (none))
                        (none))
                      (none))
                    (none))
                  (none))
                (none))
              (none))
          (none))
      (none))
    (none)
theorem i58 : ItemOk Try.prog (.fn 58 [.d (.agg (.pair (.int .i64) (.pair (.int .i64) (.pair (.int .i64) (.int .i64))))), .tgt (.pair (.int .i64) (.pair (.int .i64) (.pair (.int .i64) (.int .i64))))] [.d (.int .i64)] s58) := item_fnM md1 ext1 (U := 9) (n := 4) noSpecial mixed Gb1K11_ok (fun x => by kernel_rfl)
noncomputable def Gb1K12 : List Ev.Item := .fn 58 [.d (.agg (.pair (.int .i64) (.pair (.int .i64) (.pair (.int .i64) (.int .i64))))), .tgt (.pair (.int .i64) (.pair (.int .i64) (.pair (.int .i64) (.int .i64))))] [.d (.int .i64)] s58 :: Gb1K11
theorem Gb1K12_ok : ∀ q ∈ Gb1K12, ItemOk Try.prog q := items_cons i58 Gb1K11_ok

/-! cassegrain path.CheckTrack -/
@[reducible] def T23_0 : Tmpl := ⟨49, [(1, .ref 1 0 0 0)], [.val 5 (.optr (.agg (.pair (.int .i64) (.pair (.int .i64) (.pair (.int .i64) (.int .i64)))))), .val 25 (.int .i64), .val 26 (.int .i64), .cells 1 [.d (.pair (.slice (.agg (.pair (.int .i64) (.pair (.int .i64) (.pair (.int .i64) (.int .i64)))))) (.int .i64))]]⟩
@[reducible] def X23_0 : List (Ex × Tmpl) := [(.ret, ⟨49, [], [.val 2 (.int .i64), .val 3 (.int .i64)]⟩), (.exit 0, ⟨49, [(1, .ref 1 0 0 0)], [.cells 1 [.d (.pair (.slice (.agg (.pair (.int .i64) (.pair (.int .i64) (.pair (.int .i64) (.int .i64)))))) (.int .i64))]]⟩)]
/-- data: before, t25, t26, p; ends: ret: t2, t3; exit 0: p -/
noncomputable def step23_0 : (Option (Int × Int × Int × Int)) × Int × Int × ((List (Int × Int × Int × Int)) × Int) → Option (((Option (Int × Int × Int × Int)) × Int × Int × ((List (Int × Int × Int × Int)) × Int)) ⊕ ((Int × Int) ⊕ (((List (Int × Int × Int × Int)) × Int)))) := fun (before, t25, t26, p) =>
  bif decide (t26 < t25) then
    bif inBounds t26 p.1.length then
      optE (s81 (p.1.getD t26.toNat (0, 0, 0, 0)).2) (fun r4 =>
        optE (s44 ((p.1.getD t26.toNat (0, 0, 0, 0)).1, 0, 1000000000000)) (fun r5 =>
          bif r5 then
            optE (s82 r4.1) (fun r6 =>
              bif r6 then
                optE (s82 r4.2.1) (fun r7 =>
                  bif r7 then
                    optE (s82 r4.2.2) (fun r8 =>
                      optE (s47 (r8, 2)) (fun r9 =>
                        bif r9 != 0 then
                          bif r9 != 0 then
                            some (.inr (.inl (t26, r9)))
                          else
                            bif inBounds t26 p.1.length then
                              some (.inl (some (p.1.getD t26.toNat (0, 0, 0, 0)), t25, wr (t26 + 1), p))
                            else
                              none
                        else
                          bif !before.isSome then
                            bif r9 != 0 then
                              some (.inr (.inl (t26, r9)))
                            else
                              bif inBounds t26 p.1.length then
                                some (.inl (some (p.1.getD t26.toNat (0, 0, 0, 0)), t25, wr (t26 + 1), p))
                              else
                                none
                          else
                            bif before.isSome then
                              bif before.isSome then
                                optE (s81 (before.getD (0, 0, 0, 0)).2) (fun r10 =>
                                  optE (s84 (r4, r10)) (fun r11 =>
                                    optE (s47 (decide ((wr ((p.1.getD t26.toNat (0, 0, 0, 0)).1 - (before.getD (0, 0, 0, 0)).1)) > 0), 9)) (fun r12 =>
                                      optE (s47 (decide ((wr ((p.1.getD t26.toNat (0, 0, 0, 0)).1 - (before.getD (0, 0, 0, 0)).1)) ≤ 10000), 14)) (fun r13 =>
                                        optE (s85 (r11, r11)) (fun r14 =>
                                          optE (s47 (decide ((wr (4 * r14)) ≤ (wr ((wr ((p.1.getD t26.toNat (0, 0, 0, 0)).1 - (before.getD (0, 0, 0, 0)).1)) * (wr ((p.1.getD t26.toNat (0, 0, 0, 0)).1 - (before.getD (0, 0, 0, 0)).1))))), 23)) (fun r15 =>
                                            optE (s46 [r12, r13, r15]) (fun r16 =>
                                              bif r16 != 0 then
                                                some (.inr (.inl (t26, r16)))
                                              else
                                                bif inBounds t26 p.1.length then
                                                  some (.inl (some (p.1.getD t26.toNat (0, 0, 0, 0)), t25, wr (t26 + 1), p))
                                                else
                                                  none)
                                              (none))
                                            (none))
                                          (none))
                                        (none))
                                      (none))
                                    (none))
                                  (none)
                              else
                                none
                            else
                              none)
                        (none))
                      (none)
                  else
                    optE (s47 (false, 2)) (fun r17 =>
                      bif r17 != 0 then
                        bif r17 != 0 then
                          some (.inr (.inl (t26, r17)))
                        else
                          bif inBounds t26 p.1.length then
                            some (.inl (some (p.1.getD t26.toNat (0, 0, 0, 0)), t25, wr (t26 + 1), p))
                          else
                            none
                      else
                        bif !before.isSome then
                          bif r17 != 0 then
                            some (.inr (.inl (t26, r17)))
                          else
                            bif inBounds t26 p.1.length then
                              some (.inl (some (p.1.getD t26.toNat (0, 0, 0, 0)), t25, wr (t26 + 1), p))
                            else
                              none
                        else
                          bif before.isSome then
                            bif before.isSome then
                              optE (s81 (before.getD (0, 0, 0, 0)).2) (fun r18 =>
                                optE (s84 (r4, r18)) (fun r19 =>
                                  optE (s47 (decide ((wr ((p.1.getD t26.toNat (0, 0, 0, 0)).1 - (before.getD (0, 0, 0, 0)).1)) > 0), 9)) (fun r20 =>
                                    optE (s47 (decide ((wr ((p.1.getD t26.toNat (0, 0, 0, 0)).1 - (before.getD (0, 0, 0, 0)).1)) ≤ 10000), 14)) (fun r21 =>
                                      optE (s85 (r19, r19)) (fun r22 =>
                                        optE (s47 (decide ((wr (4 * r22)) ≤ (wr ((wr ((p.1.getD t26.toNat (0, 0, 0, 0)).1 - (before.getD (0, 0, 0, 0)).1)) * (wr ((p.1.getD t26.toNat (0, 0, 0, 0)).1 - (before.getD (0, 0, 0, 0)).1))))), 23)) (fun r23 =>
                                          optE (s46 [r20, r21, r23]) (fun r24 =>
                                            bif r24 != 0 then
                                              some (.inr (.inl (t26, r24)))
                                            else
                                              bif inBounds t26 p.1.length then
                                                some (.inl (some (p.1.getD t26.toNat (0, 0, 0, 0)), t25, wr (t26 + 1), p))
                                              else
                                                none)
                                            (none))
                                          (none))
                                        (none))
                                      (none))
                                    (none))
                                  (none))
                                (none)
                            else
                              none
                          else
                            none)
                      (none))
                  (none)
              else
                optE (s47 (false, 2)) (fun r25 =>
                  bif r25 != 0 then
                    bif r25 != 0 then
                      some (.inr (.inl (t26, r25)))
                    else
                      bif inBounds t26 p.1.length then
                        some (.inl (some (p.1.getD t26.toNat (0, 0, 0, 0)), t25, wr (t26 + 1), p))
                      else
                        none
                  else
                    bif !before.isSome then
                      bif r25 != 0 then
                        some (.inr (.inl (t26, r25)))
                      else
                        bif inBounds t26 p.1.length then
                          some (.inl (some (p.1.getD t26.toNat (0, 0, 0, 0)), t25, wr (t26 + 1), p))
                        else
                          none
                    else
                      bif before.isSome then
                        bif before.isSome then
                          optE (s81 (before.getD (0, 0, 0, 0)).2) (fun r26 =>
                            optE (s84 (r4, r26)) (fun r27 =>
                              optE (s47 (decide ((wr ((p.1.getD t26.toNat (0, 0, 0, 0)).1 - (before.getD (0, 0, 0, 0)).1)) > 0), 9)) (fun r28 =>
                                optE (s47 (decide ((wr ((p.1.getD t26.toNat (0, 0, 0, 0)).1 - (before.getD (0, 0, 0, 0)).1)) ≤ 10000), 14)) (fun r29 =>
                                  optE (s85 (r27, r27)) (fun r30 =>
                                    optE (s47 (decide ((wr (4 * r30)) ≤ (wr ((wr ((p.1.getD t26.toNat (0, 0, 0, 0)).1 - (before.getD (0, 0, 0, 0)).1)) * (wr ((p.1.getD t26.toNat (0, 0, 0, 0)).1 - (before.getD (0, 0, 0, 0)).1))))), 23)) (fun r31 =>
                                      optE (s46 [r28, r29, r31]) (fun r32 =>
                                        bif r32 != 0 then
                                          some (.inr (.inl (t26, r32)))
                                        else
                                          bif inBounds t26 p.1.length then
                                            some (.inl (some (p.1.getD t26.toNat (0, 0, 0, 0)), t25, wr (t26 + 1), p))
                                          else
                                            none)
                                        (none))
                                      (none))
                                    (none))
                                  (none))
                                (none))
                              (none))
                            (none)
                        else
                          none
                      else
                        none)
                  (none))
              (none)
          else
            optE (s47 (false, 2)) (fun r33 =>
              bif r33 != 0 then
                bif r33 != 0 then
                  some (.inr (.inl (t26, r33)))
                else
                  bif inBounds t26 p.1.length then
                    some (.inl (some (p.1.getD t26.toNat (0, 0, 0, 0)), t25, wr (t26 + 1), p))
                  else
                    none
              else
                bif !before.isSome then
                  bif r33 != 0 then
                    some (.inr (.inl (t26, r33)))
                  else
                    bif inBounds t26 p.1.length then
                      some (.inl (some (p.1.getD t26.toNat (0, 0, 0, 0)), t25, wr (t26 + 1), p))
                    else
                      none
                else
                  bif before.isSome then
                    bif before.isSome then
                      optE (s81 (before.getD (0, 0, 0, 0)).2) (fun r34 =>
                        optE (s84 (r4, r34)) (fun r35 =>
                          optE (s47 (decide ((wr ((p.1.getD t26.toNat (0, 0, 0, 0)).1 - (before.getD (0, 0, 0, 0)).1)) > 0), 9)) (fun r36 =>
                            optE (s47 (decide ((wr ((p.1.getD t26.toNat (0, 0, 0, 0)).1 - (before.getD (0, 0, 0, 0)).1)) ≤ 10000), 14)) (fun r37 =>
                              optE (s85 (r35, r35)) (fun r38 =>
                                optE (s47 (decide ((wr (4 * r38)) ≤ (wr ((wr ((p.1.getD t26.toNat (0, 0, 0, 0)).1 - (before.getD (0, 0, 0, 0)).1)) * (wr ((p.1.getD t26.toNat (0, 0, 0, 0)).1 - (before.getD (0, 0, 0, 0)).1))))), 23)) (fun r39 =>
                                  optE (s46 [r36, r37, r39]) (fun r40 =>
                                    bif r40 != 0 then
                                      some (.inr (.inl (t26, r40)))
                                    else
                                      bif inBounds t26 p.1.length then
                                        some (.inl (some (p.1.getD t26.toNat (0, 0, 0, 0)), t25, wr (t26 + 1), p))
                                      else
                                        none)
                                    (none))
                                  (none))
                                (none))
                              (none))
                            (none))
                          (none))
                        (none)
                    else
                      none
                  else
                    none)
              (none))
          (none))
        (none)
    else
      none
  else
    some (.inr (.inr p))
theorem one23_0 : oneLoop Try.prog 23 0 = true := by kernel_rfl
theorem lp23_0 : ItemOk Try.prog (.loop 23 0 T23_0 X23_0 (loopVal step23_0)) := item_loopM md1 ext1 (U := 9) (n := 3) noSpecial mixed Gb1K12_ok one23_0 (fun x => by kernel_rfl)
noncomputable def Gb1K13 : List Ev.Item := .loop 23 0 T23_0 X23_0 (loopVal step23_0) :: Gb1K12
theorem Gb1K13_ok : ∀ q ∈ Gb1K13, ItemOk Try.prog q := items_cons lp23_0 Gb1K12_ok
noncomputable def s23 : (List (Int × Int × Int × Int)) × Int → Option (Int × Int) := fun p =>
  optE (s47 (decide ((p.1.length : Int) > 0), 10)) (fun r1 =>
    optE (s47 (decide ((p.1.length : Int) ≤ 12), 8)) (fun r2 =>
      optE (s46 [r1, r2]) (fun r3 =>
        bif r3 != 0 then
          some ((0, r3))
        else
          optE (loopVal step23_0 (none, (p.1.length : Int), 0, p)) (fun e4 =>
            sumE e4 (fun e5 =>
              some (e5)) (fun e6 =>
              optE (s44 (e6.2, 0, 1000)) (fun r7 =>
                optE (s47 (r7, 2)) (fun r8 =>
                  some ((0, r8)))
                  (none))
                (none)))
            (none))
        (none))
      (none))
    (none)
theorem i23 : ItemOk Try.prog (.fn 23 [.d (.agg (.pair (.slice (.agg (.pair (.int .i64) (.pair (.int .i64) (.pair (.int .i64) (.int .i64)))))) (.int .i64)))] [.d (.int .i64), .d (.int .i64)] s23) := item_fnM md1 ext1 (U := 9) (n := 4) noSpecial mixed Gb1K13_ok (fun x => by kernel_rfl)
noncomputable def Gb1K14 : List Ev.Item := .fn 23 [.d (.agg (.pair (.slice (.agg (.pair (.int .i64) (.pair (.int .i64) (.pair (.int .i64) (.int .i64)))))) (.int .i64)))] [.d (.int .i64), .d (.int .i64)] s23 :: Gb1K13
theorem Gb1K14_ok : ∀ q ∈ Gb1K14, ItemOk Try.prog q := items_cons i23 Gb1K13_ok

/-! cassegrain path.trackErr -/
@[reducible] def T59_0 : Tmpl := ⟨22, [], [.val 7 (.slice (.agg (.pair (.slice (.agg (.pair (.int .i64) (.pair (.int .i64) (.pair (.int .i64) (.int .i64)))))) (.int .i64)))), .val 8 (.int .i64), .val 9 (.int .i64)]⟩
@[reducible] def X59_0 : List (Ex × Tmpl) := [(.ret, ⟨22, [], [.val 2 (.int .i64)]⟩), (.exit 0, ⟨22, [], []⟩)]
/-- data: t7, t8, t9; ends: ret: t2; exit 0:  -/
noncomputable def step59_0 : (List ((List (Int × Int × Int × Int)) × Int)) × Int × Int → Option (((List ((List (Int × Int × Int × Int)) × Int)) × Int × Int) ⊕ ((Int) ⊕ (Unit))) := fun (t7, t8, t9) =>
  bif decide (t9 < t8) then
    bif inBounds t9 t7.length then
      optE (s23 (t7.getD t9.toNat ([], 0))) (fun r1 =>
        bif r1.2 != 0 then
          some (.inr (.inl r1.2))
        else
          some (.inl (t7, t8, wr (t9 + 1))))
        (none)
    else
      none
  else
    some (.inr (.inr ()))
theorem one59_0 : oneLoop Try.prog 59 0 = true := by kernel_rfl
theorem lp59_0 : ItemOk Try.prog (.loop 59 0 T59_0 X59_0 (loopVal step59_0)) := item_loopM md1 ext1 (U := 9) (n := 3) noSpecial mixed Gb1K14_ok one59_0 (fun x => by kernel_rfl)
noncomputable def Gb1K15 : List Ev.Item := .loop 59 0 T59_0 X59_0 (loopVal step59_0) :: Gb1K14
theorem Gb1K15_ok : ∀ q ∈ Gb1K15, ItemOk Try.prog q := items_cons lp59_0 Gb1K14_ok
noncomputable def s59 : List ((List (Int × Int × Int × Int)) × Int) → Option (Int) := fun l =>
  optE (loopVal step59_0 (l, (l.length : Int), 0)) (fun e1 =>
    sumE e1 (fun e2 =>
      some (e2)) (fun _ =>
      some (0)))
    (none)
theorem i59 : ItemOk Try.prog (.fn 59 [.d (.slice (.agg (.pair (.slice (.agg (.pair (.int .i64) (.pair (.int .i64) (.pair (.int .i64) (.int .i64)))))) (.int .i64))))] [.d (.int .i64)] s59) := item_fnM md1 ext1 (U := 9) (n := 4) noSpecial mixed Gb1K15_ok (fun x => by kernel_rfl)
noncomputable def Gb1K16 : List Ev.Item := .fn 59 [.d (.slice (.agg (.pair (.slice (.agg (.pair (.int .i64) (.pair (.int .i64) (.pair (.int .i64) (.int .i64)))))) (.int .i64))))] [.d (.int .i64)] s59 :: Gb1K15
theorem Gb1K16_ok : ∀ q ∈ Gb1K16, ItemOk Try.prog q := items_cons i59 Gb1K15_ok

/-! cassegrain path.last -/
noncomputable def s86 : (List (Int × Int × Int × Int)) × Int → Option (Int) := fun p =>
  bif inBounds (wr ((p.1.length : Int) - 1)) p.1.length then
    some ((p.1.getD (wr ((p.1.length : Int) - 1)).toNat (0, 0, 0, 0)).1)
  else
    none
theorem i86 : ItemOk Try.prog (.fn 86 [.d (.agg (.pair (.slice (.agg (.pair (.int .i64) (.pair (.int .i64) (.pair (.int .i64) (.int .i64)))))) (.int .i64)))] [.d (.int .i64)] s86) := item_fnM md1 ext1 (U := 9) (n := 4) noSpecial mixed Gb1K16_ok (fun x => by kernel_rfl)
noncomputable def Gb1K17 : List Ev.Item := .fn 86 [.d (.agg (.pair (.slice (.agg (.pair (.int .i64) (.pair (.int .i64) (.pair (.int .i64) (.int .i64)))))) (.int .i64)))] [.d (.int .i64)] s86 :: Gb1K16
theorem Gb1K17_ok : ∀ q ∈ Gb1K17, ItemOk Try.prog q := items_cons i86 Gb1K16_ok

/-! cassegrain path.timeErr -/
@[reducible] def T60_0 : Tmpl := ⟨24, [], [.val 0 (.int .i64), .val 7 (.slice (.agg (.pair (.slice (.agg (.pair (.int .i64) (.pair (.int .i64) (.pair (.int .i64) (.int .i64)))))) (.int .i64)))), .val 8 (.int .i64), .val 9 (.int .i64)]⟩
@[reducible] def X60_0 : List (Ex × Tmpl) := [(.ret, ⟨24, [], [.val 4 (.int .i64)]⟩), (.exit 0, ⟨24, [], []⟩)]
/-- data: time, t7, t8, t9; ends: ret: t4; exit 0:  -/
noncomputable def step60_0 : Int × (List ((List (Int × Int × Int × Int)) × Int)) × Int × Int → Option ((Int × (List ((List (Int × Int × Int × Int)) × Int)) × Int × Int) ⊕ ((Int) ⊕ (Unit))) := fun (time, t7, t8, t9) =>
  bif decide (t9 < t8) then
    bif inBounds t9 t7.length then
      bif inBounds 0 (t7.getD t9.toNat ([], 0)).1.length then
        optE (s86 (t7.getD t9.toNat ([], 0))) (fun r1 =>
          optE (s44 (time, ((t7.getD t9.toNat ([], 0)).1.getD 0 (0, 0, 0, 0)).1, r1)) (fun r2 =>
            bif !r2 then
              some (.inr (.inl 2))
            else
              some (.inl (time, t7, t8, wr (t9 + 1))))
            (none))
          (none)
      else
        none
    else
      none
  else
    some (.inr (.inr ()))
theorem one60_0 : oneLoop Try.prog 60 0 = true := by kernel_rfl
theorem lp60_0 : ItemOk Try.prog (.loop 60 0 T60_0 X60_0 (loopVal step60_0)) := item_loopM md1 ext1 (U := 9) (n := 3) noSpecial mixed Gb1K17_ok one60_0 (fun x => by kernel_rfl)
noncomputable def Gb1K18 : List Ev.Item := .loop 60 0 T60_0 X60_0 (loopVal step60_0) :: Gb1K17
theorem Gb1K18_ok : ∀ q ∈ Gb1K18, ItemOk Try.prog q := items_cons lp60_0 Gb1K17_ok
noncomputable def s60 : Int × (List ((List (Int × Int × Int × Int)) × Int)) → Option (Int) := fun (time, l) =>
  optE (loopVal step60_0 (time, l, (l.length : Int), 0)) (fun e1 =>
    sumE e1 (fun e2 =>
      some (e2)) (fun _ =>
      some (0)))
    (none)
theorem i60 : ItemOk Try.prog (.fn 60 [.d (.int .i64), .d (.slice (.agg (.pair (.slice (.agg (.pair (.int .i64) (.pair (.int .i64) (.pair (.int .i64) (.int .i64)))))) (.int .i64))))] [.d (.int .i64)] s60) := item_fnM md1 ext1 (U := 9) (n := 4) noSpecial mixed Gb1K18_ok (fun x => by kernel_rfl)
noncomputable def Gb1K19 : List Ev.Item := .fn 60 [.d (.int .i64), .d (.slice (.agg (.pair (.slice (.agg (.pair (.int .i64) (.pair (.int .i64) (.pair (.int .i64) (.int .i64)))))) (.int .i64))))] [.d (.int .i64)] s60 :: Gb1K18
theorem Gb1K19_ok : ∀ q ∈ Gb1K19, ItemOk Try.prog q := items_cons i60 Gb1K18_ok

/-! cassegrain path.at -/
@[reducible] def T52_0 : Tmpl := ⟨26, [], [.val 1 (.clo 87 (.pair (.ptr (.pair (.slice (.agg (.pair (.int .i64) (.pair (.int .i64) (.pair (.int .i64) (.int .i64)))))) (.int .i64))) (.pair (.ptr (.int .i64)) .unit))), .val 5 (.int .i64), .val 6 (.int .i64)]⟩
@[reducible] def X52_0 : List (Ex × Tmpl) := [(.exit 0, ⟨26, [], [.val 5 (.int .i64)]⟩)]
/-- data: f, i, j; ends: exit 0: i -/
noncomputable def step52_0 : (((List (Int × Int × Int × Int)) × Int) × Int × Unit) × Int × Int → Option (((((List (Int × Int × Int × Int)) × Int) × Int × Unit) × Int × Int) ⊕ (Int)) := fun (f, i, j) =>
  bif decide (i < j) then
    bif inBounds (wr (shrI .u64 (IntKind.u64.wrap (wr (i + j))) 1)) f.1.1.length then
      bif !(decide ((f.1.1.getD (wr (shrI .u64 (IntKind.u64.wrap (wr (i + j))) 1)).toNat (0, 0, 0, 0)).1 ≥ f.2.1)) then
        some (.inl (f, wr ((wr (shrI .u64 (IntKind.u64.wrap (wr (i + j))) 1)) + 1), j))
      else
        some (.inl (f, i, wr (shrI .u64 (IntKind.u64.wrap (wr (i + j))) 1)))
    else
      none
  else
    some (.inr i)
theorem one52_0 : oneLoop Try.prog 52 0 = true := by kernel_rfl
theorem lp52_0 : ItemOk Try.prog (.loop 52 0 T52_0 X52_0 (loopVal step52_0)) := item_loopM md1 ext1 (U := 9) (n := 2) noSpecial mixed Gb1K19_ok one52_0 (fun x => by kernel_rfl)
noncomputable def Gb1K20 : List Ev.Item := .loop 52 0 T52_0 X52_0 (loopVal step52_0) :: Gb1K19
theorem Gb1K20_ok : ∀ q ∈ Gb1K20, ItemOk Try.prog q := items_cons lp52_0 Gb1K19_ok
noncomputable def s61 : ((List (Int × Int × Int × Int)) × Int) × Int → Option ((Int × Int × Int) × Int) := fun (a0, a1) =>
  optE (loopVal step52_0 ((a0, a1, ()), 0, (a0.1.length : Int))) (fun e1 =>
    bif inBounds e1 a0.1.length then
      bif (a0.1.getD e1.toNat (0, 0, 0, 0)).1 == a1 then
        optE (s81 (a0.1.getD e1.toNat (0, 0, 0, 0)).2) (fun r2 =>
          some ((r2, 1)))
          (none)
      else
        bif inBounds (wr (e1 - 1)) a0.1.length then
          optE (s81 (a0.1.getD (wr (e1 - 1)).toNat (0, 0, 0, 0)).2) (fun r3 =>
            optE (s81 (a0.1.getD e1.toNat (0, 0, 0, 0)).2) (fun r4 =>
              optE (s81 (a0.1.getD (wr (e1 - 1)).toNat (0, 0, 0, 0)).2) (fun r5 =>
                optE (s84 (r4, r5)) (fun r6 =>
                  some (((wr ((wr (r3.1 * (wr ((a0.1.getD e1.toNat (0, 0, 0, 0)).1 - (a0.1.getD (wr (e1 - 1)).toNat (0, 0, 0, 0)).1)))) + (wr (r6.1 * (wr (a1 - (a0.1.getD (wr (e1 - 1)).toNat (0, 0, 0, 0)).1))))), wr ((wr (r3.2.1 * (wr ((a0.1.getD e1.toNat (0, 0, 0, 0)).1 - (a0.1.getD (wr (e1 - 1)).toNat (0, 0, 0, 0)).1)))) + (wr (r6.2.1 * (wr (a1 - (a0.1.getD (wr (e1 - 1)).toNat (0, 0, 0, 0)).1))))), wr ((wr (r3.2.2 * (wr ((a0.1.getD e1.toNat (0, 0, 0, 0)).1 - (a0.1.getD (wr (e1 - 1)).toNat (0, 0, 0, 0)).1)))) + (wr (r6.2.2 * (wr (a1 - (a0.1.getD (wr (e1 - 1)).toNat (0, 0, 0, 0)).1)))))), wr ((a0.1.getD e1.toNat (0, 0, 0, 0)).1 - (a0.1.getD (wr (e1 - 1)).toNat (0, 0, 0, 0)).1))))
                  (none))
                (none))
              (none))
            (none)
        else
          none
    else
      none)
    (none)
theorem i61 : ItemOk Try.prog (.fn 61 [.d (.agg (.pair (.slice (.agg (.pair (.int .i64) (.pair (.int .i64) (.pair (.int .i64) (.int .i64)))))) (.int .i64))), .d (.int .i64)] [.d (.agg (.pair (.pair (.int .i64) (.pair (.int .i64) (.int .i64))) (.int .i64)))] s61) := item_fnM md1 ext1 (U := 9) (n := 4) noSpecial mixed Gb1K20_ok (fun x => by kernel_rfl)
noncomputable def Gb1K21 : List Ev.Item := .fn 61 [.d (.agg (.pair (.slice (.agg (.pair (.int .i64) (.pair (.int .i64) (.pair (.int .i64) (.int .i64)))))) (.int .i64))), .d (.int .i64)] [.d (.agg (.pair (.pair (.int .i64) (.pair (.int .i64) (.int .i64))) (.int .i64)))] s61 :: Gb1K20
theorem Gb1K21_ok : ∀ q ∈ Gb1K21, ItemOk Try.prog q := items_cons i61 Gb1K20_ok

/-! cassegrain path.floor -/
noncomputable def s62 : Int × Int → Option (Int) := fun (n, by0) =>
  bif !(by0 == 0) then
    bif !(by0 == 0) then
      bif decide ((Int.tmod n by0) < 0) then
        some (wr ((wr (Int.tdiv n by0)) - 1))
      else
        some (wr (Int.tdiv n by0))
    else
      none
  else
    none
theorem i62 : ItemOk Try.prog (.fn 62 [.d (.int .i64), .d (.int .i64)] [.d (.int .i64)] s62) := item_fnM md1 ext1 (U := 9) (n := 4) noSpecial mixed Gb1K21_ok (fun x => by kernel_rfl)
noncomputable def Gb1K22 : List Ev.Item := .fn 62 [.d (.int .i64), .d (.int .i64)] [.d (.int .i64)] s62 :: Gb1K21
theorem Gb1K22_ok : ∀ q ∈ Gb1K22, ItemOk Try.prog q := items_cons i62 Gb1K21_ok

/-! cassegrain path.ceil -/
noncomputable def s63 : Int × Int → Option (Int) := fun (n, by0) =>
  optE (s62 (wr (-n), by0)) (fun r1 =>
    some (wr (-r1)))
    (none)
theorem i63 : ItemOk Try.prog (.fn 63 [.d (.int .i64), .d (.int .i64)] [.d (.int .i64)] s63) := item_fnM md1 ext1 (U := 9) (n := 4) noSpecial mixed Gb1K22_ok (fun x => by kernel_rfl)
noncomputable def Gb1K23 : List Ev.Item := .fn 63 [.d (.int .i64), .d (.int .i64)] [.d (.int .i64)] s63 :: Gb1K22
theorem Gb1K23_ok : ∀ q ∈ Gb1K23, ItemOk Try.prog q := items_cons i63 Gb1K22_ok

/-! cassegrain path.BoxAt -/
noncomputable def s25 : ((List (Int × Int × Int × Int)) × Int) × Int → Option (((Int × Int) × (Int × Int) × Int × Int) × Int) := fun (p, time) =>
  optE (s59 [p]) (fun r1 =>
    bif r1 != 0 then
      some ((((0, 0), (0, 0), 0, 0), r1))
    else
      optE (s60 (time, [p])) (fun r2 =>
        bif r2 != 0 then
          some ((((0, 0), (0, 0), 0, 0), r2))
        else
          optE (s61 (p, time)) (fun r3 =>
            optE (s62 (r3.1.1, r3.2)) (fun r4 =>
              optE (s63 (r3.1.1, r3.2)) (fun r5 =>
                optE (s62 (r3.1.2.1, r3.2)) (fun r6 =>
                  optE (s63 (r3.1.2.1, r3.2)) (fun r7 =>
                    optE (s62 (r3.1.2.2, r3.2)) (fun r8 =>
                      optE (s63 (r3.1.2.2, r3.2)) (fun r9 =>
                        some ((((wr (r4 - p.2), wr (r5 + p.2)), (wr (r6 - p.2), wr (r7 + p.2)), wr (r8 - p.2), wr (r9 + p.2)), 0)))
                        (none))
                      (none))
                    (none))
                  (none))
                (none))
              (none))
            (none))
        (none))
    (none)
theorem i25 : ItemOk Try.prog (.fn 25 [.d (.agg (.pair (.slice (.agg (.pair (.int .i64) (.pair (.int .i64) (.pair (.int .i64) (.int .i64)))))) (.int .i64))), .d (.int .i64)] [.d (.agg (.pair (.pair (.int .i64) (.int .i64)) (.pair (.pair (.int .i64) (.int .i64)) (.pair (.int .i64) (.int .i64))))), .d (.int .i64)] s25) := item_fnM md1 ext1 (U := 9) (n := 4) noSpecial mixed Gb1K23_ok (fun x => by kernel_rfl)
noncomputable def Gb1K24 : List Ev.Item := .fn 25 [.d (.agg (.pair (.slice (.agg (.pair (.int .i64) (.pair (.int .i64) (.pair (.int .i64) (.int .i64)))))) (.int .i64))), .d (.int .i64)] [.d (.agg (.pair (.pair (.int .i64) (.int .i64)) (.pair (.pair (.int .i64) (.int .i64)) (.pair (.int .i64) (.int .i64))))), .d (.int .i64)] s25 :: Gb1K23
theorem Gb1K24_ok : ∀ q ∈ Gb1K24, ItemOk Try.prog q := items_cons i25 Gb1K23_ok

/-! cassegrain cassegrainbase.Within -/
noncomputable def s33 : Int × Int × Int → Option (Bool) := fun (n, lo, hi) =>
  bif decide (lo ≤ n) then
    some (decide (n ≤ hi))
  else
    some (false)
theorem i33 : ItemOk Try.prog (.fn 33 [.d (.int .i64), .d (.int .i64), .d (.int .i64)] [.d .bool] s33) := item_fnM md1 ext1 (U := 9) (n := 4) noSpecial mixed Gb1K24_ok (fun x => by kernel_rfl)
noncomputable def Gb1K25 : List Ev.Item := .fn 33 [.d (.int .i64), .d (.int .i64), .d (.int .i64)] [.d .bool] s33 :: Gb1K24
theorem Gb1K25_ok : ∀ q ∈ Gb1K25, ItemOk Try.prog q := items_cons i33 Gb1K24_ok

/-! cassegrain cassegrainbase.IsTick -/
noncomputable def s88 : Int → Option (Bool) := fun n =>
  optE (s33 (n, 0, 1000000000000)) (fun r1 =>
    some (r1))
    (none)
theorem i88 : ItemOk Try.prog (.fn 88 [.d (.int .i64)] [.d .bool] s88) := item_fnM md1 ext1 (U := 9) (n := 4) noSpecial mixed Gb1K25_ok (fun x => by kernel_rfl)
noncomputable def Gb1K26 : List Ev.Item := .fn 88 [.d (.int .i64)] [.d .bool] s88 :: Gb1K25
theorem Gb1K26_ok : ∀ q ∈ Gb1K26, ItemOk Try.prog q := items_cons i88 Gb1K25_ok

/-! cassegrain cassegrainbase.Minus -/
noncomputable def s90 : (Int × Int × Int) × (Int × Int × Int) → Option (Int × Int × Int) := fun (a, b) =>
  some ((wr (a.1 - b.1), wr (a.2.1 - b.2.1), wr (a.2.2 - b.2.2)))
theorem i90 : ItemOk Try.prog (.fn 90 [.d (.agg (.pair (.int .i64) (.pair (.int .i64) (.int .i64)))), .d (.agg (.pair (.int .i64) (.pair (.int .i64) (.int .i64))))] [.d (.agg (.pair (.int .i64) (.pair (.int .i64) (.int .i64))))] s90) := item_fnM md1 ext1 (U := 9) (n := 4) noSpecial mixed Gb1K26_ok (fun x => by kernel_rfl)
noncomputable def Gb1K27 : List Ev.Item := .fn 90 [.d (.agg (.pair (.int .i64) (.pair (.int .i64) (.int .i64)))), .d (.agg (.pair (.int .i64) (.pair (.int .i64) (.int .i64))))] [.d (.agg (.pair (.int .i64) (.pair (.int .i64) (.int .i64))))] s90 :: Gb1K26
theorem Gb1K27_ok : ∀ q ∈ Gb1K27, ItemOk Try.prog q := items_cons i90 Gb1K26_ok

/-! cassegrain cassegrainbase.Dot -/
noncomputable def s115 : (Int × Int × Int) × (Int × Int × Int) → Option (Int) := fun (a, b) =>
  some (wr ((wr ((wr (a.1 * b.1)) + (wr (a.2.1 * b.2.1)))) + (wr (a.2.2 * b.2.2))))
theorem i115 : ItemOk Try.prog (.fn 115 [.d (.agg (.pair (.int .i64) (.pair (.int .i64) (.int .i64)))), .d (.agg (.pair (.int .i64) (.pair (.int .i64) (.int .i64))))] [.d (.int .i64)] s115) := item_fnM md1 ext1 (U := 9) (n := 4) noSpecial mixed Gb1K27_ok (fun x => by kernel_rfl)
noncomputable def Gb1K28 : List Ev.Item := .fn 115 [.d (.agg (.pair (.int .i64) (.pair (.int .i64) (.int .i64)))), .d (.agg (.pair (.int .i64) (.pair (.int .i64) (.int .i64))))] [.d (.int .i64)] s115 :: Gb1K27
theorem Gb1K28_ok : ∀ q ∈ Gb1K28, ItemOk Try.prog q := items_cons i115 Gb1K27_ok

/-! cassegrain cassegrainbase.Square -/
noncomputable def s89 : Int × Int × Int → Option (Int) := fun v =>
  optE (s115 (v, v)) (fun r1 =>
    some (r1))
    (none)
theorem i89 : ItemOk Try.prog (.fn 89 [.d (.agg (.pair (.int .i64) (.pair (.int .i64) (.int .i64))))] [.d (.int .i64)] s89) := item_fnM md1 ext1 (U := 9) (n := 4) noSpecial mixed Gb1K28_ok (fun x => by kernel_rfl)
noncomputable def Gb1K29 : List Ev.Item := .fn 89 [.d (.agg (.pair (.int .i64) (.pair (.int .i64) (.int .i64))))] [.d (.int .i64)] s89 :: Gb1K28
theorem Gb1K29_ok : ∀ q ∈ Gb1K29, ItemOk Try.prog q := items_cons i89 Gb1K28_ok

/-! cassegrain cassegrainref01.knotErr -/
noncomputable def s64 : (List (Int × Int × Int × Int)) × Int → Option (Int) := fun (a0, a1) =>
  bif inBounds a1 a0.length then
    optE (s88 (a0.getD a1.toNat (0, 0, 0, 0)).1) (fun r1 =>
      bif !r1 then
        some (2)
      else
        optE (s33 ((a0.getD a1.toNat (0, 0, 0, 0)).2.1, (-1000000), 1000000)) (fun r2 =>
          bif !r2 then
            some (2)
          else
            optE (s33 ((a0.getD a1.toNat (0, 0, 0, 0)).2.2.1, (-1000000), 1000000)) (fun r3 =>
              bif !r3 then
                some (2)
              else
                optE (s33 ((a0.getD a1.toNat (0, 0, 0, 0)).2.2.2, (-1000000), 1000000)) (fun r4 =>
                  bif !r4 then
                    some (2)
                  else
                    bif a1 == 0 then
                      some (0)
                    else
                      bif inBounds (wr (a1 - 1)) a0.length then
                        bif decide ((a0.getD a1.toNat (0, 0, 0, 0)).1 ≤ (a0.getD (wr (a1 - 1)).toNat (0, 0, 0, 0)).1) then
                          some (9)
                        else
                          bif decide ((wr ((a0.getD a1.toNat (0, 0, 0, 0)).1 - (a0.getD (wr (a1 - 1)).toNat (0, 0, 0, 0)).1)) > 10000) then
                            some (14)
                          else
                            optE (s90 ((a0.getD a1.toNat (0, 0, 0, 0)).2, (a0.getD (wr (a1 - 1)).toNat (0, 0, 0, 0)).2)) (fun r5 =>
                              optE (s89 r5) (fun r6 =>
                                bif decide ((wr (4 * r6)) > (wr ((wr ((a0.getD a1.toNat (0, 0, 0, 0)).1 - (a0.getD (wr (a1 - 1)).toNat (0, 0, 0, 0)).1)) * (wr ((a0.getD a1.toNat (0, 0, 0, 0)).1 - (a0.getD (wr (a1 - 1)).toNat (0, 0, 0, 0)).1))))) then
                                  some (23)
                                else
                                  some (0))
                                (none))
                              (none)
                      else
                        none)
                  (none))
              (none))
          (none))
      (none)
  else
    none
theorem i64 : ItemOk Try.prog (.fn 64 [.d (.slice (.agg (.pair (.int .i64) (.pair (.int .i64) (.pair (.int .i64) (.int .i64)))))), .d (.int .i64)] [.d (.int .i64)] s64) := item_fnM md1 ext1 (U := 9) (n := 4) noSpecial mixed Gb1K29_ok (fun x => by kernel_rfl)
noncomputable def Gb1K30 : List Ev.Item := .fn 64 [.d (.slice (.agg (.pair (.int .i64) (.pair (.int .i64) (.pair (.int .i64) (.int .i64)))))), .d (.int .i64)] [.d (.int .i64)] s64 :: Gb1K29
theorem Gb1K30_ok : ∀ q ∈ Gb1K30, ItemOk Try.prog q := items_cons i64 Gb1K29_ok

/-! cassegrain cassegrainref01.CheckTrack -/
@[reducible] def T26_0 : Tmpl := ⟨33, [(1, .ref 1 0 0 0)], [.val 4 (.int .i64), .cells 1 [.d (.pair (.slice (.agg (.pair (.int .i64) (.pair (.int .i64) (.pair (.int .i64) (.int .i64)))))) (.int .i64))]]⟩
@[reducible] def X26_0 : List (Ex × Tmpl) := [(.ret, ⟨33, [], [.val 2 (.int .i64), .val 3 (.int .i64)]⟩), (.exit 0, ⟨33, [(1, .ref 1 0 0 0)], [.cells 1 [.d (.pair (.slice (.agg (.pair (.int .i64) (.pair (.int .i64) (.pair (.int .i64) (.int .i64)))))) (.int .i64))]]⟩)]
/-- data: i, p; ends: ret: t2, t3; exit 0: p -/
noncomputable def step26_0 : Int × ((List (Int × Int × Int × Int)) × Int) → Option ((Int × ((List (Int × Int × Int × Int)) × Int)) ⊕ ((Int × Int) ⊕ (((List (Int × Int × Int × Int)) × Int)))) := fun (i, p) =>
  bif decide (i < (p.1.length : Int)) then
    optE (s64 (p.1, i)) (fun r1 =>
      bif r1 != 0 then
        some (.inr (.inl (i, r1)))
      else
        some (.inl (wr (i + 1), p)))
      (none)
  else
    some (.inr (.inr p))
theorem one26_0 : oneLoop Try.prog 26 0 = true := by kernel_rfl
theorem lp26_0 : ItemOk Try.prog (.loop 26 0 T26_0 X26_0 (loopVal step26_0)) := item_loopM md1 ext1 (U := 9) (n := 3) noSpecial mixed Gb1K30_ok one26_0 (fun x => by kernel_rfl)
noncomputable def Gb1K31 : List Ev.Item := .loop 26 0 T26_0 X26_0 (loopVal step26_0) :: Gb1K30
theorem Gb1K31_ok : ∀ q ∈ Gb1K31, ItemOk Try.prog q := items_cons lp26_0 Gb1K30_ok
noncomputable def s26 : (List (Int × Int × Int × Int)) × Int → Option (Int × Int) := fun p =>
  bif (p.1.length : Int) == 0 then
    some ((0, 10))
  else
    bif decide ((p.1.length : Int) > 12) then
      some ((0, 8))
    else
      optE (loopVal step26_0 (0, p)) (fun e1 =>
        sumE e1 (fun e2 =>
          some (e2)) (fun e3 =>
          optE (s33 (e3.2, 0, 1000)) (fun r4 =>
            bif !r4 then
              some ((0, 2))
            else
              some ((0, 0)))
            (none)))
        (none)
theorem i26 : ItemOk Try.prog (.fn 26 [.d (.agg (.pair (.slice (.agg (.pair (.int .i64) (.pair (.int .i64) (.pair (.int .i64) (.int .i64)))))) (.int .i64)))] [.d (.int .i64), .d (.int .i64)] s26) := item_fnM md1 ext1 (U := 9) (n := 4) noSpecial mixed Gb1K31_ok (fun x => by kernel_rfl)
noncomputable def Gb1K32 : List Ev.Item := .fn 26 [.d (.agg (.pair (.slice (.agg (.pair (.int .i64) (.pair (.int .i64) (.pair (.int .i64) (.int .i64)))))) (.int .i64)))] [.d (.int .i64), .d (.int .i64)] s26 :: Gb1K31
theorem Gb1K32_ok : ∀ q ∈ Gb1K32, ItemOk Try.prog q := items_cons i26 Gb1K31_ok

/-! cassegrain cassegrainref01.First -/
noncomputable def s65 : (List (Int × Int × Int × Int)) × Int → Option (Int) := fun p =>
  bif inBounds 0 p.1.length then
    some ((p.1.getD 0 (0, 0, 0, 0)).1)
  else
    none
theorem i65 : ItemOk Try.prog (.fn 65 [.d (.agg (.pair (.slice (.agg (.pair (.int .i64) (.pair (.int .i64) (.pair (.int .i64) (.int .i64)))))) (.int .i64)))] [.d (.int .i64)] s65) := item_fnM md1 ext1 (U := 9) (n := 4) noSpecial mixed Gb1K32_ok (fun x => by kernel_rfl)
noncomputable def Gb1K33 : List Ev.Item := .fn 65 [.d (.agg (.pair (.slice (.agg (.pair (.int .i64) (.pair (.int .i64) (.pair (.int .i64) (.int .i64)))))) (.int .i64)))] [.d (.int .i64)] s65 :: Gb1K32
theorem Gb1K33_ok : ∀ q ∈ Gb1K33, ItemOk Try.prog q := items_cons i65 Gb1K32_ok

/-! cassegrain cassegrainref01.Last -/
noncomputable def s66 : (List (Int × Int × Int × Int)) × Int → Option (Int) := fun p =>
  bif inBounds (wr ((p.1.length : Int) - 1)) p.1.length then
    some ((p.1.getD (wr ((p.1.length : Int) - 1)).toNat (0, 0, 0, 0)).1)
  else
    none
theorem i66 : ItemOk Try.prog (.fn 66 [.d (.agg (.pair (.slice (.agg (.pair (.int .i64) (.pair (.int .i64) (.pair (.int .i64) (.int .i64)))))) (.int .i64)))] [.d (.int .i64)] s66) := item_fnM md1 ext1 (U := 9) (n := 4) noSpecial mixed Gb1K33_ok (fun x => by kernel_rfl)
noncomputable def Gb1K34 : List Ev.Item := .fn 66 [.d (.agg (.pair (.slice (.agg (.pair (.int .i64) (.pair (.int .i64) (.pair (.int .i64) (.int .i64)))))) (.int .i64)))] [.d (.int .i64)] s66 :: Gb1K33
theorem Gb1K34_ok : ∀ q ∈ Gb1K34, ItemOk Try.prog q := items_cons i66 Gb1K33_ok

/-! cassegrain cassegrainref01.TimeErr -/
noncomputable def s27 : ((List (Int × Int × Int × Int)) × Int) × Int → Option (Int) := fun (p, time) =>
  optE (s65 p) (fun r1 =>
    optE (s66 p) (fun r2 =>
      optE (s33 (time, r1, r2)) (fun r3 =>
        bif !r3 then
          some (2)
        else
          some (0))
        (none))
      (none))
    (none)
theorem i27 : ItemOk Try.prog (.fn 27 [.d (.agg (.pair (.slice (.agg (.pair (.int .i64) (.pair (.int .i64) (.pair (.int .i64) (.int .i64)))))) (.int .i64))), .d (.int .i64)] [.d (.int .i64)] s27) := item_fnM md1 ext1 (U := 9) (n := 4) noSpecial mixed Gb1K34_ok (fun x => by kernel_rfl)
noncomputable def Gb1K35 : List Ev.Item := .fn 27 [.d (.agg (.pair (.slice (.agg (.pair (.int .i64) (.pair (.int .i64) (.pair (.int .i64) (.int .i64)))))) (.int .i64))), .d (.int .i64)] [.d (.int .i64)] s27 :: Gb1K34
theorem Gb1K35_ok : ∀ q ∈ Gb1K35, ItemOk Try.prog q := items_cons i27 Gb1K34_ok

/-! cassegrain cassegrainref01.scaled -/
noncomputable def s92 : (Int × Int × Int) × Int → Option (Int × Int × Int) := fun (v, n) =>
  some ((wr (v.1 * n), wr (v.2.1 * n), wr (v.2.2 * n)))
theorem i92 : ItemOk Try.prog (.fn 92 [.d (.agg (.pair (.int .i64) (.pair (.int .i64) (.int .i64)))), .d (.int .i64)] [.d (.agg (.pair (.int .i64) (.pair (.int .i64) (.int .i64))))] s92) := item_fnM md1 ext1 (U := 9) (n := 4) noSpecial mixed Gb1K35_ok (fun x => by kernel_rfl)
noncomputable def Gb1K36 : List Ev.Item := .fn 92 [.d (.agg (.pair (.int .i64) (.pair (.int .i64) (.int .i64)))), .d (.int .i64)] [.d (.agg (.pair (.int .i64) (.pair (.int .i64) (.int .i64))))] s92 :: Gb1K35
theorem Gb1K36_ok : ∀ q ∈ Gb1K36, ItemOk Try.prog q := items_cons i92 Gb1K35_ok

/-! cassegrain cassegrainref01.plus -/
noncomputable def s91 : (Int × Int × Int) × (Int × Int × Int) → Option (Int × Int × Int) := fun (a, b) =>
  some ((wr (a.1 + b.1), wr (a.2.1 + b.2.1), wr (a.2.2 + b.2.2)))
theorem i91 : ItemOk Try.prog (.fn 91 [.d (.agg (.pair (.int .i64) (.pair (.int .i64) (.int .i64)))), .d (.agg (.pair (.int .i64) (.pair (.int .i64) (.int .i64))))] [.d (.agg (.pair (.int .i64) (.pair (.int .i64) (.int .i64))))] s91) := item_fnM md1 ext1 (U := 9) (n := 4) noSpecial mixed Gb1K36_ok (fun x => by kernel_rfl)
noncomputable def Gb1K37 : List Ev.Item := .fn 91 [.d (.agg (.pair (.int .i64) (.pair (.int .i64) (.int .i64)))), .d (.agg (.pair (.int .i64) (.pair (.int .i64) (.int .i64))))] [.d (.agg (.pair (.int .i64) (.pair (.int .i64) (.int .i64))))] s91 :: Gb1K36
theorem Gb1K37_ok : ∀ q ∈ Gb1K37, ItemOk Try.prog q := items_cons i91 Gb1K36_ok

/-! cassegrain cassegrainref01.pointAt -/
@[reducible] def T67_0 : Tmpl := ⟨79, [(2, .ref 2 0 0 0), (4, .ref 4 0 0 0)], [.val 1 (.int .i64), .val 5 (.int .i64), .cells 2 [.d (.pair (.slice (.agg (.pair (.int .i64) (.pair (.int .i64) (.pair (.int .i64) (.int .i64)))))) (.int .i64))], .cells 4 [.d (.pair (.pair (.int .i64) (.pair (.int .i64) (.int .i64))) (.int .i64))]]⟩
@[reducible] def X67_0 : List (Ex × Tmpl) := [(.ret, ⟨79, [(4, .ref 4 0 0 0)], [.cells 4 [.d (.pair (.pair (.int .i64) (.pair (.int .i64) (.int .i64))) (.int .i64))]]⟩), (.exit 0, ⟨79, [(4, .ref 4 0 0 0)], [.cells 4 [.d (.pair (.pair (.int .i64) (.pair (.int .i64) (.int .i64))) (.int .i64))]]⟩)]
/-- data: t1, t5, t2, t4; ends: ret: t4; exit 0: t4 -/
noncomputable def step67_0 : Int × Int × ((List (Int × Int × Int × Int)) × Int) × ((Int × Int × Int) × Int) → Option ((Int × Int × ((List (Int × Int × Int × Int)) × Int) × ((Int × Int × Int) × Int)) ⊕ ((((Int × Int × Int) × Int)) ⊕ (((Int × Int × Int) × Int)))) := fun (t1, t5, t2, t4) =>
  bif decide (t5 < (t2.1.length : Int)) then
    bif inBounds t5 t2.1.length then
      optE (s90 ((t2.1.getD t5.toNat (0, 0, 0, 0)).2, (0, 0, 0))) (fun r1 =>
        bif (t2.1.getD t5.toNat (0, 0, 0, 0)).1 == t1 then
          some (.inr (.inl (r1, 1)))
        else
          bif decide ((wr (t5 + 1)) < (t2.1.length : Int)) then
            bif inBounds (wr (t5 + 1)) t2.1.length then
              bif decide (t1 < (t2.1.getD (wr (t5 + 1)).toNat (0, 0, 0, 0)).1) then
                bif inBounds (wr (t5 + 1)) t2.1.length then
                  optE (s92 (r1, wr ((t2.1.getD (wr (t5 + 1)).toNat (0, 0, 0, 0)).1 - (t2.1.getD t5.toNat (0, 0, 0, 0)).1))) (fun r2 =>
                    optE (s90 ((t2.1.getD (wr (t5 + 1)).toNat (0, 0, 0, 0)).2, (t2.1.getD t5.toNat (0, 0, 0, 0)).2)) (fun r3 =>
                      optE (s92 (r3, wr (t1 - (t2.1.getD t5.toNat (0, 0, 0, 0)).1))) (fun r4 =>
                        optE (s91 (r2, r4)) (fun r5 =>
                          some (.inr (.inl (r5, wr ((t2.1.getD (wr (t5 + 1)).toNat (0, 0, 0, 0)).1 - (t2.1.getD t5.toNat (0, 0, 0, 0)).1)))))
                          (none))
                        (none))
                      (none))
                    (none)
                else
                  none
              else
                some (.inl (t1, wr (t5 + 1), t2, t4))
            else
              none
          else
            some (.inl (t1, wr (t5 + 1), t2, t4)))
        (none)
    else
      none
  else
    some (.inr (.inr t4))
theorem one67_0 : oneLoop Try.prog 67 0 = true := by kernel_rfl
theorem lp67_0 : ItemOk Try.prog (.loop 67 0 T67_0 X67_0 (loopVal step67_0)) := item_loopM md1 ext1 (U := 9) (n := 3) noSpecial mixed Gb1K37_ok one67_0 (fun x => by kernel_rfl)
noncomputable def Gb1K38 : List Ev.Item := .loop 67 0 T67_0 X67_0 (loopVal step67_0) :: Gb1K37
theorem Gb1K38_ok : ∀ q ∈ Gb1K38, ItemOk Try.prog q := items_cons lp67_0 Gb1K37_ok
noncomputable def s67 : ((List (Int × Int × Int × Int)) × Int) × Int → Option ((Int × Int × Int) × Int) := fun (a0, a1) =>
  optE (loopVal step67_0 (a1, 0, a0, ((0, 0, 0), 0))) (fun e1 =>
    sumE e1 (fun e2 =>
      some (e2)) (fun _ =>
      some (((0, 0, 0), 1))))
    (none)
theorem i67 : ItemOk Try.prog (.fn 67 [.d (.agg (.pair (.slice (.agg (.pair (.int .i64) (.pair (.int .i64) (.pair (.int .i64) (.int .i64)))))) (.int .i64))), .d (.int .i64)] [.d (.agg (.pair (.pair (.int .i64) (.pair (.int .i64) (.int .i64))) (.int .i64)))] s67) := item_fnM md1 ext1 (U := 9) (n := 4) noSpecial mixed Gb1K38_ok (fun x => by kernel_rfl)
noncomputable def Gb1K39 : List Ev.Item := .fn 67 [.d (.agg (.pair (.slice (.agg (.pair (.int .i64) (.pair (.int .i64) (.pair (.int .i64) (.int .i64)))))) (.int .i64))), .d (.int .i64)] [.d (.agg (.pair (.pair (.int .i64) (.pair (.int .i64) (.int .i64))) (.int .i64)))] s67 :: Gb1K38
theorem Gb1K39_ok : ∀ q ∈ Gb1K39, ItemOk Try.prog q := items_cons i67 Gb1K38_ok

/-! cassegrain cassegrainbase.Floor -/
noncomputable def s93 : Int × Int → Option (Int) := fun (n, by0) =>
  bif !(by0 == 0) then
    bif !(by0 == 0) then
      bif decide ((Int.tmod n by0) < 0) then
        some (wr ((wr (Int.tdiv n by0)) - 1))
      else
        some (wr (Int.tdiv n by0))
    else
      none
  else
    none
theorem i93 : ItemOk Try.prog (.fn 93 [.d (.int .i64), .d (.int .i64)] [.d (.int .i64)] s93) := item_fnM md1 ext1 (U := 9) (n := 4) noSpecial mixed Gb1K39_ok (fun x => by kernel_rfl)
noncomputable def Gb1K40 : List Ev.Item := .fn 93 [.d (.int .i64), .d (.int .i64)] [.d (.int .i64)] s93 :: Gb1K39
theorem Gb1K40_ok : ∀ q ∈ Gb1K40, ItemOk Try.prog q := items_cons i93 Gb1K39_ok

/-! cassegrain cassegrainbase.Ceil -/
noncomputable def s94 : Int × Int → Option (Int) := fun (n, by0) =>
  optE (s93 (wr (-n), by0)) (fun r1 =>
    some (wr (-r1)))
    (none)
theorem i94 : ItemOk Try.prog (.fn 94 [.d (.int .i64), .d (.int .i64)] [.d (.int .i64)] s94) := item_fnM md1 ext1 (U := 9) (n := 4) noSpecial mixed Gb1K40_ok (fun x => by kernel_rfl)
noncomputable def Gb1K41 : List Ev.Item := .fn 94 [.d (.int .i64), .d (.int .i64)] [.d (.int .i64)] s94 :: Gb1K40
theorem Gb1K41_ok : ∀ q ∈ Gb1K41, ItemOk Try.prog q := items_cons i94 Gb1K40_ok

/-! cassegrain cassegrainref01.around -/
noncomputable def s68 : Int × Int × Int → Option (Int × Int) := fun (n, den, by0) =>
  optE (s93 (n, den)) (fun r1 =>
    optE (s94 (n, den)) (fun r2 =>
      some ((wr (r1 - by0), wr (r2 + by0))))
      (none))
    (none)
theorem i68 : ItemOk Try.prog (.fn 68 [.d (.int .i64), .d (.int .i64), .d (.int .i64)] [.d (.agg (.pair (.int .i64) (.int .i64)))] s68) := item_fnM md1 ext1 (U := 9) (n := 4) noSpecial mixed Gb1K41_ok (fun x => by kernel_rfl)
noncomputable def Gb1K42 : List Ev.Item := .fn 68 [.d (.int .i64), .d (.int .i64), .d (.int .i64)] [.d (.agg (.pair (.int .i64) (.int .i64)))] s68 :: Gb1K41
theorem Gb1K42_ok : ∀ q ∈ Gb1K42, ItemOk Try.prog q := items_cons i68 Gb1K41_ok

/-! cassegrain cassegrainref01.BoxAt -/
noncomputable def s28 : ((List (Int × Int × Int × Int)) × Int) × Int → Option ((Int × Int) × (Int × Int) × Int × Int) := fun (p, time) =>
  optE (s67 (p, time)) (fun r1 =>
    optE (s68 (r1.1.1, r1.2, p.2)) (fun r2 =>
      optE (s68 (r1.1.2.1, r1.2, p.2)) (fun r3 =>
        optE (s68 (r1.1.2.2, r1.2, p.2)) (fun r4 =>
          some ((r2, r3, r4.1, r4.2)))
          (none))
        (none))
      (none))
    (none)
theorem i28 : ItemOk Try.prog (.fn 28 [.d (.agg (.pair (.slice (.agg (.pair (.int .i64) (.pair (.int .i64) (.pair (.int .i64) (.int .i64)))))) (.int .i64))), .d (.int .i64)] [.d (.agg (.pair (.pair (.int .i64) (.int .i64)) (.pair (.pair (.int .i64) (.int .i64)) (.pair (.int .i64) (.int .i64)))))] s28) := item_fnM md1 ext1 (U := 9) (n := 4) noSpecial mixed Gb1K42_ok (fun x => by kernel_rfl)
noncomputable def Gb1K43 : List Ev.Item := .fn 28 [.d (.agg (.pair (.slice (.agg (.pair (.int .i64) (.pair (.int .i64) (.pair (.int .i64) (.int .i64)))))) (.int .i64))), .d (.int .i64)] [.d (.agg (.pair (.pair (.int .i64) (.int .i64)) (.pair (.pair (.int .i64) (.int .i64)) (.pair (.int .i64) (.int .i64)))))] s28 :: Gb1K42
theorem Gb1K43_ok : ∀ q ∈ Gb1K43, ItemOk Try.prog q := items_cons i28 Gb1K42_ok

/-! cassegrain cassegrainlaw01.PathTracks -/
noncomputable def s5 : ((List (Int × Int × Int × Int)) × Int) × Int → Option (Bool) := fun (a0, a1) =>
  bif !true then
    some (false)
  else
    optE (s22 a0) (fun r1 =>
      bif !r1 then
        some (true)
      else
        optE (s24 a0) (fun r2 =>
          optE (s23 r2) (fun r3 =>
            optE (s24 a0) (fun r4 =>
              optE (s25 (r4, a1)) (fun r5 =>
                optE (s26 a0) (fun r6 =>
                  bif r3.2 != r6.2 then
                    some (false)
                  else
                    bif r3.1 != r6.1 then
                      some (false)
                    else
                      bif r6.2 == 0 then
                        optE (s27 (a0, a1)) (fun r7 =>
                          bif r7 != 0 then
                            bif r5.2 == r7 then
                              some (((r5.1.1.1 == 0) && ((r5.1.1.2 == 0) && true)) && (((r5.1.2.1.1 == 0) && ((r5.1.2.1.2 == 0) && true)) && (((r5.1.2.2.1 == 0) && ((r5.1.2.2.2 == 0) && true)) && true)))
                            else
                              some (false)
                          else
                            bif r5.2 == 0 then
                              optE (s28 (a0, a1)) (fun r8 =>
                                some (((r5.1.1.1 == r8.1.1) && ((r5.1.1.2 == r8.1.2) && true)) && (((r5.1.2.1.1 == r8.2.1.1) && ((r5.1.2.1.2 == r8.2.1.2) && true)) && (((r5.1.2.2.1 == r8.2.2.1) && ((r5.1.2.2.2 == r8.2.2.2) && true)) && true))))
                                (none)
                            else
                              some (false))
                          (none)
                      else
                        bif r6.2 != 0 then
                          bif r5.2 == r6.2 then
                            some (((r5.1.1.1 == 0) && ((r5.1.1.2 == 0) && true)) && (((r5.1.2.1.1 == 0) && ((r5.1.2.1.2 == 0) && true)) && (((r5.1.2.2.1 == 0) && ((r5.1.2.2.2 == 0) && true)) && true)))
                          else
                            some (false)
                        else
                          bif r5.2 == 0 then
                            optE (s28 (a0, a1)) (fun r9 =>
                              some (((r5.1.1.1 == r9.1.1) && ((r5.1.1.2 == r9.1.2) && true)) && (((r5.1.2.1.1 == r9.2.1.1) && ((r5.1.2.1.2 == r9.2.1.2) && true)) && (((r5.1.2.2.1 == r9.2.2.1) && ((r5.1.2.2.2 == r9.2.2.2) && true)) && true))))
                              (none)
                          else
                            some (false))
                  (none))
                (none))
              (none))
            (none))
          (none))
      (none)
theorem i5 : ItemOk Try.prog (.fn 5 [.d (.agg (.pair (.slice (.agg (.pair (.int .i64) (.pair (.int .i64) (.pair (.int .i64) (.int .i64)))))) (.int .i64))), .d (.int .i64)] [.d .bool] s5) := item_fnM md1 ext1 (U := 9) (n := 4) noSpecial mixed Gb1K43_ok (fun x => by kernel_rfl)
noncomputable def Gb1K44 : List Ev.Item := .fn 5 [.d (.agg (.pair (.slice (.agg (.pair (.int .i64) (.pair (.int .i64) (.pair (.int .i64) (.int .i64)))))) (.int .i64))), .d (.int .i64)] [.d .bool] s5 :: Gb1K43
theorem Gb1K44_ok : ∀ q ∈ Gb1K44, ItemOk Try.prog q := items_cons i5 Gb1K43_ok
end Go.Proofs.Ytgpfdacidgmelaa
