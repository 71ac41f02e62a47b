/- Printed by gen.py: specifications of functions. -/
import Derived.Test.YtgpfdacidgmelaaGreatGb0
set_option linter.unusedSimpArgs false
set_option maxRecDepth 100000
namespace Go.Proofs.YtgpfdacidgmelaaGreat
open Go.Ev

/-! cassegrain cassegrainlaw01.Few -/
noncomputable def s46 : (List (Int × Int × Int × Int)) × Int → Option (Bool) := fun p =>
  some (decide ((p.1.length : Int) ≤ 14))
theorem i46 : ItemOk Tryz.prog (.fn 46 [.d (.agg (.pair (.slice (.agg (.pair (.int .i64) (.pair (.int .i64) (.pair (.int .i64) (.int .i64)))))) (.int .i64)))] [.d .bool] s46) := item_fnM md1 ext1 (U := 9) (n := 4) noSpecial mixed Gb0K1_ok (fun x => by kernel_rfl)
noncomputable def Gb1K1 : List Ev.Item := .fn 46 [.d (.agg (.pair (.slice (.agg (.pair (.int .i64) (.pair (.int .i64) (.pair (.int .i64) (.int .i64)))))) (.int .i64)))] [.d .bool] s46 :: Gb0K1
theorem Gb1K1_ok : ∀ q ∈ Gb1K1, ItemOk Tryz.prog q := items_cons i46 Gb0K1_ok

/-! cassegrain cassegrainlaw01.few -/
noncomputable def s12 : ((List (Int × Int × Int × Int)) × Int) × ((List (Int × Int × Int × Int)) × Int) → Option (Bool) := fun (a, b) =>
  optE (s46 a) (fun r1 =>
    bif r1 then
      optE (s46 b) (fun r2 =>
        some (r2))
        (none)
    else
      some (false))
    (none)
theorem i12 : ItemOk Tryz.prog (.fn 12 [.d (.agg (.pair (.slice (.agg (.pair (.int .i64) (.pair (.int .i64) (.pair (.int .i64) (.int .i64)))))) (.int .i64))), .d (.agg (.pair (.slice (.agg (.pair (.int .i64) (.pair (.int .i64) (.pair (.int .i64) (.int .i64)))))) (.int .i64)))] [.d .bool] s12) := item_fnM md1 ext1 (U := 9) (n := 4) noSpecial mixed Gb1K1_ok (fun x => by kernel_rfl)
noncomputable def Gb1K2 : List Ev.Item := .fn 12 [.d (.agg (.pair (.slice (.agg (.pair (.int .i64) (.pair (.int .i64) (.pair (.int .i64) (.int .i64)))))) (.int .i64))), .d (.agg (.pair (.slice (.agg (.pair (.int .i64) (.pair (.int .i64) (.pair (.int .i64) (.int .i64)))))) (.int .i64)))] [.d .bool] s12 :: Gb1K1
theorem Gb1K2_ok : ∀ q ∈ Gb1K2, ItemOk Tryz.prog q := items_cons i12 Gb1K1_ok

/-! cassegrain cassegrainref01.Copy -/
noncomputable def s14 : (List (Int × Int × Int × Int)) × Int → Option ((List (Int × Int × Int × Int)) × Int) := fun p =>
  listE (p.1)
    (some (([], p.2)))
    (fun y1 l2 =>
      bif room 32 (l2.length + 1) then
        some ((y1 :: l2, p.2))
      else
        none)
theorem i14 : ItemOk Tryz.prog (.fn 14 [.d (.agg (.pair (.slice (.agg (.pair (.int .i64) (.pair (.int .i64) (.pair (.int .i64) (.int .i64)))))) (.int .i64)))] [.d (.agg (.pair (.slice (.agg (.pair (.int .i64) (.pair (.int .i64) (.pair (.int .i64) (.int .i64)))))) (.int .i64)))] s14) := item_fnM md1 ext1 (U := 9) (n := 4) noSpecial mixed Gb1K2_ok (fun x => by kernel_rfl)
noncomputable def Gb1K3 : List Ev.Item := .fn 14 [.d (.agg (.pair (.slice (.agg (.pair (.int .i64) (.pair (.int .i64) (.pair (.int .i64) (.int .i64)))))) (.int .i64)))] [.d (.agg (.pair (.slice (.agg (.pair (.int .i64) (.pair (.int .i64) (.pair (.int .i64) (.int .i64)))))) (.int .i64)))] s14 :: Gb1K2
theorem Gb1K3_ok : ∀ q ∈ Gb1K3, ItemOk Tryz.prog q := items_cons i14 Gb1K2_ok

/-! cassegrain path.unless -/
noncomputable def s66 : Bool × Int → Option (Int) := fun (ok, e0) =>
  bif ok then
    some (0)
  else
    some (e0)
theorem i66 : ItemOk Tryz.prog (.fn 66 [.d .bool, .d (.int .i64)] [.d (.int .i64)] s66) := item_fnM md1 ext1 (U := 9) (n := 4) noSpecial mixed Gb1K3_ok (fun x => by kernel_rfl)
noncomputable def Gb1K4 : List Ev.Item := .fn 66 [.d .bool, .d (.int .i64)] [.d (.int .i64)] s66 :: Gb1K3
theorem Gb1K4_ok : ∀ q ∈ Gb1K4, ItemOk Tryz.prog q := items_cons i66 Gb1K3_ok

/-! cassegrain path.first -/
@[reducible] def T65_0 : Tmpl := ⟨15, [], [.val 5 (.slice (.int .i64)), .val 6 (.int .i64), .val 7 (.int .i64)]⟩
@[reducible] def X65_0 : List (Ex × Tmpl) := [(.ret, ⟨15, [], [.val 2 (.int .i64)]⟩), (.exit 0, ⟨15, [], []⟩)]
/-- data: t5, t6, t7; ends: ret: t2; exit 0:  -/
noncomputable def step65_0 : (List Int) × Int × Int → Option (((List Int) × Int × Int) ⊕ ((Int) ⊕ (Unit))) := fun (t5, t6, t7) =>
  bif decide (t7 < t6) then
    bif inBounds t7 t5.length then
      bif (t5.getD t7.toNat 0) != 0 then
        some (.inr (.inl (t5.getD t7.toNat 0)))
      else
        some (.inl (t5, t6, wr (t7 + 1)))
    else
      none
  else
    some (.inr (.inr ()))
theorem one65_0 : oneLoop Tryz.prog 65 0 = true := by kernel_rfl
theorem lp65_0 : ItemOk Tryz.prog (.loop 65 0 T65_0 X65_0 (loopVal step65_0)) := item_loopM md1 ext1 (U := 9) (n := 3) noSpecial mixed Gb1K4_ok one65_0 (fun x => by kernel_rfl)
noncomputable def Gb1K5 : List Ev.Item := .loop 65 0 T65_0 X65_0 (loopVal step65_0) :: Gb1K4
theorem Gb1K5_ok : ∀ q ∈ Gb1K5, ItemOk Tryz.prog q := items_cons lp65_0 Gb1K4_ok
noncomputable def s65 : List Int → Option (Int) := fun l =>
  optE (loopVal step65_0 (l, (l.length : Int), 0)) (fun e1 =>
    sumE e1 (fun e2 =>
      some (e2)) (fun _ =>
      some (0)))
    (none)
theorem i65 : ItemOk Tryz.prog (.fn 65 [.d (.slice (.int .i64))] [.d (.int .i64)] s65) := item_fnM md1 ext1 (U := 9) (n := 4) noSpecial mixed Gb1K5_ok (fun x => by kernel_rfl)
noncomputable def Gb1K6 : List Ev.Item := .fn 65 [.d (.slice (.int .i64))] [.d (.int .i64)] s65 :: Gb1K5
theorem Gb1K6_ok : ∀ q ∈ Gb1K6, ItemOk Tryz.prog q := items_cons i65 Gb1K5_ok

/-! cassegrain path.ofPoint -/
noncomputable def s124 : Int × Int × Int → Option (Int × Int × Int) := fun p =>
  some (p)
theorem i124 : ItemOk Tryz.prog (.fn 124 [.d (.agg (.pair (.int .i64) (.pair (.int .i64) (.int .i64))))] [.d (.agg (.pair (.int .i64) (.pair (.int .i64) (.int .i64))))] s124) := item_fnM md1 ext1 (U := 9) (n := 4) noSpecial mixed Gb1K6_ok (fun x => by kernel_rfl)
noncomputable def Gb1K7 : List Ev.Item := .fn 124 [.d (.agg (.pair (.int .i64) (.pair (.int .i64) (.int .i64))))] [.d (.agg (.pair (.int .i64) (.pair (.int .i64) (.int .i64))))] s124 :: Gb1K6
theorem Gb1K7_ok : ∀ q ∈ Gb1K7, ItemOk Tryz.prog q := items_cons i124 Gb1K6_ok

/-! cassegrain path.within -/
noncomputable def s80 : Int × Int × Int → Option (Bool) := fun (n, lo, hi) =>
  bif decide (lo ≤ n) then
    some (decide (n ≤ hi))
  else
    some (false)
theorem i80 : ItemOk Tryz.prog (.fn 80 [.d (.int .i64), .d (.int .i64), .d (.int .i64)] [.d .bool] s80) := item_fnM md1 ext1 (U := 9) (n := 4) noSpecial mixed Gb1K7_ok (fun x => by kernel_rfl)
noncomputable def Gb1K8 : List Ev.Item := .fn 80 [.d (.int .i64), .d (.int .i64), .d (.int .i64)] [.d .bool] s80 :: Gb1K7
theorem Gb1K8_ok : ∀ q ∈ Gb1K8, ItemOk Tryz.prog q := items_cons i80 Gb1K7_ok

/-! cassegrain path.small -/
noncomputable def s115 : Int × Int → Option (Bool) := fun (n, most) =>
  optE (s80 (n, wr (-most), most)) (fun r1 =>
    some (r1))
    (none)
theorem i115 : ItemOk Tryz.prog (.fn 115 [.d (.int .i64), .d (.int .i64)] [.d .bool] s115) := item_fnM md1 ext1 (U := 9) (n := 4) noSpecial mixed Gb1K8_ok (fun x => by kernel_rfl)
noncomputable def Gb1K9 : List Ev.Item := .fn 115 [.d (.int .i64), .d (.int .i64)] [.d .bool] s115 :: Gb1K8
theorem Gb1K9_ok : ∀ q ∈ Gb1K9, ItemOk Tryz.prog q := items_cons i115 Gb1K8_ok

/-! cassegrain path.knotErr$1 -/
noncomputable def s155 : Int → Option (Bool) := fun n =>
  optE (s115 (n, 1000000)) (fun r1 =>
    some (r1))
    (none)
theorem i155 : ItemOk Tryz.prog (.fn 155 [.d (.int .i64)] [.d .bool] s155) := item_fnM md1 ext1 (U := 9) (n := 4) noSpecial mixed Gb1K9_ok (fun x => by kernel_rfl)
noncomputable def Gb1K10 : List Ev.Item := .fn 155 [.d (.int .i64)] [.d .bool] s155 :: Gb1K9
theorem Gb1K10_ok : ∀ q ∈ Gb1K10, ItemOk Tryz.prog q := items_cons i155 Gb1K9_ok

/-! (cassegrain path.triple).minus -/
noncomputable def s125 : (Int × Int × Int) × (Int × Int × Int) → Option (Int × Int × Int) := fun (t, o) =>
  some ((wr (t.1 - o.1), wr (t.2.1 - o.2.1), wr (t.2.2 - o.2.2)))
theorem i125 : ItemOk Tryz.prog (.fn 125 [.d (.agg (.pair (.int .i64) (.pair (.int .i64) (.int .i64)))), .d (.agg (.pair (.int .i64) (.pair (.int .i64) (.int .i64))))] [.d (.agg (.pair (.int .i64) (.pair (.int .i64) (.int .i64))))] s125) := item_fnM md1 ext1 (U := 9) (n := 4) noSpecial mixed Gb1K10_ok (fun x => by kernel_rfl)
noncomputable def Gb1K11 : List Ev.Item := .fn 125 [.d (.agg (.pair (.int .i64) (.pair (.int .i64) (.int .i64)))), .d (.agg (.pair (.int .i64) (.pair (.int .i64) (.int .i64))))] [.d (.agg (.pair (.int .i64) (.pair (.int .i64) (.int .i64))))] s125 :: Gb1K10
theorem Gb1K11_ok : ∀ q ∈ Gb1K11, ItemOk Tryz.prog q := items_cons i125 Gb1K10_ok

/-! (cassegrain path.triple).dot -/
noncomputable def s146 : (Int × Int × Int) × (Int × Int × Int) → Option (Int) := fun (t, o) =>
  some (wr ((wr ((wr (t.1 * o.1)) + (wr (t.2.1 * o.2.1)))) + (wr (t.2.2 * o.2.2))))
theorem i146 : ItemOk Tryz.prog (.fn 146 [.d (.agg (.pair (.int .i64) (.pair (.int .i64) (.int .i64)))), .d (.agg (.pair (.int .i64) (.pair (.int .i64) (.int .i64))))] [.d (.int .i64)] s146) := item_fnM md1 ext1 (U := 9) (n := 4) noSpecial mixed Gb1K11_ok (fun x => by kernel_rfl)
noncomputable def Gb1K12 : List Ev.Item := .fn 146 [.d (.agg (.pair (.int .i64) (.pair (.int .i64) (.int .i64)))), .d (.agg (.pair (.int .i64) (.pair (.int .i64) (.int .i64))))] [.d (.int .i64)] s146 :: Gb1K11
theorem Gb1K12_ok : ∀ q ∈ Gb1K12, ItemOk Tryz.prog q := items_cons i146 Gb1K11_ok

/-! cassegrain path.knotErr -/
noncomputable def s135 : (Int × Int × Int × Int) × (Int × Int × Int × Int) → Option (Int) := fun (k, before) =>
  optE (s124 k.2) (fun r1 =>
    optE (s80 (k.1, 0, 1000000000000)) (fun r2 =>
      bif r2 then
        optE (s155 r1.1) (fun r3 =>
          bif r3 then
            optE (s155 r1.2.1) (fun r4 =>
              bif r4 then
                optE (s155 r1.2.2) (fun r5 =>
                  optE (s66 (r5, 2)) (fun r6 =>
                    bif r6 != 0 then
                      some (r6)
                    else
                      optE (s124 before.2) (fun r7 =>
                        optE (s125 (r1, r7)) (fun r8 =>
                          optE (s66 (decide ((wr (k.1 - before.1)) > 0), 9)) (fun r9 =>
                            optE (s66 (decide ((wr (k.1 - before.1)) ≤ 10000), 14)) (fun r10 =>
                              optE (s146 (r8, r8)) (fun r11 =>
                                optE (s66 (decide ((wr (4 * r11)) ≤ (wr ((wr (k.1 - before.1)) * (wr (k.1 - before.1))))), 23)) (fun r12 =>
                                  optE (s65 [r9, r10, r12]) (fun r13 =>
                                    some (r13))
                                    (none))
                                  (none))
                                (none))
                              (none))
                            (none))
                          (none))
                        (none))
                    (none))
                  (none)
              else
                optE (s66 (false, 2)) (fun r14 =>
                  bif r14 != 0 then
                    some (r14)
                  else
                    optE (s124 before.2) (fun r15 =>
                      optE (s125 (r1, r15)) (fun r16 =>
                        optE (s66 (decide ((wr (k.1 - before.1)) > 0), 9)) (fun r17 =>
                          optE (s66 (decide ((wr (k.1 - before.1)) ≤ 10000), 14)) (fun r18 =>
                            optE (s146 (r16, r16)) (fun r19 =>
                              optE (s66 (decide ((wr (4 * r19)) ≤ (wr ((wr (k.1 - before.1)) * (wr (k.1 - before.1))))), 23)) (fun r20 =>
                                optE (s65 [r17, r18, r20]) (fun r21 =>
                                  some (r21))
                                  (none))
                                (none))
                              (none))
                            (none))
                          (none))
                        (none))
                      (none))
                  (none))
              (none)
          else
            optE (s66 (false, 2)) (fun r22 =>
              bif r22 != 0 then
                some (r22)
              else
                optE (s124 before.2) (fun r23 =>
                  optE (s125 (r1, r23)) (fun r24 =>
                    optE (s66 (decide ((wr (k.1 - before.1)) > 0), 9)) (fun r25 =>
                      optE (s66 (decide ((wr (k.1 - before.1)) ≤ 10000), 14)) (fun r26 =>
                        optE (s146 (r24, r24)) (fun r27 =>
                          optE (s66 (decide ((wr (4 * r27)) ≤ (wr ((wr (k.1 - before.1)) * (wr (k.1 - before.1))))), 23)) (fun r28 =>
                            optE (s65 [r25, r26, r28]) (fun r29 =>
                              some (r29))
                              (none))
                            (none))
                          (none))
                        (none))
                      (none))
                    (none))
                  (none))
              (none))
          (none)
      else
        optE (s66 (false, 2)) (fun r30 =>
          bif r30 != 0 then
            some (r30)
          else
            optE (s124 before.2) (fun r31 =>
              optE (s125 (r1, r31)) (fun r32 =>
                optE (s66 (decide ((wr (k.1 - before.1)) > 0), 9)) (fun r33 =>
                  optE (s66 (decide ((wr (k.1 - before.1)) ≤ 10000), 14)) (fun r34 =>
                    optE (s146 (r32, r32)) (fun r35 =>
                      optE (s66 (decide ((wr (4 * r35)) ≤ (wr ((wr (k.1 - before.1)) * (wr (k.1 - before.1))))), 23)) (fun r36 =>
                        optE (s65 [r33, r34, r36]) (fun r37 =>
                          some (r37))
                          (none))
                        (none))
                      (none))
                    (none))
                  (none))
                (none))
              (none))
          (none))
      (none))
    (none)
theorem i135 : ItemOk Tryz.prog (.fn 135 [.d (.agg (.pair (.int .i64) (.pair (.int .i64) (.pair (.int .i64) (.int .i64))))), .tgt (.pair (.int .i64) (.pair (.int .i64) (.pair (.int .i64) (.int .i64))))] [.d (.int .i64)] s135) := item_fnM md1 ext1 (U := 9) (n := 4) noSpecial mixed Gb1K12_ok (fun x => by kernel_rfl)
noncomputable def Gb1K13 : List Ev.Item := .fn 135 [.d (.agg (.pair (.int .i64) (.pair (.int .i64) (.pair (.int .i64) (.int .i64))))), .tgt (.pair (.int .i64) (.pair (.int .i64) (.pair (.int .i64) (.int .i64))))] [.d (.int .i64)] s135 :: Gb1K12
theorem Gb1K13_ok : ∀ q ∈ Gb1K13, ItemOk Tryz.prog q := items_cons i135 Gb1K12_ok

/-! cassegrain path.CheckTrack -/
@[reducible] def T99_0 : Tmpl := ⟨49, [(1, .ref 1 0 0 0)], [.val 5 (.optr (.agg (.pair (.int .i64) (.pair (.int .i64) (.pair (.int .i64) (.int .i64)))))), .val 25 (.int .i64), .val 26 (.int .i64), .cells 1 [.d (.pair (.slice (.agg (.pair (.int .i64) (.pair (.int .i64) (.pair (.int .i64) (.int .i64)))))) (.int .i64))]]⟩
@[reducible] def X99_0 : List (Ex × Tmpl) := [(.ret, ⟨49, [], [.val 2 (.int .i64), .val 3 (.int .i64)]⟩), (.exit 0, ⟨49, [(1, .ref 1 0 0 0)], [.cells 1 [.d (.pair (.slice (.agg (.pair (.int .i64) (.pair (.int .i64) (.pair (.int .i64) (.int .i64)))))) (.int .i64))]]⟩)]
/-- data: before, t25, t26, p; ends: ret: t2, t3; exit 0: p -/
noncomputable def step99_0 : (Option (Int × Int × Int × Int)) × Int × Int × ((List (Int × Int × Int × Int)) × Int) → Option (((Option (Int × Int × Int × Int)) × Int × Int × ((List (Int × Int × Int × Int)) × Int)) ⊕ ((Int × Int) ⊕ (((List (Int × Int × Int × Int)) × Int)))) := fun (before, t25, t26, p) =>
  bif decide (t26 < t25) then
    bif inBounds t26 p.1.length then
      optE (s124 (p.1.getD t26.toNat (0, 0, 0, 0)).2) (fun r4 =>
        optE (s80 ((p.1.getD t26.toNat (0, 0, 0, 0)).1, 0, 1000000000000)) (fun r5 =>
          bif r5 then
            optE (s155 r4.1) (fun r6 =>
              bif r6 then
                optE (s155 r4.2.1) (fun r7 =>
                  bif r7 then
                    optE (s155 r4.2.2) (fun r8 =>
                      optE (s66 (r8, 2)) (fun r9 =>
                        bif r9 != 0 then
                          bif r9 != 0 then
                            some (.inr (.inl (t26, r9)))
                          else
                            bif inBounds t26 p.1.length then
                              some (.inl (some (p.1.getD t26.toNat (0, 0, 0, 0)), t25, wr (t26 + 1), p))
                            else
                              none
                        else
                          bif !before.isSome then
                            bif r9 != 0 then
                              some (.inr (.inl (t26, r9)))
                            else
                              bif inBounds t26 p.1.length then
                                some (.inl (some (p.1.getD t26.toNat (0, 0, 0, 0)), t25, wr (t26 + 1), p))
                              else
                                none
                          else
                            bif before.isSome then
                              bif before.isSome then
                                optE (s124 (before.getD (0, 0, 0, 0)).2) (fun r10 =>
                                  optE (s125 (r4, r10)) (fun r11 =>
                                    optE (s66 (decide ((wr ((p.1.getD t26.toNat (0, 0, 0, 0)).1 - (before.getD (0, 0, 0, 0)).1)) > 0), 9)) (fun r12 =>
                                      optE (s66 (decide ((wr ((p.1.getD t26.toNat (0, 0, 0, 0)).1 - (before.getD (0, 0, 0, 0)).1)) ≤ 10000), 14)) (fun r13 =>
                                        optE (s146 (r11, r11)) (fun r14 =>
                                          optE (s66 (decide ((wr (4 * r14)) ≤ (wr ((wr ((p.1.getD t26.toNat (0, 0, 0, 0)).1 - (before.getD (0, 0, 0, 0)).1)) * (wr ((p.1.getD t26.toNat (0, 0, 0, 0)).1 - (before.getD (0, 0, 0, 0)).1))))), 23)) (fun r15 =>
                                            optE (s65 [r12, r13, r15]) (fun r16 =>
                                              bif r16 != 0 then
                                                some (.inr (.inl (t26, r16)))
                                              else
                                                bif inBounds t26 p.1.length then
                                                  some (.inl (some (p.1.getD t26.toNat (0, 0, 0, 0)), t25, wr (t26 + 1), p))
                                                else
                                                  none)
                                              (none))
                                            (none))
                                          (none))
                                        (none))
                                      (none))
                                    (none))
                                  (none)
                              else
                                none
                            else
                              none)
                        (none))
                      (none)
                  else
                    optE (s66 (false, 2)) (fun r17 =>
                      bif r17 != 0 then
                        bif r17 != 0 then
                          some (.inr (.inl (t26, r17)))
                        else
                          bif inBounds t26 p.1.length then
                            some (.inl (some (p.1.getD t26.toNat (0, 0, 0, 0)), t25, wr (t26 + 1), p))
                          else
                            none
                      else
                        bif !before.isSome then
                          bif r17 != 0 then
                            some (.inr (.inl (t26, r17)))
                          else
                            bif inBounds t26 p.1.length then
                              some (.inl (some (p.1.getD t26.toNat (0, 0, 0, 0)), t25, wr (t26 + 1), p))
                            else
                              none
                        else
                          bif before.isSome then
                            bif before.isSome then
                              optE (s124 (before.getD (0, 0, 0, 0)).2) (fun r18 =>
                                optE (s125 (r4, r18)) (fun r19 =>
                                  optE (s66 (decide ((wr ((p.1.getD t26.toNat (0, 0, 0, 0)).1 - (before.getD (0, 0, 0, 0)).1)) > 0), 9)) (fun r20 =>
                                    optE (s66 (decide ((wr ((p.1.getD t26.toNat (0, 0, 0, 0)).1 - (before.getD (0, 0, 0, 0)).1)) ≤ 10000), 14)) (fun r21 =>
                                      optE (s146 (r19, r19)) (fun r22 =>
                                        optE (s66 (decide ((wr (4 * r22)) ≤ (wr ((wr ((p.1.getD t26.toNat (0, 0, 0, 0)).1 - (before.getD (0, 0, 0, 0)).1)) * (wr ((p.1.getD t26.toNat (0, 0, 0, 0)).1 - (before.getD (0, 0, 0, 0)).1))))), 23)) (fun r23 =>
                                          optE (s65 [r20, r21, r23]) (fun r24 =>
                                            bif r24 != 0 then
                                              some (.inr (.inl (t26, r24)))
                                            else
                                              bif inBounds t26 p.1.length then
                                                some (.inl (some (p.1.getD t26.toNat (0, 0, 0, 0)), t25, wr (t26 + 1), p))
                                              else
                                                none)
                                            (none))
                                          (none))
                                        (none))
                                      (none))
                                    (none))
                                  (none))
                                (none)
                            else
                              none
                          else
                            none)
                      (none))
                  (none)
              else
                optE (s66 (false, 2)) (fun r25 =>
                  bif r25 != 0 then
                    bif r25 != 0 then
                      some (.inr (.inl (t26, r25)))
                    else
                      bif inBounds t26 p.1.length then
                        some (.inl (some (p.1.getD t26.toNat (0, 0, 0, 0)), t25, wr (t26 + 1), p))
                      else
                        none
                  else
                    bif !before.isSome then
                      bif r25 != 0 then
                        some (.inr (.inl (t26, r25)))
                      else
                        bif inBounds t26 p.1.length then
                          some (.inl (some (p.1.getD t26.toNat (0, 0, 0, 0)), t25, wr (t26 + 1), p))
                        else
                          none
                    else
                      bif before.isSome then
                        bif before.isSome then
                          optE (s124 (before.getD (0, 0, 0, 0)).2) (fun r26 =>
                            optE (s125 (r4, r26)) (fun r27 =>
                              optE (s66 (decide ((wr ((p.1.getD t26.toNat (0, 0, 0, 0)).1 - (before.getD (0, 0, 0, 0)).1)) > 0), 9)) (fun r28 =>
                                optE (s66 (decide ((wr ((p.1.getD t26.toNat (0, 0, 0, 0)).1 - (before.getD (0, 0, 0, 0)).1)) ≤ 10000), 14)) (fun r29 =>
                                  optE (s146 (r27, r27)) (fun r30 =>
                                    optE (s66 (decide ((wr (4 * r30)) ≤ (wr ((wr ((p.1.getD t26.toNat (0, 0, 0, 0)).1 - (before.getD (0, 0, 0, 0)).1)) * (wr ((p.1.getD t26.toNat (0, 0, 0, 0)).1 - (before.getD (0, 0, 0, 0)).1))))), 23)) (fun r31 =>
                                      optE (s65 [r28, r29, r31]) (fun r32 =>
                                        bif r32 != 0 then
                                          some (.inr (.inl (t26, r32)))
                                        else
                                          bif inBounds t26 p.1.length then
                                            some (.inl (some (p.1.getD t26.toNat (0, 0, 0, 0)), t25, wr (t26 + 1), p))
                                          else
                                            none)
                                        (none))
                                      (none))
                                    (none))
                                  (none))
                                (none))
                              (none))
                            (none)
                        else
                          none
                      else
                        none)
                  (none))
              (none)
          else
            optE (s66 (false, 2)) (fun r33 =>
              bif r33 != 0 then
                bif r33 != 0 then
                  some (.inr (.inl (t26, r33)))
                else
                  bif inBounds t26 p.1.length then
                    some (.inl (some (p.1.getD t26.toNat (0, 0, 0, 0)), t25, wr (t26 + 1), p))
                  else
                    none
              else
                bif !before.isSome then
                  bif r33 != 0 then
                    some (.inr (.inl (t26, r33)))
                  else
                    bif inBounds t26 p.1.length then
                      some (.inl (some (p.1.getD t26.toNat (0, 0, 0, 0)), t25, wr (t26 + 1), p))
                    else
                      none
                else
                  bif before.isSome then
                    bif before.isSome then
                      optE (s124 (before.getD (0, 0, 0, 0)).2) (fun r34 =>
                        optE (s125 (r4, r34)) (fun r35 =>
                          optE (s66 (decide ((wr ((p.1.getD t26.toNat (0, 0, 0, 0)).1 - (before.getD (0, 0, 0, 0)).1)) > 0), 9)) (fun r36 =>
                            optE (s66 (decide ((wr ((p.1.getD t26.toNat (0, 0, 0, 0)).1 - (before.getD (0, 0, 0, 0)).1)) ≤ 10000), 14)) (fun r37 =>
                              optE (s146 (r35, r35)) (fun r38 =>
                                optE (s66 (decide ((wr (4 * r38)) ≤ (wr ((wr ((p.1.getD t26.toNat (0, 0, 0, 0)).1 - (before.getD (0, 0, 0, 0)).1)) * (wr ((p.1.getD t26.toNat (0, 0, 0, 0)).1 - (before.getD (0, 0, 0, 0)).1))))), 23)) (fun r39 =>
                                  optE (s65 [r36, r37, r39]) (fun r40 =>
                                    bif r40 != 0 then
                                      some (.inr (.inl (t26, r40)))
                                    else
                                      bif inBounds t26 p.1.length then
                                        some (.inl (some (p.1.getD t26.toNat (0, 0, 0, 0)), t25, wr (t26 + 1), p))
                                      else
                                        none)
                                    (none))
                                  (none))
                                (none))
                              (none))
                            (none))
                          (none))
                        (none)
                    else
                      none
                  else
                    none)
              (none))
          (none))
        (none)
    else
      none
  else
    some (.inr (.inr p))
theorem one99_0 : oneLoop Tryz.prog 99 0 = true := by kernel_rfl
theorem lp99_0 : ItemOk Tryz.prog (.loop 99 0 T99_0 X99_0 (loopVal step99_0)) := item_loopM md1 ext1 (U := 9) (n := 3) noSpecial mixed Gb1K13_ok one99_0 (fun x => by kernel_rfl)
noncomputable def Gb1K14 : List Ev.Item := .loop 99 0 T99_0 X99_0 (loopVal step99_0) :: Gb1K13
theorem Gb1K14_ok : ∀ q ∈ Gb1K14, ItemOk Tryz.prog q := items_cons lp99_0 Gb1K13_ok
noncomputable def s99 : (List (Int × Int × Int × Int)) × Int → Option (Int × Int) := fun p =>
  optE (s66 (decide ((p.1.length : Int) > 0), 10)) (fun r1 =>
    optE (s66 (decide ((p.1.length : Int) ≤ 12), 8)) (fun r2 =>
      optE (s65 [r1, r2]) (fun r3 =>
        bif r3 != 0 then
          some ((0, r3))
        else
          optE (loopVal step99_0 (none, (p.1.length : Int), 0, p)) (fun e4 =>
            sumE e4 (fun e5 =>
              some (e5)) (fun e6 =>
              optE (s80 (e6.2, 0, 1000)) (fun r7 =>
                optE (s66 (r7, 2)) (fun r8 =>
                  some ((0, r8)))
                  (none))
                (none)))
            (none))
        (none))
      (none))
    (none)
theorem i99 : ItemOk Tryz.prog (.fn 99 [.d (.agg (.pair (.slice (.agg (.pair (.int .i64) (.pair (.int .i64) (.pair (.int .i64) (.int .i64)))))) (.int .i64)))] [.d (.int .i64), .d (.int .i64)] s99) := item_fnM md1 ext1 (U := 9) (n := 4) noSpecial mixed Gb1K14_ok (fun x => by kernel_rfl)
noncomputable def Gb1K15 : List Ev.Item := .fn 99 [.d (.agg (.pair (.slice (.agg (.pair (.int .i64) (.pair (.int .i64) (.pair (.int .i64) (.int .i64)))))) (.int .i64)))] [.d (.int .i64), .d (.int .i64)] s99 :: Gb1K14
theorem Gb1K15_ok : ∀ q ∈ Gb1K15, ItemOk Tryz.prog q := items_cons i99 Gb1K14_ok

/-! cassegrain path.trackErr -/
@[reducible] def T61_0 : Tmpl := ⟨22, [], [.val 7 (.slice (.agg (.pair (.slice (.agg (.pair (.int .i64) (.pair (.int .i64) (.pair (.int .i64) (.int .i64)))))) (.int .i64)))), .val 8 (.int .i64), .val 9 (.int .i64)]⟩
@[reducible] def X61_0 : List (Ex × Tmpl) := [(.ret, ⟨22, [], [.val 2 (.int .i64)]⟩), (.exit 0, ⟨22, [], []⟩)]
/-- data: t7, t8, t9; ends: ret: t2; exit 0:  -/
noncomputable def step61_0 : (List ((List (Int × Int × Int × Int)) × Int)) × Int × Int → Option (((List ((List (Int × Int × Int × Int)) × Int)) × Int × Int) ⊕ ((Int) ⊕ (Unit))) := fun (t7, t8, t9) =>
  bif decide (t9 < t8) then
    bif inBounds t9 t7.length then
      optE (s99 (t7.getD t9.toNat ([], 0))) (fun r1 =>
        bif r1.2 != 0 then
          some (.inr (.inl r1.2))
        else
          some (.inl (t7, t8, wr (t9 + 1))))
        (none)
    else
      none
  else
    some (.inr (.inr ()))
theorem one61_0 : oneLoop Tryz.prog 61 0 = true := by kernel_rfl
theorem lp61_0 : ItemOk Tryz.prog (.loop 61 0 T61_0 X61_0 (loopVal step61_0)) := item_loopM md1 ext1 (U := 9) (n := 3) noSpecial mixed Gb1K15_ok one61_0 (fun x => by kernel_rfl)
noncomputable def Gb1K16 : List Ev.Item := .loop 61 0 T61_0 X61_0 (loopVal step61_0) :: Gb1K15
theorem Gb1K16_ok : ∀ q ∈ Gb1K16, ItemOk Tryz.prog q := items_cons lp61_0 Gb1K15_ok
noncomputable def s61 : List ((List (Int × Int × Int × Int)) × Int) → Option (Int) := fun l =>
  optE (loopVal step61_0 (l, (l.length : Int), 0)) (fun e1 =>
    sumE e1 (fun e2 =>
      some (e2)) (fun _ =>
      some (0)))
    (none)
theorem i61 : ItemOk Tryz.prog (.fn 61 [.d (.slice (.agg (.pair (.slice (.agg (.pair (.int .i64) (.pair (.int .i64) (.pair (.int .i64) (.int .i64)))))) (.int .i64))))] [.d (.int .i64)] s61) := item_fnM md1 ext1 (U := 9) (n := 4) noSpecial mixed Gb1K16_ok (fun x => by kernel_rfl)
noncomputable def Gb1K17 : List Ev.Item := .fn 61 [.d (.slice (.agg (.pair (.slice (.agg (.pair (.int .i64) (.pair (.int .i64) (.pair (.int .i64) (.int .i64)))))) (.int .i64))))] [.d (.int .i64)] s61 :: Gb1K16
theorem Gb1K17_ok : ∀ q ∈ Gb1K17, ItemOk Tryz.prog q := items_cons i61 Gb1K16_ok

/-! cassegrain path.last -/
noncomputable def s100 : (List (Int × Int × Int × Int)) × Int → Option (Int) := fun p =>
  bif inBounds (wr ((p.1.length : Int) - 1)) p.1.length then
    some ((p.1.getD (wr ((p.1.length : Int) - 1)).toNat (0, 0, 0, 0)).1)
  else
    none
theorem i100 : ItemOk Tryz.prog (.fn 100 [.d (.agg (.pair (.slice (.agg (.pair (.int .i64) (.pair (.int .i64) (.pair (.int .i64) (.int .i64)))))) (.int .i64)))] [.d (.int .i64)] s100) := item_fnM md1 ext1 (U := 9) (n := 4) noSpecial mixed Gb1K17_ok (fun x => by kernel_rfl)
noncomputable def Gb1K18 : List Ev.Item := .fn 100 [.d (.agg (.pair (.slice (.agg (.pair (.int .i64) (.pair (.int .i64) (.pair (.int .i64) (.int .i64)))))) (.int .i64)))] [.d (.int .i64)] s100 :: Gb1K17
theorem Gb1K18_ok : ∀ q ∈ Gb1K18, ItemOk Tryz.prog q := items_cons i100 Gb1K17_ok

/-! cassegrain path.timeErr -/
@[reducible] def T62_0 : Tmpl := ⟨24, [], [.val 0 (.int .i64), .val 7 (.slice (.agg (.pair (.slice (.agg (.pair (.int .i64) (.pair (.int .i64) (.pair (.int .i64) (.int .i64)))))) (.int .i64)))), .val 8 (.int .i64), .val 9 (.int .i64)]⟩
@[reducible] def X62_0 : List (Ex × Tmpl) := [(.ret, ⟨24, [], [.val 4 (.int .i64)]⟩), (.exit 0, ⟨24, [], []⟩)]
/-- data: time, t7, t8, t9; ends: ret: t4; exit 0:  -/
noncomputable def step62_0 : Int × (List ((List (Int × Int × Int × Int)) × Int)) × Int × Int → Option ((Int × (List ((List (Int × Int × Int × Int)) × Int)) × Int × Int) ⊕ ((Int) ⊕ (Unit))) := fun (time, t7, t8, t9) =>
  bif decide (t9 < t8) then
    bif inBounds t9 t7.length then
      bif inBounds 0 (t7.getD t9.toNat ([], 0)).1.length then
        optE (s100 (t7.getD t9.toNat ([], 0))) (fun r1 =>
          optE (s80 (time, ((t7.getD t9.toNat ([], 0)).1.getD 0 (0, 0, 0, 0)).1, r1)) (fun r2 =>
            bif !r2 then
              some (.inr (.inl 2))
            else
              some (.inl (time, t7, t8, wr (t9 + 1))))
            (none))
          (none)
      else
        none
    else
      none
  else
    some (.inr (.inr ()))
theorem one62_0 : oneLoop Tryz.prog 62 0 = true := by kernel_rfl
theorem lp62_0 : ItemOk Tryz.prog (.loop 62 0 T62_0 X62_0 (loopVal step62_0)) := item_loopM md1 ext1 (U := 9) (n := 3) noSpecial mixed Gb1K18_ok one62_0 (fun x => by kernel_rfl)
noncomputable def Gb1K19 : List Ev.Item := .loop 62 0 T62_0 X62_0 (loopVal step62_0) :: Gb1K18
theorem Gb1K19_ok : ∀ q ∈ Gb1K19, ItemOk Tryz.prog q := items_cons lp62_0 Gb1K18_ok
noncomputable def s62 : Int × (List ((List (Int × Int × Int × Int)) × Int)) → Option (Int) := fun (time, l) =>
  optE (loopVal step62_0 (time, l, (l.length : Int), 0)) (fun e1 =>
    sumE e1 (fun e2 =>
      some (e2)) (fun _ =>
      some (0)))
    (none)
theorem i62 : ItemOk Tryz.prog (.fn 62 [.d (.int .i64), .d (.slice (.agg (.pair (.slice (.agg (.pair (.int .i64) (.pair (.int .i64) (.pair (.int .i64) (.int .i64)))))) (.int .i64))))] [.d (.int .i64)] s62) := item_fnM md1 ext1 (U := 9) (n := 4) noSpecial mixed Gb1K19_ok (fun x => by kernel_rfl)
noncomputable def Gb1K20 : List Ev.Item := .fn 62 [.d (.int .i64), .d (.slice (.agg (.pair (.slice (.agg (.pair (.int .i64) (.pair (.int .i64) (.pair (.int .i64) (.int .i64)))))) (.int .i64))))] [.d (.int .i64)] s62 :: Gb1K19
theorem Gb1K20_ok : ∀ q ∈ Gb1K20, ItemOk Tryz.prog q := items_cons i62 Gb1K19_ok

/-! cassegrain path.at -/
@[reducible] def T74_0 : Tmpl := ⟨26, [], [.val 1 (.clo 123 (.pair (.ptr (.pair (.slice (.agg (.pair (.int .i64) (.pair (.int .i64) (.pair (.int .i64) (.int .i64)))))) (.int .i64))) (.pair (.ptr (.int .i64)) .unit))), .val 5 (.int .i64), .val 6 (.int .i64)]⟩
@[reducible] def X74_0 : List (Ex × Tmpl) := [(.exit 0, ⟨26, [], [.val 5 (.int .i64)]⟩)]
/-- data: f, i, j; ends: exit 0: i -/
noncomputable def step74_0 : (((List (Int × Int × Int × Int)) × Int) × Int × Unit) × Int × Int → Option (((((List (Int × Int × Int × Int)) × Int) × Int × Unit) × Int × Int) ⊕ (Int)) := fun (f, i, j) =>
  bif decide (i < j) then
    bif inBounds (wr (shrI .u64 (IntKind.u64.wrap (wr (i + j))) 1)) f.1.1.length then
      bif !(decide ((f.1.1.getD (wr (shrI .u64 (IntKind.u64.wrap (wr (i + j))) 1)).toNat (0, 0, 0, 0)).1 ≥ f.2.1)) then
        some (.inl (f, wr ((wr (shrI .u64 (IntKind.u64.wrap (wr (i + j))) 1)) + 1), j))
      else
        some (.inl (f, i, wr (shrI .u64 (IntKind.u64.wrap (wr (i + j))) 1)))
    else
      none
  else
    some (.inr i)
theorem one74_0 : oneLoop Tryz.prog 74 0 = true := by kernel_rfl
theorem lp74_0 : ItemOk Tryz.prog (.loop 74 0 T74_0 X74_0 (loopVal step74_0)) := item_loopM md1 ext1 (U := 9) (n := 2) noSpecial mixed Gb1K20_ok one74_0 (fun x => by kernel_rfl)
noncomputable def Gb1K21 : List Ev.Item := .loop 74 0 T74_0 X74_0 (loopVal step74_0) :: Gb1K20
theorem Gb1K21_ok : ∀ q ∈ Gb1K21, ItemOk Tryz.prog q := items_cons lp74_0 Gb1K20_ok
noncomputable def s88 : ((List (Int × Int × Int × Int)) × Int) × Int → Option ((Int × Int × Int) × Int) := fun (a0, a1) =>
  optE (loopVal step74_0 ((a0, a1, ()), 0, (a0.1.length : Int))) (fun e1 =>
    bif inBounds e1 a0.1.length then
      bif (a0.1.getD e1.toNat (0, 0, 0, 0)).1 == a1 then
        optE (s124 (a0.1.getD e1.toNat (0, 0, 0, 0)).2) (fun r2 =>
          some ((r2, 1)))
          (none)
      else
        bif inBounds (wr (e1 - 1)) a0.1.length then
          optE (s124 (a0.1.getD (wr (e1 - 1)).toNat (0, 0, 0, 0)).2) (fun r3 =>
            optE (s124 (a0.1.getD e1.toNat (0, 0, 0, 0)).2) (fun r4 =>
              optE (s124 (a0.1.getD (wr (e1 - 1)).toNat (0, 0, 0, 0)).2) (fun r5 =>
                optE (s125 (r4, r5)) (fun r6 =>
                  some (((wr ((wr (r3.1 * (wr ((a0.1.getD e1.toNat (0, 0, 0, 0)).1 - (a0.1.getD (wr (e1 - 1)).toNat (0, 0, 0, 0)).1)))) + (wr (r6.1 * (wr (a1 - (a0.1.getD (wr (e1 - 1)).toNat (0, 0, 0, 0)).1))))), wr ((wr (r3.2.1 * (wr ((a0.1.getD e1.toNat (0, 0, 0, 0)).1 - (a0.1.getD (wr (e1 - 1)).toNat (0, 0, 0, 0)).1)))) + (wr (r6.2.1 * (wr (a1 - (a0.1.getD (wr (e1 - 1)).toNat (0, 0, 0, 0)).1))))), wr ((wr (r3.2.2 * (wr ((a0.1.getD e1.toNat (0, 0, 0, 0)).1 - (a0.1.getD (wr (e1 - 1)).toNat (0, 0, 0, 0)).1)))) + (wr (r6.2.2 * (wr (a1 - (a0.1.getD (wr (e1 - 1)).toNat (0, 0, 0, 0)).1)))))), wr ((a0.1.getD e1.toNat (0, 0, 0, 0)).1 - (a0.1.getD (wr (e1 - 1)).toNat (0, 0, 0, 0)).1))))
                  (none))
                (none))
              (none))
            (none)
        else
          none
    else
      none)
    (none)
theorem i88 : ItemOk Tryz.prog (.fn 88 [.d (.agg (.pair (.slice (.agg (.pair (.int .i64) (.pair (.int .i64) (.pair (.int .i64) (.int .i64)))))) (.int .i64))), .d (.int .i64)] [.d (.agg (.pair (.pair (.int .i64) (.pair (.int .i64) (.int .i64))) (.int .i64)))] s88) := item_fnM md1 ext1 (U := 9) (n := 4) noSpecial mixed Gb1K21_ok (fun x => by kernel_rfl)
noncomputable def Gb1K22 : List Ev.Item := .fn 88 [.d (.agg (.pair (.slice (.agg (.pair (.int .i64) (.pair (.int .i64) (.pair (.int .i64) (.int .i64)))))) (.int .i64))), .d (.int .i64)] [.d (.agg (.pair (.pair (.int .i64) (.pair (.int .i64) (.int .i64))) (.int .i64)))] s88 :: Gb1K21
theorem Gb1K22_ok : ∀ q ∈ Gb1K22, ItemOk Tryz.prog q := items_cons i88 Gb1K21_ok

/-! cassegrain path.between -/
noncomputable def s63 : ((List (Int × Int × Int × Int)) × Int) × Int × ((List (Int × Int × Int × Int)) × Int) × Int → Option (((Int × Int × Int) × Int) × Int) := fun (a, s, b, r0) =>
  optE (s88 (a, s)) (fun r1 =>
    optE (s88 (b, r0)) (fun r2 =>
      some ((((wr ((wr (r2.1.1 * r1.2)) - (wr (r1.1.1 * r2.2))), wr ((wr (r2.1.2.1 * r1.2)) - (wr (r1.1.2.1 * r2.2))), wr ((wr (r2.1.2.2 * r1.2)) - (wr (r1.1.2.2 * r2.2)))), wr (r1.2 * r2.2)), wr (a.2 + b.2))))
      (none))
    (none)
theorem i63 : ItemOk Tryz.prog (.fn 63 [.d (.agg (.pair (.slice (.agg (.pair (.int .i64) (.pair (.int .i64) (.pair (.int .i64) (.int .i64)))))) (.int .i64))), .d (.int .i64), .d (.agg (.pair (.slice (.agg (.pair (.int .i64) (.pair (.int .i64) (.pair (.int .i64) (.int .i64)))))) (.int .i64))), .d (.int .i64)] [.d (.agg (.pair (.pair (.pair (.int .i64) (.pair (.int .i64) (.int .i64))) (.int .i64)) (.int .i64)))] s63) := item_fnM md1 ext1 (U := 9) (n := 4) noSpecial mixed Gb1K22_ok (fun x => by kernel_rfl)
noncomputable def Gb1K23 : List Ev.Item := .fn 63 [.d (.agg (.pair (.slice (.agg (.pair (.int .i64) (.pair (.int .i64) (.pair (.int .i64) (.int .i64)))))) (.int .i64))), .d (.int .i64), .d (.agg (.pair (.slice (.agg (.pair (.int .i64) (.pair (.int .i64) (.pair (.int .i64) (.int .i64)))))) (.int .i64))), .d (.int .i64)] [.d (.agg (.pair (.pair (.pair (.int .i64) (.pair (.int .i64) (.int .i64))) (.int .i64)) (.int .i64)))] s63 :: Gb1K22
theorem Gb1K23_ok : ∀ q ∈ Gb1K23, ItemOk Tryz.prog q := items_cons i63 Gb1K22_ok

/-! math bits.Mul64 -/
noncomputable def s139 : Int × Int → Option (Int × Int) := fun (x0, y0) =>
  some ((IntKind.u64.wrap ((IntKind.u64.wrap ((IntKind.u64.wrap ((shrI .u64 x0 32) * (shrI .u64 y0 32))) + (shrI .u64 (IntKind.u64.wrap ((IntKind.u64.wrap ((shrI .u64 x0 32) * (andI .u64 y0 4294967295))) + (shrI .u64 (IntKind.u64.wrap ((andI .u64 x0 4294967295) * (andI .u64 y0 4294967295))) 32))) 32))) + (shrI .u64 (IntKind.u64.wrap ((andI .u64 (IntKind.u64.wrap ((IntKind.u64.wrap ((shrI .u64 x0 32) * (andI .u64 y0 4294967295))) + (shrI .u64 (IntKind.u64.wrap ((andI .u64 x0 4294967295) * (andI .u64 y0 4294967295))) 32))) 4294967295) + (IntKind.u64.wrap ((andI .u64 x0 4294967295) * (shrI .u64 y0 32))))) 32)), IntKind.u64.wrap (x0 * y0)))
theorem i139 : ItemOk Tryz.prog (.fn 139 [.d (.int .u64), .d (.int .u64)] [.d (.int .u64), .d (.int .u64)] s139) := item_fnM md1 ext1 (U := 9) (n := 4) noSpecial mixed Gb1K23_ok (fun x => by kernel_rfl)
noncomputable def Gb1K24 : List Ev.Item := .fn 139 [.d (.int .u64), .d (.int .u64)] [.d (.int .u64), .d (.int .u64)] s139 :: Gb1K23
theorem Gb1K24_ok : ∀ q ∈ Gb1K24, ItemOk Tryz.prog q := items_cons i139 Gb1K23_ok

/-! cassegrain path.squared -/
noncomputable def s105 : Int → Option (Int × Int) := fun n =>
  optE (s139 (IntKind.u64.wrap (mx n (wr (-n))), IntKind.u64.wrap (mx n (wr (-n))))) (fun r1 =>
    some (r1))
    (none)
theorem i105 : ItemOk Tryz.prog (.fn 105 [.d (.int .i64)] [.d (.agg (.pair (.int .u64) (.int .u64)))] s105) := item_fnM md1 ext1 (U := 9) (n := 4) noSpecial mixed Gb1K24_ok (fun x => by kernel_rfl)
noncomputable def Gb1K25 : List Ev.Item := .fn 105 [.d (.int .i64)] [.d (.agg (.pair (.int .u64) (.int .u64)))] s105 :: Gb1K24
theorem Gb1K25_ok : ∀ q ∈ Gb1K25, ItemOk Tryz.prog q := items_cons i105 Gb1K24_ok

/-! (cassegrain path.wide).plus -/
noncomputable def s156 : (Int × Int) × (Int × Int) → Option (Int × Int) := fun (w, o) =>
  bif (decide (0 ≤ w.2)) && ((decide (0 ≤ o.2)) && true) then
    some ((IntKind.u64.wrap ((IntKind.u64.wrap (w.1 + o.1)) + ((w.2 + o.2 + 0) / 18446744073709551616)), (w.2 + o.2 + 0) % 18446744073709551616))
  else
    none
theorem i156 : ItemOk Tryz.prog (.fn 156 [.d (.agg (.pair (.int .u64) (.int .u64))), .d (.agg (.pair (.int .u64) (.int .u64)))] [.d (.agg (.pair (.int .u64) (.int .u64)))] s156) := item_fnM md1 ext1 (U := 9) (n := 4) noSpecial mixed Gb1K25_ok (fun x => by kernel_rfl)
noncomputable def Gb1K26 : List Ev.Item := .fn 156 [.d (.agg (.pair (.int .u64) (.int .u64))), .d (.agg (.pair (.int .u64) (.int .u64)))] [.d (.agg (.pair (.int .u64) (.int .u64)))] s156 :: Gb1K25
theorem Gb1K26_ok : ∀ q ∈ Gb1K26, ItemOk Tryz.prog q := items_cons i156 Gb1K25_ok

/-! (cassegrain path.gap).nearest -/
noncomputable def s101 : ((Int × Int × Int) × Int) × Int → Option (Int × Int) := fun g =>
  optE (s105 (mx 0 (wr ((mx g.1.1.1 (wr (-g.1.1.1))) - (wr (g.2 * g.1.2)))))) (fun r1 =>
    optE (s156 ((0, 0), r1)) (fun r2 =>
      optE (s105 (mx 0 (wr ((mx g.1.1.2.1 (wr (-g.1.1.2.1))) - (wr (g.2 * g.1.2)))))) (fun r3 =>
        optE (s156 (r2, r3)) (fun r4 =>
          optE (s105 (mx 0 (wr ((mx g.1.1.2.2 (wr (-g.1.1.2.2))) - (wr (g.2 * g.1.2)))))) (fun r5 =>
            optE (s156 (r4, r5)) (fun r6 =>
              some (r6))
              (none))
            (none))
          (none))
        (none))
      (none))
    (none)
theorem i101 : ItemOk Tryz.prog (.fn 101 [.d (.agg (.pair (.pair (.pair (.int .i64) (.pair (.int .i64) (.int .i64))) (.int .i64)) (.int .i64)))] [.d (.agg (.pair (.int .u64) (.int .u64)))] s101) := item_fnM md1 ext1 (U := 9) (n := 4) noSpecial mixed Gb1K26_ok (fun x => by kernel_rfl)
noncomputable def Gb1K27 : List Ev.Item := .fn 101 [.d (.agg (.pair (.pair (.pair (.int .i64) (.pair (.int .i64) (.int .i64))) (.int .i64)) (.int .i64)))] [.d (.agg (.pair (.int .u64) (.int .u64)))] s101 :: Gb1K26
theorem Gb1K27_ok : ∀ q ∈ Gb1K27, ItemOk Tryz.prog q := items_cons i101 Gb1K26_ok

/-! (cassegrain path.gap).farthest -/
noncomputable def s102 : ((Int × Int × Int) × Int) × Int → Option (Int × Int) := fun g =>
  optE (s105 (wr ((mx g.1.1.1 (wr (-g.1.1.1))) + (wr (g.2 * g.1.2))))) (fun r1 =>
    optE (s156 ((0, 0), r1)) (fun r2 =>
      optE (s105 (wr ((mx g.1.1.2.1 (wr (-g.1.1.2.1))) + (wr (g.2 * g.1.2))))) (fun r3 =>
        optE (s156 (r2, r3)) (fun r4 =>
          optE (s105 (wr ((mx g.1.1.2.2 (wr (-g.1.1.2.2))) + (wr (g.2 * g.1.2))))) (fun r5 =>
            optE (s156 (r4, r5)) (fun r6 =>
              some (r6))
              (none))
            (none))
          (none))
        (none))
      (none))
    (none)
theorem i102 : ItemOk Tryz.prog (.fn 102 [.d (.agg (.pair (.pair (.pair (.int .i64) (.pair (.int .i64) (.int .i64))) (.int .i64)) (.int .i64)))] [.d (.agg (.pair (.int .u64) (.int .u64)))] s102) := item_fnM md1 ext1 (U := 9) (n := 4) noSpecial mixed Gb1K27_ok (fun x => by kernel_rfl)
noncomputable def Gb1K28 : List Ev.Item := .fn 102 [.d (.agg (.pair (.pair (.pair (.int .i64) (.pair (.int .i64) (.int .i64))) (.int .i64)) (.int .i64)))] [.d (.agg (.pair (.int .u64) (.int .u64)))] s102 :: Gb1K27
theorem Gb1K28_ok : ∀ q ∈ Gb1K28, ItemOk Tryz.prog q := items_cons i102 Gb1K27_ok

/-! (cassegrain path.gap).distances -/
@[reducible] def T74_0a : Tmpl := ⟨26, [], [.val 1 (.clo 103 (.pair (.ptr (.pair (.int .u64) (.int .u64))) (.pair (.ptr (.pair (.int .i64) (.pair (.int .i64) (.pair (.int .i64) (.pair (.int .i64) (.int .i64)))))) .unit))), .val 5 (.int .i64), .val 6 (.int .i64)]⟩
@[reducible] def X74_0a : List (Ex × Tmpl) := [(.exit 0, ⟨26, [], [.val 5 (.int .i64)]⟩)]
/-- data: f, i, j; ends: exit 0: i -/
noncomputable def step74_0a : ((Int × Int) × (Int × Int × Int × Int × Int) × Unit) × Int × Int → Option ((((Int × Int) × (Int × Int × Int × Int × Int) × Unit) × Int × Int) ⊕ (Int)) := fun (f, i, j) =>
  bif decide (i < j) then
    optE (s105 (wr ((wr ((wr (shrI .u64 (IntKind.u64.wrap (wr (i + j))) 1)) + 1)) * f.2.1.2.2.2.1))) (fun r3 =>
      bif decide (f.1.1 < r3.1) then
        some (.inl (f, i, wr (shrI .u64 (IntKind.u64.wrap (wr (i + j))) 1)))
      else
        bif f.1.1 == r3.1 then
          bif !(decide (f.1.2 < r3.2)) then
            some (.inl (f, wr ((wr (shrI .u64 (IntKind.u64.wrap (wr (i + j))) 1)) + 1), j))
          else
            some (.inl (f, i, wr (shrI .u64 (IntKind.u64.wrap (wr (i + j))) 1)))
        else
          some (.inl (f, wr ((wr (shrI .u64 (IntKind.u64.wrap (wr (i + j))) 1)) + 1), j)))
      (none)
  else
    some (.inr i)
theorem one74_0a : oneLoop Tryz.prog 74 0 = true := by kernel_rfl
theorem lp74_0a : ItemOk Tryz.prog (.loop 74 0 T74_0a X74_0a (loopVal step74_0a)) := item_loopM md1 ext1 (U := 9) (n := 2) noSpecial mixed Gb1K28_ok one74_0a (fun x => by kernel_rfl)
noncomputable def Gb1K29 : List Ev.Item := .loop 74 0 T74_0a X74_0a (loopVal step74_0a) :: Gb1K28
theorem Gb1K29_ok : ∀ q ∈ Gb1K29, ItemOk Tryz.prog q := items_cons lp74_0a Gb1K28_ok
@[reducible] def T74_0b : Tmpl := ⟨26, [], [.val 1 (.clo 106 (.pair (.ptr (.pair (.int .i64) (.pair (.int .i64) (.pair (.int .i64) (.pair (.int .i64) (.int .i64)))))) (.pair (.ptr (.pair (.int .u64) (.int .u64))) .unit))), .val 5 (.int .i64), .val 6 (.int .i64)]⟩
@[reducible] def X74_0b : List (Ex × Tmpl) := [(.exit 0, ⟨26, [], [.val 5 (.int .i64)]⟩)]
/-- data: f, i, j; ends: exit 0: i -/
noncomputable def step74_0b : ((Int × Int × Int × Int × Int) × (Int × Int) × Unit) × Int × Int → Option ((((Int × Int × Int × Int × Int) × (Int × Int) × Unit) × Int × Int) ⊕ (Int)) := fun (f, i, j) =>
  bif decide (i < j) then
    optE (s105 (wr ((wr (shrI .u64 (IntKind.u64.wrap (wr (i + j))) 1)) * f.1.2.2.2.1))) (fun r4 =>
      bif decide (r4.1 < f.2.1.1) then
        some (.inl (f, wr ((wr (shrI .u64 (IntKind.u64.wrap (wr (i + j))) 1)) + 1), j))
      else
        bif r4.1 == f.2.1.1 then
          bif !(!(decide (r4.2 < f.2.1.2))) then
            some (.inl (f, wr ((wr (shrI .u64 (IntKind.u64.wrap (wr (i + j))) 1)) + 1), j))
          else
            some (.inl (f, i, wr (shrI .u64 (IntKind.u64.wrap (wr (i + j))) 1)))
        else
          some (.inl (f, i, wr (shrI .u64 (IntKind.u64.wrap (wr (i + j))) 1))))
      (none)
  else
    some (.inr i)
theorem one74_0b : oneLoop Tryz.prog 74 0 = true := by kernel_rfl
theorem lp74_0b : ItemOk Tryz.prog (.loop 74 0 T74_0b X74_0b (loopVal step74_0b)) := item_loopM md1 ext1 (U := 9) (n := 2) noSpecial mixed Gb1K29_ok one74_0b (fun x => by kernel_rfl)
noncomputable def Gb1K30 : List Ev.Item := .loop 74 0 T74_0b X74_0b (loopVal step74_0b) :: Gb1K29
theorem Gb1K30_ok : ∀ q ∈ Gb1K30, ItemOk Tryz.prog q := items_cons lp74_0b Gb1K29_ok
noncomputable def s64 : ((Int × Int × Int) × Int) × Int → Option (Int × Int) := fun g =>
  optE (s101 g) (fun r1 =>
    optE (s102 g) (fun r2 =>
      optE (loopVal step74_0a ((r1, (g.1.1.1, g.1.1.2.1, g.1.1.2.2, g.1.2, g.2), ()), 0, 8000000)) (fun e3 =>
        optE (loopVal step74_0b (((g.1.1.1, g.1.1.2.1, g.1.1.2.2, g.1.2, g.2), r2, ()), 0, 8000000)) (fun e4 =>
          some ((e3, e4)))
          (none))
        (none))
      (none))
    (none)
theorem i64 : ItemOk Tryz.prog (.fn 64 [.d (.agg (.pair (.pair (.pair (.int .i64) (.pair (.int .i64) (.int .i64))) (.int .i64)) (.int .i64)))] [.d (.agg (.pair (.int .i64) (.int .i64)))] s64) := item_fnM md1 ext1 (U := 9) (n := 4) noSpecial mixed Gb1K30_ok (fun x => by kernel_rfl)
noncomputable def Gb1K31 : List Ev.Item := .fn 64 [.d (.agg (.pair (.pair (.pair (.int .i64) (.pair (.int .i64) (.int .i64))) (.int .i64)) (.int .i64)))] [.d (.agg (.pair (.int .i64) (.int .i64)))] s64 :: Gb1K30
theorem Gb1K31_ok : ∀ q ∈ Gb1K31, ItemOk Tryz.prog q := items_cons i64 Gb1K30_ok

/-! cassegrain path.DistanceAt -/
noncomputable def s13 : ((List (Int × Int × Int × Int)) × Int) × ((List (Int × Int × Int × Int)) × Int) × Int → Option ((Int × Int) × Int) := fun (a, b, time) =>
  optE (s61 [a, b]) (fun r1 =>
    bif r1 != 0 then
      some (((0, 0), r1))
    else
      optE (s62 (time, [a, b])) (fun r2 =>
        bif r2 != 0 then
          some (((0, 0), r2))
        else
          optE (s63 (a, time, b, time)) (fun r3 =>
            optE (s64 r3) (fun r4 =>
              some ((r4, 0)))
              (none))
            (none))
        (none))
    (none)
theorem i13 : ItemOk Tryz.prog (.fn 13 [.d (.agg (.pair (.slice (.agg (.pair (.int .i64) (.pair (.int .i64) (.pair (.int .i64) (.int .i64)))))) (.int .i64))), .d (.agg (.pair (.slice (.agg (.pair (.int .i64) (.pair (.int .i64) (.pair (.int .i64) (.int .i64)))))) (.int .i64))), .d (.int .i64)] [.d (.agg (.pair (.int .i64) (.int .i64))), .d (.int .i64)] s13) := item_fnM md1 ext1 (U := 9) (n := 4) noSpecial mixed Gb1K31_ok (fun x => by kernel_rfl)
noncomputable def Gb1K32 : List Ev.Item := .fn 13 [.d (.agg (.pair (.slice (.agg (.pair (.int .i64) (.pair (.int .i64) (.pair (.int .i64) (.int .i64)))))) (.int .i64))), .d (.agg (.pair (.slice (.agg (.pair (.int .i64) (.pair (.int .i64) (.pair (.int .i64) (.int .i64)))))) (.int .i64))), .d (.int .i64)] [.d (.agg (.pair (.int .i64) (.int .i64))), .d (.int .i64)] s13 :: Gb1K31
theorem Gb1K32_ok : ∀ q ∈ Gb1K32, ItemOk Tryz.prog q := items_cons i13 Gb1K31_ok

/-! cassegrain path.ChangeOf -/
noncomputable def s15 : ((List (Int × Int × Int × Int)) × Int) × ((List (Int × Int × Int × Int)) × Int) × (Int × Int) → Option ((Int × Int) × Int) := fun (a0, a1, a2) =>
  optE (s61 [a0, a1]) (fun r1 =>
    bif r1 != 0 then
      some (((0, 0), r1))
    else
      optE (s62 (a2.1, [a0, a1])) (fun r2 =>
        optE (s62 (a2.2, [a0, a1])) (fun r3 =>
          optE (s66 (decide (a2.1 ≤ a2.2), 9)) (fun r4 =>
            optE (s65 [r2, r3, r4]) (fun r5 =>
              bif r5 != 0 then
                some (((0, 0), r5))
              else
                optE (s63 (a0, a2.1, a1, a2.1)) (fun r6 =>
                  optE (s64 r6) (fun r7 =>
                    optE (s63 (a0, a2.2, a1, a2.2)) (fun r8 =>
                      optE (s64 r8) (fun r9 =>
                        some (((wr (r9.1 - r7.2), wr (r9.2 - r7.1)), 0)))
                        (none))
                      (none))
                    (none))
                  (none))
              (none))
            (none))
          (none))
        (none))
    (none)
theorem i15 : ItemOk Tryz.prog (.fn 15 [.d (.agg (.pair (.slice (.agg (.pair (.int .i64) (.pair (.int .i64) (.pair (.int .i64) (.int .i64)))))) (.int .i64))), .d (.agg (.pair (.slice (.agg (.pair (.int .i64) (.pair (.int .i64) (.pair (.int .i64) (.int .i64)))))) (.int .i64))), .d (.agg (.pair (.int .i64) (.int .i64)))] [.d (.agg (.pair (.int .i64) (.int .i64))), .d (.int .i64)] s15) := item_fnM md1 ext1 (U := 9) (n := 4) noSpecial mixed Gb1K32_ok (fun x => by kernel_rfl)
noncomputable def Gb1K33 : List Ev.Item := .fn 15 [.d (.agg (.pair (.slice (.agg (.pair (.int .i64) (.pair (.int .i64) (.pair (.int .i64) (.int .i64)))))) (.int .i64))), .d (.agg (.pair (.slice (.agg (.pair (.int .i64) (.pair (.int .i64) (.pair (.int .i64) (.int .i64)))))) (.int .i64))), .d (.agg (.pair (.int .i64) (.int .i64)))] [.d (.agg (.pair (.int .i64) (.int .i64))), .d (.int .i64)] s15 :: Gb1K32
theorem Gb1K33_ok : ∀ q ∈ Gb1K33, ItemOk Tryz.prog q := items_cons i15 Gb1K32_ok

/-! cassegrain cassegrainbase.Within -/
noncomputable def s28 : Int × Int × Int → Option (Bool) := fun (n, lo, hi) =>
  bif decide (lo ≤ n) then
    some (decide (n ≤ hi))
  else
    some (false)
theorem i28 : ItemOk Tryz.prog (.fn 28 [.d (.int .i64), .d (.int .i64), .d (.int .i64)] [.d .bool] s28) := item_fnM md1 ext1 (U := 9) (n := 4) noSpecial mixed Gb1K33_ok (fun x => by kernel_rfl)
noncomputable def Gb1K34 : List Ev.Item := .fn 28 [.d (.int .i64), .d (.int .i64), .d (.int .i64)] [.d .bool] s28 :: Gb1K33
theorem Gb1K34_ok : ∀ q ∈ Gb1K34, ItemOk Tryz.prog q := items_cons i28 Gb1K33_ok

/-! cassegrain cassegrainbase.IsTick -/
noncomputable def s157 : Int → Option (Bool) := fun n =>
  optE (s28 (n, 0, 1000000000000)) (fun r1 =>
    some (r1))
    (none)
theorem i157 : ItemOk Tryz.prog (.fn 157 [.d (.int .i64)] [.d .bool] s157) := item_fnM md1 ext1 (U := 9) (n := 4) noSpecial mixed Gb1K34_ok (fun x => by kernel_rfl)
noncomputable def Gb1K35 : List Ev.Item := .fn 157 [.d (.int .i64)] [.d .bool] s157 :: Gb1K34
theorem Gb1K35_ok : ∀ q ∈ Gb1K35, ItemOk Tryz.prog q := items_cons i157 Gb1K34_ok

/-! cassegrain cassegrainbase.Minus -/
noncomputable def s126 : (Int × Int × Int) × (Int × Int × Int) → Option (Int × Int × Int) := fun (a, b) =>
  some ((wr (a.1 - b.1), wr (a.2.1 - b.2.1), wr (a.2.2 - b.2.2)))
theorem i126 : ItemOk Tryz.prog (.fn 126 [.d (.agg (.pair (.int .i64) (.pair (.int .i64) (.int .i64)))), .d (.agg (.pair (.int .i64) (.pair (.int .i64) (.int .i64))))] [.d (.agg (.pair (.int .i64) (.pair (.int .i64) (.int .i64))))] s126) := item_fnM md1 ext1 (U := 9) (n := 4) noSpecial mixed Gb1K35_ok (fun x => by kernel_rfl)
noncomputable def Gb1K36 : List Ev.Item := .fn 126 [.d (.agg (.pair (.int .i64) (.pair (.int .i64) (.int .i64)))), .d (.agg (.pair (.int .i64) (.pair (.int .i64) (.int .i64))))] [.d (.agg (.pair (.int .i64) (.pair (.int .i64) (.int .i64))))] s126 :: Gb1K35
theorem Gb1K36_ok : ∀ q ∈ Gb1K36, ItemOk Tryz.prog q := items_cons i126 Gb1K35_ok

/-! cassegrain cassegrainbase.Dot -/
noncomputable def s85 : (Int × Int × Int) × (Int × Int × Int) → Option (Int) := fun (a, b) =>
  some (wr ((wr ((wr (a.1 * b.1)) + (wr (a.2.1 * b.2.1)))) + (wr (a.2.2 * b.2.2))))
theorem i85 : ItemOk Tryz.prog (.fn 85 [.d (.agg (.pair (.int .i64) (.pair (.int .i64) (.int .i64)))), .d (.agg (.pair (.int .i64) (.pair (.int .i64) (.int .i64))))] [.d (.int .i64)] s85) := item_fnM md1 ext1 (U := 9) (n := 4) noSpecial mixed Gb1K36_ok (fun x => by kernel_rfl)
noncomputable def Gb1K37 : List Ev.Item := .fn 85 [.d (.agg (.pair (.int .i64) (.pair (.int .i64) (.int .i64)))), .d (.agg (.pair (.int .i64) (.pair (.int .i64) (.int .i64))))] [.d (.int .i64)] s85 :: Gb1K36
theorem Gb1K37_ok : ∀ q ∈ Gb1K37, ItemOk Tryz.prog q := items_cons i85 Gb1K36_ok

/-! cassegrain cassegrainbase.Square -/
noncomputable def s122 : Int × Int × Int → Option (Int) := fun v =>
  optE (s85 (v, v)) (fun r1 =>
    some (r1))
    (none)
theorem i122 : ItemOk Tryz.prog (.fn 122 [.d (.agg (.pair (.int .i64) (.pair (.int .i64) (.int .i64))))] [.d (.int .i64)] s122) := item_fnM md1 ext1 (U := 9) (n := 4) noSpecial mixed Gb1K37_ok (fun x => by kernel_rfl)
noncomputable def Gb1K38 : List Ev.Item := .fn 122 [.d (.agg (.pair (.int .i64) (.pair (.int .i64) (.int .i64))))] [.d (.int .i64)] s122 :: Gb1K37
theorem Gb1K38_ok : ∀ q ∈ Gb1K38, ItemOk Tryz.prog q := items_cons i122 Gb1K37_ok

/-! cassegrain cassegrainref01.knotErr -/
noncomputable def s140 : (List (Int × Int × Int × Int)) × Int → Option (Int) := fun (a0, a1) =>
  bif inBounds a1 a0.length then
    optE (s157 (a0.getD a1.toNat (0, 0, 0, 0)).1) (fun r1 =>
      bif !r1 then
        some (2)
      else
        optE (s28 ((a0.getD a1.toNat (0, 0, 0, 0)).2.1, (-1000000), 1000000)) (fun r2 =>
          bif !r2 then
            some (2)
          else
            optE (s28 ((a0.getD a1.toNat (0, 0, 0, 0)).2.2.1, (-1000000), 1000000)) (fun r3 =>
              bif !r3 then
                some (2)
              else
                optE (s28 ((a0.getD a1.toNat (0, 0, 0, 0)).2.2.2, (-1000000), 1000000)) (fun r4 =>
                  bif !r4 then
                    some (2)
                  else
                    bif a1 == 0 then
                      some (0)
                    else
                      bif inBounds (wr (a1 - 1)) a0.length then
                        bif decide ((a0.getD a1.toNat (0, 0, 0, 0)).1 ≤ (a0.getD (wr (a1 - 1)).toNat (0, 0, 0, 0)).1) then
                          some (9)
                        else
                          bif decide ((wr ((a0.getD a1.toNat (0, 0, 0, 0)).1 - (a0.getD (wr (a1 - 1)).toNat (0, 0, 0, 0)).1)) > 10000) then
                            some (14)
                          else
                            optE (s126 ((a0.getD a1.toNat (0, 0, 0, 0)).2, (a0.getD (wr (a1 - 1)).toNat (0, 0, 0, 0)).2)) (fun r5 =>
                              optE (s122 r5) (fun r6 =>
                                bif decide ((wr (4 * r6)) > (wr ((wr ((a0.getD a1.toNat (0, 0, 0, 0)).1 - (a0.getD (wr (a1 - 1)).toNat (0, 0, 0, 0)).1)) * (wr ((a0.getD a1.toNat (0, 0, 0, 0)).1 - (a0.getD (wr (a1 - 1)).toNat (0, 0, 0, 0)).1))))) then
                                  some (23)
                                else
                                  some (0))
                                (none))
                              (none)
                      else
                        none)
                  (none))
              (none))
          (none))
      (none)
  else
    none
theorem i140 : ItemOk Tryz.prog (.fn 140 [.d (.slice (.agg (.pair (.int .i64) (.pair (.int .i64) (.pair (.int .i64) (.int .i64)))))), .d (.int .i64)] [.d (.int .i64)] s140) := item_fnM md1 ext1 (U := 9) (n := 4) noSpecial mixed Gb1K38_ok (fun x => by kernel_rfl)
noncomputable def Gb1K39 : List Ev.Item := .fn 140 [.d (.slice (.agg (.pair (.int .i64) (.pair (.int .i64) (.pair (.int .i64) (.int .i64)))))), .d (.int .i64)] [.d (.int .i64)] s140 :: Gb1K38
theorem Gb1K39_ok : ∀ q ∈ Gb1K39, ItemOk Tryz.prog q := items_cons i140 Gb1K38_ok

/-! cassegrain cassegrainref01.CheckTrack -/
@[reducible] def T107_0 : Tmpl := ⟨33, [(1, .ref 1 0 0 0)], [.val 4 (.int .i64), .cells 1 [.d (.pair (.slice (.agg (.pair (.int .i64) (.pair (.int .i64) (.pair (.int .i64) (.int .i64)))))) (.int .i64))]]⟩
@[reducible] def X107_0 : List (Ex × Tmpl) := [(.ret, ⟨33, [], [.val 2 (.int .i64), .val 3 (.int .i64)]⟩), (.exit 0, ⟨33, [(1, .ref 1 0 0 0)], [.cells 1 [.d (.pair (.slice (.agg (.pair (.int .i64) (.pair (.int .i64) (.pair (.int .i64) (.int .i64)))))) (.int .i64))]]⟩)]
/-- data: i, p; ends: ret: t2, t3; exit 0: p -/
noncomputable def step107_0 : Int × ((List (Int × Int × Int × Int)) × Int) → Option ((Int × ((List (Int × Int × Int × Int)) × Int)) ⊕ ((Int × Int) ⊕ (((List (Int × Int × Int × Int)) × Int)))) := fun (i, p) =>
  bif decide (i < (p.1.length : Int)) then
    optE (s140 (p.1, i)) (fun r1 =>
      bif r1 != 0 then
        some (.inr (.inl (i, r1)))
      else
        some (.inl (wr (i + 1), p)))
      (none)
  else
    some (.inr (.inr p))
theorem one107_0 : oneLoop Tryz.prog 107 0 = true := by kernel_rfl
theorem lp107_0 : ItemOk Tryz.prog (.loop 107 0 T107_0 X107_0 (loopVal step107_0)) := item_loopM md1 ext1 (U := 9) (n := 3) noSpecial mixed Gb1K39_ok one107_0 (fun x => by kernel_rfl)
noncomputable def Gb1K40 : List Ev.Item := .loop 107 0 T107_0 X107_0 (loopVal step107_0) :: Gb1K39
theorem Gb1K40_ok : ∀ q ∈ Gb1K40, ItemOk Tryz.prog q := items_cons lp107_0 Gb1K39_ok
noncomputable def s107 : (List (Int × Int × Int × Int)) × Int → Option (Int × Int) := fun p =>
  bif (p.1.length : Int) == 0 then
    some ((0, 10))
  else
    bif decide ((p.1.length : Int) > 12) then
      some ((0, 8))
    else
      optE (loopVal step107_0 (0, p)) (fun e1 =>
        sumE e1 (fun e2 =>
          some (e2)) (fun e3 =>
          optE (s28 (e3.2, 0, 1000)) (fun r4 =>
            bif !r4 then
              some ((0, 2))
            else
              some ((0, 0)))
            (none)))
        (none)
theorem i107 : ItemOk Tryz.prog (.fn 107 [.d (.agg (.pair (.slice (.agg (.pair (.int .i64) (.pair (.int .i64) (.pair (.int .i64) (.int .i64)))))) (.int .i64)))] [.d (.int .i64), .d (.int .i64)] s107) := item_fnM md1 ext1 (U := 9) (n := 4) noSpecial mixed Gb1K40_ok (fun x => by kernel_rfl)
noncomputable def Gb1K41 : List Ev.Item := .fn 107 [.d (.agg (.pair (.slice (.agg (.pair (.int .i64) (.pair (.int .i64) (.pair (.int .i64) (.int .i64)))))) (.int .i64)))] [.d (.int .i64), .d (.int .i64)] s107 :: Gb1K40
theorem Gb1K41_ok : ∀ q ∈ Gb1K41, ItemOk Tryz.prog q := items_cons i107 Gb1K40_ok

/-! cassegrain cassegrainref01.TrackErr -/
noncomputable def s67 : (List (Int × Int × Int × Int)) × Int → Option (Int) := fun p =>
  optE (s107 p) (fun r1 =>
    some (r1.2))
    (none)
theorem i67 : ItemOk Tryz.prog (.fn 67 [.d (.agg (.pair (.slice (.agg (.pair (.int .i64) (.pair (.int .i64) (.pair (.int .i64) (.int .i64)))))) (.int .i64)))] [.d (.int .i64)] s67) := item_fnM md1 ext1 (U := 9) (n := 4) noSpecial mixed Gb1K41_ok (fun x => by kernel_rfl)
noncomputable def Gb1K42 : List Ev.Item := .fn 67 [.d (.agg (.pair (.slice (.agg (.pair (.int .i64) (.pair (.int .i64) (.pair (.int .i64) (.int .i64)))))) (.int .i64)))] [.d (.int .i64)] s67 :: Gb1K41
theorem Gb1K42_ok : ∀ q ∈ Gb1K42, ItemOk Tryz.prog q := items_cons i67 Gb1K41_ok

/-! cassegrain cassegrainref01.BothErr -/
noncomputable def s16 : ((List (Int × Int × Int × Int)) × Int) × ((List (Int × Int × Int × Int)) × Int) → Option (Int) := fun (a, b) =>
  optE (s67 a) (fun r1 =>
    bif r1 != 0 then
      some (r1)
    else
      optE (s67 b) (fun r2 =>
        some (r2))
        (none))
    (none)
theorem i16 : ItemOk Tryz.prog (.fn 16 [.d (.agg (.pair (.slice (.agg (.pair (.int .i64) (.pair (.int .i64) (.pair (.int .i64) (.int .i64)))))) (.int .i64))), .d (.agg (.pair (.slice (.agg (.pair (.int .i64) (.pair (.int .i64) (.pair (.int .i64) (.int .i64)))))) (.int .i64)))] [.d (.int .i64)] s16) := item_fnM md1 ext1 (U := 9) (n := 4) noSpecial mixed Gb1K42_ok (fun x => by kernel_rfl)
noncomputable def Gb1K43 : List Ev.Item := .fn 16 [.d (.agg (.pair (.slice (.agg (.pair (.int .i64) (.pair (.int .i64) (.pair (.int .i64) (.int .i64)))))) (.int .i64))), .d (.agg (.pair (.slice (.agg (.pair (.int .i64) (.pair (.int .i64) (.pair (.int .i64) (.int .i64)))))) (.int .i64)))] [.d (.int .i64)] s16 :: Gb1K42
theorem Gb1K43_ok : ∀ q ∈ Gb1K43, ItemOk Tryz.prog q := items_cons i16 Gb1K42_ok

/-! cassegrain cassegrainref01.First -/
noncomputable def s32 : (List (Int × Int × Int × Int)) × Int → Option (Int) := fun p =>
  bif inBounds 0 p.1.length then
    some ((p.1.getD 0 (0, 0, 0, 0)).1)
  else
    none
theorem i32 : ItemOk Tryz.prog (.fn 32 [.d (.agg (.pair (.slice (.agg (.pair (.int .i64) (.pair (.int .i64) (.pair (.int .i64) (.int .i64)))))) (.int .i64)))] [.d (.int .i64)] s32) := item_fnM md1 ext1 (U := 9) (n := 4) noSpecial mixed Gb1K43_ok (fun x => by kernel_rfl)
noncomputable def Gb1K44 : List Ev.Item := .fn 32 [.d (.agg (.pair (.slice (.agg (.pair (.int .i64) (.pair (.int .i64) (.pair (.int .i64) (.int .i64)))))) (.int .i64)))] [.d (.int .i64)] s32 :: Gb1K43
theorem Gb1K44_ok : ∀ q ∈ Gb1K44, ItemOk Tryz.prog q := items_cons i32 Gb1K43_ok

/-! cassegrain cassegrainref01.Last -/
noncomputable def s29 : (List (Int × Int × Int × Int)) × Int → Option (Int) := fun p =>
  bif inBounds (wr ((p.1.length : Int) - 1)) p.1.length then
    some ((p.1.getD (wr ((p.1.length : Int) - 1)).toNat (0, 0, 0, 0)).1)
  else
    none
theorem i29 : ItemOk Tryz.prog (.fn 29 [.d (.agg (.pair (.slice (.agg (.pair (.int .i64) (.pair (.int .i64) (.pair (.int .i64) (.int .i64)))))) (.int .i64)))] [.d (.int .i64)] s29) := item_fnM md1 ext1 (U := 9) (n := 4) noSpecial mixed Gb1K44_ok (fun x => by kernel_rfl)
noncomputable def Gb1K45 : List Ev.Item := .fn 29 [.d (.agg (.pair (.slice (.agg (.pair (.int .i64) (.pair (.int .i64) (.pair (.int .i64) (.int .i64)))))) (.int .i64)))] [.d (.int .i64)] s29 :: Gb1K44
theorem Gb1K45_ok : ∀ q ∈ Gb1K45, ItemOk Tryz.prog q := items_cons i29 Gb1K44_ok

/-! cassegrain cassegrainref01.TimeErr -/
noncomputable def s68 : ((List (Int × Int × Int × Int)) × Int) × Int → Option (Int) := fun (p, time) =>
  optE (s32 p) (fun r1 =>
    optE (s29 p) (fun r2 =>
      optE (s28 (time, r1, r2)) (fun r3 =>
        bif !r3 then
          some (2)
        else
          some (0))
        (none))
      (none))
    (none)
theorem i68 : ItemOk Tryz.prog (.fn 68 [.d (.agg (.pair (.slice (.agg (.pair (.int .i64) (.pair (.int .i64) (.pair (.int .i64) (.int .i64)))))) (.int .i64))), .d (.int .i64)] [.d (.int .i64)] s68) := item_fnM md1 ext1 (U := 9) (n := 4) noSpecial mixed Gb1K45_ok (fun x => by kernel_rfl)
noncomputable def Gb1K46 : List Ev.Item := .fn 68 [.d (.agg (.pair (.slice (.agg (.pair (.int .i64) (.pair (.int .i64) (.pair (.int .i64) (.int .i64)))))) (.int .i64))), .d (.int .i64)] [.d (.int .i64)] s68 :: Gb1K45
theorem Gb1K46_ok : ∀ q ∈ Gb1K46, ItemOk Tryz.prog q := items_cons i68 Gb1K45_ok

/-! cassegrain cassegrainref01.TimesErr -/
noncomputable def s17 : ((List (Int × Int × Int × Int)) × Int) × ((List (Int × Int × Int × Int)) × Int) × Int → Option (Int) := fun (a, b, time) =>
  optE (s68 (a, time)) (fun r1 =>
    bif r1 != 0 then
      some (r1)
    else
      optE (s68 (b, time)) (fun r2 =>
        some (r2))
        (none))
    (none)
theorem i17 : ItemOk Tryz.prog (.fn 17 [.d (.agg (.pair (.slice (.agg (.pair (.int .i64) (.pair (.int .i64) (.pair (.int .i64) (.int .i64)))))) (.int .i64))), .d (.agg (.pair (.slice (.agg (.pair (.int .i64) (.pair (.int .i64) (.pair (.int .i64) (.int .i64)))))) (.int .i64))), .d (.int .i64)] [.d (.int .i64)] s17) := item_fnM md1 ext1 (U := 9) (n := 4) noSpecial mixed Gb1K46_ok (fun x => by kernel_rfl)
noncomputable def Gb1K47 : List Ev.Item := .fn 17 [.d (.agg (.pair (.slice (.agg (.pair (.int .i64) (.pair (.int .i64) (.pair (.int .i64) (.int .i64)))))) (.int .i64))), .d (.agg (.pair (.slice (.agg (.pair (.int .i64) (.pair (.int .i64) (.pair (.int .i64) (.int .i64)))))) (.int .i64))), .d (.int .i64)] [.d (.int .i64)] s17 :: Gb1K46
theorem Gb1K47_ok : ∀ q ∈ Gb1K47, ItemOk Tryz.prog q := items_cons i17 Gb1K46_ok

/-! cassegrain cassegrainref01.scaled -/
noncomputable def s121 : (Int × Int × Int) × Int → Option (Int × Int × Int) := fun (v, n) =>
  some ((wr (v.1 * n), wr (v.2.1 * n), wr (v.2.2 * n)))
theorem i121 : ItemOk Tryz.prog (.fn 121 [.d (.agg (.pair (.int .i64) (.pair (.int .i64) (.int .i64)))), .d (.int .i64)] [.d (.agg (.pair (.int .i64) (.pair (.int .i64) (.int .i64))))] s121) := item_fnM md1 ext1 (U := 9) (n := 4) noSpecial mixed Gb1K47_ok (fun x => by kernel_rfl)
noncomputable def Gb1K48 : List Ev.Item := .fn 121 [.d (.agg (.pair (.int .i64) (.pair (.int .i64) (.int .i64)))), .d (.int .i64)] [.d (.agg (.pair (.int .i64) (.pair (.int .i64) (.int .i64))))] s121 :: Gb1K47
theorem Gb1K48_ok : ∀ q ∈ Gb1K48, ItemOk Tryz.prog q := items_cons i121 Gb1K47_ok

/-! cassegrain cassegrainref01.plus -/
noncomputable def s120 : (Int × Int × Int) × (Int × Int × Int) → Option (Int × Int × Int) := fun (a, b) =>
  some ((wr (a.1 + b.1), wr (a.2.1 + b.2.1), wr (a.2.2 + b.2.2)))
theorem i120 : ItemOk Tryz.prog (.fn 120 [.d (.agg (.pair (.int .i64) (.pair (.int .i64) (.int .i64)))), .d (.agg (.pair (.int .i64) (.pair (.int .i64) (.int .i64))))] [.d (.agg (.pair (.int .i64) (.pair (.int .i64) (.int .i64))))] s120) := item_fnM md1 ext1 (U := 9) (n := 4) noSpecial mixed Gb1K48_ok (fun x => by kernel_rfl)
noncomputable def Gb1K49 : List Ev.Item := .fn 120 [.d (.agg (.pair (.int .i64) (.pair (.int .i64) (.int .i64)))), .d (.agg (.pair (.int .i64) (.pair (.int .i64) (.int .i64))))] [.d (.agg (.pair (.int .i64) (.pair (.int .i64) (.int .i64))))] s120 :: Gb1K48
theorem Gb1K49_ok : ∀ q ∈ Gb1K49, ItemOk Tryz.prog q := items_cons i120 Gb1K48_ok

/-! cassegrain cassegrainref01.pointAt -/
@[reducible] def T91_0 : Tmpl := ⟨79, [(2, .ref 2 0 0 0), (4, .ref 4 0 0 0)], [.val 1 (.int .i64), .val 5 (.int .i64), .cells 2 [.d (.pair (.slice (.agg (.pair (.int .i64) (.pair (.int .i64) (.pair (.int .i64) (.int .i64)))))) (.int .i64))], .cells 4 [.d (.pair (.pair (.int .i64) (.pair (.int .i64) (.int .i64))) (.int .i64))]]⟩
@[reducible] def X91_0 : List (Ex × Tmpl) := [(.ret, ⟨79, [(4, .ref 4 0 0 0)], [.cells 4 [.d (.pair (.pair (.int .i64) (.pair (.int .i64) (.int .i64))) (.int .i64))]]⟩), (.exit 0, ⟨79, [(4, .ref 4 0 0 0)], [.cells 4 [.d (.pair (.pair (.int .i64) (.pair (.int .i64) (.int .i64))) (.int .i64))]]⟩)]
/-- data: t1, t5, t2, t4; ends: ret: t4; exit 0: t4 -/
noncomputable def step91_0 : Int × Int × ((List (Int × Int × Int × Int)) × Int) × ((Int × Int × Int) × Int) → Option ((Int × Int × ((List (Int × Int × Int × Int)) × Int) × ((Int × Int × Int) × Int)) ⊕ ((((Int × Int × Int) × Int)) ⊕ (((Int × Int × Int) × Int)))) := fun (t1, t5, t2, t4) =>
  bif decide (t5 < (t2.1.length : Int)) then
    bif inBounds t5 t2.1.length then
      optE (s126 ((t2.1.getD t5.toNat (0, 0, 0, 0)).2, (0, 0, 0))) (fun r1 =>
        bif (t2.1.getD t5.toNat (0, 0, 0, 0)).1 == t1 then
          some (.inr (.inl (r1, 1)))
        else
          bif decide ((wr (t5 + 1)) < (t2.1.length : Int)) then
            bif inBounds (wr (t5 + 1)) t2.1.length then
              bif decide (t1 < (t2.1.getD (wr (t5 + 1)).toNat (0, 0, 0, 0)).1) then
                bif inBounds (wr (t5 + 1)) t2.1.length then
                  optE (s121 (r1, wr ((t2.1.getD (wr (t5 + 1)).toNat (0, 0, 0, 0)).1 - (t2.1.getD t5.toNat (0, 0, 0, 0)).1))) (fun r2 =>
                    optE (s126 ((t2.1.getD (wr (t5 + 1)).toNat (0, 0, 0, 0)).2, (t2.1.getD t5.toNat (0, 0, 0, 0)).2)) (fun r3 =>
                      optE (s121 (r3, wr (t1 - (t2.1.getD t5.toNat (0, 0, 0, 0)).1))) (fun r4 =>
                        optE (s120 (r2, r4)) (fun r5 =>
                          some (.inr (.inl (r5, wr ((t2.1.getD (wr (t5 + 1)).toNat (0, 0, 0, 0)).1 - (t2.1.getD t5.toNat (0, 0, 0, 0)).1)))))
                          (none))
                        (none))
                      (none))
                    (none)
                else
                  none
              else
                some (.inl (t1, wr (t5 + 1), t2, t4))
            else
              none
          else
            some (.inl (t1, wr (t5 + 1), t2, t4)))
        (none)
    else
      none
  else
    some (.inr (.inr t4))
theorem one91_0 : oneLoop Tryz.prog 91 0 = true := by kernel_rfl
theorem lp91_0 : ItemOk Tryz.prog (.loop 91 0 T91_0 X91_0 (loopVal step91_0)) := item_loopM md1 ext1 (U := 9) (n := 3) noSpecial mixed Gb1K49_ok one91_0 (fun x => by kernel_rfl)
noncomputable def Gb1K50 : List Ev.Item := .loop 91 0 T91_0 X91_0 (loopVal step91_0) :: Gb1K49
theorem Gb1K50_ok : ∀ q ∈ Gb1K50, ItemOk Tryz.prog q := items_cons lp91_0 Gb1K49_ok
noncomputable def s91 : ((List (Int × Int × Int × Int)) × Int) × Int → Option ((Int × Int × Int) × Int) := fun (a0, a1) =>
  optE (loopVal step91_0 (a1, 0, a0, ((0, 0, 0), 0))) (fun e1 =>
    sumE e1 (fun e2 =>
      some (e2)) (fun _ =>
      some (((0, 0, 0), 1))))
    (none)
theorem i91 : ItemOk Tryz.prog (.fn 91 [.d (.agg (.pair (.slice (.agg (.pair (.int .i64) (.pair (.int .i64) (.pair (.int .i64) (.int .i64)))))) (.int .i64))), .d (.int .i64)] [.d (.agg (.pair (.pair (.int .i64) (.pair (.int .i64) (.int .i64))) (.int .i64)))] s91) := item_fnM md1 ext1 (U := 9) (n := 4) noSpecial mixed Gb1K50_ok (fun x => by kernel_rfl)
noncomputable def Gb1K51 : List Ev.Item := .fn 91 [.d (.agg (.pair (.slice (.agg (.pair (.int .i64) (.pair (.int .i64) (.pair (.int .i64) (.int .i64)))))) (.int .i64))), .d (.int .i64)] [.d (.agg (.pair (.pair (.int .i64) (.pair (.int .i64) (.int .i64))) (.int .i64)))] s91 :: Gb1K50
theorem Gb1K51_ok : ∀ q ∈ Gb1K51, ItemOk Tryz.prog q := items_cons i91 Gb1K50_ok

/-! cassegrain cassegrainref01.between -/
noncomputable def s84 : ((List (Int × Int × Int × Int)) × Int) × ((List (Int × Int × Int × Int)) × Int) × Int × Int → Option ((Int × Int × Int) × Int) := fun (a, b, s, r0) =>
  optE (s91 (a, s)) (fun r1 =>
    optE (s91 (b, r0)) (fun r2 =>
      optE (s121 (r2.1, r1.2)) (fun r3 =>
        optE (s121 (r1.1, wr (-r2.2))) (fun r4 =>
          optE (s120 (r3, r4)) (fun r5 =>
            some ((r5, wr (r1.2 * r2.2))))
            (none))
          (none))
        (none))
      (none))
    (none)
theorem i84 : ItemOk Tryz.prog (.fn 84 [.d (.agg (.pair (.slice (.agg (.pair (.int .i64) (.pair (.int .i64) (.pair (.int .i64) (.int .i64)))))) (.int .i64))), .d (.agg (.pair (.slice (.agg (.pair (.int .i64) (.pair (.int .i64) (.pair (.int .i64) (.int .i64)))))) (.int .i64))), .d (.int .i64), .d (.int .i64)] [.d (.agg (.pair (.pair (.int .i64) (.pair (.int .i64) (.int .i64))) (.int .i64)))] s84) := item_fnM md1 ext1 (U := 9) (n := 4) noSpecial mixed Gb1K51_ok (fun x => by kernel_rfl)
noncomputable def Gb1K52 : List Ev.Item := .fn 84 [.d (.agg (.pair (.slice (.agg (.pair (.int .i64) (.pair (.int .i64) (.pair (.int .i64) (.int .i64)))))) (.int .i64))), .d (.agg (.pair (.slice (.agg (.pair (.int .i64) (.pair (.int .i64) (.pair (.int .i64) (.int .i64)))))) (.int .i64))), .d (.int .i64), .d (.int .i64)] [.d (.agg (.pair (.pair (.int .i64) (.pair (.int .i64) (.int .i64))) (.int .i64)))] s84 :: Gb1K51
theorem Gb1K52_ok : ∀ q ∈ Gb1K52, ItemOk Tryz.prog q := items_cons i84 Gb1K51_ok

/-! cassegrain cassegrainbase.trimmed -/
@[reducible] def T158_0 : Tmpl := ⟨21, [], [.val 0 (.slice (.int .i64)), .val 3 (.int .i64)]⟩
@[reducible] def X158_0 : List (Ex × Tmpl) := [(.exit 0, ⟨21, [], [.val 0 (.slice (.int .i64)), .val 3 (.int .i64)]⟩)]
/-- data: l, n; ends: exit 0: l, n -/
noncomputable def step158_0 : (List Int) × Int → Option (((List Int) × Int) ⊕ ((List Int) × Int)) := fun (l, n) =>
  bif decide (n > 0) then
    bif inBounds (wr (n - 1)) l.length then
      bif (l.getD (wr (n - 1)).toNat 0) == 0 then
        some (.inl (l, wr (n - 1)))
      else
        some (.inr (l, n))
    else
      none
  else
    some (.inr (l, n))
theorem one158_0 : oneLoop Tryz.prog 158 0 = true := by kernel_rfl
theorem lp158_0 : ItemOk Tryz.prog (.loop 158 0 T158_0 X158_0 (loopVal step158_0)) := item_loopM md1 ext1 (U := 9) (n := 3) noSpecial mixed Gb1K52_ok one158_0 (fun x => by kernel_rfl)
noncomputable def Gb1K53 : List Ev.Item := .loop 158 0 T158_0 X158_0 (loopVal step158_0) :: Gb1K52
theorem Gb1K53_ok : ∀ q ∈ Gb1K53, ItemOk Tryz.prog q := items_cons lp158_0 Gb1K52_ok
noncomputable def s158 : List Int → Option (List Int) := fun l =>
  optE (loopVal step158_0 (l, (l.length : Int))) (fun e1 =>
    bif (decide (0 ≤ e1.2)) && (decide (e1.2 ≤ (e1.1.length : Int))) then
      some (e1.1.take e1.2.toNat)
    else
      none)
    (none)
theorem i158 : ItemOk Tryz.prog (.fn 158 [.d (.slice (.int .i64))] [.d (.slice (.int .i64))] s158) := item_fnM md1 ext1 (U := 9) (n := 4) noSpecial mixed Gb1K53_ok (fun x => by kernel_rfl)
noncomputable def Gb1K54 : List Ev.Item := .fn 158 [.d (.slice (.int .i64))] [.d (.slice (.int .i64))] s158 :: Gb1K53
theorem Gb1K54_ok : ∀ q ∈ Gb1K54, ItemOk Tryz.prog q := items_cons i158 Gb1K53_ok

/-! cassegrain cassegrainbase.wideOf -/
noncomputable def s141 : Int × (List Int) → Option (Int × List Int) := fun (sign, l) =>
  optE (s158 l) (fun r1 =>
    bif (r1.length : Int) == 0 then
      some ((0, r1))
    else
      some ((sign, r1)))
    (none)
theorem i141 : ItemOk Tryz.prog (.fn 141 [.d (.int .i64), .d (.slice (.int .i64))] [.d (.agg (.pair (.int .i64) (.slice (.int .i64))))] s141) := item_fnM md1 ext1 (U := 9) (n := 4) noSpecial mixed Gb1K54_ok (fun x => by kernel_rfl)
noncomputable def Gb1K55 : List Ev.Item := .fn 141 [.d (.int .i64), .d (.slice (.int .i64))] [.d (.agg (.pair (.int .i64) (.slice (.int .i64))))] s141 :: Gb1K54
theorem Gb1K55_ok : ∀ q ∈ Gb1K55, ItemOk Tryz.prog q := items_cons i141 Gb1K54_ok

/-! cassegrain cassegrainbase.WideOf -/
@[reducible] def T108_0 : Tmpl := ⟨21, [(2, .ref 2 0 0 0)], [.val 0 (.int .i64), .val 3 (.int .i64), .own 4 15 3 (.int .i64), .cells 2 [.d (.pair (.int .i64) (.slice (.int .i64)))]]⟩
@[reducible] def X108_0 : List (Ex × Tmpl) := [(.exit 0, ⟨21, [(2, .ref 2 0 0 0)], [.val 3 (.int .i64), .own 4 15 3 (.int .i64), .cells 2 [.d (.pair (.int .i64) (.slice (.int .i64)))]]⟩)]
/-- data: n, sign, l, t2; ends: exit 0: sign, l, t2 -/
noncomputable def step108_0 : Int × Int × (List Int) × (Int × List Int) → Option ((Int × Int × (List Int) × (Int × List Int)) ⊕ (Int × (List Int) × (Int × List Int))) := fun (n, sign, l, t2) =>
  bif decide (n > 0) then
    bif room 8 (l.length + 1) then
      some (.inl (wr (Int.tdiv n 1000000000), sign, l ++ [Int.tmod n 1000000000], t2))
    else
      none
  else
    some (.inr (sign, l, t2))
theorem one108_0 : oneLoop Tryz.prog 108 0 = true := by kernel_rfl
theorem lp108_0 : ItemOk Tryz.prog (.loop 108 0 T108_0 X108_0 (loopVal step108_0)) := item_loopM md1 ext1 (U := 9) (n := 3) noSpecial mixed Gb1K55_ok one108_0 (fun x => by kernel_rfl)
noncomputable def Gb1K56 : List Ev.Item := .loop 108 0 T108_0 X108_0 (loopVal step108_0) :: Gb1K55
theorem Gb1K56_ok : ∀ q ∈ Gb1K56, ItemOk Tryz.prog q := items_cons lp108_0 Gb1K55_ok
noncomputable def s108 : Int → Option (Int × List Int) := fun n =>
  bif decide (n < 0) then
    optE (loopVal step108_0 (wr (-n), (-1), [], (0, []))) (fun e1 =>
      optE (s141 (e1.1, e1.2.1)) (fun r2 =>
        some (r2))
        (none))
      (none)
  else
    optE (loopVal step108_0 (n, 1, [], (0, []))) (fun e3 =>
      optE (s141 (e3.1, e3.2.1)) (fun r4 =>
        some (r4))
        (none))
      (none)
theorem i108 : ItemOk Tryz.prog (.fn 108 [.d (.int .i64)] [.d (.agg (.pair (.int .i64) (.slice (.int .i64))))] s108) := item_fnM md1 ext1 (U := 9) (n := 4) noSpecial mixed Gb1K56_ok (fun x => by kernel_rfl)
noncomputable def Gb1K57 : List Ev.Item := .fn 108 [.d (.int .i64)] [.d (.agg (.pair (.int .i64) (.slice (.int .i64))))] s108 :: Gb1K56
theorem Gb1K57_ok : ∀ q ∈ Gb1K57, ItemOk Tryz.prog q := items_cons i108 Gb1K56_ok

/-! cassegrain cassegrainbase.Size -/
noncomputable def s93 : Int → Option (Int) := fun n =>
  some (mx n (wr (-n)))
theorem i93 : ItemOk Tryz.prog (.fn 93 [.d (.int .i64)] [.d (.int .i64)] s93) := item_fnM md1 ext1 (U := 9) (n := 4) noSpecial mixed Gb1K57_ok (fun x => by kernel_rfl)
noncomputable def Gb1K58 : List Ev.Item := .fn 93 [.d (.int .i64)] [.d (.int .i64)] s93 :: Gb1K57
theorem Gb1K58_ok : ∀ q ∈ Gb1K58, ItemOk Tryz.prog q := items_cons i93 Gb1K57_ok

/-! cassegrain cassegrainbase.WideMul -/
@[reducible] def T113_2 : Tmpl := ⟨86, [(2, .ref 2 0 0 0), (3, .ref 3 0 0 0), (4, .ref 4 0 0 0)], [.own 5 18 3 (.int .i64), .val 6 (.int .i64), .val 7 (.int .i64), .val 8 (.int .i64), .cells 2 [.d (.pair (.int .i64) (.slice (.int .i64)))], .cells 3 [.d (.pair (.int .i64) (.slice (.int .i64)))], .cells 4 [.d (.pair (.int .i64) (.slice (.int .i64)))]]⟩
@[reducible] def X113_2 : List (Ex × Tmpl) := [(.exit 2, ⟨86, [(2, .ref 2 0 0 0), (3, .ref 3 0 0 0), (4, .ref 4 0 0 0)], [.own 5 18 3 (.int .i64), .val 6 (.int .i64), .val 7 (.int .i64), .cells 2 [.d (.pair (.int .i64) (.slice (.int .i64)))], .cells 3 [.d (.pair (.int .i64) (.slice (.int .i64)))], .cells 4 [.d (.pair (.int .i64) (.slice (.int .i64)))]]⟩)]
/-- data: t5, t6, t7, t8, t2, t3, t4; ends: exit 2: t5, t6, t7, t2, t3, t4 -/
noncomputable def step113_2 : (List Int) × Int × Int × Int × (Int × List Int) × (Int × List Int) × (Int × List Int) → Option (((List Int) × Int × Int × Int × (Int × List Int) × (Int × List Int) × (Int × List Int)) ⊕ ((List Int) × Int × Int × (Int × List Int) × (Int × List Int) × (Int × List Int))) := fun (t5, t6, t7, t8, t2, t3, t4) =>
  bif decide (t8 < (t3.2.length : Int)) then
    bif inBounds (wr (t6 + t8)) t5.length then
      bif inBounds t6 t2.2.length then
        bif inBounds t8 t3.2.length then
          bif inBounds (wr (t6 + t8)) t5.length then
            some (.inl (t5.set (wr (t6 + t8)).toNat (Int.tmod (wr ((wr ((t5.getD (wr (t6 + t8)).toNat 0) + (wr ((t2.2.getD t6.toNat 0) * (t3.2.getD t8.toNat 0))))) + t7)) 1000000000), t6, wr (Int.tdiv (wr ((wr ((t5.getD (wr (t6 + t8)).toNat 0) + (wr ((t2.2.getD t6.toNat 0) * (t3.2.getD t8.toNat 0))))) + t7)) 1000000000), wr (t8 + 1), t2, t3, t4))
          else
            none
        else
          none
      else
        none
    else
      none
  else
    some (.inr (t5, t6, t7, t2, t3, t4))
theorem one113_2 : oneLoop Tryz.prog 113 2 = true := by kernel_rfl
theorem lp113_2 : ItemOk Tryz.prog (.loop 113 2 T113_2 X113_2 (loopVal step113_2)) := item_loopM md1 ext1 (U := 9) (n := 3) noSpecial mixed Gb1K58_ok one113_2 (fun x => by kernel_rfl)
noncomputable def Gb1K59 : List Ev.Item := .loop 113 2 T113_2 X113_2 (loopVal step113_2) :: Gb1K58
theorem Gb1K59_ok : ∀ q ∈ Gb1K59, ItemOk Tryz.prog q := items_cons lp113_2 Gb1K58_ok
@[reducible] def T113_0 : Tmpl := ⟨86, [(2, .ref 2 0 0 0), (3, .ref 3 0 0 0), (4, .ref 4 0 0 0)], [.own 5 18 3 (.int .i64), .val 6 (.int .i64), .cells 2 [.d (.pair (.int .i64) (.slice (.int .i64)))], .cells 3 [.d (.pair (.int .i64) (.slice (.int .i64)))], .cells 4 [.d (.pair (.int .i64) (.slice (.int .i64)))]]⟩
@[reducible] def X113_0 : List (Ex × Tmpl) := [(.exit 0, ⟨86, [(2, .ref 2 0 0 0), (3, .ref 3 0 0 0), (4, .ref 4 0 0 0)], [.own 5 18 3 (.int .i64), .cells 2 [.d (.pair (.int .i64) (.slice (.int .i64)))], .cells 3 [.d (.pair (.int .i64) (.slice (.int .i64)))], .cells 4 [.d (.pair (.int .i64) (.slice (.int .i64)))]]⟩)]
/-- data: t5, t6, t2, t3, t4; ends: exit 0: t5, t2, t3, t4 -/
noncomputable def step113_0 : (List Int) × Int × (Int × List Int) × (Int × List Int) × (Int × List Int) → Option (((List Int) × Int × (Int × List Int) × (Int × List Int) × (Int × List Int)) ⊕ ((List Int) × (Int × List Int) × (Int × List Int) × (Int × List Int))) := fun (t5, t6, t2, t3, t4) =>
  bif decide (t6 < (t2.2.length : Int)) then
    optE (loopVal step113_2 (t5, t6, 0, 0, t2, t3, t4)) (fun e1 =>
      bif inBounds (wr (e1.2.1 + (e1.2.2.2.2.1.2.length : Int))) e1.1.length then
        bif inBounds (wr (e1.2.1 + (e1.2.2.2.2.1.2.length : Int))) e1.1.length then
          some (.inl (e1.1.set (wr (e1.2.1 + (e1.2.2.2.2.1.2.length : Int))).toNat (wr ((e1.1.getD (wr (e1.2.1 + (e1.2.2.2.2.1.2.length : Int))).toNat 0) + e1.2.2.1)), wr (e1.2.1 + 1), e1.2.2.2.1, e1.2.2.2.2.1, e1.2.2.2.2.2))
        else
          none
      else
        none)
      (none)
  else
    some (.inr (t5, t2, t3, t4))
theorem one113_0 : oneLoop Tryz.prog 113 0 = true := by kernel_rfl
theorem lp113_0 : ItemOk Tryz.prog (.loop 113 0 T113_0 X113_0 (loopVal step113_0)) := item_loopM md1 ext1 (U := 9) (n := 3) noSpecial mixed Gb1K59_ok one113_0 (fun x => by kernel_rfl)
noncomputable def Gb1K60 : List Ev.Item := .loop 113 0 T113_0 X113_0 (loopVal step113_0) :: Gb1K59
theorem Gb1K60_ok : ∀ q ∈ Gb1K60, ItemOk Tryz.prog q := items_cons lp113_0 Gb1K59_ok
noncomputable def s113 : (Int × List Int) × (Int × List Int) → Option (Int × List Int) := fun (a0, a1) =>
  bif (decide (0 ≤ (wr ((wr ((a0.2.length : Int) + (a1.2.length : Int))) + 1)))) && ((decide ((wr ((wr ((a0.2.length : Int) + (a1.2.length : Int))) + 1)) = (wr ((wr ((a0.2.length : Int) + (a1.2.length : Int))) + 1)))) && (room 8 (wr ((wr ((a0.2.length : Int) + (a1.2.length : Int))) + 1)).toNat)) then
    optE (loopVal step113_0 (List.replicate (wr ((wr ((a0.2.length : Int) + (a1.2.length : Int))) + 1)).toNat 0, 0, a0, a1, (0, []))) (fun e1 =>
      optE (s141 (wr (e1.2.1.1 * e1.2.2.1.1), e1.1)) (fun r2 =>
        some (r2))
        (none))
      (none)
  else
    none
theorem i113 : ItemOk Tryz.prog (.fn 113 [.d (.agg (.pair (.int .i64) (.slice (.int .i64)))), .d (.agg (.pair (.int .i64) (.slice (.int .i64))))] [.d (.agg (.pair (.int .i64) (.slice (.int .i64))))] s113) := item_fnM md1 ext1 (U := 9) (n := 4) noSpecial mixed Gb1K60_ok (fun x => by kernel_rfl)
noncomputable def Gb1K61 : List Ev.Item := .fn 113 [.d (.agg (.pair (.int .i64) (.slice (.int .i64)))), .d (.agg (.pair (.int .i64) (.slice (.int .i64))))] [.d (.agg (.pair (.int .i64) (.slice (.int .i64))))] s113 :: Gb1K60
theorem Gb1K61_ok : ∀ q ∈ Gb1K61, ItemOk Tryz.prog q := items_cons i113 Gb1K60_ok

/-! cassegrain cassegrainref01.square -/
noncomputable def s78 : Int → Option (Int × List Int) := fun n =>
  optE (s108 n) (fun r1 =>
    optE (s108 n) (fun r2 =>
      optE (s113 (r1, r2)) (fun r3 =>
        some (r3))
        (none))
      (none))
    (none)
theorem i78 : ItemOk Tryz.prog (.fn 78 [.d (.int .i64)] [.d (.agg (.pair (.int .i64) (.slice (.int .i64))))] s78) := item_fnM md1 ext1 (U := 9) (n := 4) noSpecial mixed Gb1K61_ok (fun x => by kernel_rfl)
noncomputable def Gb1K62 : List Ev.Item := .fn 78 [.d (.int .i64)] [.d (.agg (.pair (.int .i64) (.slice (.int .i64))))] s78 :: Gb1K61
theorem Gb1K62_ok : ∀ q ∈ Gb1K62, ItemOk Tryz.prog q := items_cons i78 Gb1K61_ok

/-! cassegrain cassegrainbase.digit -/
noncomputable def s159 : (List Int) × Int → Option (Int) := fun (l, i) =>
  bif decide (i < (l.length : Int)) then
    bif inBounds i l.length then
      some (l.getD i.toNat 0)
    else
      none
  else
    some (0)
theorem i159 : ItemOk Tryz.prog (.fn 159 [.d (.slice (.int .i64)), .d (.int .i64)] [.d (.int .i64)] s159) := item_fnM md1 ext1 (U := 9) (n := 4) noSpecial mixed Gb1K62_ok (fun x => by kernel_rfl)
noncomputable def Gb1K63 : List Ev.Item := .fn 159 [.d (.slice (.int .i64)), .d (.int .i64)] [.d (.int .i64)] s159 :: Gb1K62
theorem Gb1K63_ok : ∀ q ∈ Gb1K63, ItemOk Tryz.prog q := items_cons i159 Gb1K62_ok

/-! cassegrain cassegrainbase.addDigits -/
@[reducible] def T142_0 : Tmpl := ⟨42, [], [.val 0 (.slice (.int .i64)), .val 1 (.slice (.int .i64)), .own 5 38 3 (.int .i64), .val 6 (.int .i64), .val 7 (.int .i64)]⟩
@[reducible] def X142_0 : List (Ex × Tmpl) := [(.exit 0, ⟨42, [], [.own 5 38 3 (.int .i64)]⟩)]
/-- data: a, b, out, carry, i; ends: exit 0: out -/
noncomputable def step142_0 : (List Int) × (List Int) × (List Int) × Int × Int → Option (((List Int) × (List Int) × (List Int) × Int × Int) ⊕ (List Int)) := fun (a, b, out, carry, i) =>
  bif decide (i < (a.length : Int)) then
    optE (s159 (a, i)) (fun r1 =>
      optE (s159 (b, i)) (fun r2 =>
        bif room 8 (out.length + 1) then
          some (.inl (a, b, out ++ [Int.tmod (wr ((wr (r1 + r2)) + carry)) 1000000000], wr (Int.tdiv (wr ((wr (r1 + r2)) + carry)) 1000000000), wr (i + 1)))
        else
          none)
        (none))
      (none)
  else
    bif decide (i < (b.length : Int)) then
      optE (s159 (a, i)) (fun r3 =>
        optE (s159 (b, i)) (fun r4 =>
          bif room 8 (out.length + 1) then
            some (.inl (a, b, out ++ [Int.tmod (wr ((wr (r3 + r4)) + carry)) 1000000000], wr (Int.tdiv (wr ((wr (r3 + r4)) + carry)) 1000000000), wr (i + 1)))
          else
            none)
          (none))
        (none)
    else
      bif decide (carry > 0) then
        optE (s159 (a, i)) (fun r5 =>
          optE (s159 (b, i)) (fun r6 =>
            bif room 8 (out.length + 1) then
              some (.inl (a, b, out ++ [Int.tmod (wr ((wr (r5 + r6)) + carry)) 1000000000], wr (Int.tdiv (wr ((wr (r5 + r6)) + carry)) 1000000000), wr (i + 1)))
            else
              none)
            (none))
          (none)
      else
        some (.inr out)
theorem one142_0 : oneLoop Tryz.prog 142 0 = true := by kernel_rfl
theorem lp142_0 : ItemOk Tryz.prog (.loop 142 0 T142_0 X142_0 (loopVal step142_0)) := item_loopM md1 ext1 (U := 9) (n := 3) noSpecial mixed Gb1K63_ok one142_0 (fun x => by kernel_rfl)
noncomputable def Gb1K64 : List Ev.Item := .loop 142 0 T142_0 X142_0 (loopVal step142_0) :: Gb1K63
theorem Gb1K64_ok : ∀ q ∈ Gb1K64, ItemOk Tryz.prog q := items_cons lp142_0 Gb1K63_ok
noncomputable def s142 : (List Int) × (List Int) → Option (List Int) := fun (a, b) =>
  optE (loopVal step142_0 (a, b, [], 0, 0)) (fun e1 =>
    some (e1))
    (none)
theorem i142 : ItemOk Tryz.prog (.fn 142 [.d (.slice (.int .i64)), .d (.slice (.int .i64))] [.own 3 (.int .i64)] s142) := item_fnM md1 ext1 (U := 9) (n := 4) noSpecial mixed Gb1K64_ok (fun x => by kernel_rfl)
noncomputable def Gb1K65 : List Ev.Item := .fn 142 [.d (.slice (.int .i64)), .d (.slice (.int .i64))] [.own 3 (.int .i64)] s142 :: Gb1K64
theorem Gb1K65_ok : ∀ q ∈ Gb1K65, ItemOk Tryz.prog q := items_cons i142 Gb1K64_ok

/-! cassegrain cassegrainbase.cmpDigits -/
@[reducible] def T143_0 : Tmpl := ⟨41, [], [.val 0 (.slice (.int .i64)), .val 1 (.slice (.int .i64)), .val 5 (.int .i64)]⟩
@[reducible] def X143_0 : List (Ex × Tmpl) := [(.ret, ⟨41, [], [.val 4 (.int .i64)]⟩), (.exit 0, ⟨41, [], []⟩)]
/-- data: a, b, i; ends: ret: t4; exit 0:  -/
noncomputable def step143_0 : (List Int) × (List Int) × Int → Option (((List Int) × (List Int) × Int) ⊕ ((Int) ⊕ (Unit))) := fun (a, b, i) =>
  bif decide (i ≥ 0) then
    bif inBounds i a.length then
      bif inBounds i b.length then
        bif decide ((a.getD i.toNat 0) < (b.getD i.toNat 0)) then
          some (.inr (.inl (-1)))
        else
          bif inBounds i a.length then
            bif inBounds i b.length then
              bif decide ((a.getD i.toNat 0) > (b.getD i.toNat 0)) then
                some (.inr (.inl 1))
              else
                some (.inl (a, b, wr (i - 1)))
            else
              none
          else
            none
      else
        none
    else
      none
  else
    some (.inr (.inr ()))
theorem one143_0 : oneLoop Tryz.prog 143 0 = true := by kernel_rfl
theorem lp143_0 : ItemOk Tryz.prog (.loop 143 0 T143_0 X143_0 (loopVal step143_0)) := item_loopM md1 ext1 (U := 9) (n := 3) noSpecial mixed Gb1K65_ok one143_0 (fun x => by kernel_rfl)
noncomputable def Gb1K66 : List Ev.Item := .loop 143 0 T143_0 X143_0 (loopVal step143_0) :: Gb1K65
theorem Gb1K66_ok : ∀ q ∈ Gb1K66, ItemOk Tryz.prog q := items_cons lp143_0 Gb1K65_ok
noncomputable def s143 : (List Int) × (List Int) → Option (Int) := fun (a, b) =>
  bif (a.length : Int) != (b.length : Int) then
    bif decide ((a.length : Int) < (b.length : Int)) then
      some ((-1))
    else
      some (1)
  else
    optE (loopVal step143_0 (a, b, wr ((a.length : Int) - 1))) (fun e1 =>
      sumE e1 (fun e2 =>
        some (e2)) (fun _ =>
        some (0)))
      (none)
theorem i143 : ItemOk Tryz.prog (.fn 143 [.d (.slice (.int .i64)), .d (.slice (.int .i64))] [.d (.int .i64)] s143) := item_fnM md1 ext1 (U := 9) (n := 4) noSpecial mixed Gb1K66_ok (fun x => by kernel_rfl)
noncomputable def Gb1K67 : List Ev.Item := .fn 143 [.d (.slice (.int .i64)), .d (.slice (.int .i64))] [.d (.int .i64)] s143 :: Gb1K66
theorem Gb1K67_ok : ∀ q ∈ Gb1K67, ItemOk Tryz.prog q := items_cons i143 Gb1K66_ok

/-! cassegrain cassegrainbase.subDigits -/
@[reducible] def T144_0 : Tmpl := ⟨35, [], [.val 0 (.slice (.int .i64)), .val 1 (.slice (.int .i64)), .own 5 32 3 (.int .i64), .val 6 (.int .i64), .val 7 (.int .i64)]⟩
@[reducible] def X144_0 : List (Ex × Tmpl) := [(.exit 0, ⟨35, [], [.own 5 32 3 (.int .i64)]⟩)]
/-- data: a, b, out, borrow, i; ends: exit 0: out -/
noncomputable def step144_0 : (List Int) × (List Int) × (List Int) × Int × Int → Option (((List Int) × (List Int) × (List Int) × Int × Int) ⊕ (List Int)) := fun (a, b, out, borrow, i) =>
  bif decide (i < (a.length : Int)) then
    bif inBounds i a.length then
      optE (s159 (b, i)) (fun r1 =>
        bif decide ((wr ((wr ((a.getD i.toNat 0) - r1)) - borrow)) < 0) then
          bif room 8 (out.length + 1) then
            some (.inl (a, b, out ++ [wr ((wr ((wr ((a.getD i.toNat 0) - r1)) - borrow)) + 1000000000)], 1, wr (i + 1)))
          else
            none
        else
          bif room 8 (out.length + 1) then
            some (.inl (a, b, out ++ [wr ((wr ((a.getD i.toNat 0) - r1)) - borrow)], 0, wr (i + 1)))
          else
            none)
        (none)
    else
      none
  else
    some (.inr out)
theorem one144_0 : oneLoop Tryz.prog 144 0 = true := by kernel_rfl
theorem lp144_0 : ItemOk Tryz.prog (.loop 144 0 T144_0 X144_0 (loopVal step144_0)) := item_loopM md1 ext1 (U := 9) (n := 3) noSpecial mixed Gb1K67_ok one144_0 (fun x => by kernel_rfl)
noncomputable def Gb1K68 : List Ev.Item := .loop 144 0 T144_0 X144_0 (loopVal step144_0) :: Gb1K67
theorem Gb1K68_ok : ∀ q ∈ Gb1K68, ItemOk Tryz.prog q := items_cons lp144_0 Gb1K67_ok
noncomputable def s144 : (List Int) × (List Int) → Option (List Int) := fun (a, b) =>
  optE (loopVal step144_0 (a, b, [], 0, 0)) (fun e1 =>
    optE (s158 e1) (fun r2 =>
      some (r2))
      (none))
    (none)
theorem i144 : ItemOk Tryz.prog (.fn 144 [.d (.slice (.int .i64)), .d (.slice (.int .i64))] [.d (.slice (.int .i64))] s144) := item_fnM md1 ext1 (U := 9) (n := 4) noSpecial mixed Gb1K68_ok (fun x => by kernel_rfl)
noncomputable def Gb1K69 : List Ev.Item := .fn 144 [.d (.slice (.int .i64)), .d (.slice (.int .i64))] [.d (.slice (.int .i64))] s144 :: Gb1K68
theorem Gb1K69_ok : ∀ q ∈ Gb1K69, ItemOk Tryz.prog q := items_cons i144 Gb1K68_ok

/-! cassegrain cassegrainbase.WideAdd -/
noncomputable def s109 : (Int × List Int) × (Int × List Int) → Option (Int × List Int) := fun (a, b) =>
  bif a.1 == 0 then
    some (b)
  else
    bif b.1 == 0 then
      some (a)
    else
      bif a.1 == b.1 then
        optE (s142 (a.2, b.2)) (fun r1 =>
          optE (s141 (a.1, r1)) (fun r2 =>
            some (r2))
            (none))
          (none)
      else
        optE (s143 (a.2, b.2)) (fun r3 =>
          bif r3 == 0 then
            some ((0, []))
          else
            bif decide (r3 > 0) then
              optE (s144 (a.2, b.2)) (fun r4 =>
                optE (s141 (a.1, r4)) (fun r5 =>
                  some (r5))
                  (none))
                (none)
            else
              optE (s144 (b.2, a.2)) (fun r6 =>
                optE (s141 (b.1, r6)) (fun r7 =>
                  some (r7))
                  (none))
                (none))
          (none)
theorem i109 : ItemOk Tryz.prog (.fn 109 [.d (.agg (.pair (.int .i64) (.slice (.int .i64)))), .d (.agg (.pair (.int .i64) (.slice (.int .i64))))] [.d (.agg (.pair (.int .i64) (.slice (.int .i64))))] s109) := item_fnM md1 ext1 (U := 9) (n := 4) noSpecial mixed Gb1K69_ok (fun x => by kernel_rfl)
noncomputable def Gb1K70 : List Ev.Item := .fn 109 [.d (.agg (.pair (.int .i64) (.slice (.int .i64)))), .d (.agg (.pair (.int .i64) (.slice (.int .i64))))] [.d (.agg (.pair (.int .i64) (.slice (.int .i64))))] s109 :: Gb1K69
theorem Gb1K70_ok : ∀ q ∈ Gb1K70, ItemOk Tryz.prog q := items_cons i109 Gb1K69_ok

/-! cassegrain cassegrainref01.Squares -/
@[reducible] def T69_0 : Tmpl := ⟨69, [(8, .ref 8 0 0 0), (9, .ref 9 0 0 0), (11, .ref 11 0 0 0), (13, .ref 13 0 0 0), (14, .ref 14 0 0 0)], [.val 12 (.int .i64), .own 15 42 3 (.int .i64), .val 16 (.int .i64), .cells 8 [.d (.pair (.int .i64) (.slice (.int .i64)))], .cells 9 [.d (.pair (.int .i64) (.slice (.int .i64)))], .cells 11 [.d (.pair (.pair (.int .i64) (.pair (.int .i64) (.int .i64))) (.int .i64))], .cells 13 [.d (.pair (.int .i64) (.slice (.int .i64)))], .cells 14 [.d (.pair (.int .i64) (.slice (.int .i64)))]]⟩
@[reducible] def X69_0 : List (Ex × Tmpl) := [(.exit 0, ⟨69, [(8, .ref 8 0 0 0), (9, .ref 9 0 0 0), (11, .ref 11 0 0 0), (13, .ref 13 0 0 0), (14, .ref 14 0 0 0)], [.cells 8 [.d (.pair (.int .i64) (.slice (.int .i64)))], .cells 9 [.d (.pair (.int .i64) (.slice (.int .i64)))], .cells 11 [.d (.pair (.pair (.int .i64) (.pair (.int .i64) (.int .i64))) (.int .i64))], .cells 13 [.d (.pair (.int .i64) (.slice (.int .i64)))], .cells 14 [.d (.pair (.int .i64) (.slice (.int .i64)))]]⟩)]
/-- data: t12, t15, t16, t8, t9, t11, t13, t14; ends: exit 0: t8, t9, t11, t13, t14 -/
noncomputable def step69_0 : Int × (List Int) × Int × (Int × List Int) × (Int × List Int) × ((Int × Int × Int) × Int) × (Int × List Int) × (Int × List Int) → Option ((Int × (List Int) × Int × (Int × List Int) × (Int × List Int) × ((Int × Int × Int) × Int) × (Int × List Int) × (Int × List Int)) ⊕ ((Int × List Int) × (Int × List Int) × ((Int × Int × Int) × Int) × (Int × List Int) × (Int × List Int))) := fun (t12, t15, t16, t8, t9, t11, t13, t14) =>
  bif decide (t16 < 3) then
    bif inBounds t16 t15.length then
      optE (s93 (t15.getD t16.toNat 0)) (fun r4 =>
        optE (s78 (mx 0 (wr (r4 - t12)))) (fun r5 =>
          optE (s109 (t13, r5)) (fun r6 =>
            optE (s78 (wr (r4 + t12))) (fun r7 =>
              optE (s109 (t14, r7)) (fun r8 =>
                some (.inl (t12, t15, wr (t16 + 1), t8, t9, t11, r6, r8)))
                (none))
              (none))
            (none))
          (none))
        (none)
    else
      none
  else
    some (.inr (t8, t9, t11, t13, t14))
theorem one69_0 : oneLoop Tryz.prog 69 0 = true := by kernel_rfl
theorem lp69_0 : ItemOk Tryz.prog (.loop 69 0 T69_0 X69_0 (loopVal step69_0)) := item_loopM md1 ext1 (U := 9) (n := 3) noSpecial mixed Gb1K70_ok one69_0 (fun x => by kernel_rfl)
noncomputable def Gb1K71 : List Ev.Item := .loop 69 0 T69_0 X69_0 (loopVal step69_0) :: Gb1K70
theorem Gb1K71_ok : ∀ q ∈ Gb1K71, ItemOk Tryz.prog q := items_cons lp69_0 Gb1K70_ok
noncomputable def s69 : ((List (Int × Int × Int × Int)) × Int) × ((List (Int × Int × Int × Int)) × Int) × Int × Int → Option ((Int × List Int) × (Int × List Int) × Int) := fun (a0, a1, a2, a3) =>
  optE (s84 (a0, a1, a2, a3)) (fun r1 =>
    optE (s108 0) (fun r2 =>
      optE (s108 0) (fun r3 =>
        optE (loopVal step69_0 (wr ((wr (a0.2 + a1.2)) * r1.2), [r1.1.1, r1.1.2.1, r1.1.2.2], 0, (0, []), (0, []), r1, r2, r3)) (fun e4 =>
          some ((e4.2.2.2.1, e4.2.2.2.2, e4.2.2.1.2)))
          (none))
        (none))
      (none))
    (none)
theorem i69 : ItemOk Tryz.prog (.fn 69 [.d (.agg (.pair (.slice (.agg (.pair (.int .i64) (.pair (.int .i64) (.pair (.int .i64) (.int .i64)))))) (.int .i64))), .d (.agg (.pair (.slice (.agg (.pair (.int .i64) (.pair (.int .i64) (.pair (.int .i64) (.int .i64)))))) (.int .i64))), .d (.int .i64), .d (.int .i64)] [.d (.agg (.pair (.int .i64) (.slice (.int .i64)))), .d (.agg (.pair (.int .i64) (.slice (.int .i64)))), .d (.int .i64)] s69) := item_fnM md1 ext1 (U := 9) (n := 4) noSpecial mixed Gb1K71_ok (fun x => by kernel_rfl)
noncomputable def Gb1K72 : List Ev.Item := .fn 69 [.d (.agg (.pair (.slice (.agg (.pair (.int .i64) (.pair (.int .i64) (.pair (.int .i64) (.int .i64)))))) (.int .i64))), .d (.agg (.pair (.slice (.agg (.pair (.int .i64) (.pair (.int .i64) (.pair (.int .i64) (.int .i64)))))) (.int .i64))), .d (.int .i64), .d (.int .i64)] [.d (.agg (.pair (.int .i64) (.slice (.int .i64)))), .d (.agg (.pair (.int .i64) (.slice (.int .i64)))), .d (.int .i64)] s69 :: Gb1K71
theorem Gb1K72_ok : ∀ q ∈ Gb1K72, ItemOk Tryz.prog q := items_cons i69 Gb1K71_ok

/-! cassegrain cassegrainbase.WideNeg -/
noncomputable def s145 : Int × List Int → Option (Int × List Int) := fun a =>
  some ((wr (-a.1), a.2))
theorem i145 : ItemOk Tryz.prog (.fn 145 [.d (.agg (.pair (.int .i64) (.slice (.int .i64))))] [.d (.agg (.pair (.int .i64) (.slice (.int .i64))))] s145) := item_fnM md1 ext1 (U := 9) (n := 4) noSpecial mixed Gb1K72_ok (fun x => by kernel_rfl)
noncomputable def Gb1K73 : List Ev.Item := .fn 145 [.d (.agg (.pair (.int .i64) (.slice (.int .i64))))] [.d (.agg (.pair (.int .i64) (.slice (.int .i64))))] s145 :: Gb1K72
theorem Gb1K73_ok : ∀ q ∈ Gb1K73, ItemOk Tryz.prog q := items_cons i145 Gb1K72_ok

/-! cassegrain cassegrainbase.WideSub -/
noncomputable def s112 : (Int × List Int) × (Int × List Int) → Option (Int × List Int) := fun (a, b) =>
  optE (s145 b) (fun r1 =>
    optE (s109 (a, r1)) (fun r2 =>
      some (r2))
      (none))
    (none)
theorem i112 : ItemOk Tryz.prog (.fn 112 [.d (.agg (.pair (.int .i64) (.slice (.int .i64)))), .d (.agg (.pair (.int .i64) (.slice (.int .i64))))] [.d (.agg (.pair (.int .i64) (.slice (.int .i64))))] s112) := item_fnM md1 ext1 (U := 9) (n := 4) noSpecial mixed Gb1K73_ok (fun x => by kernel_rfl)
noncomputable def Gb1K74 : List Ev.Item := .fn 112 [.d (.agg (.pair (.int .i64) (.slice (.int .i64)))), .d (.agg (.pair (.int .i64) (.slice (.int .i64))))] [.d (.agg (.pair (.int .i64) (.slice (.int .i64))))] s112 :: Gb1K73
theorem Gb1K74_ok : ∀ q ∈ Gb1K74, ItemOk Tryz.prog q := items_cons i112 Gb1K73_ok

/-! cassegrain cassegrainbase.WideCmp -/
noncomputable def s77 : (Int × List Int) × (Int × List Int) → Option (Int) := fun (a, b) =>
  optE (s112 (a, b)) (fun r1 =>
    some (r1.1))
    (none)
theorem i77 : ItemOk Tryz.prog (.fn 77 [.d (.agg (.pair (.int .i64) (.slice (.int .i64)))), .d (.agg (.pair (.int .i64) (.slice (.int .i64))))] [.d (.int .i64)] s77) := item_fnM md1 ext1 (U := 9) (n := 4) noSpecial mixed Gb1K74_ok (fun x => by kernel_rfl)
noncomputable def Gb1K75 : List Ev.Item := .fn 77 [.d (.agg (.pair (.int .i64) (.slice (.int .i64)))), .d (.agg (.pair (.int .i64) (.slice (.int .i64))))] [.d (.int .i64)] s77 :: Gb1K74
theorem Gb1K75_ok : ∀ q ∈ Gb1K75, ItemOk Tryz.prog q := items_cons i77 Gb1K74_ok

/-! cassegrain cassegrainref01.rootOf -/
@[reducible] def T70_0 : Tmpl := ⟨35, [(2, .ref 2 0 0 0)], [.val 1 (.int .i64), .val 6 (.int .i64), .val 7 (.int .i64), .cells 2 [.d (.pair (.int .i64) (.slice (.int .i64)))]]⟩
@[reducible] def X70_0 : List (Ex × Tmpl) := [(.exit 0, ⟨35, [(2, .ref 2 0 0 0)], [.val 1 (.int .i64), .val 6 (.int .i64), .cells 2 [.d (.pair (.int .i64) (.slice (.int .i64)))]]⟩)]
/-- data: den, lo, hi, n; ends: exit 0: den, lo, n -/
noncomputable def step70_0 : Int × Int × Int × (Int × List Int) → Option ((Int × Int × Int × (Int × List Int)) ⊕ (Int × Int × (Int × List Int))) := fun (den, lo, hi, n) =>
  bif decide (lo < hi) then
    optE (s78 (wr ((wr (Int.tdiv (wr ((wr (lo + hi)) + 1)) 2)) * den))) (fun r1 =>
      optE (s77 (r1, n)) (fun r2 =>
        bif decide (r2 ≤ 0) then
          some (.inl (den, wr (Int.tdiv (wr ((wr (lo + hi)) + 1)) 2), hi, n))
        else
          some (.inl (den, lo, wr ((wr (Int.tdiv (wr ((wr (lo + hi)) + 1)) 2)) - 1), n)))
        (none))
      (none)
  else
    some (.inr (den, lo, n))
theorem one70_0 : oneLoop Tryz.prog 70 0 = true := by kernel_rfl
theorem lp70_0 : ItemOk Tryz.prog (.loop 70 0 T70_0 X70_0 (loopVal step70_0)) := item_loopM md1 ext1 (U := 9) (n := 3) noSpecial mixed Gb1K75_ok one70_0 (fun x => by kernel_rfl)
noncomputable def Gb1K76 : List Ev.Item := .loop 70 0 T70_0 X70_0 (loopVal step70_0) :: Gb1K75
theorem Gb1K76_ok : ∀ q ∈ Gb1K76, ItemOk Tryz.prog q := items_cons lp70_0 Gb1K75_ok
noncomputable def s70 : (Int × List Int) × Int → Option (Int × Bool) := fun (n, den) =>
  optE (loopVal step70_0 (den, 0, 8000000, n)) (fun e1 =>
    optE (s78 (wr (e1.2.1 * e1.1))) (fun r2 =>
      optE (s77 (r2, e1.2.2)) (fun r3 =>
        some ((e1.2.1, r3 == 0)))
        (none))
      (none))
    (none)
theorem i70 : ItemOk Tryz.prog (.fn 70 [.d (.agg (.pair (.int .i64) (.slice (.int .i64)))), .d (.int .i64)] [.d (.int .i64), .d .bool] s70) := item_fnM md1 ext1 (U := 9) (n := 4) noSpecial mixed Gb1K76_ok (fun x => by kernel_rfl)
noncomputable def Gb1K77 : List Ev.Item := .fn 70 [.d (.agg (.pair (.int .i64) (.slice (.int .i64)))), .d (.int .i64)] [.d (.int .i64), .d .bool] s70 :: Gb1K76
theorem Gb1K77_ok : ∀ q ∈ Gb1K77, ItemOk Tryz.prog q := items_cons i70 Gb1K76_ok

/-! cassegrain cassegrainref01.DistanceAt -/
noncomputable def s18 : ((List (Int × Int × Int × Int)) × Int) × ((List (Int × Int × Int × Int)) × Int) × Int → Option (Int × Int) := fun (a, b, time) =>
  optE (s69 (a, b, time, time)) (fun r1 =>
    optE (s70 (r1.1, r1.2.2)) (fun r2 =>
      optE (s70 r1.2) (fun r3 =>
        bif !r3.2 then
          some ((r2.1, wr (r3.1 + 1)))
        else
          some ((r2.1, r3.1)))
        (none))
      (none))
    (none)
theorem i18 : ItemOk Tryz.prog (.fn 18 [.d (.agg (.pair (.slice (.agg (.pair (.int .i64) (.pair (.int .i64) (.pair (.int .i64) (.int .i64)))))) (.int .i64))), .d (.agg (.pair (.slice (.agg (.pair (.int .i64) (.pair (.int .i64) (.pair (.int .i64) (.int .i64)))))) (.int .i64))), .d (.int .i64)] [.d (.agg (.pair (.int .i64) (.int .i64)))] s18) := item_fnM md1 ext1 (U := 9) (n := 4) noSpecial mixed Gb1K77_ok (fun x => by kernel_rfl)
noncomputable def Gb1K78 : List Ev.Item := .fn 18 [.d (.agg (.pair (.slice (.agg (.pair (.int .i64) (.pair (.int .i64) (.pair (.int .i64) (.int .i64)))))) (.int .i64))), .d (.agg (.pair (.slice (.agg (.pair (.int .i64) (.pair (.int .i64) (.pair (.int .i64) (.int .i64)))))) (.int .i64))), .d (.int .i64)] [.d (.agg (.pair (.int .i64) (.int .i64)))] s18 :: Gb1K77
theorem Gb1K78_ok : ∀ q ∈ Gb1K78, ItemOk Tryz.prog q := items_cons i18 Gb1K77_ok

/-! cassegrain cassegrainref01.ChangeOf -/
noncomputable def s19 : ((List (Int × Int × Int × Int)) × Int) × ((List (Int × Int × Int × Int)) × Int) × (Int × Int) → Option (Int × Int) := fun (a, b, t) =>
  optE (s18 (a, b, t.1)) (fun r1 =>
    optE (s18 (a, b, t.2)) (fun r2 =>
      some ((wr (r2.1 - r1.2), wr (r2.2 - r1.1))))
      (none))
    (none)
theorem i19 : ItemOk Tryz.prog (.fn 19 [.d (.agg (.pair (.slice (.agg (.pair (.int .i64) (.pair (.int .i64) (.pair (.int .i64) (.int .i64)))))) (.int .i64))), .d (.agg (.pair (.slice (.agg (.pair (.int .i64) (.pair (.int .i64) (.pair (.int .i64) (.int .i64)))))) (.int .i64))), .d (.agg (.pair (.int .i64) (.int .i64)))] [.d (.agg (.pair (.int .i64) (.int .i64)))] s19) := item_fnM md1 ext1 (U := 9) (n := 4) noSpecial mixed Gb1K78_ok (fun x => by kernel_rfl)
noncomputable def Gb1K79 : List Ev.Item := .fn 19 [.d (.agg (.pair (.slice (.agg (.pair (.int .i64) (.pair (.int .i64) (.pair (.int .i64) (.int .i64)))))) (.int .i64))), .d (.agg (.pair (.slice (.agg (.pair (.int .i64) (.pair (.int .i64) (.pair (.int .i64) (.int .i64)))))) (.int .i64))), .d (.agg (.pair (.int .i64) (.int .i64)))] [.d (.agg (.pair (.int .i64) (.int .i64)))] s19 :: Gb1K78
theorem Gb1K79_ok : ∀ q ∈ Gb1K79, ItemOk Tryz.prog q := items_cons i19 Gb1K78_ok

/-! cassegrain cassegrainlaw01.PathDistances -/
noncomputable def s3 : ((List (Int × Int × Int × Int)) × Int) × ((List (Int × Int × Int × Int)) × Int) × (Int × Int) → Option (Bool) := fun (a0, a1, a2) =>
  bif !true then
    some (false)
  else
    optE (s12 (a0, a1)) (fun r1 =>
      bif !r1 then
        some (true)
      else
        optE (s14 a0) (fun r2 =>
          optE (s14 a1) (fun r3 =>
            optE (s13 (r2, r3, a2.1)) (fun r4 =>
              optE (s14 a0) (fun r5 =>
                optE (s14 a1) (fun r6 =>
                  optE (s15 (r5, r6, a2)) (fun r7 =>
                    optE (s16 (a0, a1)) (fun r8 =>
                      bif r8 == 0 then
                        optE (s17 (a0, a1, a2.1)) (fun r9 =>
                          bif r9 != 0 then
                            bif r4.2 == r9 then
                              bif r7.2 == r9 then
                                bif (r4.1.1 == 0) && ((r4.1.2 == 0) && true) then
                                  some ((r7.1.1 == 0) && ((r7.1.2 == 0) && true))
                                else
                                  some (false)
                              else
                                some (false)
                            else
                              some (false)
                          else
                            bif r4.2 != 0 then
                              some (false)
                            else
                              optE (s18 (a0, a1, a2.1)) (fun r10 =>
                                bif !((r4.1.1 == r10.1) && ((r4.1.2 == r10.2) && true)) then
                                  some (false)
                                else
                                  optE (s17 (a0, a1, a2.2)) (fun r11 =>
                                    bif r11 == 0 then
                                      bif decide (a2.1 > a2.2) then
                                        bif r7.2 == 9 then
                                          some ((r7.1.1 == 0) && ((r7.1.2 == 0) && true))
                                        else
                                          some (false)
                                      else
                                        bif r11 != 0 then
                                          bif r7.2 == r11 then
                                            some ((r7.1.1 == 0) && ((r7.1.2 == 0) && true))
                                          else
                                            some (false)
                                        else
                                          bif r7.2 == 0 then
                                            optE (s19 (a0, a1, a2)) (fun r12 =>
                                              some ((r7.1.1 == r12.1) && ((r7.1.2 == r12.2) && true)))
                                              (none)
                                          else
                                            some (false)
                                    else
                                      bif r11 != 0 then
                                        bif r7.2 == r11 then
                                          some ((r7.1.1 == 0) && ((r7.1.2 == 0) && true))
                                        else
                                          some (false)
                                      else
                                        bif r7.2 == 0 then
                                          optE (s19 (a0, a1, a2)) (fun r13 =>
                                            some ((r7.1.1 == r13.1) && ((r7.1.2 == r13.2) && true)))
                                            (none)
                                        else
                                          some (false))
                                    (none))
                                (none))
                          (none)
                      else
                        bif r8 != 0 then
                          bif r4.2 == r8 then
                            bif r7.2 == r8 then
                              bif (r4.1.1 == 0) && ((r4.1.2 == 0) && true) then
                                some ((r7.1.1 == 0) && ((r7.1.2 == 0) && true))
                              else
                                some (false)
                            else
                              some (false)
                          else
                            some (false)
                        else
                          bif r4.2 != 0 then
                            some (false)
                          else
                            optE (s18 (a0, a1, a2.1)) (fun r14 =>
                              bif !((r4.1.1 == r14.1) && ((r4.1.2 == r14.2) && true)) then
                                some (false)
                              else
                                optE (s17 (a0, a1, a2.2)) (fun r15 =>
                                  bif r15 == 0 then
                                    bif decide (a2.1 > a2.2) then
                                      bif r7.2 == 9 then
                                        some ((r7.1.1 == 0) && ((r7.1.2 == 0) && true))
                                      else
                                        some (false)
                                    else
                                      bif r15 != 0 then
                                        bif r7.2 == r15 then
                                          some ((r7.1.1 == 0) && ((r7.1.2 == 0) && true))
                                        else
                                          some (false)
                                      else
                                        bif r7.2 == 0 then
                                          optE (s19 (a0, a1, a2)) (fun r16 =>
                                            some ((r7.1.1 == r16.1) && ((r7.1.2 == r16.2) && true)))
                                            (none)
                                        else
                                          some (false)
                                  else
                                    bif r15 != 0 then
                                      bif r7.2 == r15 then
                                        some ((r7.1.1 == 0) && ((r7.1.2 == 0) && true))
                                      else
                                        some (false)
                                    else
                                      bif r7.2 == 0 then
                                        optE (s19 (a0, a1, a2)) (fun r17 =>
                                          some ((r7.1.1 == r17.1) && ((r7.1.2 == r17.2) && true)))
                                          (none)
                                      else
                                        some (false))
                                  (none))
                              (none))
                      (none))
                    (none))
                  (none))
                (none))
              (none))
            (none))
          (none))
      (none)
theorem i3 : ItemOk Tryz.prog (.fn 3 [.d (.agg (.pair (.slice (.agg (.pair (.int .i64) (.pair (.int .i64) (.pair (.int .i64) (.int .i64)))))) (.int .i64))), .d (.agg (.pair (.slice (.agg (.pair (.int .i64) (.pair (.int .i64) (.pair (.int .i64) (.int .i64)))))) (.int .i64))), .d (.agg (.pair (.int .i64) (.int .i64)))] [.d .bool] s3) := item_fnM md1 ext1 (U := 9) (n := 4) noSpecial mixed Gb1K79_ok (fun x => by kernel_rfl)
noncomputable def Gb1K80 : List Ev.Item := .fn 3 [.d (.agg (.pair (.slice (.agg (.pair (.int .i64) (.pair (.int .i64) (.pair (.int .i64) (.int .i64)))))) (.int .i64))), .d (.agg (.pair (.slice (.agg (.pair (.int .i64) (.pair (.int .i64) (.pair (.int .i64) (.int .i64)))))) (.int .i64))), .d (.agg (.pair (.int .i64) (.int .i64)))] [.d .bool] s3 :: Gb1K79
theorem Gb1K80_ok : ∀ q ∈ Gb1K80, ItemOk Tryz.prog q := items_cons i3 Gb1K79_ok
end Go.Proofs.YtgpfdacidgmelaaGreat
