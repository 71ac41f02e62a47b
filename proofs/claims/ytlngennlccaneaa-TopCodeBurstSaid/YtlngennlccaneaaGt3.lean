/- Printed by gen.py: specifications of functions. -/
import Derived.Test.YtlngennlccaneaaGt2
set_option linter.unusedSimpArgs false
set_option maxRecDepth 100000
namespace Go.Proofs.Ytlngennlccaneaa
open Go.Ev
noncomputable def s23 : Int → Option (Int) := fun half =>
 optE (s30 (half, 1, 3)) (fun r1 =>
  optE (s29 (r1, 2)) (fun r2 =>
   some (r2))
   (none))
  (none)
theorem i23 : ItemOk Try.prog (.fn 23 [.d zI] [.d zI] s23) := item_fnM md5 ext5 (U := 9) (n := 12) noSpecial mixed Gt2K13_ok (fun x => by kernel_rfl)
noncomputable def Gt3K1 : List Ev.Item := .fn 23 [.d zI] [.d zI] s23 :: Gt2K13
theorem Gt3K1_ok : ∀ q ∈ Gt3K1, ItemOk Try.prog q := items_cons i23 Gt2K13_ok
@[reducible] def T55_0 : Tmpl := ⟨19, [], [.val 0 (.slice zI), .val 1 (.clo 45 (.pair (.ptr zI) (.pair (.ptr zI) .unit))), .val 7 zI, .val 8 zI], [], none⟩
@[reducible] def X55_0 : List (Ex × Tmpl) := [(.ret, ⟨19, [], [.val 4 zI], [], none⟩), (.exit 0, ⟨19, [], [], [], none⟩)]
noncomputable def step55_0 : (List Int) × (Int × Int × Unit) × Int × Int → Option (((List Int) × (Int × Int × Unit) × Int × Int) ⊕ ((Int) ⊕ (Unit))) := fun (s, f, t7, t8) =>
 bif decide (t8 < t7) then
  bif inBounds t8 s.length then
   optE (s30 (s.getD t8.toNat 0, f.1, f.2.1)) (fun r1 =>
    bif !r1 then
     some (.inr (.inl t8))
    else
     some (.inl (s, f, t7, wr (t8 + 1))))
    (none)
  else
   none
 else
  some (.inr (.inr ()))
theorem one55_0 : oneLoop Try.prog 55 0 = true := by kernel_rfl
theorem lp55_0 : ItemOk Try.prog (.loop 55 0 T55_0 X55_0 (loopVal step55_0)) := item_loopM md5 ext5 (U := 9) (n := 9) noSpecial mixed Gt3K1_ok one55_0 (fun x => by kernel_rfl)
noncomputable def Gt3K2 : List Ev.Item := .loop 55 0 T55_0 X55_0 (loopVal step55_0) :: Gt3K1
theorem Gt3K2_ok : ∀ q ∈ Gt3K2, ItemOk Try.prog q := items_cons lp55_0 Gt3K1_ok
noncomputable def s36 : (List Int) × Int × Int → Option (Int) := fun (l, lo, hi) =>
 optE (loopVal step55_0 (l, (lo, hi, ()), (l.length : Int), 0)) (fun e1 =>
  sumE e1 (fun e2 =>
   optE (s29 (!(decide (e2 ≥ 0)), 2)) (fun r4 =>
    some (r4))
    (none)) (fun _ =>
   optE (s29 (true, 2)) (fun r5 =>
    some (r5))
    (none)))
  (none)
theorem i36 : ItemOk Try.prog (.fn 36 [.d (.slice zI), .d zI, .d zI] [.d zI] s36) := item_fnM md5 ext5 (U := 9) (n := 12) noSpecial mixed Gt3K2_ok (fun x => by kernel_rfl)
noncomputable def Gt3K3 : List Ev.Item := .fn 36 [.d (.slice zI), .d zI, .d zI] [.d zI] s36 :: Gt3K2
theorem Gt3K3_ok : ∀ q ∈ Gt3K3, ItemOk Try.prog q := items_cons i36 Gt3K2_ok
@[reducible] def T22_0 : Tmpl := ⟨15, [], [.val 5 (.slice zI), .val 6 zI, .val 7 zI], [], none⟩
@[reducible] def X22_0 : List (Ex × Tmpl) := [(.ret, ⟨15, [], [.val 2 zI], [], none⟩), (.exit 0, ⟨15, [], [], [], none⟩)]
noncomputable def step22_0 : (List Int) × Int × Int → Option (((List Int) × Int × Int) ⊕ ((Int) ⊕ (Unit))) := fun (t5, t6, t7) =>
 bif decide (t7 < t6) then
  bif inBounds t7 t5.length then
   bif (t5.getD t7.toNat 0) != 0 then
    some (.inr (.inl (t5.getD t7.toNat 0)))
   else
    some (.inl (t5, t6, wr (t7 + 1)))
  else
   none
 else
  some (.inr (.inr ()))
theorem one22_0 : oneLoop Try.prog 22 0 = true := by kernel_rfl
theorem lp22_0 : ItemOk Try.prog (.loop 22 0 T22_0 X22_0 (loopVal step22_0)) := item_loopM md5 ext5 (U := 9) (n := 11) noSpecial mixed Gt3K3_ok one22_0 (fun x => by kernel_rfl)
noncomputable def Gt3K4 : List Ev.Item := .loop 22 0 T22_0 X22_0 (loopVal step22_0) :: Gt3K3
theorem Gt3K4_ok : ∀ q ∈ Gt3K4, ItemOk Try.prog q := items_cons lp22_0 Gt3K3_ok
noncomputable def s22 : List Int → Option (Int) := fun l =>
 optE (loopVal step22_0 (l, (l.length : Int), 0)) (fun e1 =>
  sumE e1 (fun e2 =>
   some (e2)) (fun _ =>
   some (0)))
  (none)
theorem i22 : ItemOk Try.prog (.fn 22 [.d (.slice zI)] [.d zI] s22) := item_fnM md5 ext5 (U := 9) (n := 12) noSpecial mixed Gt3K4_ok (fun x => by kernel_rfl)
noncomputable def Gt3K5 : List Ev.Item := .fn 22 [.d (.slice zI)] [.d zI] s22 :: Gt3K4
theorem Gt3K5_ok : ∀ q ∈ Gt3K5, ItemOk Try.prog q := items_cons i22 Gt3K4_ok
noncomputable def s24 : (List Int) × Int → Option (Int) := fun (l, count) =>
 optE (s29 ((l.length : Int) == count, 10)) (fun r1 =>
  optE (s36 (l, 0, 15)) (fun r2 =>
   optE (s22 [r1, r2]) (fun r3 =>
    some (r3))
    (none))
   (none))
  (none)
theorem i24 : ItemOk Try.prog (.fn 24 [.d (.slice zI), .d zI] [.d zI] s24) := item_fnM md5 ext5 (U := 9) (n := 12) noSpecial mixed Gt3K5_ok (fun x => by kernel_rfl)
noncomputable def Gt3K6 : List Ev.Item := .fn 24 [.d (.slice zI), .d zI] [.d zI] s24 :: Gt3K5
theorem Gt3K6_ok : ∀ q ∈ Gt3K6, ItemOk Try.prog q := items_cons i24 Gt3K5_ok
@[reducible] def T25_0 : Tmpl := ⟨31, [(4, .ref 4 0 0 0), (5, .ref 5 0 0 0)], [.val 0 zI, .own 6 22 3 zI, .val 7 zI, .arrp 4 zI 15 (.pair zI (.pair zI (.pair zI (.pair zI (.pair zI (.pair zI (.pair zI (.pair zI (.pair zI (.pair zI (.pair zI zF))))))))))), .arr 5 zI], [], none⟩
@[reducible] def X25_0 : List (Ex × Tmpl) := [(.exit 0, ⟨31, [(4, .ref 4 0 0 0), (5, .ref 5 0 0 0)], [.val 0 zI, .own 6 22 3 zI, .arrp 4 zI 15 (.pair zI (.pair zI (.pair zI (.pair zI (.pair zI (.pair zI (.pair zI (.pair zI (.pair zI (.pair zI (.pair zI zF))))))))))), .arr 5 zI], [], none⟩)]
noncomputable def step25_0 : Int × (List Int) × Int × (Int × Int × Int × Int × Int × Int × Int × Int × Int × Int × Int × Int × Int × Int × Int) × (List Int) → Option ((Int × (List Int) × Int × (Int × Int × Int × Int × Int × Int × Int × Int × Int × Int × Int × Int × Int × Int × Int) × (List Int)) ⊕ (Int × (List Int) × (Int × Int × Int × Int × Int × Int × Int × Int × Int × Int × Int × Int × Int × Int × Int) × (List Int))) := fun (half, erased, i, t4, w) =>
 bif decide (i < 15) then
  bif room 8 (erased.length + 1) then
   some (.inl (half, erased ++ [i], wr (i + 1), t4, w))
  else
   none
 else
  some (.inr (half, erased, t4, w))
theorem one25_0 : oneLoop Try.prog 25 0 = true := by kernel_rfl
theorem lp25_0 : ItemOk Try.prog (.loop 25 0 T25_0 X25_0 (loopVal step25_0)) := item_loopM md5 ext5 (U := 9) (n := 11) noSpecial mixed Gt3K6_ok one25_0 (fun x => by kernel_rfl)
noncomputable def Gt3K7 : List Ev.Item := .loop 25 0 T25_0 X25_0 (loopVal step25_0) :: Gt3K6
theorem Gt3K7_ok : ∀ q ∈ Gt3K7, ItemOk Try.prog q := items_cons lp25_0 Gt3K6_ok
noncomputable def s25 : Int × (List Int) → Option (Int × Int × Int × Int × Int × Int × Int × Int × Int × Int × Int × Int × Int × Int × Int) := fun (half, data) =>
 optE (loopVal step25_0 (half, [], (data.length : Int), (0, 0, 0, 0, 0, 0, 0, 0, 0, 0, 0, 0, 0, 0, 0), (data.take 15) ++ ([0, 0, 0, 0, 0, 0, 0, 0, 0, 0, 0, 0, 0, 0, 0].drop (0 + (min data.length 15))))) (fun e1 =>
  bif decide (e1.2.2.2.length * 1 = 15) then
   optE (s31 (((padV 15 zI e1.2.2.2).getD 0 0, (padV 15 zI e1.2.2.2).getD 1 0, (padV 15 zI e1.2.2.2).getD 2 0, (padV 15 zI e1.2.2.2).getD 3 0, (padV 15 zI e1.2.2.2).getD 4 0, (padV 15 zI e1.2.2.2).getD 5 0, (padV 15 zI e1.2.2.2).getD 6 0, (padV 15 zI e1.2.2.2).getD 7 0, (padV 15 zI e1.2.2.2).getD 8 0, (padV 15 zI e1.2.2.2).getD 9 0, (padV 15 zI e1.2.2.2).getD 10 0, (padV 15 zI e1.2.2.2).getD 11 0, (padV 15 zI e1.2.2.2).getD 12 0, (padV 15 zI e1.2.2.2).getD 13 0, (padV 15 zI e1.2.2.2).getD 14 0), e1.1, e1.2.1)) (fun r2 =>
    some (r2.1))
    (none)
  else
   none)
  (none)
theorem i25 : ItemOk Try.prog (.fn 25 [.d zI, .d (.slice zI)] [.d (.agg (.pair zI (.pair zI (.pair zI (.pair zI (.pair zI (.pair zI (.pair zI (.pair zI (.pair zI (.pair zI (.pair zI zF))))))))))))] s25) := item_fnM md5 ext5 (U := 9) (n := 12) noSpecial mixed Gt3K7_ok (fun x => by kernel_rfl)
noncomputable def Gt3K8 : List Ev.Item := .fn 25 [.d zI, .d (.slice zI)] [.d (.agg (.pair zI (.pair zI (.pair zI (.pair zI (.pair zI (.pair zI (.pair zI (.pair zI (.pair zI (.pair zI (.pair zI zF))))))))))))] s25 :: Gt3K7
theorem Gt3K8_ok : ∀ q ∈ Gt3K8, ItemOk Try.prog q := items_cons i25 Gt3K7_ok
noncomputable def s7 : Int × (List Int) → Option ((List Int) × Int) := fun (half, data) =>
 optE (s23 half) (fun r1 =>
  optE (s24 (data, wr (15 - (wr (2 * half))))) (fun r2 =>
   optE (s22 [r1, r2]) (fun r3 =>
    bif r3 != 0 then
     some (([], r3))
    else
     optE (s25 (half, data)) (fun r4 =>
      some (([r4.1, r4.2.1, r4.2.2.1, r4.2.2.2.1, r4.2.2.2.2.1, r4.2.2.2.2.2.1, r4.2.2.2.2.2.2.1, r4.2.2.2.2.2.2.2.1, r4.2.2.2.2.2.2.2.2.1, r4.2.2.2.2.2.2.2.2.2.1, r4.2.2.2.2.2.2.2.2.2.2.1, r4.2.2.2.2.2.2.2.2.2.2.2.1, r4.2.2.2.2.2.2.2.2.2.2.2.2.1, r4.2.2.2.2.2.2.2.2.2.2.2.2.2.1, r4.2.2.2.2.2.2.2.2.2.2.2.2.2.2], 0)))
      (none))
    (none))
   (none))
  (none)
theorem i7 : ItemOk Try.prog (.fn 7 [.d zI, .d (.slice zI)] [.d (.slice zI), .d zI] s7) := item_fnM md5 ext5 (U := 9) (n := 12) noSpecial mixed Gt3K8_ok (fun x => by kernel_rfl)
noncomputable def Gt3K9 : List Ev.Item := .fn 7 [.d zI, .d (.slice zI)] [.d (.slice zI), .d zI] s7 :: Gt3K8
theorem Gt3K9_ok : ∀ q ∈ Gt3K9, ItemOk Try.prog q := items_cons i7 Gt3K8_ok
@[reducible] def T28_2 : Tmpl := ⟨56, [(2, .ref 2 0 0 0), (4, .ref 4 0 0 0), (11, .ref 11 0 0 0)], [.val 13 zI, .val 39 zI, .arrp 2 zI 15 (.pair zI (.pair zI (.pair zI (.pair zI (.pair zI (.pair zI (.pair zI (.pair zI (.pair zI (.pair zI (.pair zI zF))))))))))), .arrp 4 zI 15 (.pair zI (.pair zI (.pair zI (.pair zI (.pair zI (.pair zI (.pair zI (.pair zI (.pair zI (.pair zI (.pair zI zF))))))))))), .arrp 11 zI 15 (.pair zI (.pair zI (.pair zI (.pair zI (.pair zI (.pair zI (.pair zI (.pair zI (.pair zI (.pair zI (.pair zI zF)))))))))))], [], none⟩
@[reducible] def X28_2 : List (Ex × Tmpl) := [(.exit 2, ⟨56, [(4, .ref 4 0 0 0), (11, .ref 11 0 0 0)], [.val 13 zI, .arrp 4 zI 15 (.pair zI (.pair zI (.pair zI (.pair zI (.pair zI (.pair zI (.pair zI (.pair zI (.pair zI (.pair zI (.pair zI zF))))))))))), .arrp 11 zI 15 (.pair zI (.pair zI (.pair zI (.pair zI (.pair zI (.pair zI (.pair zI (.pair zI (.pair zI (.pair zI (.pair zI zF)))))))))))], [], none⟩)]
noncomputable def step28_2 : Int × Int × (Int × Int × Int × Int × Int × Int × Int × Int × Int × Int × Int × Int × Int × Int × Int) × (Int × Int × Int × Int × Int × Int × Int × Int × Int × Int × Int × Int × Int × Int × Int) × (Int × Int × Int × Int × Int × Int × Int × Int × Int × Int × Int × Int × Int × Int × Int) → Option ((Int × Int × (Int × Int × Int × Int × Int × Int × Int × Int × Int × Int × Int × Int × Int × Int × Int) × (Int × Int × Int × Int × Int × Int × Int × Int × Int × Int × Int × Int × Int × Int × Int) × (Int × Int × Int × Int × Int × Int × Int × Int × Int × Int × Int × Int × Int × Int × Int)) ⊕ (Int × (Int × Int × Int × Int × Int × Int × Int × Int × Int × Int × Int × Int × Int × Int × Int) × (Int × Int × Int × Int × Int × Int × Int × Int × Int × Int × Int × Int × Int × Int × Int))) := fun (differ, t39, w, t4, out) =>
 bif decide (t39 < 15) then
  bif (inBounds t39 15) && true then
   bif (inBounds t39 15) && true then
    bif ([w.1, w.2.1, w.2.2.1, w.2.2.2.1, w.2.2.2.2.1, w.2.2.2.2.2.1, w.2.2.2.2.2.2.1, w.2.2.2.2.2.2.2.1, w.2.2.2.2.2.2.2.2.1, w.2.2.2.2.2.2.2.2.2.1, w.2.2.2.2.2.2.2.2.2.2.1, w.2.2.2.2.2.2.2.2.2.2.2.1, w.2.2.2.2.2.2.2.2.2.2.2.2.1, w.2.2.2.2.2.2.2.2.2.2.2.2.2.1, w.2.2.2.2.2.2.2.2.2.2.2.2.2.2].getD t39.toNat 0) != ([out.1, out.2.1, out.2.2.1, out.2.2.2.1, out.2.2.2.2.1, out.2.2.2.2.2.1, out.2.2.2.2.2.2.1, out.2.2.2.2.2.2.2.1, out.2.2.2.2.2.2.2.2.1, out.2.2.2.2.2.2.2.2.2.1, out.2.2.2.2.2.2.2.2.2.2.1, out.2.2.2.2.2.2.2.2.2.2.2.1, out.2.2.2.2.2.2.2.2.2.2.2.2.1, out.2.2.2.2.2.2.2.2.2.2.2.2.2.1, out.2.2.2.2.2.2.2.2.2.2.2.2.2.2].getD t39.toNat 0) then
     some (.inl (wr (differ + 1), wr (t39 + 1), w, t4, out))
    else
     some (.inl (differ, wr (t39 + 1), w, t4, out))
   else
    none
  else
   none
 else
  some (.inr (differ, t4, out))
theorem one28_2 : oneLoop Try.prog 28 2 = true := by kernel_rfl
theorem lp28_2 : ItemOk Try.prog (.loop 28 2 T28_2 X28_2 (loopVal step28_2)) := item_loopM md5 ext5 (U := 9) (n := 11) noSpecial mixed Gt3K9_ok one28_2 (fun x => by kernel_rfl)
noncomputable def Gt3K10 : List Ev.Item := .loop 28 2 T28_2 X28_2 (loopVal step28_2) :: Gt3K9
theorem Gt3K10_ok : ∀ q ∈ Gt3K10, ItemOk Try.prog q := items_cons lp28_2 Gt3K9_ok
@[reducible] def T28_0 : Tmpl := ⟨56, [(2, .ref 2 0 0 0), (4, .ref 4 0 0 0)], [.val 1 zI, .own 7 17 3 zI, .val 19 zI, .val 20 zI, .arrp 2 zI 15 (.pair zI (.pair zI (.pair zI (.pair zI (.pair zI (.pair zI (.pair zI (.pair zI (.pair zI (.pair zI (.pair zI zF))))))))))), .arrp 4 zI 15 (.pair zI (.pair zI (.pair zI (.pair zI (.pair zI (.pair zI (.pair zI (.pair zI (.pair zI (.pair zI (.pair zI zF)))))))))))], [], none⟩
@[reducible] def X28_0 : List (Ex × Tmpl) := [(.ret, ⟨56, [(4, .ref 4 0 0 0)], [.val 5 zI, .val 6 .bool, .arrp 4 zI 15 (.pair zI (.pair zI (.pair zI (.pair zI (.pair zI (.pair zI (.pair zI (.pair zI (.pair zI (.pair zI (.pair zI zF)))))))))))], [], none⟩), (.exit 0, ⟨56, [(4, .ref 4 0 0 0)], [.arrp 4 zI 15 (.pair zI (.pair zI (.pair zI (.pair zI (.pair zI (.pair zI (.pair zI (.pair zI (.pair zI (.pair zI (.pair zI zF)))))))))))], [], none⟩)]
noncomputable def step28_0 : Int × (List Int) × Int × Int × (Int × Int × Int × Int × Int × Int × Int × Int × Int × Int × Int × Int × Int × Int × Int) × (Int × Int × Int × Int × Int × Int × Int × Int × Int × Int × Int × Int × Int × Int × Int) → Option ((Int × (List Int) × Int × Int × (Int × Int × Int × Int × Int × Int × Int × Int × Int × Int × Int × Int × Int × Int × Int) × (Int × Int × Int × Int × Int × Int × Int × Int × Int × Int × Int × Int × Int × Int × Int)) ⊕ ((Int × Bool × (Int × Int × Int × Int × Int × Int × Int × Int × Int × Int × Int × Int × Int × Int × Int)) ⊕ (Int × Int × Int × Int × Int × Int × Int × Int × Int × Int × Int × Int × Int × Int × Int))) := fun (half, s, t19, t20, w, t4) =>
 bif decide (t20 < t19) then
  optE (s39 (s, t20)) (fun r2 =>
   bif !r2.2 then
    some (.inl (half, s, t19, wr (t20 + 1), w, t4))
   else
    optE (s31 (w, half, r2.1)) (fun r3 =>
     bif r3.2 then
      optE (loopVal step28_2 (0, 0, w, t4, r3.1)) (fun e4 =>
       some (.inr (.inl (e4.1, true, e4.2.2))))
       (none)
     else
      some (.inl (half, s, t19, wr (t20 + 1), w, t4)))
     (none))
   (none)
 else
  some (.inr (.inr t4))
theorem one28_0 : oneLoop Try.prog 28 0 = true := by kernel_rfl
theorem lp28_0 : ItemOk Try.prog (.loop 28 0 T28_0 X28_0 (loopVal step28_0)) := item_loopM md5 ext5 (U := 9) (n := 11) noSpecial mixed Gt3K10_ok one28_0 (fun x => by kernel_rfl)
noncomputable def Gt3K11 : List Ev.Item := .loop 28 0 T28_0 X28_0 (loopVal step28_0) :: Gt3K10
theorem Gt3K11_ok : ∀ q ∈ Gt3K11, ItemOk Try.prog q := items_cons lp28_0 Gt3K10_ok
noncomputable def s28 : (Int × Int × Int × Int × Int × Int × Int × Int × Int × Int × Int × Int × Int × Int × Int) × Int → Option ((Int × Int × Int × Int × Int × Int × Int × Int × Int × Int × Int × Int × Int × Int × Int) × Int × Bool) := fun (w, half) =>
 optE (s38 (w, half)) (fun r1 =>
  optE (loopVal step28_0 (half, r1, wr (half + 1), 0, w, (0, 0, 0, 0, 0, 0, 0, 0, 0, 0, 0, 0, 0, 0, 0))) (fun e2 =>
   sumE e2 (fun e3 =>
    some ((e3.2.2, e3.1, e3.2.1))) (fun _ =>
    some (((0, 0, 0, 0, 0, 0, 0, 0, 0, 0, 0, 0, 0, 0, 0), 0, false))))
   (none))
  (none)
theorem i28 : ItemOk Try.prog (.fn 28 [.d (.agg (.pair zI (.pair zI (.pair zI (.pair zI (.pair zI (.pair zI (.pair zI (.pair zI (.pair zI (.pair zI (.pair zI zF)))))))))))), .d zI] [.d (.agg (.pair zI (.pair zI (.pair zI (.pair zI (.pair zI (.pair zI (.pair zI (.pair zI (.pair zI (.pair zI (.pair zI zF)))))))))))), .d zI, .d .bool] s28) := item_fnM md5 ext5 (U := 9) (n := 12) noSpecial mixed Gt3K11_ok (fun x => by kernel_rfl)
noncomputable def Gt3K12 : List Ev.Item := .fn 28 [.d (.agg (.pair zI (.pair zI (.pair zI (.pair zI (.pair zI (.pair zI (.pair zI (.pair zI (.pair zI (.pair zI (.pair zI zF)))))))))))), .d zI] [.d (.agg (.pair zI (.pair zI (.pair zI (.pair zI (.pair zI (.pair zI (.pair zI (.pair zI (.pair zI (.pair zI (.pair zI zF)))))))))))), .d zI, .d .bool] s28 :: Gt3K11
theorem Gt3K12_ok : ∀ q ∈ Gt3K12, ItemOk Try.prog q := items_cons i28 Gt3K11_ok
noncomputable def s13 : Int × (List Int) → Option ((List Int) × Int × Int) := fun (half, w) =>
 optE (s23 half) (fun r1 =>
  optE (s24 (w, 15)) (fun r2 =>
   optE (s22 [r1, r2]) (fun r3 =>
    bif r3 != 0 then
     some (([], 0, r3))
    else
     bif decide (15 ≤ w.length) then
      optE (s28 (((padV 15 zI w).getD 0 0, (padV 15 zI w).getD 1 0, (padV 15 zI w).getD 2 0, (padV 15 zI w).getD 3 0, (padV 15 zI w).getD 4 0, (padV 15 zI w).getD 5 0, (padV 15 zI w).getD 6 0, (padV 15 zI w).getD 7 0, (padV 15 zI w).getD 8 0, (padV 15 zI w).getD 9 0, (padV 15 zI w).getD 10 0, (padV 15 zI w).getD 11 0, (padV 15 zI w).getD 12 0, (padV 15 zI w).getD 13 0, (padV 15 zI w).getD 14 0), half)) (fun r4 =>
       bif !r4.2.2 then
        some (([], 0, 27))
       else
        some (([r4.1.1, r4.1.2.1, r4.1.2.2.1, r4.1.2.2.2.1, r4.1.2.2.2.2.1, r4.1.2.2.2.2.2.1, r4.1.2.2.2.2.2.2.1, r4.1.2.2.2.2.2.2.2.1, r4.1.2.2.2.2.2.2.2.2.1, r4.1.2.2.2.2.2.2.2.2.2.1, r4.1.2.2.2.2.2.2.2.2.2.2.1, r4.1.2.2.2.2.2.2.2.2.2.2.2.1, r4.1.2.2.2.2.2.2.2.2.2.2.2.2.1, r4.1.2.2.2.2.2.2.2.2.2.2.2.2.2.1, r4.1.2.2.2.2.2.2.2.2.2.2.2.2.2.2], r4.2.1, 0)))
       (none)
     else
      none)
    (none))
   (none))
  (none)
theorem i13 : ItemOk Try.prog (.fn 13 [.d zI, .d (.slice zI)] [.d (.slice zI), .d zI, .d zI] s13) := item_fnM md5 ext5 (U := 9) (n := 12) noSpecial mixed Gt3K12_ok (fun x => by kernel_rfl)
noncomputable def Gt3K13 : List Ev.Item := .fn 13 [.d zI, .d (.slice zI)] [.d (.slice zI), .d zI, .d zI] s13 :: Gt3K12
theorem Gt3K13_ok : ∀ q ∈ Gt3K13, ItemOk Try.prog q := items_cons i13 Gt3K12_ok
@[reducible] def T16_0 : Tmpl := ⟨62, [], [.val 0 zI, .val 1 (.slice zI), .val 2 (.slice zI), .val 9 zI, .val 30 (.slice zI), .val 31 zI, .val 32 zI], [], none⟩
@[reducible] def X16_0 : List (Ex × Tmpl) := [(.ret, ⟨62, [], [.val 6 (.slice zI), .val 7 zI], [], none⟩), (.exit 0, ⟨62, [], [.val 0 zI, .val 1 (.slice zI), .val 2 (.slice zI)], [], none⟩)]
noncomputable def step16_0 : Int × (List Int) × (List Int) × Int × (List Int) × Int × Int → Option ((Int × (List Int) × (List Int) × Int × (List Int) × Int × Int) ⊕ (((List Int) × Int) ⊕ (Int × (List Int) × (List Int)))) := fun (half, w, erased, last0, t30, t31, t32) =>
 bif decide (t32 < t31) then
  bif inBounds t32 t30.length then
   optE (s30 (t30.getD t32.toNat 0, 0, 14)) (fun r5 =>
    optE (s29 (r5, 6)) (fun r6 =>
     optE (s29 (decide ((t30.getD t32.toNat 0) > last0), 9)) (fun r7 =>
      optE (s22 [r6, r7]) (fun r8 =>
       bif r8 != 0 then
        some (.inr (.inl ([], r8)))
       else
        some (.inl (half, w, erased, t30.getD t32.toNat 0, t30, t31, wr (t32 + 1))))
       (none))
      (none))
     (none))
    (none)
  else
   none
 else
  some (.inr (.inr (half, w, erased)))
theorem one16_0 : oneLoop Try.prog 16 0 = true := by kernel_rfl
theorem lp16_0 : ItemOk Try.prog (.loop 16 0 T16_0 X16_0 (loopVal step16_0)) := item_loopM md5 ext5 (U := 9) (n := 11) noSpecial mixed Gt3K13_ok one16_0 (fun x => by kernel_rfl)
noncomputable def Gt3K14 : List Ev.Item := .loop 16 0 T16_0 X16_0 (loopVal step16_0) :: Gt3K13
theorem Gt3K14_ok : ∀ q ∈ Gt3K14, ItemOk Try.prog q := items_cons lp16_0 Gt3K13_ok
noncomputable def s16 : Int × (List Int) × (List Int) → Option ((List Int) × Int) := fun (half, w, erased) =>
 optE (s23 half) (fun r1 =>
  optE (s24 (w, 15)) (fun r2 =>
   optE (s29 (decide ((erased.length : Int) ≤ (wr (2 * half))), 8)) (fun r3 =>
    optE (s22 [r1, r2, r3]) (fun r4 =>
     bif r4 != 0 then
      some (([], r4))
     else
      optE (loopVal step16_0 (half, w, erased, (-1), erased, (erased.length : Int), 0)) (fun e5 =>
       sumE e5 (fun e6 =>
        some (e6)) (fun e7 =>
        bif decide (15 ≤ e7.2.1.length) then
         optE (s31 (((padV 15 zI e7.2.1).getD 0 0, (padV 15 zI e7.2.1).getD 1 0, (padV 15 zI e7.2.1).getD 2 0, (padV 15 zI e7.2.1).getD 3 0, (padV 15 zI e7.2.1).getD 4 0, (padV 15 zI e7.2.1).getD 5 0, (padV 15 zI e7.2.1).getD 6 0, (padV 15 zI e7.2.1).getD 7 0, (padV 15 zI e7.2.1).getD 8 0, (padV 15 zI e7.2.1).getD 9 0, (padV 15 zI e7.2.1).getD 10 0, (padV 15 zI e7.2.1).getD 11 0, (padV 15 zI e7.2.1).getD 12 0, (padV 15 zI e7.2.1).getD 13 0, (padV 15 zI e7.2.1).getD 14 0), e7.1, e7.2.2)) (fun r8 =>
          bif !r8.2 then
           some (([], 27))
          else
           some (([r8.1.1, r8.1.2.1, r8.1.2.2.1, r8.1.2.2.2.1, r8.1.2.2.2.2.1, r8.1.2.2.2.2.2.1, r8.1.2.2.2.2.2.2.1, r8.1.2.2.2.2.2.2.2.1, r8.1.2.2.2.2.2.2.2.2.1, r8.1.2.2.2.2.2.2.2.2.2.1, r8.1.2.2.2.2.2.2.2.2.2.2.1, r8.1.2.2.2.2.2.2.2.2.2.2.2.1, r8.1.2.2.2.2.2.2.2.2.2.2.2.2.1, r8.1.2.2.2.2.2.2.2.2.2.2.2.2.2.1, r8.1.2.2.2.2.2.2.2.2.2.2.2.2.2.2], 0)))
          (none)
        else
         none))
       (none))
     (none))
    (none))
   (none))
  (none)
theorem i16 : ItemOk Try.prog (.fn 16 [.d zI, .d (.slice zI), .d (.slice zI)] [.d (.slice zI), .d zI] s16) := item_fnM md5 ext5 (U := 9) (n := 12) noSpecial mixed Gt3K14_ok (fun x => by kernel_rfl)
noncomputable def Gt3K15 : List Ev.Item := .fn 16 [.d zI, .d (.slice zI), .d (.slice zI)] [.d (.slice zI), .d zI] s16 :: Gt3K14
theorem Gt3K15_ok : ∀ q ∈ Gt3K15, ItemOk Try.prog q := items_cons i16 Gt3K14_ok
noncomputable def s26 : (List Int) × Int → Option (Int) := fun (l, rows) =>
 optE (s29 (decide ((l.length : Int) ≤ 400), 8)) (fun r1 =>
  optE (s30 (rows, 1, 400)) (fun r2 =>
   optE (s29 (r2, 2)) (fun r3 =>
    optE (s22 [r1, r3]) (fun r4 =>
     bif r4 != 0 then
      some (r4)
     else
      bif !(rows == 0) then
       optE (s29 ((Int.tmod (l.length : Int) rows) == 0, 10)) (fun r5 =>
        some (r5))
        (none)
      else
       none)
     (none))
    (none))
   (none))
  (none)
theorem i26 : ItemOk Try.prog (.fn 26 [.d (.slice zI), .d zI] [.d zI] s26) := item_fnM md5 ext5 (U := 9) (n := 12) noSpecial mixed Gt3K15_ok (fun x => by kernel_rfl)
noncomputable def Gt3K16 : List Ev.Item := .fn 26 [.d (.slice zI), .d zI] [.d zI] s26 :: Gt3K15
theorem Gt3K16_ok : ∀ q ∈ Gt3K16, ItemOk Try.prog q := items_cons i26 Gt3K15_ok
@[reducible] def T27_2 : Tmpl := ⟨40, [], [.val 0 (.slice zI), .val 1 zI, .own 5 37 3 zI, .val 6 zI, .val 20 zI, .val 21 zI], [], none⟩
@[reducible] def X27_2 : List (Ex × Tmpl) := [(.exit 2, ⟨40, [], [.val 0 (.slice zI), .val 1 zI, .own 5 37 3 zI, .val 6 zI], [], none⟩)]
noncomputable def step27_2 : (List Int) × Int × (List Int) × Int × Int × Int → Option (((List Int) × Int × (List Int) × Int × Int × Int) ⊕ ((List Int) × Int × (List Int) × Int)) := fun (l, rows, out, c, t20, t21) =>
 bif decide (t21 < t20) then
  bif !(rows == 0) then
   bif inBounds (wr ((wr (t21 * (wr (Int.tdiv (l.length : Int) rows)))) + c)) l.length then
    bif room 8 (out.length + 1) then
     some (.inl (l, rows, out ++ [l.getD (wr ((wr (t21 * (wr (Int.tdiv (l.length : Int) rows)))) + c)).toNat 0], c, t20, wr (t21 + 1)))
    else
     none
   else
    none
  else
   none
 else
  some (.inr (l, rows, out, c))
theorem one27_2 : oneLoop Try.prog 27 2 = true := by kernel_rfl
theorem lp27_2 : ItemOk Try.prog (.loop 27 2 T27_2 X27_2 (loopVal step27_2)) := item_loopM md5 ext5 (U := 9) (n := 11) noSpecial mixed Gt3K16_ok one27_2 (fun x => by kernel_rfl)
noncomputable def Gt3K17 : List Ev.Item := .loop 27 2 T27_2 X27_2 (loopVal step27_2) :: Gt3K16
theorem Gt3K17_ok : ∀ q ∈ Gt3K17, ItemOk Try.prog q := items_cons lp27_2 Gt3K16_ok
@[reducible] def T27_0 : Tmpl := ⟨40, [], [.val 0 (.slice zI), .val 1 zI, .own 5 37 3 zI, .val 6 zI], [], none⟩
@[reducible] def X27_0 : List (Ex × Tmpl) := [(.exit 0, ⟨40, [], [.own 5 37 3 zI], [], none⟩)]
noncomputable def step27_0 : (List Int) × Int × (List Int) × Int → Option (((List Int) × Int × (List Int) × Int) ⊕ (List Int)) := fun (l, rows, out, c) =>
 bif decide (rows > 0) then
  bif !(rows == 0) then
   bif decide (c < (wr (Int.tdiv (l.length : Int) rows))) then
    optE (loopVal step27_2 (l, rows, out, c, rows, 0)) (fun e1 =>
     some (.inl (e1.1, e1.2.1, e1.2.2.1, wr (e1.2.2.2 + 1))))
     (none)
   else
    some (.inr out)
  else
   none
 else
  some (.inr out)
theorem one27_0 : oneLoop Try.prog 27 0 = true := by kernel_rfl
theorem lp27_0 : ItemOk Try.prog (.loop 27 0 T27_0 X27_0 (loopVal step27_0)) := item_loopM md5 ext5 (U := 9) (n := 11) noSpecial mixed Gt3K17_ok one27_0 (fun x => by kernel_rfl)
noncomputable def Gt3K18 : List Ev.Item := .loop 27 0 T27_0 X27_0 (loopVal step27_0) :: Gt3K17
theorem Gt3K18_ok : ∀ q ∈ Gt3K18, ItemOk Try.prog q := items_cons lp27_0 Gt3K17_ok
noncomputable def s27 : (List Int) × Int → Option (List Int) := fun (l, rows) =>
 optE (loopVal step27_0 (l, rows, [], 0)) (fun e1 =>
  some (e1))
  (none)
theorem i27 : ItemOk Try.prog (.fn 27 [.d (.slice zI), .d zI] [.own 3 zI] s27) := item_fnM md5 ext5 (U := 9) (n := 12) noSpecial mixed Gt3K18_ok (fun x => by kernel_rfl)
noncomputable def Gt3K19 : List Ev.Item := .fn 27 [.d (.slice zI), .d zI] [.own 3 zI] s27 :: Gt3K18
theorem Gt3K19_ok : ∀ q ∈ Gt3K19, ItemOk Try.prog q := items_cons i27 Gt3K18_ok
noncomputable def s10 : (List Int) × Int → Option ((List Int) × Int) := fun (l, rows) =>
 optE (s26 (l, rows)) (fun r1 =>
  bif r1 != 0 then
   some (([], r1))
  else
   optE (s27 (l, rows)) (fun r2 =>
    some ((r2, 0)))
    (none))
  (none)
theorem i10 : ItemOk Try.prog (.fn 10 [.d (.slice zI), .d zI] [.own 3 zI, .d zI] s10) := item_fnM md5 ext5 (U := 9) (n := 12) noSpecial mixed Gt3K19_ok (fun x => by kernel_rfl)
noncomputable def Gt3K20 : List Ev.Item := .fn 10 [.d (.slice zI), .d zI] [.own 3 zI, .d zI] s10 :: Gt3K19
theorem Gt3K20_ok : ∀ q ∈ Gt3K20, ItemOk Try.prog q := items_cons i10 Gt3K19_ok
noncomputable def s12 : (List Int) × Int → Option ((List Int) × Int) := fun (l, rows) =>
 optE (s26 (l, rows)) (fun r1 =>
  bif r1 != 0 then
   some (([], r1))
  else
   bif !(rows == 0) then
    optE (s27 (l, wr (Int.tdiv (l.length : Int) rows))) (fun r2 =>
     some ((r2, 0)))
     (none)
   else
    none)
  (none)
theorem i12 : ItemOk Try.prog (.fn 12 [.d (.slice zI), .d zI] [.d (.slice zI), .d zI] s12) := item_fnM md5 ext5 (U := 9) (n := 12) noSpecial mixed Gt3K20_ok (fun x => by kernel_rfl)
noncomputable def Gt3K21 : List Ev.Item := .fn 12 [.d (.slice zI), .d zI] [.d (.slice zI), .d zI] s12 :: Gt3K20
theorem Gt3K21_ok : ∀ q ∈ Gt3K21, ItemOk Try.prog q := items_cons i12 Gt3K20_ok
end Go.Proofs.Ytlngennlccaneaa
