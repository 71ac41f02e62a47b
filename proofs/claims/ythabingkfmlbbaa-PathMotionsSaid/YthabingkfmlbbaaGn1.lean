/- Printed by gen.py: specifications of functions. -/
import Derived.Test.YthabingkfmlbbaaGn0
set_option linter.unusedSimpArgs false
set_option maxRecDepth 100000
namespace Go.Proofs.Ythabingkfmlbbaa
open Go.Ev
abbrev RwM := List (Int × Int × Int)
@[reducible] def rE : Sh := .agg (.pair zI zP)
abbrev RwM8 := RwM × RwM × RwM × RwM × RwM × RwM × RwM × RwM
abbrev RwM7 := RwM × RwM × RwM × RwM × RwM × RwM × RwM
abbrev RwM6 := RwM × RwM × RwM × RwM × RwM × RwM
abbrev RwM5 := RwM × RwM × RwM × RwM × RwM
abbrev RwM4 := RwM × RwM × RwM × RwM
abbrev RwM3 := RwM × RwM × RwM
abbrev RwM2 := RwM × RwM
@[reducible] def Kc1a : List LK := [.own 950 69 rE, .own 951 69 rE, .own 952 69 rE, .own 953 69 rE, .own 954 69 rE, .own 955 69 rE, .own 956 69 rE, .own 957 69 rE]
@[reducible] def Kc1b : List LK := [.own 950 69 rE, .own 951 69 rE, .own 952 69 rE, .own 953 69 rE, .own 954 69 rE, .own 955 69 rE, .own 69 69 rE, .own 957 69 rE]
@[reducible] def Kc1c : List LK := [.own 950 69 rE, .own 951 69 rE, .own 952 69 rE, .own 953 69 rE, .own 954 69 rE, .own 955 69 rE, .own 956 69 rE]
@[reducible] def Kc1d : List LK := [.own 950 69 rE, .own 951 69 rE, .own 952 69 rE, .own 953 69 rE, .own 954 69 rE, .own 69 69 rE, .own 956 69 rE]
@[reducible] def Kc1e : List LK := [.own 950 69 rE, .own 951 69 rE, .own 952 69 rE, .own 953 69 rE, .own 954 69 rE, .own 955 69 rE]
@[reducible] def Kc1f : List LK := [.own 950 69 rE, .own 951 69 rE, .own 952 69 rE, .own 953 69 rE, .own 69 69 rE, .own 955 69 rE]
@[reducible] def Kc1g : List LK := [.own 950 69 rE, .own 951 69 rE, .own 952 69 rE, .own 953 69 rE, .own 954 69 rE]
@[reducible] def Kc1h : List LK := [.own 950 69 rE, .own 951 69 rE, .own 952 69 rE, .own 69 69 rE, .own 954 69 rE]
@[reducible] def Kc1i8 : List LK := [.own 950 69 rE, .own 951 69 rE, .own 952 69 rE, .own 953 69 rE]
@[reducible] def Kc1i9 : List LK := [.own 950 69 rE, .own 951 69 rE, .own 69 69 rE, .own 953 69 rE]
@[reducible] def Kc1i10 : List LK := [.own 950 69 rE, .own 951 69 rE, .own 952 69 rE]
@[reducible] def Kc1i11 : List LK := [.own 950 69 rE, .own 69 69 rE, .own 952 69 rE]
@[reducible] def Kc1i12 : List LK := [.own 69 69 rE, .own 951 69 rE]
noncomputable def RpK : List Ev.Item := [.fn 35 [.d (.agg (.pair zI (.pair zP zP))), .d (.slice rE), .d zI, .d .bool] [.d rE, .d .bool] s35, .fn 34 [.d (.agg (.pair zI (.pair zP zP))), .d zI] [.own 3 zI] s34]
theorem RpK_ok : ∀ q ∈ RpK, ItemOk Try.prog q := items_cons i35 (items_cons i34 items_nil)
noncomputable def p13n0 : (Int × (Int × Int) × Int × Int) → Option ((List Int) × Int × Bool) := fun d =>
 optE (s35 (d, [], d.2.2.1, true)) (fun r1 =>
 bif !r1.2 then
 some (([], 0, false))
 else
 some (([], r1.1.2.1, true)))
 (none)
def f13n0 : (Int × (Int × Int) × Int × Int) → (Int × (Int × Int) × Int × Int) × (List Int) := fun d => (d, [])
theorem h13n0 : ∀ d, evalK Try.prog (Pars [.own 3 zI, .d zI, .d .bool]) (knowM md5 RpK) 60 20 13 (cvs [.d (.agg (.pair zI (.pair zP zP))), .d (.slice zI)] (f13n0 d)) (canonK [.own 3 zI, .d zI, .d .bool]) = p13n0 d := fun d => by kernel_rfl
noncomputable def s13n0 : (Int × (Int × Int) × Int × Int) × (List Int) → Option ((List Int) × Int × Bool) := fun
 | (d, []) => p13n0 d
 | _ => none
theorem q13n0 : ∀ x y, s13n0 x = some y → ∃ d, x = f13n0 d ∧ p13n0 d = some y := by
 intro x y h
 unfold s13n0 at h
 split at h
 ·exact ⟨_, rfl, h⟩
 ·cases h
theorem i13n0 : ItemOk Try.prog (.fn 13 [.d (.agg (.pair zI (.pair zP zP))), .d (.slice zI)] [.own 3 zI, .d zI, .d .bool] s13n0) := @item_fnP Try.prog md5 ext5 RpK noSpecial mixed RpK_ok 13 60 20 [.d (.agg (.pair zI (.pair zP zP))), .d (.slice zI)] [.own 3 zI, .d zI, .d .bool] ((Int × (Int × Int) × Int × Int)) f13n0 p13n0 s13n0 h13n0 q13n0
@[reducible] def T13_2b : Tmpl := ⟨116, [(2, .ref 2 0 0 0), (7, .cref 21 0 2 (.pair .bool .unit)), (8, .int .i64 0)], [.lst 1 1 zI, .val 9 (.slice zI), .val 10 zI, .cells 2 [.d (.pair zI (.pair zP zP))], .cells 21 Kc1i12], [], none⟩
@[reducible] def X13_2b : List (Ex × Tmpl) := [(.exit 2, ⟨116, [(2, .ref 2 0 0 0), (7, .cref 21 0 2 (.pair .bool .unit)), (8, .int .i64 0)], [.lst 1 1 zI, .cells 2 [.d (.pair zI (.pair zP zP))], .cells 21 Kc1i12], [], none⟩)]
noncomputable def step13_2b : (List Int) × (List Int) × Int × (Int × (Int × Int) × Int × Int) × RwM2 → Option (((List Int) × (List Int) × Int × (Int × (Int × Int) × Int × Int) × RwM2) ⊕ ((List Int) × (Int × (Int × Int) × Int × Int) × RwM2)) := fun (targets, all0, k, d, rows) =>
 bif decide (k < (all0.length : Int)) then
  bif inBounds k all0.length then
   optE (s35 (d, rows.2, all0.getD k.toNat 0, true)) (fun r2 =>
    bif r2.2 then
     bif room 24 (rows.1.length + 1) then
      some (.inl (padV 1 zI targets, all0, wr (k + 1), d, (rows.1 ++ [r2.1], rows.2)))
     else
      none
    else
     some (.inl (padV 1 zI targets, all0, wr (k + 1), d, rows)))
    (none)
  else
   none
 else
  some (.inr (padV 1 zI targets, d, rows))
theorem one13_2b : oneLoop Try.prog 13 2 = true := by kernel_rfl
theorem lp13_2b : ItemOk Try.prog (.loop 13 2 T13_2b X13_2b (loopVal step13_2b)) := item_loopM md5 ext5 (U := 60) (n := 19) noSpecial mixed RpK_ok one13_2b (fun x => by kernel_rfl)
noncomputable def Gn1K1 : List Ev.Item := .loop 13 2 T13_2b X13_2b (loopVal step13_2b) :: RpK
theorem Gn1K1_ok : ∀ q ∈ Gn1K1, ItemOk Try.prog q := items_cons lp13_2b RpK_ok
noncomputable def p13n1 : (Int × (Int × Int) × Int × Int) × Int → Option ((List Int) × Int × Bool) := fun (d, t0) =>
 optE (s34 (d, t0)) (fun r1 =>
 optE (loopVal step13_2b ([t0], r1, 0, d, ([], []))) (fun e2 =>
 optE (s35 (e2.2.1, e2.2.2.1, e2.2.1.2.2.1, false)) (fun r3 =>
 bif !r3.2 then
 some (([], 0, false))
 else
 bif inBounds r3.1.2.2 e2.2.2.1.length then
 bif inBounds r3.1.2.2 e2.2.2.1.length then
 some (([(e2.2.2.1.getD r3.1.2.2.toNat (0, 0, 0)).1], r3.1.2.1, true))
 else
 none
 else
 none)
 (none))
 (none))
 (none)
def f13n1 : (Int × (Int × Int) × Int × Int) × Int → (Int × (Int × Int) × Int × Int) × (List Int) := fun (d, t0) => (d, [t0])
theorem h13n1 : ∀ d, evalK Try.prog (Pars [.own 3 zI, .d zI, .d .bool]) (knowM md5 Gn1K1) 60 20 13 (cvs [.d (.agg (.pair zI (.pair zP zP))), .d (.slice zI)] (f13n1 d)) (canonK [.own 3 zI, .d zI, .d .bool]) = p13n1 d := fun d => by kernel_rfl
noncomputable def s13n1 : (Int × (Int × Int) × Int × Int) × (List Int) → Option ((List Int) × Int × Bool) := fun
 | (d, [t0]) => p13n1 (d, t0)
 | _ => none
theorem q13n1 : ∀ x y, s13n1 x = some y → ∃ d, x = f13n1 d ∧ p13n1 d = some y := by
 intro x y h
 unfold s13n1 at h
 split at h
 ·exact ⟨_, rfl, h⟩
 ·cases h
theorem i13n1 : ItemOk Try.prog (.fn 13 [.d (.agg (.pair zI (.pair zP zP))), .d (.slice zI)] [.own 3 zI, .d zI, .d .bool] s13n1) := @item_fnP Try.prog md5 ext5 Gn1K1 noSpecial mixed Gn1K1_ok 13 60 20 [.d (.agg (.pair zI (.pair zP zP))), .d (.slice zI)] [.own 3 zI, .d zI, .d .bool] ((Int × (Int × Int) × Int × Int) × Int) f13n1 p13n1 s13n1 h13n1 q13n1
@[reducible] def T13_2c : Tmpl := ⟨116, [(2, .ref 2 0 0 0), (7, .cref 21 0 3 (.pair .bool .unit)), (8, .int .i64 1)], [.lst 1 2 zI, .val 9 (.slice zI), .val 10 zI, .cells 2 [.d (.pair zI (.pair zP zP))], .cells 21 Kc1i11], [], none⟩
@[reducible] def X13_2c : List (Ex × Tmpl) := [(.exit 2, ⟨116, [(2, .ref 2 0 0 0), (7, .cref 21 0 3 (.pair .bool .unit)), (8, .int .i64 1)], [.lst 1 2 zI, .cells 2 [.d (.pair zI (.pair zP zP))], .cells 21 Kc1i11], [], none⟩)]
noncomputable def step13_2c : (List Int) × (List Int) × Int × (Int × (Int × Int) × Int × Int) × RwM3 → Option (((List Int) × (List Int) × Int × (Int × (Int × Int) × Int × Int) × RwM3) ⊕ ((List Int) × (Int × (Int × Int) × Int × Int) × RwM3)) := fun (targets, all0, k, d, rows) =>
 bif decide (k < (all0.length : Int)) then
  bif inBounds k all0.length then
   optE (s35 (d, rows.2.2, all0.getD k.toNat 0, true)) (fun r2 =>
    bif r2.2 then
     bif room 24 (rows.2.1.length + 1) then
      some (.inl (padV 2 zI targets, all0, wr (k + 1), d, (rows.1, rows.2.1 ++ [r2.1], rows.2.2)))
     else
      none
    else
     some (.inl (padV 2 zI targets, all0, wr (k + 1), d, rows)))
    (none)
  else
   none
 else
  some (.inr (padV 2 zI targets, d, rows))
theorem one13_2c : oneLoop Try.prog 13 2 = true := by kernel_rfl
theorem lp13_2c : ItemOk Try.prog (.loop 13 2 T13_2c X13_2c (loopVal step13_2c)) := item_loopM md5 ext5 (U := 60) (n := 19) noSpecial mixed RpK_ok one13_2c (fun x => by kernel_rfl)
noncomputable def Gn1K2 : List Ev.Item := .loop 13 2 T13_2c X13_2c (loopVal step13_2c) :: RpK
theorem Gn1K2_ok : ∀ q ∈ Gn1K2, ItemOk Try.prog q := items_cons lp13_2c RpK_ok
@[reducible] def T13_2ca : Tmpl := ⟨116, [(2, .ref 2 0 0 0), (7, .cref 21 0 3 (.pair .bool .unit)), (8, .int .i64 0)], [.lst 1 2 zI, .val 9 (.slice zI), .val 10 zI, .cells 2 [.d (.pair zI (.pair zP zP))], .cells 21 Kc1i10], [], none⟩
@[reducible] def X13_2ca : List (Ex × Tmpl) := [(.exit 2, ⟨116, [(2, .ref 2 0 0 0), (7, .cref 21 0 3 (.pair .bool .unit)), (8, .int .i64 0)], [.lst 1 2 zI, .cells 2 [.d (.pair zI (.pair zP zP))], .cells 21 Kc1i10], [], none⟩)]
noncomputable def step13_2ca : (List Int) × (List Int) × Int × (Int × (Int × Int) × Int × Int) × RwM3 → Option (((List Int) × (List Int) × Int × (Int × (Int × Int) × Int × Int) × RwM3) ⊕ ((List Int) × (Int × (Int × Int) × Int × Int) × RwM3)) := fun (targets, all0, k, d, rows) =>
 bif decide (k < (all0.length : Int)) then
  bif inBounds k all0.length then
   optE (s35 (d, rows.2.1, all0.getD k.toNat 0, false)) (fun r4 =>
    bif r4.2 then
     bif room 24 (rows.1.length + 1) then
      some (.inl (padV 2 zI targets, all0, wr (k + 1), d, (rows.1 ++ [r4.1], rows.2.1, rows.2.2)))
     else
      none
    else
     some (.inl (padV 2 zI targets, all0, wr (k + 1), d, rows)))
    (none)
  else
   none
 else
  some (.inr (padV 2 zI targets, d, rows))
theorem one13_2ca : oneLoop Try.prog 13 2 = true := by kernel_rfl
theorem lp13_2ca : ItemOk Try.prog (.loop 13 2 T13_2ca X13_2ca (loopVal step13_2ca)) := item_loopM md5 ext5 (U := 60) (n := 19) noSpecial mixed Gn1K2_ok one13_2ca (fun x => by kernel_rfl)
noncomputable def Gn1K3 : List Ev.Item := .loop 13 2 T13_2ca X13_2ca (loopVal step13_2ca) :: Gn1K2
theorem Gn1K3_ok : ∀ q ∈ Gn1K3, ItemOk Try.prog q := items_cons lp13_2ca Gn1K2_ok
noncomputable def p13n2 : (Int × (Int × Int) × Int × Int) × Int × Int → Option ((List Int) × Int × Bool) := fun (d, t0, t1) =>
 optE (s34 (d, t1)) (fun r1 =>
 optE (loopVal step13_2c ([t0, t1], r1, 0, d, ([], [], []))) (fun e2 =>
 optE (s34 (e2.2.1, (padV 2 zI e2.1).getD 0 0)) (fun r3 =>
 optE (loopVal step13_2ca (padV 2 zI e2.1, r3, 0, e2.2.1, e2.2.2)) (fun e4 =>
 optE (s35 (e4.2.1, e4.2.2.1, e4.2.1.2.2.1, false)) (fun r5 =>
 bif !r5.2 then
 some (([], 0, false))
 else
 bif inBounds r5.1.2.2 e4.2.2.1.length then
 bif inBounds r5.1.2.2 e4.2.2.1.length then
 bif inBounds (e4.2.2.1.getD r5.1.2.2.toNat (0, 0, 0)).2.2 e4.2.2.2.1.length then
 bif inBounds (e4.2.2.1.getD r5.1.2.2.toNat (0, 0, 0)).2.2 e4.2.2.2.1.length then
 some (([(e4.2.2.1.getD r5.1.2.2.toNat (0, 0, 0)).1, (e4.2.2.2.1.getD (e4.2.2.1.getD r5.1.2.2.toNat (0, 0, 0)).2.2.toNat (0, 0, 0)).1], r5.1.2.1, true))
 else
 none
 else
 none
 else
 none
 else
 none)
 (none))
 (none))
 (none))
 (none))
 (none)
def f13n2 : (Int × (Int × Int) × Int × Int) × Int × Int → (Int × (Int × Int) × Int × Int) × (List Int) := fun (d, t0, t1) => (d, [t0, t1])
theorem h13n2 : ∀ d, evalK Try.prog (Pars [.own 3 zI, .d zI, .d .bool]) (knowM md5 Gn1K3) 60 20 13 (cvs [.d (.agg (.pair zI (.pair zP zP))), .d (.slice zI)] (f13n2 d)) (canonK [.own 3 zI, .d zI, .d .bool]) = p13n2 d := fun d => by kernel_rfl
noncomputable def s13n2 : (Int × (Int × Int) × Int × Int) × (List Int) → Option ((List Int) × Int × Bool) := fun
 | (d, [t0, t1]) => p13n2 (d, t0, t1)
 | _ => none
theorem q13n2 : ∀ x y, s13n2 x = some y → ∃ d, x = f13n2 d ∧ p13n2 d = some y := by
 intro x y h
 unfold s13n2 at h
 split at h
 ·exact ⟨_, rfl, h⟩
 ·cases h
theorem i13n2 : ItemOk Try.prog (.fn 13 [.d (.agg (.pair zI (.pair zP zP))), .d (.slice zI)] [.own 3 zI, .d zI, .d .bool] s13n2) := @item_fnP Try.prog md5 ext5 Gn1K3 noSpecial mixed Gn1K3_ok 13 60 20 [.d (.agg (.pair zI (.pair zP zP))), .d (.slice zI)] [.own 3 zI, .d zI, .d .bool] ((Int × (Int × Int) × Int × Int) × Int × Int) f13n2 p13n2 s13n2 h13n2 q13n2
@[reducible] def T13_2d : Tmpl := ⟨116, [(2, .ref 2 0 0 0), (7, .cref 21 0 4 (.pair .bool .unit)), (8, .int .i64 2)], [.lst 1 3 zI, .val 9 (.slice zI), .val 10 zI, .cells 2 [.d (.pair zI (.pair zP zP))], .cells 21 Kc1i9], [], none⟩
@[reducible] def X13_2d : List (Ex × Tmpl) := [(.exit 2, ⟨116, [(2, .ref 2 0 0 0), (7, .cref 21 0 4 (.pair .bool .unit)), (8, .int .i64 2)], [.lst 1 3 zI, .cells 2 [.d (.pair zI (.pair zP zP))], .cells 21 Kc1i9], [], none⟩)]
noncomputable def step13_2d : (List Int) × (List Int) × Int × (Int × (Int × Int) × Int × Int) × RwM4 → Option (((List Int) × (List Int) × Int × (Int × (Int × Int) × Int × Int) × RwM4) ⊕ ((List Int) × (Int × (Int × Int) × Int × Int) × RwM4)) := fun (targets, all0, k, d, rows) =>
 bif decide (k < (all0.length : Int)) then
  bif inBounds k all0.length then
   optE (s35 (d, rows.2.2.2, all0.getD k.toNat 0, true)) (fun r2 =>
    bif r2.2 then
     bif room 24 (rows.2.2.1.length + 1) then
      some (.inl (padV 3 zI targets, all0, wr (k + 1), d, (rows.1, rows.2.1, rows.2.2.1 ++ [r2.1], rows.2.2.2)))
     else
      none
    else
     some (.inl (padV 3 zI targets, all0, wr (k + 1), d, rows)))
    (none)
  else
   none
 else
  some (.inr (padV 3 zI targets, d, rows))
theorem one13_2d : oneLoop Try.prog 13 2 = true := by kernel_rfl
theorem lp13_2d : ItemOk Try.prog (.loop 13 2 T13_2d X13_2d (loopVal step13_2d)) := item_loopM md5 ext5 (U := 60) (n := 19) noSpecial mixed RpK_ok one13_2d (fun x => by kernel_rfl)
noncomputable def Gn1K4 : List Ev.Item := .loop 13 2 T13_2d X13_2d (loopVal step13_2d) :: RpK
theorem Gn1K4_ok : ∀ q ∈ Gn1K4, ItemOk Try.prog q := items_cons lp13_2d RpK_ok
@[reducible] def T13_2da : Tmpl := ⟨116, [(2, .ref 2 0 0 0), (7, .cref 21 0 4 (.pair .bool .unit)), (8, .int .i64 1)], [.lst 1 3 zI, .val 9 (.slice zI), .val 10 zI, .cells 2 [.d (.pair zI (.pair zP zP))], .cells 21 Kc1i8], [], none⟩
@[reducible] def X13_2da : List (Ex × Tmpl) := [(.exit 2, ⟨116, [(2, .ref 2 0 0 0), (7, .cref 21 0 4 (.pair .bool .unit)), (8, .int .i64 1)], [.lst 1 3 zI, .cells 2 [.d (.pair zI (.pair zP zP))], .cells 21 Kc1i8], [], none⟩)]
noncomputable def step13_2da : (List Int) × (List Int) × Int × (Int × (Int × Int) × Int × Int) × RwM4 → Option (((List Int) × (List Int) × Int × (Int × (Int × Int) × Int × Int) × RwM4) ⊕ ((List Int) × (Int × (Int × Int) × Int × Int) × RwM4)) := fun (targets, all0, k, d, rows) =>
 bif decide (k < (all0.length : Int)) then
  bif inBounds k all0.length then
   optE (s35 (d, rows.2.2.1, all0.getD k.toNat 0, false)) (fun r4 =>
    bif r4.2 then
     bif room 24 (rows.2.1.length + 1) then
      some (.inl (padV 3 zI targets, all0, wr (k + 1), d, (rows.1, rows.2.1 ++ [r4.1], rows.2.2.1, rows.2.2.2)))
     else
      none
    else
     some (.inl (padV 3 zI targets, all0, wr (k + 1), d, rows)))
    (none)
  else
   none
 else
  some (.inr (padV 3 zI targets, d, rows))
theorem one13_2da : oneLoop Try.prog 13 2 = true := by kernel_rfl
theorem lp13_2da : ItemOk Try.prog (.loop 13 2 T13_2da X13_2da (loopVal step13_2da)) := item_loopM md5 ext5 (U := 60) (n := 19) noSpecial mixed Gn1K4_ok one13_2da (fun x => by kernel_rfl)
noncomputable def Gn1K5 : List Ev.Item := .loop 13 2 T13_2da X13_2da (loopVal step13_2da) :: Gn1K4
theorem Gn1K5_ok : ∀ q ∈ Gn1K5, ItemOk Try.prog q := items_cons lp13_2da Gn1K4_ok
@[reducible] def T13_2db : Tmpl := ⟨116, [(2, .ref 2 0 0 0), (7, .cref 21 0 4 (.pair .bool .unit)), (8, .int .i64 0)], [.lst 1 3 zI, .val 9 (.slice zI), .val 10 zI, .cells 2 [.d (.pair zI (.pair zP zP))], .cells 21 Kc1i8], [], none⟩
@[reducible] def X13_2db : List (Ex × Tmpl) := [(.exit 2, ⟨116, [(2, .ref 2 0 0 0), (7, .cref 21 0 4 (.pair .bool .unit)), (8, .int .i64 0)], [.lst 1 3 zI, .cells 2 [.d (.pair zI (.pair zP zP))], .cells 21 Kc1i8], [], none⟩)]
noncomputable def step13_2db : (List Int) × (List Int) × Int × (Int × (Int × Int) × Int × Int) × RwM4 → Option (((List Int) × (List Int) × Int × (Int × (Int × Int) × Int × Int) × RwM4) ⊕ ((List Int) × (Int × (Int × Int) × Int × Int) × RwM4)) := fun (targets, all0, k, d, rows) =>
 bif decide (k < (all0.length : Int)) then
  bif inBounds k all0.length then
   optE (s35 (d, rows.2.1, all0.getD k.toNat 0, false)) (fun r6 =>
    bif r6.2 then
     bif room 24 (rows.1.length + 1) then
      some (.inl (padV 3 zI targets, all0, wr (k + 1), d, (rows.1 ++ [r6.1], rows.2.1, rows.2.2.1, rows.2.2.2)))
     else
      none
    else
     some (.inl (padV 3 zI targets, all0, wr (k + 1), d, rows)))
    (none)
  else
   none
 else
  some (.inr (padV 3 zI targets, d, rows))
theorem one13_2db : oneLoop Try.prog 13 2 = true := by kernel_rfl
theorem lp13_2db : ItemOk Try.prog (.loop 13 2 T13_2db X13_2db (loopVal step13_2db)) := item_loopM md5 ext5 (U := 60) (n := 19) noSpecial mixed Gn1K5_ok one13_2db (fun x => by kernel_rfl)
noncomputable def Gn1K6 : List Ev.Item := .loop 13 2 T13_2db X13_2db (loopVal step13_2db) :: Gn1K5
theorem Gn1K6_ok : ∀ q ∈ Gn1K6, ItemOk Try.prog q := items_cons lp13_2db Gn1K5_ok
noncomputable def p13n3 : (Int × (Int × Int) × Int × Int) × Int × Int × Int → Option ((List Int) × Int × Bool) := fun (d, t0, t1, t2) =>
 optE (s34 (d, t2)) (fun r1 =>
 optE (loopVal step13_2d ([t0, t1, t2], r1, 0, d, ([], [], [], []))) (fun e2 =>
 optE (s34 (e2.2.1, (padV 3 zI e2.1).getD 1 0)) (fun r3 =>
 optE (loopVal step13_2da (padV 3 zI e2.1, r3, 0, e2.2.1, e2.2.2)) (fun e4 =>
 optE (s34 (e4.2.1, (padV 3 zI e4.1).getD 0 0)) (fun r5 =>
 optE (loopVal step13_2db (padV 3 zI e4.1, r5, 0, e4.2.1, e4.2.2)) (fun e6 =>
 optE (s35 (e6.2.1, e6.2.2.1, e6.2.1.2.2.1, false)) (fun r7 =>
 bif !r7.2 then
 some (([], 0, false))
 else
 bif inBounds r7.1.2.2 e6.2.2.1.length then
 bif inBounds r7.1.2.2 e6.2.2.1.length then
 bif inBounds (e6.2.2.1.getD r7.1.2.2.toNat (0, 0, 0)).2.2 e6.2.2.2.1.length then
 bif inBounds (e6.2.2.1.getD r7.1.2.2.toNat (0, 0, 0)).2.2 e6.2.2.2.1.length then
 bif inBounds (e6.2.2.2.1.getD (e6.2.2.1.getD r7.1.2.2.toNat (0, 0, 0)).2.2.toNat (0, 0, 0)).2.2 e6.2.2.2.2.1.length then
 bif inBounds (e6.2.2.2.1.getD (e6.2.2.1.getD r7.1.2.2.toNat (0, 0, 0)).2.2.toNat (0, 0, 0)).2.2 e6.2.2.2.2.1.length then
 some (([(e6.2.2.1.getD r7.1.2.2.toNat (0, 0, 0)).1, (e6.2.2.2.1.getD (e6.2.2.1.getD r7.1.2.2.toNat (0, 0, 0)).2.2.toNat (0, 0, 0)).1, (e6.2.2.2.2.1.getD (e6.2.2.2.1.getD (e6.2.2.1.getD r7.1.2.2.toNat (0, 0, 0)).2.2.toNat (0, 0, 0)).2.2.toNat (0, 0, 0)).1], r7.1.2.1, true))
 else
 none
 else
 none
 else
 none
 else
 none
 else
 none
 else
 none)
 (none))
 (none))
 (none))
 (none))
 (none))
 (none))
 (none)
def f13n3 : (Int × (Int × Int) × Int × Int) × Int × Int × Int → (Int × (Int × Int) × Int × Int) × (List Int) := fun (d, t0, t1, t2) => (d, [t0, t1, t2])
theorem h13n3 : ∀ d, evalK Try.prog (Pars [.own 3 zI, .d zI, .d .bool]) (knowM md5 Gn1K6) 60 20 13 (cvs [.d (.agg (.pair zI (.pair zP zP))), .d (.slice zI)] (f13n3 d)) (canonK [.own 3 zI, .d zI, .d .bool]) = p13n3 d := fun d => by kernel_rfl
noncomputable def s13n3 : (Int × (Int × Int) × Int × Int) × (List Int) → Option ((List Int) × Int × Bool) := fun
 | (d, [t0, t1, t2]) => p13n3 (d, t0, t1, t2)
 | _ => none
theorem q13n3 : ∀ x y, s13n3 x = some y → ∃ d, x = f13n3 d ∧ p13n3 d = some y := by
 intro x y h
 unfold s13n3 at h
 split at h
 ·exact ⟨_, rfl, h⟩
 ·cases h
theorem i13n3 : ItemOk Try.prog (.fn 13 [.d (.agg (.pair zI (.pair zP zP))), .d (.slice zI)] [.own 3 zI, .d zI, .d .bool] s13n3) := @item_fnP Try.prog md5 ext5 Gn1K6 noSpecial mixed Gn1K6_ok 13 60 20 [.d (.agg (.pair zI (.pair zP zP))), .d (.slice zI)] [.own 3 zI, .d zI, .d .bool] ((Int × (Int × Int) × Int × Int) × Int × Int × Int) f13n3 p13n3 s13n3 h13n3 q13n3
@[reducible] def T13_2e : Tmpl := ⟨116, [(2, .ref 2 0 0 0), (7, .cref 21 0 5 (.pair .bool .unit)), (8, .int .i64 3)], [.lst 1 4 zI, .val 9 (.slice zI), .val 10 zI, .cells 2 [.d (.pair zI (.pair zP zP))], .cells 21 Kc1h], [], none⟩
@[reducible] def X13_2e : List (Ex × Tmpl) := [(.exit 2, ⟨116, [(2, .ref 2 0 0 0), (7, .cref 21 0 5 (.pair .bool .unit)), (8, .int .i64 3)], [.lst 1 4 zI, .cells 2 [.d (.pair zI (.pair zP zP))], .cells 21 Kc1h], [], none⟩)]
noncomputable def step13_2e : (List Int) × (List Int) × Int × (Int × (Int × Int) × Int × Int) × RwM5 → Option (((List Int) × (List Int) × Int × (Int × (Int × Int) × Int × Int) × RwM5) ⊕ ((List Int) × (Int × (Int × Int) × Int × Int) × RwM5)) := fun (targets, all0, k, d, rows) =>
 bif decide (k < (all0.length : Int)) then
  bif inBounds k all0.length then
   optE (s35 (d, rows.2.2.2.2, all0.getD k.toNat 0, true)) (fun r2 =>
    bif r2.2 then
     bif room 24 (rows.2.2.2.1.length + 1) then
      some (.inl (padV 4 zI targets, all0, wr (k + 1), d, (rows.1, rows.2.1, rows.2.2.1, rows.2.2.2.1 ++ [r2.1], rows.2.2.2.2)))
     else
      none
    else
     some (.inl (padV 4 zI targets, all0, wr (k + 1), d, rows)))
    (none)
  else
   none
 else
  some (.inr (padV 4 zI targets, d, rows))
theorem one13_2e : oneLoop Try.prog 13 2 = true := by kernel_rfl
theorem lp13_2e : ItemOk Try.prog (.loop 13 2 T13_2e X13_2e (loopVal step13_2e)) := item_loopM md5 ext5 (U := 60) (n := 19) noSpecial mixed RpK_ok one13_2e (fun x => by kernel_rfl)
noncomputable def Gn1K7 : List Ev.Item := .loop 13 2 T13_2e X13_2e (loopVal step13_2e) :: RpK
theorem Gn1K7_ok : ∀ q ∈ Gn1K7, ItemOk Try.prog q := items_cons lp13_2e RpK_ok
@[reducible] def T13_2ea : Tmpl := ⟨116, [(2, .ref 2 0 0 0), (7, .cref 21 0 5 (.pair .bool .unit)), (8, .int .i64 2)], [.lst 1 4 zI, .val 9 (.slice zI), .val 10 zI, .cells 2 [.d (.pair zI (.pair zP zP))], .cells 21 Kc1g], [], none⟩
@[reducible] def X13_2ea : List (Ex × Tmpl) := [(.exit 2, ⟨116, [(2, .ref 2 0 0 0), (7, .cref 21 0 5 (.pair .bool .unit)), (8, .int .i64 2)], [.lst 1 4 zI, .cells 2 [.d (.pair zI (.pair zP zP))], .cells 21 Kc1g], [], none⟩)]
noncomputable def step13_2ea : (List Int) × (List Int) × Int × (Int × (Int × Int) × Int × Int) × RwM5 → Option (((List Int) × (List Int) × Int × (Int × (Int × Int) × Int × Int) × RwM5) ⊕ ((List Int) × (Int × (Int × Int) × Int × Int) × RwM5)) := fun (targets, all0, k, d, rows) =>
 bif decide (k < (all0.length : Int)) then
  bif inBounds k all0.length then
   optE (s35 (d, rows.2.2.2.1, all0.getD k.toNat 0, false)) (fun r4 =>
    bif r4.2 then
     bif room 24 (rows.2.2.1.length + 1) then
      some (.inl (padV 4 zI targets, all0, wr (k + 1), d, (rows.1, rows.2.1, rows.2.2.1 ++ [r4.1], rows.2.2.2.1, rows.2.2.2.2)))
     else
      none
    else
     some (.inl (padV 4 zI targets, all0, wr (k + 1), d, rows)))
    (none)
  else
   none
 else
  some (.inr (padV 4 zI targets, d, rows))
theorem one13_2ea : oneLoop Try.prog 13 2 = true := by kernel_rfl
theorem lp13_2ea : ItemOk Try.prog (.loop 13 2 T13_2ea X13_2ea (loopVal step13_2ea)) := item_loopM md5 ext5 (U := 60) (n := 19) noSpecial mixed Gn1K7_ok one13_2ea (fun x => by kernel_rfl)
noncomputable def Gn1K8 : List Ev.Item := .loop 13 2 T13_2ea X13_2ea (loopVal step13_2ea) :: Gn1K7
theorem Gn1K8_ok : ∀ q ∈ Gn1K8, ItemOk Try.prog q := items_cons lp13_2ea Gn1K7_ok
@[reducible] def T13_2eb : Tmpl := ⟨116, [(2, .ref 2 0 0 0), (7, .cref 21 0 5 (.pair .bool .unit)), (8, .int .i64 1)], [.lst 1 4 zI, .val 9 (.slice zI), .val 10 zI, .cells 2 [.d (.pair zI (.pair zP zP))], .cells 21 Kc1g], [], none⟩
@[reducible] def X13_2eb : List (Ex × Tmpl) := [(.exit 2, ⟨116, [(2, .ref 2 0 0 0), (7, .cref 21 0 5 (.pair .bool .unit)), (8, .int .i64 1)], [.lst 1 4 zI, .cells 2 [.d (.pair zI (.pair zP zP))], .cells 21 Kc1g], [], none⟩)]
noncomputable def step13_2eb : (List Int) × (List Int) × Int × (Int × (Int × Int) × Int × Int) × RwM5 → Option (((List Int) × (List Int) × Int × (Int × (Int × Int) × Int × Int) × RwM5) ⊕ ((List Int) × (Int × (Int × Int) × Int × Int) × RwM5)) := fun (targets, all0, k, d, rows) =>
 bif decide (k < (all0.length : Int)) then
  bif inBounds k all0.length then
   optE (s35 (d, rows.2.2.1, all0.getD k.toNat 0, false)) (fun r6 =>
    bif r6.2 then
     bif room 24 (rows.2.1.length + 1) then
      some (.inl (padV 4 zI targets, all0, wr (k + 1), d, (rows.1, rows.2.1 ++ [r6.1], rows.2.2.1, rows.2.2.2.1, rows.2.2.2.2)))
     else
      none
    else
     some (.inl (padV 4 zI targets, all0, wr (k + 1), d, rows)))
    (none)
  else
   none
 else
  some (.inr (padV 4 zI targets, d, rows))
theorem one13_2eb : oneLoop Try.prog 13 2 = true := by kernel_rfl
theorem lp13_2eb : ItemOk Try.prog (.loop 13 2 T13_2eb X13_2eb (loopVal step13_2eb)) := item_loopM md5 ext5 (U := 60) (n := 19) noSpecial mixed Gn1K8_ok one13_2eb (fun x => by kernel_rfl)
noncomputable def Gn1K9 : List Ev.Item := .loop 13 2 T13_2eb X13_2eb (loopVal step13_2eb) :: Gn1K8
theorem Gn1K9_ok : ∀ q ∈ Gn1K9, ItemOk Try.prog q := items_cons lp13_2eb Gn1K8_ok
@[reducible] def T13_2ec : Tmpl := ⟨116, [(2, .ref 2 0 0 0), (7, .cref 21 0 5 (.pair .bool .unit)), (8, .int .i64 0)], [.lst 1 4 zI, .val 9 (.slice zI), .val 10 zI, .cells 2 [.d (.pair zI (.pair zP zP))], .cells 21 Kc1g], [], none⟩
@[reducible] def X13_2ec : List (Ex × Tmpl) := [(.exit 2, ⟨116, [(2, .ref 2 0 0 0), (7, .cref 21 0 5 (.pair .bool .unit)), (8, .int .i64 0)], [.lst 1 4 zI, .cells 2 [.d (.pair zI (.pair zP zP))], .cells 21 Kc1g], [], none⟩)]
noncomputable def step13_2ec : (List Int) × (List Int) × Int × (Int × (Int × Int) × Int × Int) × RwM5 → Option (((List Int) × (List Int) × Int × (Int × (Int × Int) × Int × Int) × RwM5) ⊕ ((List Int) × (Int × (Int × Int) × Int × Int) × RwM5)) := fun (targets, all0, k, d, rows) =>
 bif decide (k < (all0.length : Int)) then
  bif inBounds k all0.length then
   optE (s35 (d, rows.2.1, all0.getD k.toNat 0, false)) (fun r8 =>
    bif r8.2 then
     bif room 24 (rows.1.length + 1) then
      some (.inl (padV 4 zI targets, all0, wr (k + 1), d, (rows.1 ++ [r8.1], rows.2.1, rows.2.2.1, rows.2.2.2.1, rows.2.2.2.2)))
     else
      none
    else
     some (.inl (padV 4 zI targets, all0, wr (k + 1), d, rows)))
    (none)
  else
   none
 else
  some (.inr (padV 4 zI targets, d, rows))
theorem one13_2ec : oneLoop Try.prog 13 2 = true := by kernel_rfl
theorem lp13_2ec : ItemOk Try.prog (.loop 13 2 T13_2ec X13_2ec (loopVal step13_2ec)) := item_loopM md5 ext5 (U := 60) (n := 19) noSpecial mixed Gn1K9_ok one13_2ec (fun x => by kernel_rfl)
noncomputable def Gn1K10 : List Ev.Item := .loop 13 2 T13_2ec X13_2ec (loopVal step13_2ec) :: Gn1K9
theorem Gn1K10_ok : ∀ q ∈ Gn1K10, ItemOk Try.prog q := items_cons lp13_2ec Gn1K9_ok
noncomputable def p13n4 : (Int × (Int × Int) × Int × Int) × Int × Int × Int × Int → Option ((List Int) × Int × Bool) := fun (d, t0, t1, t2, t3) =>
 optE (s34 (d, t3)) (fun r1 =>
 optE (loopVal step13_2e ([t0, t1, t2, t3], r1, 0, d, ([], [], [], [], []))) (fun e2 =>
 optE (s34 (e2.2.1, (padV 4 zI e2.1).getD 2 0)) (fun r3 =>
 optE (loopVal step13_2ea (padV 4 zI e2.1, r3, 0, e2.2.1, e2.2.2)) (fun e4 =>
 optE (s34 (e4.2.1, (padV 4 zI e4.1).getD 1 0)) (fun r5 =>
 optE (loopVal step13_2eb (padV 4 zI e4.1, r5, 0, e4.2.1, e4.2.2)) (fun e6 =>
 optE (s34 (e6.2.1, (padV 4 zI e6.1).getD 0 0)) (fun r7 =>
 optE (loopVal step13_2ec (padV 4 zI e6.1, r7, 0, e6.2.1, e6.2.2)) (fun e8 =>
 optE (s35 (e8.2.1, e8.2.2.1, e8.2.1.2.2.1, false)) (fun r9 =>
 bif !r9.2 then
 some (([], 0, false))
 else
 bif inBounds r9.1.2.2 e8.2.2.1.length then
 bif inBounds r9.1.2.2 e8.2.2.1.length then
 bif inBounds (e8.2.2.1.getD r9.1.2.2.toNat (0, 0, 0)).2.2 e8.2.2.2.1.length then
 bif inBounds (e8.2.2.1.getD r9.1.2.2.toNat (0, 0, 0)).2.2 e8.2.2.2.1.length then
 bif inBounds (e8.2.2.2.1.getD (e8.2.2.1.getD r9.1.2.2.toNat (0, 0, 0)).2.2.toNat (0, 0, 0)).2.2 e8.2.2.2.2.1.length then
 bif inBounds (e8.2.2.2.1.getD (e8.2.2.1.getD r9.1.2.2.toNat (0, 0, 0)).2.2.toNat (0, 0, 0)).2.2 e8.2.2.2.2.1.length then
 bif inBounds (e8.2.2.2.2.1.getD (e8.2.2.2.1.getD (e8.2.2.1.getD r9.1.2.2.toNat (0, 0, 0)).2.2.toNat (0, 0, 0)).2.2.toNat (0, 0, 0)).2.2 e8.2.2.2.2.2.1.length then
 bif inBounds (e8.2.2.2.2.1.getD (e8.2.2.2.1.getD (e8.2.2.1.getD r9.1.2.2.toNat (0, 0, 0)).2.2.toNat (0, 0, 0)).2.2.toNat (0, 0, 0)).2.2 e8.2.2.2.2.2.1.length then
 some (([(e8.2.2.1.getD r9.1.2.2.toNat (0, 0, 0)).1, (e8.2.2.2.1.getD (e8.2.2.1.getD r9.1.2.2.toNat (0, 0, 0)).2.2.toNat (0, 0, 0)).1, (e8.2.2.2.2.1.getD (e8.2.2.2.1.getD (e8.2.2.1.getD r9.1.2.2.toNat (0, 0, 0)).2.2.toNat (0, 0, 0)).2.2.toNat (0, 0, 0)).1, (e8.2.2.2.2.2.1.getD (e8.2.2.2.2.1.getD (e8.2.2.2.1.getD (e8.2.2.1.getD r9.1.2.2.toNat (0, 0, 0)).2.2.toNat (0, 0, 0)).2.2.toNat (0, 0, 0)).2.2.toNat (0, 0, 0)).1], r9.1.2.1, true))
 else
 none
 else
 none
 else
 none
 else
 none
 else
 none
 else
 none
 else
 none
 else
 none)
 (none))
 (none))
 (none))
 (none))
 (none))
 (none))
 (none))
 (none))
 (none)
def f13n4 : (Int × (Int × Int) × Int × Int) × Int × Int × Int × Int → (Int × (Int × Int) × Int × Int) × (List Int) := fun (d, t0, t1, t2, t3) => (d, [t0, t1, t2, t3])
theorem h13n4 : ∀ d, evalK Try.prog (Pars [.own 3 zI, .d zI, .d .bool]) (knowM md5 Gn1K10) 60 20 13 (cvs [.d (.agg (.pair zI (.pair zP zP))), .d (.slice zI)] (f13n4 d)) (canonK [.own 3 zI, .d zI, .d .bool]) = p13n4 d := fun d => by kernel_rfl
noncomputable def s13n4 : (Int × (Int × Int) × Int × Int) × (List Int) → Option ((List Int) × Int × Bool) := fun
 | (d, [t0, t1, t2, t3]) => p13n4 (d, t0, t1, t2, t3)
 | _ => none
theorem q13n4 : ∀ x y, s13n4 x = some y → ∃ d, x = f13n4 d ∧ p13n4 d = some y := by
 intro x y h
 unfold s13n4 at h
 split at h
 ·exact ⟨_, rfl, h⟩
 ·cases h
theorem i13n4 : ItemOk Try.prog (.fn 13 [.d (.agg (.pair zI (.pair zP zP))), .d (.slice zI)] [.own 3 zI, .d zI, .d .bool] s13n4) := @item_fnP Try.prog md5 ext5 Gn1K10 noSpecial mixed Gn1K10_ok 13 60 20 [.d (.agg (.pair zI (.pair zP zP))), .d (.slice zI)] [.own 3 zI, .d zI, .d .bool] ((Int × (Int × Int) × Int × Int) × Int × Int × Int × Int) f13n4 p13n4 s13n4 h13n4 q13n4
@[reducible] def T13_2f : Tmpl := ⟨116, [(2, .ref 2 0 0 0), (7, .cref 21 0 6 (.pair .bool .unit)), (8, .int .i64 4)], [.lst 1 5 zI, .val 9 (.slice zI), .val 10 zI, .cells 2 [.d (.pair zI (.pair zP zP))], .cells 21 Kc1f], [], none⟩
@[reducible] def X13_2f : List (Ex × Tmpl) := [(.exit 2, ⟨116, [(2, .ref 2 0 0 0), (7, .cref 21 0 6 (.pair .bool .unit)), (8, .int .i64 4)], [.lst 1 5 zI, .cells 2 [.d (.pair zI (.pair zP zP))], .cells 21 Kc1f], [], none⟩)]
noncomputable def step13_2f : (List Int) × (List Int) × Int × (Int × (Int × Int) × Int × Int) × RwM6 → Option (((List Int) × (List Int) × Int × (Int × (Int × Int) × Int × Int) × RwM6) ⊕ ((List Int) × (Int × (Int × Int) × Int × Int) × RwM6)) := fun (targets, all0, k, d, rows) =>
 bif decide (k < (all0.length : Int)) then
  bif inBounds k all0.length then
   optE (s35 (d, rows.2.2.2.2.2, all0.getD k.toNat 0, true)) (fun r2 =>
    bif r2.2 then
     bif room 24 (rows.2.2.2.2.1.length + 1) then
      some (.inl (padV 5 zI targets, all0, wr (k + 1), d, (rows.1, rows.2.1, rows.2.2.1, rows.2.2.2.1, rows.2.2.2.2.1 ++ [r2.1], rows.2.2.2.2.2)))
     else
      none
    else
     some (.inl (padV 5 zI targets, all0, wr (k + 1), d, rows)))
    (none)
  else
   none
 else
  some (.inr (padV 5 zI targets, d, rows))
theorem one13_2f : oneLoop Try.prog 13 2 = true := by kernel_rfl
theorem lp13_2f : ItemOk Try.prog (.loop 13 2 T13_2f X13_2f (loopVal step13_2f)) := item_loopM md5 ext5 (U := 60) (n := 19) noSpecial mixed RpK_ok one13_2f (fun x => by kernel_rfl)
noncomputable def Gn1K11 : List Ev.Item := .loop 13 2 T13_2f X13_2f (loopVal step13_2f) :: RpK
theorem Gn1K11_ok : ∀ q ∈ Gn1K11, ItemOk Try.prog q := items_cons lp13_2f RpK_ok
@[reducible] def T13_2fa : Tmpl := ⟨116, [(2, .ref 2 0 0 0), (7, .cref 21 0 6 (.pair .bool .unit)), (8, .int .i64 3)], [.lst 1 5 zI, .val 9 (.slice zI), .val 10 zI, .cells 2 [.d (.pair zI (.pair zP zP))], .cells 21 Kc1e], [], none⟩
@[reducible] def X13_2fa : List (Ex × Tmpl) := [(.exit 2, ⟨116, [(2, .ref 2 0 0 0), (7, .cref 21 0 6 (.pair .bool .unit)), (8, .int .i64 3)], [.lst 1 5 zI, .cells 2 [.d (.pair zI (.pair zP zP))], .cells 21 Kc1e], [], none⟩)]
noncomputable def step13_2fa : (List Int) × (List Int) × Int × (Int × (Int × Int) × Int × Int) × RwM6 → Option (((List Int) × (List Int) × Int × (Int × (Int × Int) × Int × Int) × RwM6) ⊕ ((List Int) × (Int × (Int × Int) × Int × Int) × RwM6)) := fun (targets, all0, k, d, rows) =>
 bif decide (k < (all0.length : Int)) then
  bif inBounds k all0.length then
   optE (s35 (d, rows.2.2.2.2.1, all0.getD k.toNat 0, false)) (fun r4 =>
    bif r4.2 then
     bif room 24 (rows.2.2.2.1.length + 1) then
      some (.inl (padV 5 zI targets, all0, wr (k + 1), d, (rows.1, rows.2.1, rows.2.2.1, rows.2.2.2.1 ++ [r4.1], rows.2.2.2.2.1, rows.2.2.2.2.2)))
     else
      none
    else
     some (.inl (padV 5 zI targets, all0, wr (k + 1), d, rows)))
    (none)
  else
   none
 else
  some (.inr (padV 5 zI targets, d, rows))
theorem one13_2fa : oneLoop Try.prog 13 2 = true := by kernel_rfl
theorem lp13_2fa : ItemOk Try.prog (.loop 13 2 T13_2fa X13_2fa (loopVal step13_2fa)) := item_loopM md5 ext5 (U := 60) (n := 19) noSpecial mixed Gn1K11_ok one13_2fa (fun x => by kernel_rfl)
noncomputable def Gn1K12 : List Ev.Item := .loop 13 2 T13_2fa X13_2fa (loopVal step13_2fa) :: Gn1K11
theorem Gn1K12_ok : ∀ q ∈ Gn1K12, ItemOk Try.prog q := items_cons lp13_2fa Gn1K11_ok
@[reducible] def T13_2fb : Tmpl := ⟨116, [(2, .ref 2 0 0 0), (7, .cref 21 0 6 (.pair .bool .unit)), (8, .int .i64 2)], [.lst 1 5 zI, .val 9 (.slice zI), .val 10 zI, .cells 2 [.d (.pair zI (.pair zP zP))], .cells 21 Kc1e], [], none⟩
@[reducible] def X13_2fb : List (Ex × Tmpl) := [(.exit 2, ⟨116, [(2, .ref 2 0 0 0), (7, .cref 21 0 6 (.pair .bool .unit)), (8, .int .i64 2)], [.lst 1 5 zI, .cells 2 [.d (.pair zI (.pair zP zP))], .cells 21 Kc1e], [], none⟩)]
noncomputable def step13_2fb : (List Int) × (List Int) × Int × (Int × (Int × Int) × Int × Int) × RwM6 → Option (((List Int) × (List Int) × Int × (Int × (Int × Int) × Int × Int) × RwM6) ⊕ ((List Int) × (Int × (Int × Int) × Int × Int) × RwM6)) := fun (targets, all0, k, d, rows) =>
 bif decide (k < (all0.length : Int)) then
  bif inBounds k all0.length then
   optE (s35 (d, rows.2.2.2.1, all0.getD k.toNat 0, false)) (fun r6 =>
    bif r6.2 then
     bif room 24 (rows.2.2.1.length + 1) then
      some (.inl (padV 5 zI targets, all0, wr (k + 1), d, (rows.1, rows.2.1, rows.2.2.1 ++ [r6.1], rows.2.2.2.1, rows.2.2.2.2.1, rows.2.2.2.2.2)))
     else
      none
    else
     some (.inl (padV 5 zI targets, all0, wr (k + 1), d, rows)))
    (none)
  else
   none
 else
  some (.inr (padV 5 zI targets, d, rows))
theorem one13_2fb : oneLoop Try.prog 13 2 = true := by kernel_rfl
theorem lp13_2fb : ItemOk Try.prog (.loop 13 2 T13_2fb X13_2fb (loopVal step13_2fb)) := item_loopM md5 ext5 (U := 60) (n := 19) noSpecial mixed Gn1K12_ok one13_2fb (fun x => by kernel_rfl)
noncomputable def Gn1K13 : List Ev.Item := .loop 13 2 T13_2fb X13_2fb (loopVal step13_2fb) :: Gn1K12
theorem Gn1K13_ok : ∀ q ∈ Gn1K13, ItemOk Try.prog q := items_cons lp13_2fb Gn1K12_ok
@[reducible] def T13_2fc : Tmpl := ⟨116, [(2, .ref 2 0 0 0), (7, .cref 21 0 6 (.pair .bool .unit)), (8, .int .i64 1)], [.lst 1 5 zI, .val 9 (.slice zI), .val 10 zI, .cells 2 [.d (.pair zI (.pair zP zP))], .cells 21 Kc1e], [], none⟩
@[reducible] def X13_2fc : List (Ex × Tmpl) := [(.exit 2, ⟨116, [(2, .ref 2 0 0 0), (7, .cref 21 0 6 (.pair .bool .unit)), (8, .int .i64 1)], [.lst 1 5 zI, .cells 2 [.d (.pair zI (.pair zP zP))], .cells 21 Kc1e], [], none⟩)]
noncomputable def step13_2fc : (List Int) × (List Int) × Int × (Int × (Int × Int) × Int × Int) × RwM6 → Option (((List Int) × (List Int) × Int × (Int × (Int × Int) × Int × Int) × RwM6) ⊕ ((List Int) × (Int × (Int × Int) × Int × Int) × RwM6)) := fun (targets, all0, k, d, rows) =>
 bif decide (k < (all0.length : Int)) then
  bif inBounds k all0.length then
   optE (s35 (d, rows.2.2.1, all0.getD k.toNat 0, false)) (fun r8 =>
    bif r8.2 then
     bif room 24 (rows.2.1.length + 1) then
      some (.inl (padV 5 zI targets, all0, wr (k + 1), d, (rows.1, rows.2.1 ++ [r8.1], rows.2.2.1, rows.2.2.2.1, rows.2.2.2.2.1, rows.2.2.2.2.2)))
     else
      none
    else
     some (.inl (padV 5 zI targets, all0, wr (k + 1), d, rows)))
    (none)
  else
   none
 else
  some (.inr (padV 5 zI targets, d, rows))
theorem one13_2fc : oneLoop Try.prog 13 2 = true := by kernel_rfl
theorem lp13_2fc : ItemOk Try.prog (.loop 13 2 T13_2fc X13_2fc (loopVal step13_2fc)) := item_loopM md5 ext5 (U := 60) (n := 19) noSpecial mixed Gn1K13_ok one13_2fc (fun x => by kernel_rfl)
noncomputable def Gn1K14 : List Ev.Item := .loop 13 2 T13_2fc X13_2fc (loopVal step13_2fc) :: Gn1K13
theorem Gn1K14_ok : ∀ q ∈ Gn1K14, ItemOk Try.prog q := items_cons lp13_2fc Gn1K13_ok
@[reducible] def T13_2fd : Tmpl := ⟨116, [(2, .ref 2 0 0 0), (7, .cref 21 0 6 (.pair .bool .unit)), (8, .int .i64 0)], [.lst 1 5 zI, .val 9 (.slice zI), .val 10 zI, .cells 2 [.d (.pair zI (.pair zP zP))], .cells 21 Kc1e], [], none⟩
@[reducible] def X13_2fd : List (Ex × Tmpl) := [(.exit 2, ⟨116, [(2, .ref 2 0 0 0), (7, .cref 21 0 6 (.pair .bool .unit)), (8, .int .i64 0)], [.lst 1 5 zI, .cells 2 [.d (.pair zI (.pair zP zP))], .cells 21 Kc1e], [], none⟩)]
noncomputable def step13_2fd : (List Int) × (List Int) × Int × (Int × (Int × Int) × Int × Int) × RwM6 → Option (((List Int) × (List Int) × Int × (Int × (Int × Int) × Int × Int) × RwM6) ⊕ ((List Int) × (Int × (Int × Int) × Int × Int) × RwM6)) := fun (targets, all0, k, d, rows) =>
 bif decide (k < (all0.length : Int)) then
  bif inBounds k all0.length then
   optE (s35 (d, rows.2.1, all0.getD k.toNat 0, false)) (fun r10 =>
    bif r10.2 then
     bif room 24 (rows.1.length + 1) then
      some (.inl (padV 5 zI targets, all0, wr (k + 1), d, (rows.1 ++ [r10.1], rows.2.1, rows.2.2.1, rows.2.2.2.1, rows.2.2.2.2.1, rows.2.2.2.2.2)))
     else
      none
    else
     some (.inl (padV 5 zI targets, all0, wr (k + 1), d, rows)))
    (none)
  else
   none
 else
  some (.inr (padV 5 zI targets, d, rows))
theorem one13_2fd : oneLoop Try.prog 13 2 = true := by kernel_rfl
theorem lp13_2fd : ItemOk Try.prog (.loop 13 2 T13_2fd X13_2fd (loopVal step13_2fd)) := item_loopM md5 ext5 (U := 60) (n := 19) noSpecial mixed Gn1K14_ok one13_2fd (fun x => by kernel_rfl)
noncomputable def Gn1K15 : List Ev.Item := .loop 13 2 T13_2fd X13_2fd (loopVal step13_2fd) :: Gn1K14
theorem Gn1K15_ok : ∀ q ∈ Gn1K15, ItemOk Try.prog q := items_cons lp13_2fd Gn1K14_ok
noncomputable def p13n5 : (Int × (Int × Int) × Int × Int) × Int × Int × Int × Int × Int → Option ((List Int) × Int × Bool) := fun (d, t0, t1, t2, t3, t4) =>
 optE (s34 (d, t4)) (fun r1 =>
 optE (loopVal step13_2f ([t0, t1, t2, t3, t4], r1, 0, d, ([], [], [], [], [], []))) (fun e2 =>
 optE (s34 (e2.2.1, (padV 5 zI e2.1).getD 3 0)) (fun r3 =>
 optE (loopVal step13_2fa (padV 5 zI e2.1, r3, 0, e2.2.1, e2.2.2)) (fun e4 =>
 optE (s34 (e4.2.1, (padV 5 zI e4.1).getD 2 0)) (fun r5 =>
 optE (loopVal step13_2fb (padV 5 zI e4.1, r5, 0, e4.2.1, e4.2.2)) (fun e6 =>
 optE (s34 (e6.2.1, (padV 5 zI e6.1).getD 1 0)) (fun r7 =>
 optE (loopVal step13_2fc (padV 5 zI e6.1, r7, 0, e6.2.1, e6.2.2)) (fun e8 =>
 optE (s34 (e8.2.1, (padV 5 zI e8.1).getD 0 0)) (fun r9 =>
 optE (loopVal step13_2fd (padV 5 zI e8.1, r9, 0, e8.2.1, e8.2.2)) (fun e10 =>
 optE (s35 (e10.2.1, e10.2.2.1, e10.2.1.2.2.1, false)) (fun r11 =>
 bif !r11.2 then
 some (([], 0, false))
 else
 bif inBounds r11.1.2.2 e10.2.2.1.length then
 bif inBounds r11.1.2.2 e10.2.2.1.length then
 bif inBounds (e10.2.2.1.getD r11.1.2.2.toNat (0, 0, 0)).2.2 e10.2.2.2.1.length then
 bif inBounds (e10.2.2.1.getD r11.1.2.2.toNat (0, 0, 0)).2.2 e10.2.2.2.1.length then
 bif inBounds (e10.2.2.2.1.getD (e10.2.2.1.getD r11.1.2.2.toNat (0, 0, 0)).2.2.toNat (0, 0, 0)).2.2 e10.2.2.2.2.1.length then
 bif inBounds (e10.2.2.2.1.getD (e10.2.2.1.getD r11.1.2.2.toNat (0, 0, 0)).2.2.toNat (0, 0, 0)).2.2 e10.2.2.2.2.1.length then
 bif inBounds (e10.2.2.2.2.1.getD (e10.2.2.2.1.getD (e10.2.2.1.getD r11.1.2.2.toNat (0, 0, 0)).2.2.toNat (0, 0, 0)).2.2.toNat (0, 0, 0)).2.2 e10.2.2.2.2.2.1.length then
 bif inBounds (e10.2.2.2.2.1.getD (e10.2.2.2.1.getD (e10.2.2.1.getD r11.1.2.2.toNat (0, 0, 0)).2.2.toNat (0, 0, 0)).2.2.toNat (0, 0, 0)).2.2 e10.2.2.2.2.2.1.length then
 bif inBounds (e10.2.2.2.2.2.1.getD (e10.2.2.2.2.1.getD (e10.2.2.2.1.getD (e10.2.2.1.getD r11.1.2.2.toNat (0, 0, 0)).2.2.toNat (0, 0, 0)).2.2.toNat (0, 0, 0)).2.2.toNat (0, 0, 0)).2.2 e10.2.2.2.2.2.2.1.length then
 bif inBounds (e10.2.2.2.2.2.1.getD (e10.2.2.2.2.1.getD (e10.2.2.2.1.getD (e10.2.2.1.getD r11.1.2.2.toNat (0, 0, 0)).2.2.toNat (0, 0, 0)).2.2.toNat (0, 0, 0)).2.2.toNat (0, 0, 0)).2.2 e10.2.2.2.2.2.2.1.length then
 some (([(e10.2.2.1.getD r11.1.2.2.toNat (0, 0, 0)).1, (e10.2.2.2.1.getD (e10.2.2.1.getD r11.1.2.2.toNat (0, 0, 0)).2.2.toNat (0, 0, 0)).1, (e10.2.2.2.2.1.getD (e10.2.2.2.1.getD (e10.2.2.1.getD r11.1.2.2.toNat (0, 0, 0)).2.2.toNat (0, 0, 0)).2.2.toNat (0, 0, 0)).1, (e10.2.2.2.2.2.1.getD (e10.2.2.2.2.1.getD (e10.2.2.2.1.getD (e10.2.2.1.getD r11.1.2.2.toNat (0, 0, 0)).2.2.toNat (0, 0, 0)).2.2.toNat (0, 0, 0)).2.2.toNat (0, 0, 0)).1, (e10.2.2.2.2.2.2.1.getD (e10.2.2.2.2.2.1.getD (e10.2.2.2.2.1.getD (e10.2.2.2.1.getD (e10.2.2.1.getD r11.1.2.2.toNat (0, 0, 0)).2.2.toNat (0, 0, 0)).2.2.toNat (0, 0, 0)).2.2.toNat (0, 0, 0)).2.2.toNat (0, 0, 0)).1], r11.1.2.1, true))
 else
 none
 else
 none
 else
 none
 else
 none
 else
 none
 else
 none
 else
 none
 else
 none
 else
 none
 else
 none)
 (none))
 (none))
 (none))
 (none))
 (none))
 (none))
 (none))
 (none))
 (none))
 (none))
 (none)
def f13n5 : (Int × (Int × Int) × Int × Int) × Int × Int × Int × Int × Int → (Int × (Int × Int) × Int × Int) × (List Int) := fun (d, t0, t1, t2, t3, t4) => (d, [t0, t1, t2, t3, t4])
theorem h13n5 : ∀ d, evalK Try.prog (Pars [.own 3 zI, .d zI, .d .bool]) (knowM md5 Gn1K15) 60 20 13 (cvs [.d (.agg (.pair zI (.pair zP zP))), .d (.slice zI)] (f13n5 d)) (canonK [.own 3 zI, .d zI, .d .bool]) = p13n5 d := fun d => by kernel_rfl
noncomputable def s13n5 : (Int × (Int × Int) × Int × Int) × (List Int) → Option ((List Int) × Int × Bool) := fun
 | (d, [t0, t1, t2, t3, t4]) => p13n5 (d, t0, t1, t2, t3, t4)
 | _ => none
theorem q13n5 : ∀ x y, s13n5 x = some y → ∃ d, x = f13n5 d ∧ p13n5 d = some y := by
 intro x y h
 unfold s13n5 at h
 split at h
 ·exact ⟨_, rfl, h⟩
 ·cases h
theorem i13n5 : ItemOk Try.prog (.fn 13 [.d (.agg (.pair zI (.pair zP zP))), .d (.slice zI)] [.own 3 zI, .d zI, .d .bool] s13n5) := @item_fnP Try.prog md5 ext5 Gn1K15 noSpecial mixed Gn1K15_ok 13 60 20 [.d (.agg (.pair zI (.pair zP zP))), .d (.slice zI)] [.own 3 zI, .d zI, .d .bool] ((Int × (Int × Int) × Int × Int) × Int × Int × Int × Int × Int) f13n5 p13n5 s13n5 h13n5 q13n5
@[reducible] def T13_2g : Tmpl := ⟨116, [(2, .ref 2 0 0 0), (7, .cref 21 0 7 (.pair .bool .unit)), (8, .int .i64 5)], [.lst 1 6 zI, .val 9 (.slice zI), .val 10 zI, .cells 2 [.d (.pair zI (.pair zP zP))], .cells 21 Kc1d], [], none⟩
@[reducible] def X13_2g : List (Ex × Tmpl) := [(.exit 2, ⟨116, [(2, .ref 2 0 0 0), (7, .cref 21 0 7 (.pair .bool .unit)), (8, .int .i64 5)], [.lst 1 6 zI, .cells 2 [.d (.pair zI (.pair zP zP))], .cells 21 Kc1d], [], none⟩)]
noncomputable def step13_2g : (List Int) × (List Int) × Int × (Int × (Int × Int) × Int × Int) × RwM7 → Option (((List Int) × (List Int) × Int × (Int × (Int × Int) × Int × Int) × RwM7) ⊕ ((List Int) × (Int × (Int × Int) × Int × Int) × RwM7)) := fun (targets, all0, k, d, rows) =>
 bif decide (k < (all0.length : Int)) then
  bif inBounds k all0.length then
   optE (s35 (d, rows.2.2.2.2.2.2, all0.getD k.toNat 0, true)) (fun r2 =>
    bif r2.2 then
     bif room 24 (rows.2.2.2.2.2.1.length + 1) then
      some (.inl (padV 6 zI targets, all0, wr (k + 1), d, (rows.1, rows.2.1, rows.2.2.1, rows.2.2.2.1, rows.2.2.2.2.1, rows.2.2.2.2.2.1 ++ [r2.1], rows.2.2.2.2.2.2)))
     else
      none
    else
     some (.inl (padV 6 zI targets, all0, wr (k + 1), d, rows)))
    (none)
  else
   none
 else
  some (.inr (padV 6 zI targets, d, rows))
theorem one13_2g : oneLoop Try.prog 13 2 = true := by kernel_rfl
theorem lp13_2g : ItemOk Try.prog (.loop 13 2 T13_2g X13_2g (loopVal step13_2g)) := item_loopM md5 ext5 (U := 60) (n := 19) noSpecial mixed RpK_ok one13_2g (fun x => by kernel_rfl)
noncomputable def Gn1K16 : List Ev.Item := .loop 13 2 T13_2g X13_2g (loopVal step13_2g) :: RpK
theorem Gn1K16_ok : ∀ q ∈ Gn1K16, ItemOk Try.prog q := items_cons lp13_2g RpK_ok
@[reducible] def T13_2ga : Tmpl := ⟨116, [(2, .ref 2 0 0 0), (7, .cref 21 0 7 (.pair .bool .unit)), (8, .int .i64 4)], [.lst 1 6 zI, .val 9 (.slice zI), .val 10 zI, .cells 2 [.d (.pair zI (.pair zP zP))], .cells 21 Kc1c], [], none⟩
@[reducible] def X13_2ga : List (Ex × Tmpl) := [(.exit 2, ⟨116, [(2, .ref 2 0 0 0), (7, .cref 21 0 7 (.pair .bool .unit)), (8, .int .i64 4)], [.lst 1 6 zI, .cells 2 [.d (.pair zI (.pair zP zP))], .cells 21 Kc1c], [], none⟩)]
noncomputable def step13_2ga : (List Int) × (List Int) × Int × (Int × (Int × Int) × Int × Int) × RwM7 → Option (((List Int) × (List Int) × Int × (Int × (Int × Int) × Int × Int) × RwM7) ⊕ ((List Int) × (Int × (Int × Int) × Int × Int) × RwM7)) := fun (targets, all0, k, d, rows) =>
 bif decide (k < (all0.length : Int)) then
  bif inBounds k all0.length then
   optE (s35 (d, rows.2.2.2.2.2.1, all0.getD k.toNat 0, false)) (fun r4 =>
    bif r4.2 then
     bif room 24 (rows.2.2.2.2.1.length + 1) then
      some (.inl (padV 6 zI targets, all0, wr (k + 1), d, (rows.1, rows.2.1, rows.2.2.1, rows.2.2.2.1, rows.2.2.2.2.1 ++ [r4.1], rows.2.2.2.2.2.1, rows.2.2.2.2.2.2)))
     else
      none
    else
     some (.inl (padV 6 zI targets, all0, wr (k + 1), d, rows)))
    (none)
  else
   none
 else
  some (.inr (padV 6 zI targets, d, rows))
theorem one13_2ga : oneLoop Try.prog 13 2 = true := by kernel_rfl
theorem lp13_2ga : ItemOk Try.prog (.loop 13 2 T13_2ga X13_2ga (loopVal step13_2ga)) := item_loopM md5 ext5 (U := 60) (n := 19) noSpecial mixed Gn1K16_ok one13_2ga (fun x => by kernel_rfl)
noncomputable def Gn1K17 : List Ev.Item := .loop 13 2 T13_2ga X13_2ga (loopVal step13_2ga) :: Gn1K16
theorem Gn1K17_ok : ∀ q ∈ Gn1K17, ItemOk Try.prog q := items_cons lp13_2ga Gn1K16_ok
@[reducible] def T13_2gb : Tmpl := ⟨116, [(2, .ref 2 0 0 0), (7, .cref 21 0 7 (.pair .bool .unit)), (8, .int .i64 3)], [.lst 1 6 zI, .val 9 (.slice zI), .val 10 zI, .cells 2 [.d (.pair zI (.pair zP zP))], .cells 21 Kc1c], [], none⟩
@[reducible] def X13_2gb : List (Ex × Tmpl) := [(.exit 2, ⟨116, [(2, .ref 2 0 0 0), (7, .cref 21 0 7 (.pair .bool .unit)), (8, .int .i64 3)], [.lst 1 6 zI, .cells 2 [.d (.pair zI (.pair zP zP))], .cells 21 Kc1c], [], none⟩)]
noncomputable def step13_2gb : (List Int) × (List Int) × Int × (Int × (Int × Int) × Int × Int) × RwM7 → Option (((List Int) × (List Int) × Int × (Int × (Int × Int) × Int × Int) × RwM7) ⊕ ((List Int) × (Int × (Int × Int) × Int × Int) × RwM7)) := fun (targets, all0, k, d, rows) =>
 bif decide (k < (all0.length : Int)) then
  bif inBounds k all0.length then
   optE (s35 (d, rows.2.2.2.2.1, all0.getD k.toNat 0, false)) (fun r6 =>
    bif r6.2 then
     bif room 24 (rows.2.2.2.1.length + 1) then
      some (.inl (padV 6 zI targets, all0, wr (k + 1), d, (rows.1, rows.2.1, rows.2.2.1, rows.2.2.2.1 ++ [r6.1], rows.2.2.2.2.1, rows.2.2.2.2.2.1, rows.2.2.2.2.2.2)))
     else
      none
    else
     some (.inl (padV 6 zI targets, all0, wr (k + 1), d, rows)))
    (none)
  else
   none
 else
  some (.inr (padV 6 zI targets, d, rows))
theorem one13_2gb : oneLoop Try.prog 13 2 = true := by kernel_rfl
theorem lp13_2gb : ItemOk Try.prog (.loop 13 2 T13_2gb X13_2gb (loopVal step13_2gb)) := item_loopM md5 ext5 (U := 60) (n := 19) noSpecial mixed Gn1K17_ok one13_2gb (fun x => by kernel_rfl)
noncomputable def Gn1K18 : List Ev.Item := .loop 13 2 T13_2gb X13_2gb (loopVal step13_2gb) :: Gn1K17
theorem Gn1K18_ok : ∀ q ∈ Gn1K18, ItemOk Try.prog q := items_cons lp13_2gb Gn1K17_ok
@[reducible] def T13_2gc : Tmpl := ⟨116, [(2, .ref 2 0 0 0), (7, .cref 21 0 7 (.pair .bool .unit)), (8, .int .i64 2)], [.lst 1 6 zI, .val 9 (.slice zI), .val 10 zI, .cells 2 [.d (.pair zI (.pair zP zP))], .cells 21 Kc1c], [], none⟩
@[reducible] def X13_2gc : List (Ex × Tmpl) := [(.exit 2, ⟨116, [(2, .ref 2 0 0 0), (7, .cref 21 0 7 (.pair .bool .unit)), (8, .int .i64 2)], [.lst 1 6 zI, .cells 2 [.d (.pair zI (.pair zP zP))], .cells 21 Kc1c], [], none⟩)]
noncomputable def step13_2gc : (List Int) × (List Int) × Int × (Int × (Int × Int) × Int × Int) × RwM7 → Option (((List Int) × (List Int) × Int × (Int × (Int × Int) × Int × Int) × RwM7) ⊕ ((List Int) × (Int × (Int × Int) × Int × Int) × RwM7)) := fun (targets, all0, k, d, rows) =>
 bif decide (k < (all0.length : Int)) then
  bif inBounds k all0.length then
   optE (s35 (d, rows.2.2.2.1, all0.getD k.toNat 0, false)) (fun r8 =>
    bif r8.2 then
     bif room 24 (rows.2.2.1.length + 1) then
      some (.inl (padV 6 zI targets, all0, wr (k + 1), d, (rows.1, rows.2.1, rows.2.2.1 ++ [r8.1], rows.2.2.2.1, rows.2.2.2.2.1, rows.2.2.2.2.2.1, rows.2.2.2.2.2.2)))
     else
      none
    else
     some (.inl (padV 6 zI targets, all0, wr (k + 1), d, rows)))
    (none)
  else
   none
 else
  some (.inr (padV 6 zI targets, d, rows))
theorem one13_2gc : oneLoop Try.prog 13 2 = true := by kernel_rfl
theorem lp13_2gc : ItemOk Try.prog (.loop 13 2 T13_2gc X13_2gc (loopVal step13_2gc)) := item_loopM md5 ext5 (U := 60) (n := 19) noSpecial mixed Gn1K18_ok one13_2gc (fun x => by kernel_rfl)
noncomputable def Gn1K19 : List Ev.Item := .loop 13 2 T13_2gc X13_2gc (loopVal step13_2gc) :: Gn1K18
theorem Gn1K19_ok : ∀ q ∈ Gn1K19, ItemOk Try.prog q := items_cons lp13_2gc Gn1K18_ok
@[reducible] def T13_2gd : Tmpl := ⟨116, [(2, .ref 2 0 0 0), (7, .cref 21 0 7 (.pair .bool .unit)), (8, .int .i64 1)], [.lst 1 6 zI, .val 9 (.slice zI), .val 10 zI, .cells 2 [.d (.pair zI (.pair zP zP))], .cells 21 Kc1c], [], none⟩
@[reducible] def X13_2gd : List (Ex × Tmpl) := [(.exit 2, ⟨116, [(2, .ref 2 0 0 0), (7, .cref 21 0 7 (.pair .bool .unit)), (8, .int .i64 1)], [.lst 1 6 zI, .cells 2 [.d (.pair zI (.pair zP zP))], .cells 21 Kc1c], [], none⟩)]
noncomputable def step13_2gd : (List Int) × (List Int) × Int × (Int × (Int × Int) × Int × Int) × RwM7 → Option (((List Int) × (List Int) × Int × (Int × (Int × Int) × Int × Int) × RwM7) ⊕ ((List Int) × (Int × (Int × Int) × Int × Int) × RwM7)) := fun (targets, all0, k, d, rows) =>
 bif decide (k < (all0.length : Int)) then
  bif inBounds k all0.length then
   optE (s35 (d, rows.2.2.1, all0.getD k.toNat 0, false)) (fun r10 =>
    bif r10.2 then
     bif room 24 (rows.2.1.length + 1) then
      some (.inl (padV 6 zI targets, all0, wr (k + 1), d, (rows.1, rows.2.1 ++ [r10.1], rows.2.2.1, rows.2.2.2.1, rows.2.2.2.2.1, rows.2.2.2.2.2.1, rows.2.2.2.2.2.2)))
     else
      none
    else
     some (.inl (padV 6 zI targets, all0, wr (k + 1), d, rows)))
    (none)
  else
   none
 else
  some (.inr (padV 6 zI targets, d, rows))
theorem one13_2gd : oneLoop Try.prog 13 2 = true := by kernel_rfl
theorem lp13_2gd : ItemOk Try.prog (.loop 13 2 T13_2gd X13_2gd (loopVal step13_2gd)) := item_loopM md5 ext5 (U := 60) (n := 19) noSpecial mixed Gn1K19_ok one13_2gd (fun x => by kernel_rfl)
noncomputable def Gn1K20 : List Ev.Item := .loop 13 2 T13_2gd X13_2gd (loopVal step13_2gd) :: Gn1K19
theorem Gn1K20_ok : ∀ q ∈ Gn1K20, ItemOk Try.prog q := items_cons lp13_2gd Gn1K19_ok
@[reducible] def T13_2ge : Tmpl := ⟨116, [(2, .ref 2 0 0 0), (7, .cref 21 0 7 (.pair .bool .unit)), (8, .int .i64 0)], [.lst 1 6 zI, .val 9 (.slice zI), .val 10 zI, .cells 2 [.d (.pair zI (.pair zP zP))], .cells 21 Kc1c], [], none⟩
@[reducible] def X13_2ge : List (Ex × Tmpl) := [(.exit 2, ⟨116, [(2, .ref 2 0 0 0), (7, .cref 21 0 7 (.pair .bool .unit)), (8, .int .i64 0)], [.lst 1 6 zI, .cells 2 [.d (.pair zI (.pair zP zP))], .cells 21 Kc1c], [], none⟩)]
noncomputable def step13_2ge : (List Int) × (List Int) × Int × (Int × (Int × Int) × Int × Int) × RwM7 → Option (((List Int) × (List Int) × Int × (Int × (Int × Int) × Int × Int) × RwM7) ⊕ ((List Int) × (Int × (Int × Int) × Int × Int) × RwM7)) := fun (targets, all0, k, d, rows) =>
 bif decide (k < (all0.length : Int)) then
  bif inBounds k all0.length then
   optE (s35 (d, rows.2.1, all0.getD k.toNat 0, false)) (fun r12 =>
    bif r12.2 then
     bif room 24 (rows.1.length + 1) then
      some (.inl (padV 6 zI targets, all0, wr (k + 1), d, (rows.1 ++ [r12.1], rows.2.1, rows.2.2.1, rows.2.2.2.1, rows.2.2.2.2.1, rows.2.2.2.2.2.1, rows.2.2.2.2.2.2)))
     else
      none
    else
     some (.inl (padV 6 zI targets, all0, wr (k + 1), d, rows)))
    (none)
  else
   none
 else
  some (.inr (padV 6 zI targets, d, rows))
theorem one13_2ge : oneLoop Try.prog 13 2 = true := by kernel_rfl
theorem lp13_2ge : ItemOk Try.prog (.loop 13 2 T13_2ge X13_2ge (loopVal step13_2ge)) := item_loopM md5 ext5 (U := 60) (n := 19) noSpecial mixed Gn1K20_ok one13_2ge (fun x => by kernel_rfl)
noncomputable def Gn1K21 : List Ev.Item := .loop 13 2 T13_2ge X13_2ge (loopVal step13_2ge) :: Gn1K20
theorem Gn1K21_ok : ∀ q ∈ Gn1K21, ItemOk Try.prog q := items_cons lp13_2ge Gn1K20_ok
noncomputable def p13n6 : (Int × (Int × Int) × Int × Int) × Int × Int × Int × Int × Int × Int → Option ((List Int) × Int × Bool) := fun (d, t0, t1, t2, t3, t4, t5) =>
 optE (s34 (d, t5)) (fun r1 =>
 optE (loopVal step13_2g ([t0, t1, t2, t3, t4, t5], r1, 0, d, ([], [], [], [], [], [], []))) (fun e2 =>
 optE (s34 (e2.2.1, (padV 6 zI e2.1).getD 4 0)) (fun r3 =>
 optE (loopVal step13_2ga (padV 6 zI e2.1, r3, 0, e2.2.1, e2.2.2)) (fun e4 =>
 optE (s34 (e4.2.1, (padV 6 zI e4.1).getD 3 0)) (fun r5 =>
 optE (loopVal step13_2gb (padV 6 zI e4.1, r5, 0, e4.2.1, e4.2.2)) (fun e6 =>
 optE (s34 (e6.2.1, (padV 6 zI e6.1).getD 2 0)) (fun r7 =>
 optE (loopVal step13_2gc (padV 6 zI e6.1, r7, 0, e6.2.1, e6.2.2)) (fun e8 =>
 optE (s34 (e8.2.1, (padV 6 zI e8.1).getD 1 0)) (fun r9 =>
 optE (loopVal step13_2gd (padV 6 zI e8.1, r9, 0, e8.2.1, e8.2.2)) (fun e10 =>
 optE (s34 (e10.2.1, (padV 6 zI e10.1).getD 0 0)) (fun r11 =>
 optE (loopVal step13_2ge (padV 6 zI e10.1, r11, 0, e10.2.1, e10.2.2)) (fun e12 =>
 optE (s35 (e12.2.1, e12.2.2.1, e12.2.1.2.2.1, false)) (fun r13 =>
 bif !r13.2 then
 some (([], 0, false))
 else
 bif inBounds r13.1.2.2 e12.2.2.1.length then
 bif inBounds r13.1.2.2 e12.2.2.1.length then
 bif inBounds (e12.2.2.1.getD r13.1.2.2.toNat (0, 0, 0)).2.2 e12.2.2.2.1.length then
 bif inBounds (e12.2.2.1.getD r13.1.2.2.toNat (0, 0, 0)).2.2 e12.2.2.2.1.length then
 bif inBounds (e12.2.2.2.1.getD (e12.2.2.1.getD r13.1.2.2.toNat (0, 0, 0)).2.2.toNat (0, 0, 0)).2.2 e12.2.2.2.2.1.length then
 bif inBounds (e12.2.2.2.1.getD (e12.2.2.1.getD r13.1.2.2.toNat (0, 0, 0)).2.2.toNat (0, 0, 0)).2.2 e12.2.2.2.2.1.length then
 bif inBounds (e12.2.2.2.2.1.getD (e12.2.2.2.1.getD (e12.2.2.1.getD r13.1.2.2.toNat (0, 0, 0)).2.2.toNat (0, 0, 0)).2.2.toNat (0, 0, 0)).2.2 e12.2.2.2.2.2.1.length then
 bif inBounds (e12.2.2.2.2.1.getD (e12.2.2.2.1.getD (e12.2.2.1.getD r13.1.2.2.toNat (0, 0, 0)).2.2.toNat (0, 0, 0)).2.2.toNat (0, 0, 0)).2.2 e12.2.2.2.2.2.1.length then
 bif inBounds (e12.2.2.2.2.2.1.getD (e12.2.2.2.2.1.getD (e12.2.2.2.1.getD (e12.2.2.1.getD r13.1.2.2.toNat (0, 0, 0)).2.2.toNat (0, 0, 0)).2.2.toNat (0, 0, 0)).2.2.toNat (0, 0, 0)).2.2 e12.2.2.2.2.2.2.1.length then
 bif inBounds (e12.2.2.2.2.2.1.getD (e12.2.2.2.2.1.getD (e12.2.2.2.1.getD (e12.2.2.1.getD r13.1.2.2.toNat (0, 0, 0)).2.2.toNat (0, 0, 0)).2.2.toNat (0, 0, 0)).2.2.toNat (0, 0, 0)).2.2 e12.2.2.2.2.2.2.1.length then
 bif inBounds (e12.2.2.2.2.2.2.1.getD (e12.2.2.2.2.2.1.getD (e12.2.2.2.2.1.getD (e12.2.2.2.1.getD (e12.2.2.1.getD r13.1.2.2.toNat (0, 0, 0)).2.2.toNat (0, 0, 0)).2.2.toNat (0, 0, 0)).2.2.toNat (0, 0, 0)).2.2.toNat (0, 0, 0)).2.2 e12.2.2.2.2.2.2.2.1.length then
 bif inBounds (e12.2.2.2.2.2.2.1.getD (e12.2.2.2.2.2.1.getD (e12.2.2.2.2.1.getD (e12.2.2.2.1.getD (e12.2.2.1.getD r13.1.2.2.toNat (0, 0, 0)).2.2.toNat (0, 0, 0)).2.2.toNat (0, 0, 0)).2.2.toNat (0, 0, 0)).2.2.toNat (0, 0, 0)).2.2 e12.2.2.2.2.2.2.2.1.length then
 some (([(e12.2.2.1.getD r13.1.2.2.toNat (0, 0, 0)).1, (e12.2.2.2.1.getD (e12.2.2.1.getD r13.1.2.2.toNat (0, 0, 0)).2.2.toNat (0, 0, 0)).1, (e12.2.2.2.2.1.getD (e12.2.2.2.1.getD (e12.2.2.1.getD r13.1.2.2.toNat (0, 0, 0)).2.2.toNat (0, 0, 0)).2.2.toNat (0, 0, 0)).1, (e12.2.2.2.2.2.1.getD (e12.2.2.2.2.1.getD (e12.2.2.2.1.getD (e12.2.2.1.getD r13.1.2.2.toNat (0, 0, 0)).2.2.toNat (0, 0, 0)).2.2.toNat (0, 0, 0)).2.2.toNat (0, 0, 0)).1, (e12.2.2.2.2.2.2.1.getD (e12.2.2.2.2.2.1.getD (e12.2.2.2.2.1.getD (e12.2.2.2.1.getD (e12.2.2.1.getD r13.1.2.2.toNat (0, 0, 0)).2.2.toNat (0, 0, 0)).2.2.toNat (0, 0, 0)).2.2.toNat (0, 0, 0)).2.2.toNat (0, 0, 0)).1, (e12.2.2.2.2.2.2.2.1.getD (e12.2.2.2.2.2.2.1.getD (e12.2.2.2.2.2.1.getD (e12.2.2.2.2.1.getD (e12.2.2.2.1.getD (e12.2.2.1.getD r13.1.2.2.toNat (0, 0, 0)).2.2.toNat (0, 0, 0)).2.2.toNat (0, 0, 0)).2.2.toNat (0, 0, 0)).2.2.toNat (0, 0, 0)).2.2.toNat (0, 0, 0)).1], r13.1.2.1, true))
 else
 none
 else
 none
 else
 none
 else
 none
 else
 none
 else
 none
 else
 none
 else
 none
 else
 none
 else
 none
 else
 none
 else
 none)
 (none))
 (none))
 (none))
 (none))
 (none))
 (none))
 (none))
 (none))
 (none))
 (none))
 (none))
 (none))
 (none)
def f13n6 : (Int × (Int × Int) × Int × Int) × Int × Int × Int × Int × Int × Int → (Int × (Int × Int) × Int × Int) × (List Int) := fun (d, t0, t1, t2, t3, t4, t5) => (d, [t0, t1, t2, t3, t4, t5])
theorem h13n6 : ∀ d, evalK Try.prog (Pars [.own 3 zI, .d zI, .d .bool]) (knowM md5 Gn1K21) 60 20 13 (cvs [.d (.agg (.pair zI (.pair zP zP))), .d (.slice zI)] (f13n6 d)) (canonK [.own 3 zI, .d zI, .d .bool]) = p13n6 d := fun d => by kernel_rfl
noncomputable def s13n6 : (Int × (Int × Int) × Int × Int) × (List Int) → Option ((List Int) × Int × Bool) := fun
 | (d, [t0, t1, t2, t3, t4, t5]) => p13n6 (d, t0, t1, t2, t3, t4, t5)
 | _ => none
theorem q13n6 : ∀ x y, s13n6 x = some y → ∃ d, x = f13n6 d ∧ p13n6 d = some y := by
 intro x y h
 unfold s13n6 at h
 split at h
 ·exact ⟨_, rfl, h⟩
 ·cases h
theorem i13n6 : ItemOk Try.prog (.fn 13 [.d (.agg (.pair zI (.pair zP zP))), .d (.slice zI)] [.own 3 zI, .d zI, .d .bool] s13n6) := @item_fnP Try.prog md5 ext5 Gn1K21 noSpecial mixed Gn1K21_ok 13 60 20 [.d (.agg (.pair zI (.pair zP zP))), .d (.slice zI)] [.own 3 zI, .d zI, .d .bool] ((Int × (Int × Int) × Int × Int) × Int × Int × Int × Int × Int × Int) f13n6 p13n6 s13n6 h13n6 q13n6
@[reducible] def T13_2h : Tmpl := ⟨116, [(2, .ref 2 0 0 0), (7, .cref 21 0 8 (.pair .bool .unit)), (8, .int .i64 6)], [.lst 1 7 zI, .val 9 (.slice zI), .val 10 zI, .cells 2 [.d (.pair zI (.pair zP zP))], .cells 21 Kc1b], [], none⟩
@[reducible] def X13_2h : List (Ex × Tmpl) := [(.exit 2, ⟨116, [(2, .ref 2 0 0 0), (7, .cref 21 0 8 (.pair .bool .unit)), (8, .int .i64 6)], [.lst 1 7 zI, .cells 2 [.d (.pair zI (.pair zP zP))], .cells 21 Kc1b], [], none⟩)]
noncomputable def step13_2h : (List Int) × (List Int) × Int × (Int × (Int × Int) × Int × Int) × RwM8 → Option (((List Int) × (List Int) × Int × (Int × (Int × Int) × Int × Int) × RwM8) ⊕ ((List Int) × (Int × (Int × Int) × Int × Int) × RwM8)) := fun (targets, all0, k, d, rows) =>
 bif decide (k < (all0.length : Int)) then
  bif inBounds k all0.length then
   optE (s35 (d, rows.2.2.2.2.2.2.2, all0.getD k.toNat 0, true)) (fun r2 =>
    bif r2.2 then
     bif room 24 (rows.2.2.2.2.2.2.1.length + 1) then
      some (.inl (padV 7 zI targets, all0, wr (k + 1), d, (rows.1, rows.2.1, rows.2.2.1, rows.2.2.2.1, rows.2.2.2.2.1, rows.2.2.2.2.2.1, rows.2.2.2.2.2.2.1 ++ [r2.1], rows.2.2.2.2.2.2.2)))
     else
      none
    else
     some (.inl (padV 7 zI targets, all0, wr (k + 1), d, rows)))
    (none)
  else
   none
 else
  some (.inr (padV 7 zI targets, d, rows))
theorem one13_2h : oneLoop Try.prog 13 2 = true := by kernel_rfl
theorem lp13_2h : ItemOk Try.prog (.loop 13 2 T13_2h X13_2h (loopVal step13_2h)) := item_loopM md5 ext5 (U := 60) (n := 19) noSpecial mixed RpK_ok one13_2h (fun x => by kernel_rfl)
noncomputable def Gn1K22 : List Ev.Item := .loop 13 2 T13_2h X13_2h (loopVal step13_2h) :: RpK
theorem Gn1K22_ok : ∀ q ∈ Gn1K22, ItemOk Try.prog q := items_cons lp13_2h RpK_ok
@[reducible] def T13_2ha : Tmpl := ⟨116, [(2, .ref 2 0 0 0), (7, .cref 21 0 8 (.pair .bool .unit)), (8, .int .i64 5)], [.lst 1 7 zI, .val 9 (.slice zI), .val 10 zI, .cells 2 [.d (.pair zI (.pair zP zP))], .cells 21 Kc1a], [], none⟩
@[reducible] def X13_2ha : List (Ex × Tmpl) := [(.exit 2, ⟨116, [(2, .ref 2 0 0 0), (7, .cref 21 0 8 (.pair .bool .unit)), (8, .int .i64 5)], [.lst 1 7 zI, .cells 2 [.d (.pair zI (.pair zP zP))], .cells 21 Kc1a], [], none⟩)]
noncomputable def step13_2ha : (List Int) × (List Int) × Int × (Int × (Int × Int) × Int × Int) × RwM8 → Option (((List Int) × (List Int) × Int × (Int × (Int × Int) × Int × Int) × RwM8) ⊕ ((List Int) × (Int × (Int × Int) × Int × Int) × RwM8)) := fun (targets, all0, k, d, rows) =>
 bif decide (k < (all0.length : Int)) then
  bif inBounds k all0.length then
   optE (s35 (d, rows.2.2.2.2.2.2.1, all0.getD k.toNat 0, false)) (fun r4 =>
    bif r4.2 then
     bif room 24 (rows.2.2.2.2.2.1.length + 1) then
      some (.inl (padV 7 zI targets, all0, wr (k + 1), d, (rows.1, rows.2.1, rows.2.2.1, rows.2.2.2.1, rows.2.2.2.2.1, rows.2.2.2.2.2.1 ++ [r4.1], rows.2.2.2.2.2.2.1, rows.2.2.2.2.2.2.2)))
     else
      none
    else
     some (.inl (padV 7 zI targets, all0, wr (k + 1), d, rows)))
    (none)
  else
   none
 else
  some (.inr (padV 7 zI targets, d, rows))
theorem one13_2ha : oneLoop Try.prog 13 2 = true := by kernel_rfl
theorem lp13_2ha : ItemOk Try.prog (.loop 13 2 T13_2ha X13_2ha (loopVal step13_2ha)) := item_loopM md5 ext5 (U := 60) (n := 19) noSpecial mixed Gn1K22_ok one13_2ha (fun x => by kernel_rfl)
noncomputable def Gn1K23 : List Ev.Item := .loop 13 2 T13_2ha X13_2ha (loopVal step13_2ha) :: Gn1K22
theorem Gn1K23_ok : ∀ q ∈ Gn1K23, ItemOk Try.prog q := items_cons lp13_2ha Gn1K22_ok
@[reducible] def T13_2hb : Tmpl := ⟨116, [(2, .ref 2 0 0 0), (7, .cref 21 0 8 (.pair .bool .unit)), (8, .int .i64 4)], [.lst 1 7 zI, .val 9 (.slice zI), .val 10 zI, .cells 2 [.d (.pair zI (.pair zP zP))], .cells 21 Kc1a], [], none⟩
@[reducible] def X13_2hb : List (Ex × Tmpl) := [(.exit 2, ⟨116, [(2, .ref 2 0 0 0), (7, .cref 21 0 8 (.pair .bool .unit)), (8, .int .i64 4)], [.lst 1 7 zI, .cells 2 [.d (.pair zI (.pair zP zP))], .cells 21 Kc1a], [], none⟩)]
noncomputable def step13_2hb : (List Int) × (List Int) × Int × (Int × (Int × Int) × Int × Int) × RwM8 → Option (((List Int) × (List Int) × Int × (Int × (Int × Int) × Int × Int) × RwM8) ⊕ ((List Int) × (Int × (Int × Int) × Int × Int) × RwM8)) := fun (targets, all0, k, d, rows) =>
 bif decide (k < (all0.length : Int)) then
  bif inBounds k all0.length then
   optE (s35 (d, rows.2.2.2.2.2.1, all0.getD k.toNat 0, false)) (fun r6 =>
    bif r6.2 then
     bif room 24 (rows.2.2.2.2.1.length + 1) then
      some (.inl (padV 7 zI targets, all0, wr (k + 1), d, (rows.1, rows.2.1, rows.2.2.1, rows.2.2.2.1, rows.2.2.2.2.1 ++ [r6.1], rows.2.2.2.2.2.1, rows.2.2.2.2.2.2.1, rows.2.2.2.2.2.2.2)))
     else
      none
    else
     some (.inl (padV 7 zI targets, all0, wr (k + 1), d, rows)))
    (none)
  else
   none
 else
  some (.inr (padV 7 zI targets, d, rows))
theorem one13_2hb : oneLoop Try.prog 13 2 = true := by kernel_rfl
theorem lp13_2hb : ItemOk Try.prog (.loop 13 2 T13_2hb X13_2hb (loopVal step13_2hb)) := item_loopM md5 ext5 (U := 60) (n := 19) noSpecial mixed Gn1K23_ok one13_2hb (fun x => by kernel_rfl)
noncomputable def Gn1K24 : List Ev.Item := .loop 13 2 T13_2hb X13_2hb (loopVal step13_2hb) :: Gn1K23
theorem Gn1K24_ok : ∀ q ∈ Gn1K24, ItemOk Try.prog q := items_cons lp13_2hb Gn1K23_ok
@[reducible] def T13_2hc : Tmpl := ⟨116, [(2, .ref 2 0 0 0), (7, .cref 21 0 8 (.pair .bool .unit)), (8, .int .i64 3)], [.lst 1 7 zI, .val 9 (.slice zI), .val 10 zI, .cells 2 [.d (.pair zI (.pair zP zP))], .cells 21 Kc1a], [], none⟩
@[reducible] def X13_2hc : List (Ex × Tmpl) := [(.exit 2, ⟨116, [(2, .ref 2 0 0 0), (7, .cref 21 0 8 (.pair .bool .unit)), (8, .int .i64 3)], [.lst 1 7 zI, .cells 2 [.d (.pair zI (.pair zP zP))], .cells 21 Kc1a], [], none⟩)]
noncomputable def step13_2hc : (List Int) × (List Int) × Int × (Int × (Int × Int) × Int × Int) × RwM8 → Option (((List Int) × (List Int) × Int × (Int × (Int × Int) × Int × Int) × RwM8) ⊕ ((List Int) × (Int × (Int × Int) × Int × Int) × RwM8)) := fun (targets, all0, k, d, rows) =>
 bif decide (k < (all0.length : Int)) then
  bif inBounds k all0.length then
   optE (s35 (d, rows.2.2.2.2.1, all0.getD k.toNat 0, false)) (fun r8 =>
    bif r8.2 then
     bif room 24 (rows.2.2.2.1.length + 1) then
      some (.inl (padV 7 zI targets, all0, wr (k + 1), d, (rows.1, rows.2.1, rows.2.2.1, rows.2.2.2.1 ++ [r8.1], rows.2.2.2.2.1, rows.2.2.2.2.2.1, rows.2.2.2.2.2.2.1, rows.2.2.2.2.2.2.2)))
     else
      none
    else
     some (.inl (padV 7 zI targets, all0, wr (k + 1), d, rows)))
    (none)
  else
   none
 else
  some (.inr (padV 7 zI targets, d, rows))
theorem one13_2hc : oneLoop Try.prog 13 2 = true := by kernel_rfl
theorem lp13_2hc : ItemOk Try.prog (.loop 13 2 T13_2hc X13_2hc (loopVal step13_2hc)) := item_loopM md5 ext5 (U := 60) (n := 19) noSpecial mixed Gn1K24_ok one13_2hc (fun x => by kernel_rfl)
noncomputable def Gn1K25 : List Ev.Item := .loop 13 2 T13_2hc X13_2hc (loopVal step13_2hc) :: Gn1K24
theorem Gn1K25_ok : ∀ q ∈ Gn1K25, ItemOk Try.prog q := items_cons lp13_2hc Gn1K24_ok
@[reducible] def T13_2hd : Tmpl := ⟨116, [(2, .ref 2 0 0 0), (7, .cref 21 0 8 (.pair .bool .unit)), (8, .int .i64 2)], [.lst 1 7 zI, .val 9 (.slice zI), .val 10 zI, .cells 2 [.d (.pair zI (.pair zP zP))], .cells 21 Kc1a], [], none⟩
@[reducible] def X13_2hd : List (Ex × Tmpl) := [(.exit 2, ⟨116, [(2, .ref 2 0 0 0), (7, .cref 21 0 8 (.pair .bool .unit)), (8, .int .i64 2)], [.lst 1 7 zI, .cells 2 [.d (.pair zI (.pair zP zP))], .cells 21 Kc1a], [], none⟩)]
noncomputable def step13_2hd : (List Int) × (List Int) × Int × (Int × (Int × Int) × Int × Int) × RwM8 → Option (((List Int) × (List Int) × Int × (Int × (Int × Int) × Int × Int) × RwM8) ⊕ ((List Int) × (Int × (Int × Int) × Int × Int) × RwM8)) := fun (targets, all0, k, d, rows) =>
 bif decide (k < (all0.length : Int)) then
  bif inBounds k all0.length then
   optE (s35 (d, rows.2.2.2.1, all0.getD k.toNat 0, false)) (fun r10 =>
    bif r10.2 then
     bif room 24 (rows.2.2.1.length + 1) then
      some (.inl (padV 7 zI targets, all0, wr (k + 1), d, (rows.1, rows.2.1, rows.2.2.1 ++ [r10.1], rows.2.2.2.1, rows.2.2.2.2.1, rows.2.2.2.2.2.1, rows.2.2.2.2.2.2.1, rows.2.2.2.2.2.2.2)))
     else
      none
    else
     some (.inl (padV 7 zI targets, all0, wr (k + 1), d, rows)))
    (none)
  else
   none
 else
  some (.inr (padV 7 zI targets, d, rows))
theorem one13_2hd : oneLoop Try.prog 13 2 = true := by kernel_rfl
theorem lp13_2hd : ItemOk Try.prog (.loop 13 2 T13_2hd X13_2hd (loopVal step13_2hd)) := item_loopM md5 ext5 (U := 60) (n := 19) noSpecial mixed Gn1K25_ok one13_2hd (fun x => by kernel_rfl)
noncomputable def Gn1K26 : List Ev.Item := .loop 13 2 T13_2hd X13_2hd (loopVal step13_2hd) :: Gn1K25
theorem Gn1K26_ok : ∀ q ∈ Gn1K26, ItemOk Try.prog q := items_cons lp13_2hd Gn1K25_ok
@[reducible] def T13_2he : Tmpl := ⟨116, [(2, .ref 2 0 0 0), (7, .cref 21 0 8 (.pair .bool .unit)), (8, .int .i64 1)], [.lst 1 7 zI, .val 9 (.slice zI), .val 10 zI, .cells 2 [.d (.pair zI (.pair zP zP))], .cells 21 Kc1a], [], none⟩
@[reducible] def X13_2he : List (Ex × Tmpl) := [(.exit 2, ⟨116, [(2, .ref 2 0 0 0), (7, .cref 21 0 8 (.pair .bool .unit)), (8, .int .i64 1)], [.lst 1 7 zI, .cells 2 [.d (.pair zI (.pair zP zP))], .cells 21 Kc1a], [], none⟩)]
noncomputable def step13_2he : (List Int) × (List Int) × Int × (Int × (Int × Int) × Int × Int) × RwM8 → Option (((List Int) × (List Int) × Int × (Int × (Int × Int) × Int × Int) × RwM8) ⊕ ((List Int) × (Int × (Int × Int) × Int × Int) × RwM8)) := fun (targets, all0, k, d, rows) =>
 bif decide (k < (all0.length : Int)) then
  bif inBounds k all0.length then
   optE (s35 (d, rows.2.2.1, all0.getD k.toNat 0, false)) (fun r12 =>
    bif r12.2 then
     bif room 24 (rows.2.1.length + 1) then
      some (.inl (padV 7 zI targets, all0, wr (k + 1), d, (rows.1, rows.2.1 ++ [r12.1], rows.2.2.1, rows.2.2.2.1, rows.2.2.2.2.1, rows.2.2.2.2.2.1, rows.2.2.2.2.2.2.1, rows.2.2.2.2.2.2.2)))
     else
      none
    else
     some (.inl (padV 7 zI targets, all0, wr (k + 1), d, rows)))
    (none)
  else
   none
 else
  some (.inr (padV 7 zI targets, d, rows))
theorem one13_2he : oneLoop Try.prog 13 2 = true := by kernel_rfl
theorem lp13_2he : ItemOk Try.prog (.loop 13 2 T13_2he X13_2he (loopVal step13_2he)) := item_loopM md5 ext5 (U := 60) (n := 19) noSpecial mixed Gn1K26_ok one13_2he (fun x => by kernel_rfl)
noncomputable def Gn1K27 : List Ev.Item := .loop 13 2 T13_2he X13_2he (loopVal step13_2he) :: Gn1K26
theorem Gn1K27_ok : ∀ q ∈ Gn1K27, ItemOk Try.prog q := items_cons lp13_2he Gn1K26_ok
@[reducible] def T13_2hf : Tmpl := ⟨116, [(2, .ref 2 0 0 0), (7, .cref 21 0 8 (.pair .bool .unit)), (8, .int .i64 0)], [.lst 1 7 zI, .val 9 (.slice zI), .val 10 zI, .cells 2 [.d (.pair zI (.pair zP zP))], .cells 21 Kc1a], [], none⟩
@[reducible] def X13_2hf : List (Ex × Tmpl) := [(.exit 2, ⟨116, [(2, .ref 2 0 0 0), (7, .cref 21 0 8 (.pair .bool .unit)), (8, .int .i64 0)], [.lst 1 7 zI, .cells 2 [.d (.pair zI (.pair zP zP))], .cells 21 Kc1a], [], none⟩)]
noncomputable def step13_2hf : (List Int) × (List Int) × Int × (Int × (Int × Int) × Int × Int) × RwM8 → Option (((List Int) × (List Int) × Int × (Int × (Int × Int) × Int × Int) × RwM8) ⊕ ((List Int) × (Int × (Int × Int) × Int × Int) × RwM8)) := fun (targets, all0, k, d, rows) =>
 bif decide (k < (all0.length : Int)) then
  bif inBounds k all0.length then
   optE (s35 (d, rows.2.1, all0.getD k.toNat 0, false)) (fun r14 =>
    bif r14.2 then
     bif room 24 (rows.1.length + 1) then
      some (.inl (padV 7 zI targets, all0, wr (k + 1), d, (rows.1 ++ [r14.1], rows.2.1, rows.2.2.1, rows.2.2.2.1, rows.2.2.2.2.1, rows.2.2.2.2.2.1, rows.2.2.2.2.2.2.1, rows.2.2.2.2.2.2.2)))
     else
      none
    else
     some (.inl (padV 7 zI targets, all0, wr (k + 1), d, rows)))
    (none)
  else
   none
 else
  some (.inr (padV 7 zI targets, d, rows))
theorem one13_2hf : oneLoop Try.prog 13 2 = true := by kernel_rfl
theorem lp13_2hf : ItemOk Try.prog (.loop 13 2 T13_2hf X13_2hf (loopVal step13_2hf)) := item_loopM md5 ext5 (U := 60) (n := 19) noSpecial mixed Gn1K27_ok one13_2hf (fun x => by kernel_rfl)
noncomputable def Gn1K28 : List Ev.Item := .loop 13 2 T13_2hf X13_2hf (loopVal step13_2hf) :: Gn1K27
theorem Gn1K28_ok : ∀ q ∈ Gn1K28, ItemOk Try.prog q := items_cons lp13_2hf Gn1K27_ok
noncomputable def p13n7 : (Int × (Int × Int) × Int × Int) × Int × Int × Int × Int × Int × Int × Int → Option ((List Int) × Int × Bool) := fun (d, t0, t1, t2, t3, t4, t5, t6) =>
 optE (s34 (d, t6)) (fun r1 =>
 optE (loopVal step13_2h ([t0, t1, t2, t3, t4, t5, t6], r1, 0, d, ([], [], [], [], [], [], [], []))) (fun e2 =>
 optE (s34 (e2.2.1, (padV 7 zI e2.1).getD 5 0)) (fun r3 =>
 optE (loopVal step13_2ha (padV 7 zI e2.1, r3, 0, e2.2.1, e2.2.2)) (fun e4 =>
 optE (s34 (e4.2.1, (padV 7 zI e4.1).getD 4 0)) (fun r5 =>
 optE (loopVal step13_2hb (padV 7 zI e4.1, r5, 0, e4.2.1, e4.2.2)) (fun e6 =>
 optE (s34 (e6.2.1, (padV 7 zI e6.1).getD 3 0)) (fun r7 =>
 optE (loopVal step13_2hc (padV 7 zI e6.1, r7, 0, e6.2.1, e6.2.2)) (fun e8 =>
 optE (s34 (e8.2.1, (padV 7 zI e8.1).getD 2 0)) (fun r9 =>
 optE (loopVal step13_2hd (padV 7 zI e8.1, r9, 0, e8.2.1, e8.2.2)) (fun e10 =>
 optE (s34 (e10.2.1, (padV 7 zI e10.1).getD 1 0)) (fun r11 =>
 optE (loopVal step13_2he (padV 7 zI e10.1, r11, 0, e10.2.1, e10.2.2)) (fun e12 =>
 optE (s34 (e12.2.1, (padV 7 zI e12.1).getD 0 0)) (fun r13 =>
 optE (loopVal step13_2hf (padV 7 zI e12.1, r13, 0, e12.2.1, e12.2.2)) (fun e14 =>
 optE (s35 (e14.2.1, e14.2.2.1, e14.2.1.2.2.1, false)) (fun r15 =>
 bif !r15.2 then
 some (([], 0, false))
 else
 bif inBounds r15.1.2.2 e14.2.2.1.length then
 bif inBounds r15.1.2.2 e14.2.2.1.length then
 bif inBounds (e14.2.2.1.getD r15.1.2.2.toNat (0, 0, 0)).2.2 e14.2.2.2.1.length then
 bif inBounds (e14.2.2.1.getD r15.1.2.2.toNat (0, 0, 0)).2.2 e14.2.2.2.1.length then
 bif inBounds (e14.2.2.2.1.getD (e14.2.2.1.getD r15.1.2.2.toNat (0, 0, 0)).2.2.toNat (0, 0, 0)).2.2 e14.2.2.2.2.1.length then
 bif inBounds (e14.2.2.2.1.getD (e14.2.2.1.getD r15.1.2.2.toNat (0, 0, 0)).2.2.toNat (0, 0, 0)).2.2 e14.2.2.2.2.1.length then
 bif inBounds (e14.2.2.2.2.1.getD (e14.2.2.2.1.getD (e14.2.2.1.getD r15.1.2.2.toNat (0, 0, 0)).2.2.toNat (0, 0, 0)).2.2.toNat (0, 0, 0)).2.2 e14.2.2.2.2.2.1.length then
 bif inBounds (e14.2.2.2.2.1.getD (e14.2.2.2.1.getD (e14.2.2.1.getD r15.1.2.2.toNat (0, 0, 0)).2.2.toNat (0, 0, 0)).2.2.toNat (0, 0, 0)).2.2 e14.2.2.2.2.2.1.length then
 bif inBounds (e14.2.2.2.2.2.1.getD (e14.2.2.2.2.1.getD (e14.2.2.2.1.getD (e14.2.2.1.getD r15.1.2.2.toNat (0, 0, 0)).2.2.toNat (0, 0, 0)).2.2.toNat (0, 0, 0)).2.2.toNat (0, 0, 0)).2.2 e14.2.2.2.2.2.2.1.length then
 bif inBounds (e14.2.2.2.2.2.1.getD (e14.2.2.2.2.1.getD (e14.2.2.2.1.getD (e14.2.2.1.getD r15.1.2.2.toNat (0, 0, 0)).2.2.toNat (0, 0, 0)).2.2.toNat (0, 0, 0)).2.2.toNat (0, 0, 0)).2.2 e14.2.2.2.2.2.2.1.length then
 bif inBounds (e14.2.2.2.2.2.2.1.getD (e14.2.2.2.2.2.1.getD (e14.2.2.2.2.1.getD (e14.2.2.2.1.getD (e14.2.2.1.getD r15.1.2.2.toNat (0, 0, 0)).2.2.toNat (0, 0, 0)).2.2.toNat (0, 0, 0)).2.2.toNat (0, 0, 0)).2.2.toNat (0, 0, 0)).2.2 e14.2.2.2.2.2.2.2.1.length then
 bif inBounds (e14.2.2.2.2.2.2.1.getD (e14.2.2.2.2.2.1.getD (e14.2.2.2.2.1.getD (e14.2.2.2.1.getD (e14.2.2.1.getD r15.1.2.2.toNat (0, 0, 0)).2.2.toNat (0, 0, 0)).2.2.toNat (0, 0, 0)).2.2.toNat (0, 0, 0)).2.2.toNat (0, 0, 0)).2.2 e14.2.2.2.2.2.2.2.1.length then
 bif inBounds (e14.2.2.2.2.2.2.2.1.getD (e14.2.2.2.2.2.2.1.getD (e14.2.2.2.2.2.1.getD (e14.2.2.2.2.1.getD (e14.2.2.2.1.getD (e14.2.2.1.getD r15.1.2.2.toNat (0, 0, 0)).2.2.toNat (0, 0, 0)).2.2.toNat (0, 0, 0)).2.2.toNat (0, 0, 0)).2.2.toNat (0, 0, 0)).2.2.toNat (0, 0, 0)).2.2 e14.2.2.2.2.2.2.2.2.1.length then
 bif inBounds (e14.2.2.2.2.2.2.2.1.getD (e14.2.2.2.2.2.2.1.getD (e14.2.2.2.2.2.1.getD (e14.2.2.2.2.1.getD (e14.2.2.2.1.getD (e14.2.2.1.getD r15.1.2.2.toNat (0, 0, 0)).2.2.toNat (0, 0, 0)).2.2.toNat (0, 0, 0)).2.2.toNat (0, 0, 0)).2.2.toNat (0, 0, 0)).2.2.toNat (0, 0, 0)).2.2 e14.2.2.2.2.2.2.2.2.1.length then
 some (([(e14.2.2.1.getD r15.1.2.2.toNat (0, 0, 0)).1, (e14.2.2.2.1.getD (e14.2.2.1.getD r15.1.2.2.toNat (0, 0, 0)).2.2.toNat (0, 0, 0)).1, (e14.2.2.2.2.1.getD (e14.2.2.2.1.getD (e14.2.2.1.getD r15.1.2.2.toNat (0, 0, 0)).2.2.toNat (0, 0, 0)).2.2.toNat (0, 0, 0)).1, (e14.2.2.2.2.2.1.getD (e14.2.2.2.2.1.getD (e14.2.2.2.1.getD (e14.2.2.1.getD r15.1.2.2.toNat (0, 0, 0)).2.2.toNat (0, 0, 0)).2.2.toNat (0, 0, 0)).2.2.toNat (0, 0, 0)).1, (e14.2.2.2.2.2.2.1.getD (e14.2.2.2.2.2.1.getD (e14.2.2.2.2.1.getD (e14.2.2.2.1.getD (e14.2.2.1.getD r15.1.2.2.toNat (0, 0, 0)).2.2.toNat (0, 0, 0)).2.2.toNat (0, 0, 0)).2.2.toNat (0, 0, 0)).2.2.toNat (0, 0, 0)).1, (e14.2.2.2.2.2.2.2.1.getD (e14.2.2.2.2.2.2.1.getD (e14.2.2.2.2.2.1.getD (e14.2.2.2.2.1.getD (e14.2.2.2.1.getD (e14.2.2.1.getD r15.1.2.2.toNat (0, 0, 0)).2.2.toNat (0, 0, 0)).2.2.toNat (0, 0, 0)).2.2.toNat (0, 0, 0)).2.2.toNat (0, 0, 0)).2.2.toNat (0, 0, 0)).1, (e14.2.2.2.2.2.2.2.2.1.getD (e14.2.2.2.2.2.2.2.1.getD (e14.2.2.2.2.2.2.1.getD (e14.2.2.2.2.2.1.getD (e14.2.2.2.2.1.getD (e14.2.2.2.1.getD (e14.2.2.1.getD r15.1.2.2.toNat (0, 0, 0)).2.2.toNat (0, 0, 0)).2.2.toNat (0, 0, 0)).2.2.toNat (0, 0, 0)).2.2.toNat (0, 0, 0)).2.2.toNat (0, 0, 0)).2.2.toNat (0, 0, 0)).1], r15.1.2.1, true))
 else
 none
 else
 none
 else
 none
 else
 none
 else
 none
 else
 none
 else
 none
 else
 none
 else
 none
 else
 none
 else
 none
 else
 none
 else
 none
 else
 none)
 (none))
 (none))
 (none))
 (none))
 (none))
 (none))
 (none))
 (none))
 (none))
 (none))
 (none))
 (none))
 (none))
 (none))
 (none)
def f13n7 : (Int × (Int × Int) × Int × Int) × Int × Int × Int × Int × Int × Int × Int → (Int × (Int × Int) × Int × Int) × (List Int) := fun (d, t0, t1, t2, t3, t4, t5, t6) => (d, [t0, t1, t2, t3, t4, t5, t6])
theorem h13n7 : ∀ d, evalK Try.prog (Pars [.own 3 zI, .d zI, .d .bool]) (knowM md5 Gn1K28) 60 20 13 (cvs [.d (.agg (.pair zI (.pair zP zP))), .d (.slice zI)] (f13n7 d)) (canonK [.own 3 zI, .d zI, .d .bool]) = p13n7 d := fun d => by kernel_rfl
noncomputable def s13n7 : (Int × (Int × Int) × Int × Int) × (List Int) → Option ((List Int) × Int × Bool) := fun
 | (d, [t0, t1, t2, t3, t4, t5, t6]) => p13n7 (d, t0, t1, t2, t3, t4, t5, t6)
 | _ => none
theorem q13n7 : ∀ x y, s13n7 x = some y → ∃ d, x = f13n7 d ∧ p13n7 d = some y := by
 intro x y h
 unfold s13n7 at h
 split at h
 ·exact ⟨_, rfl, h⟩
 ·cases h
theorem i13n7 : ItemOk Try.prog (.fn 13 [.d (.agg (.pair zI (.pair zP zP))), .d (.slice zI)] [.own 3 zI, .d zI, .d .bool] s13n7) := @item_fnP Try.prog md5 ext5 Gn1K28 noSpecial mixed Gn1K28_ok 13 60 20 [.d (.agg (.pair zI (.pair zP zP))), .d (.slice zI)] [.own 3 zI, .d zI, .d .bool] ((Int × (Int × Int) × Int × Int) × Int × Int × Int × Int × Int × Int × Int) f13n7 p13n7 s13n7 h13n7 q13n7
end Go.Proofs.Ythabingkfmlbbaa
