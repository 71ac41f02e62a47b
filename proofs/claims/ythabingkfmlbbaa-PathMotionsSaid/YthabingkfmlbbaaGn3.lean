/- Printed by gen.py: specifications of functions. -/
import Derived.Test.YthabingkfmlbbaaGn2
set_option linter.unusedSimpArgs false
set_option maxRecDepth 100000
namespace Go.Proofs.Ythabingkfmlbbaa
open Go.Ev
abbrev RwM12 := RwM × RwM × RwM × RwM × RwM × RwM × RwM × RwM × RwM × RwM × RwM × RwM
@[reducible] def Kc3a : List LK := [.own 950 69 rE, .own 951 69 rE, .own 952 69 rE, .own 953 69 rE, .own 954 69 rE, .own 955 69 rE, .own 956 69 rE, .own 957 69 rE, .own 958 69 rE, .own 959 69 rE, .own 960 69 rE, .own 961 69 rE]
@[reducible] def Kc3b : List LK := [.own 950 69 rE, .own 951 69 rE, .own 952 69 rE, .own 953 69 rE, .own 954 69 rE, .own 955 69 rE, .own 956 69 rE, .own 957 69 rE, .own 958 69 rE, .own 959 69 rE, .own 69 69 rE, .own 961 69 rE]
@[reducible] def T13_2l : Tmpl := ⟨116, [(2, .ref 2 0 0 0), (7, .cref 21 0 12 (.pair .bool .unit)), (8, .int .i64 10)], [.lst 1 11 zI, .val 9 (.slice zI), .val 10 zI, .cells 2 [.d (.pair zI (.pair zP zP))], .cells 21 Kc3b], [], none⟩
@[reducible] def X13_2l : List (Ex × Tmpl) := [(.exit 2, ⟨116, [(2, .ref 2 0 0 0), (7, .cref 21 0 12 (.pair .bool .unit)), (8, .int .i64 10)], [.lst 1 11 zI, .cells 2 [.d (.pair zI (.pair zP zP))], .cells 21 Kc3b], [], none⟩)]
noncomputable def step13_2l : (List Int) × (List Int) × Int × (Int × (Int × Int) × Int × Int) × RwM12 → Option (((List Int) × (List Int) × Int × (Int × (Int × Int) × Int × Int) × RwM12) ⊕ ((List Int) × (Int × (Int × Int) × Int × Int) × RwM12)) := fun (targets, all0, k, d, rows) =>
 bif decide (k < (all0.length : Int)) then
  bif inBounds k all0.length then
   optE (s35 (d, rows.2.2.2.2.2.2.2.2.2.2.2, all0.getD k.toNat 0, true)) (fun r2 =>
    bif r2.2 then
     bif room 24 (rows.2.2.2.2.2.2.2.2.2.2.1.length + 1) then
      some (.inl (padV 11 zI targets, all0, wr (k + 1), d, (rows.1, rows.2.1, rows.2.2.1, rows.2.2.2.1, rows.2.2.2.2.1, rows.2.2.2.2.2.1, rows.2.2.2.2.2.2.1, rows.2.2.2.2.2.2.2.1, rows.2.2.2.2.2.2.2.2.1, rows.2.2.2.2.2.2.2.2.2.1, rows.2.2.2.2.2.2.2.2.2.2.1 ++ [r2.1], rows.2.2.2.2.2.2.2.2.2.2.2)))
     else
      none
    else
     some (.inl (padV 11 zI targets, all0, wr (k + 1), d, rows)))
    (none)
  else
   none
 else
  some (.inr (padV 11 zI targets, d, rows))
theorem one13_2l : oneLoop Try.prog 13 2 = true := by kernel_rfl
theorem lp13_2l : ItemOk Try.prog (.loop 13 2 T13_2l X13_2l (loopVal step13_2l)) := item_loopM md5 ext5 (U := 60) (n := 19) noSpecial mixed RpK_ok one13_2l (fun x => by kernel_rfl)
noncomputable def Gn3K1 : List Ev.Item := .loop 13 2 T13_2l X13_2l (loopVal step13_2l) :: RpK
theorem Gn3K1_ok : ∀ q ∈ Gn3K1, ItemOk Try.prog q := items_cons lp13_2l RpK_ok
@[reducible] def T13_2la : Tmpl := ⟨116, [(2, .ref 2 0 0 0), (7, .cref 21 0 12 (.pair .bool .unit)), (8, .int .i64 9)], [.lst 1 11 zI, .val 9 (.slice zI), .val 10 zI, .cells 2 [.d (.pair zI (.pair zP zP))], .cells 21 Kc3a], [], none⟩
@[reducible] def X13_2la : List (Ex × Tmpl) := [(.exit 2, ⟨116, [(2, .ref 2 0 0 0), (7, .cref 21 0 12 (.pair .bool .unit)), (8, .int .i64 9)], [.lst 1 11 zI, .cells 2 [.d (.pair zI (.pair zP zP))], .cells 21 Kc3a], [], none⟩)]
noncomputable def step13_2la : (List Int) × (List Int) × Int × (Int × (Int × Int) × Int × Int) × RwM12 → Option (((List Int) × (List Int) × Int × (Int × (Int × Int) × Int × Int) × RwM12) ⊕ ((List Int) × (Int × (Int × Int) × Int × Int) × RwM12)) := fun (targets, all0, k, d, rows) =>
 bif decide (k < (all0.length : Int)) then
  bif inBounds k all0.length then
   optE (s35 (d, rows.2.2.2.2.2.2.2.2.2.2.1, all0.getD k.toNat 0, false)) (fun r4 =>
    bif r4.2 then
     bif room 24 (rows.2.2.2.2.2.2.2.2.2.1.length + 1) then
      some (.inl (padV 11 zI targets, all0, wr (k + 1), d, (rows.1, rows.2.1, rows.2.2.1, rows.2.2.2.1, rows.2.2.2.2.1, rows.2.2.2.2.2.1, rows.2.2.2.2.2.2.1, rows.2.2.2.2.2.2.2.1, rows.2.2.2.2.2.2.2.2.1, rows.2.2.2.2.2.2.2.2.2.1 ++ [r4.1], rows.2.2.2.2.2.2.2.2.2.2.1, rows.2.2.2.2.2.2.2.2.2.2.2)))
     else
      none
    else
     some (.inl (padV 11 zI targets, all0, wr (k + 1), d, rows)))
    (none)
  else
   none
 else
  some (.inr (padV 11 zI targets, d, rows))
theorem one13_2la : oneLoop Try.prog 13 2 = true := by kernel_rfl
theorem lp13_2la : ItemOk Try.prog (.loop 13 2 T13_2la X13_2la (loopVal step13_2la)) := item_loopM md5 ext5 (U := 60) (n := 19) noSpecial mixed Gn3K1_ok one13_2la (fun x => by kernel_rfl)
noncomputable def Gn3K2 : List Ev.Item := .loop 13 2 T13_2la X13_2la (loopVal step13_2la) :: Gn3K1
theorem Gn3K2_ok : ∀ q ∈ Gn3K2, ItemOk Try.prog q := items_cons lp13_2la Gn3K1_ok
@[reducible] def T13_2lb : Tmpl := ⟨116, [(2, .ref 2 0 0 0), (7, .cref 21 0 12 (.pair .bool .unit)), (8, .int .i64 8)], [.lst 1 11 zI, .val 9 (.slice zI), .val 10 zI, .cells 2 [.d (.pair zI (.pair zP zP))], .cells 21 Kc3a], [], none⟩
@[reducible] def X13_2lb : List (Ex × Tmpl) := [(.exit 2, ⟨116, [(2, .ref 2 0 0 0), (7, .cref 21 0 12 (.pair .bool .unit)), (8, .int .i64 8)], [.lst 1 11 zI, .cells 2 [.d (.pair zI (.pair zP zP))], .cells 21 Kc3a], [], none⟩)]
noncomputable def step13_2lb : (List Int) × (List Int) × Int × (Int × (Int × Int) × Int × Int) × RwM12 → Option (((List Int) × (List Int) × Int × (Int × (Int × Int) × Int × Int) × RwM12) ⊕ ((List Int) × (Int × (Int × Int) × Int × Int) × RwM12)) := fun (targets, all0, k, d, rows) =>
 bif decide (k < (all0.length : Int)) then
  bif inBounds k all0.length then
   optE (s35 (d, rows.2.2.2.2.2.2.2.2.2.1, all0.getD k.toNat 0, false)) (fun r6 =>
    bif r6.2 then
     bif room 24 (rows.2.2.2.2.2.2.2.2.1.length + 1) then
      some (.inl (padV 11 zI targets, all0, wr (k + 1), d, (rows.1, rows.2.1, rows.2.2.1, rows.2.2.2.1, rows.2.2.2.2.1, rows.2.2.2.2.2.1, rows.2.2.2.2.2.2.1, rows.2.2.2.2.2.2.2.1, rows.2.2.2.2.2.2.2.2.1 ++ [r6.1], rows.2.2.2.2.2.2.2.2.2.1, rows.2.2.2.2.2.2.2.2.2.2.1, rows.2.2.2.2.2.2.2.2.2.2.2)))
     else
      none
    else
     some (.inl (padV 11 zI targets, all0, wr (k + 1), d, rows)))
    (none)
  else
   none
 else
  some (.inr (padV 11 zI targets, d, rows))
theorem one13_2lb : oneLoop Try.prog 13 2 = true := by kernel_rfl
theorem lp13_2lb : ItemOk Try.prog (.loop 13 2 T13_2lb X13_2lb (loopVal step13_2lb)) := item_loopM md5 ext5 (U := 60) (n := 19) noSpecial mixed Gn3K2_ok one13_2lb (fun x => by kernel_rfl)
noncomputable def Gn3K3 : List Ev.Item := .loop 13 2 T13_2lb X13_2lb (loopVal step13_2lb) :: Gn3K2
theorem Gn3K3_ok : ∀ q ∈ Gn3K3, ItemOk Try.prog q := items_cons lp13_2lb Gn3K2_ok
@[reducible] def T13_2lc : Tmpl := ⟨116, [(2, .ref 2 0 0 0), (7, .cref 21 0 12 (.pair .bool .unit)), (8, .int .i64 7)], [.lst 1 11 zI, .val 9 (.slice zI), .val 10 zI, .cells 2 [.d (.pair zI (.pair zP zP))], .cells 21 Kc3a], [], none⟩
@[reducible] def X13_2lc : List (Ex × Tmpl) := [(.exit 2, ⟨116, [(2, .ref 2 0 0 0), (7, .cref 21 0 12 (.pair .bool .unit)), (8, .int .i64 7)], [.lst 1 11 zI, .cells 2 [.d (.pair zI (.pair zP zP))], .cells 21 Kc3a], [], none⟩)]
noncomputable def step13_2lc : (List Int) × (List Int) × Int × (Int × (Int × Int) × Int × Int) × RwM12 → Option (((List Int) × (List Int) × Int × (Int × (Int × Int) × Int × Int) × RwM12) ⊕ ((List Int) × (Int × (Int × Int) × Int × Int) × RwM12)) := fun (targets, all0, k, d, rows) =>
 bif decide (k < (all0.length : Int)) then
  bif inBounds k all0.length then
   optE (s35 (d, rows.2.2.2.2.2.2.2.2.1, all0.getD k.toNat 0, false)) (fun r8 =>
    bif r8.2 then
     bif room 24 (rows.2.2.2.2.2.2.2.1.length + 1) then
      some (.inl (padV 11 zI targets, all0, wr (k + 1), d, (rows.1, rows.2.1, rows.2.2.1, rows.2.2.2.1, rows.2.2.2.2.1, rows.2.2.2.2.2.1, rows.2.2.2.2.2.2.1, rows.2.2.2.2.2.2.2.1 ++ [r8.1], rows.2.2.2.2.2.2.2.2.1, rows.2.2.2.2.2.2.2.2.2.1, rows.2.2.2.2.2.2.2.2.2.2.1, rows.2.2.2.2.2.2.2.2.2.2.2)))
     else
      none
    else
     some (.inl (padV 11 zI targets, all0, wr (k + 1), d, rows)))
    (none)
  else
   none
 else
  some (.inr (padV 11 zI targets, d, rows))
theorem one13_2lc : oneLoop Try.prog 13 2 = true := by kernel_rfl
theorem lp13_2lc : ItemOk Try.prog (.loop 13 2 T13_2lc X13_2lc (loopVal step13_2lc)) := item_loopM md5 ext5 (U := 60) (n := 19) noSpecial mixed Gn3K3_ok one13_2lc (fun x => by kernel_rfl)
noncomputable def Gn3K4 : List Ev.Item := .loop 13 2 T13_2lc X13_2lc (loopVal step13_2lc) :: Gn3K3
theorem Gn3K4_ok : ∀ q ∈ Gn3K4, ItemOk Try.prog q := items_cons lp13_2lc Gn3K3_ok
@[reducible] def T13_2ld : Tmpl := ⟨116, [(2, .ref 2 0 0 0), (7, .cref 21 0 12 (.pair .bool .unit)), (8, .int .i64 6)], [.lst 1 11 zI, .val 9 (.slice zI), .val 10 zI, .cells 2 [.d (.pair zI (.pair zP zP))], .cells 21 Kc3a], [], none⟩
@[reducible] def X13_2ld : List (Ex × Tmpl) := [(.exit 2, ⟨116, [(2, .ref 2 0 0 0), (7, .cref 21 0 12 (.pair .bool .unit)), (8, .int .i64 6)], [.lst 1 11 zI, .cells 2 [.d (.pair zI (.pair zP zP))], .cells 21 Kc3a], [], none⟩)]
noncomputable def step13_2ld : (List Int) × (List Int) × Int × (Int × (Int × Int) × Int × Int) × RwM12 → Option (((List Int) × (List Int) × Int × (Int × (Int × Int) × Int × Int) × RwM12) ⊕ ((List Int) × (Int × (Int × Int) × Int × Int) × RwM12)) := fun (targets, all0, k, d, rows) =>
 bif decide (k < (all0.length : Int)) then
  bif inBounds k all0.length then
   optE (s35 (d, rows.2.2.2.2.2.2.2.1, all0.getD k.toNat 0, false)) (fun r10 =>
    bif r10.2 then
     bif room 24 (rows.2.2.2.2.2.2.1.length + 1) then
      some (.inl (padV 11 zI targets, all0, wr (k + 1), d, (rows.1, rows.2.1, rows.2.2.1, rows.2.2.2.1, rows.2.2.2.2.1, rows.2.2.2.2.2.1, rows.2.2.2.2.2.2.1 ++ [r10.1], rows.2.2.2.2.2.2.2.1, rows.2.2.2.2.2.2.2.2.1, rows.2.2.2.2.2.2.2.2.2.1, rows.2.2.2.2.2.2.2.2.2.2.1, rows.2.2.2.2.2.2.2.2.2.2.2)))
     else
      none
    else
     some (.inl (padV 11 zI targets, all0, wr (k + 1), d, rows)))
    (none)
  else
   none
 else
  some (.inr (padV 11 zI targets, d, rows))
theorem one13_2ld : oneLoop Try.prog 13 2 = true := by kernel_rfl
theorem lp13_2ld : ItemOk Try.prog (.loop 13 2 T13_2ld X13_2ld (loopVal step13_2ld)) := item_loopM md5 ext5 (U := 60) (n := 19) noSpecial mixed Gn3K4_ok one13_2ld (fun x => by kernel_rfl)
noncomputable def Gn3K5 : List Ev.Item := .loop 13 2 T13_2ld X13_2ld (loopVal step13_2ld) :: Gn3K4
theorem Gn3K5_ok : ∀ q ∈ Gn3K5, ItemOk Try.prog q := items_cons lp13_2ld Gn3K4_ok
@[reducible] def T13_2le : Tmpl := ⟨116, [(2, .ref 2 0 0 0), (7, .cref 21 0 12 (.pair .bool .unit)), (8, .int .i64 5)], [.lst 1 11 zI, .val 9 (.slice zI), .val 10 zI, .cells 2 [.d (.pair zI (.pair zP zP))], .cells 21 Kc3a], [], none⟩
@[reducible] def X13_2le : List (Ex × Tmpl) := [(.exit 2, ⟨116, [(2, .ref 2 0 0 0), (7, .cref 21 0 12 (.pair .bool .unit)), (8, .int .i64 5)], [.lst 1 11 zI, .cells 2 [.d (.pair zI (.pair zP zP))], .cells 21 Kc3a], [], none⟩)]
noncomputable def step13_2le : (List Int) × (List Int) × Int × (Int × (Int × Int) × Int × Int) × RwM12 → Option (((List Int) × (List Int) × Int × (Int × (Int × Int) × Int × Int) × RwM12) ⊕ ((List Int) × (Int × (Int × Int) × Int × Int) × RwM12)) := fun (targets, all0, k, d, rows) =>
 bif decide (k < (all0.length : Int)) then
  bif inBounds k all0.length then
   optE (s35 (d, rows.2.2.2.2.2.2.1, all0.getD k.toNat 0, false)) (fun r12 =>
    bif r12.2 then
     bif room 24 (rows.2.2.2.2.2.1.length + 1) then
      some (.inl (padV 11 zI targets, all0, wr (k + 1), d, (rows.1, rows.2.1, rows.2.2.1, rows.2.2.2.1, rows.2.2.2.2.1, rows.2.2.2.2.2.1 ++ [r12.1], rows.2.2.2.2.2.2.1, rows.2.2.2.2.2.2.2.1, rows.2.2.2.2.2.2.2.2.1, rows.2.2.2.2.2.2.2.2.2.1, rows.2.2.2.2.2.2.2.2.2.2.1, rows.2.2.2.2.2.2.2.2.2.2.2)))
     else
      none
    else
     some (.inl (padV 11 zI targets, all0, wr (k + 1), d, rows)))
    (none)
  else
   none
 else
  some (.inr (padV 11 zI targets, d, rows))
theorem one13_2le : oneLoop Try.prog 13 2 = true := by kernel_rfl
theorem lp13_2le : ItemOk Try.prog (.loop 13 2 T13_2le X13_2le (loopVal step13_2le)) := item_loopM md5 ext5 (U := 60) (n := 19) noSpecial mixed Gn3K5_ok one13_2le (fun x => by kernel_rfl)
noncomputable def Gn3K6 : List Ev.Item := .loop 13 2 T13_2le X13_2le (loopVal step13_2le) :: Gn3K5
theorem Gn3K6_ok : ∀ q ∈ Gn3K6, ItemOk Try.prog q := items_cons lp13_2le Gn3K5_ok
@[reducible] def T13_2lf : Tmpl := ⟨116, [(2, .ref 2 0 0 0), (7, .cref 21 0 12 (.pair .bool .unit)), (8, .int .i64 4)], [.lst 1 11 zI, .val 9 (.slice zI), .val 10 zI, .cells 2 [.d (.pair zI (.pair zP zP))], .cells 21 Kc3a], [], none⟩
@[reducible] def X13_2lf : List (Ex × Tmpl) := [(.exit 2, ⟨116, [(2, .ref 2 0 0 0), (7, .cref 21 0 12 (.pair .bool .unit)), (8, .int .i64 4)], [.lst 1 11 zI, .cells 2 [.d (.pair zI (.pair zP zP))], .cells 21 Kc3a], [], none⟩)]
noncomputable def step13_2lf : (List Int) × (List Int) × Int × (Int × (Int × Int) × Int × Int) × RwM12 → Option (((List Int) × (List Int) × Int × (Int × (Int × Int) × Int × Int) × RwM12) ⊕ ((List Int) × (Int × (Int × Int) × Int × Int) × RwM12)) := fun (targets, all0, k, d, rows) =>
 bif decide (k < (all0.length : Int)) then
  bif inBounds k all0.length then
   optE (s35 (d, rows.2.2.2.2.2.1, all0.getD k.toNat 0, false)) (fun r14 =>
    bif r14.2 then
     bif room 24 (rows.2.2.2.2.1.length + 1) then
      some (.inl (padV 11 zI targets, all0, wr (k + 1), d, (rows.1, rows.2.1, rows.2.2.1, rows.2.2.2.1, rows.2.2.2.2.1 ++ [r14.1], rows.2.2.2.2.2.1, rows.2.2.2.2.2.2.1, rows.2.2.2.2.2.2.2.1, rows.2.2.2.2.2.2.2.2.1, rows.2.2.2.2.2.2.2.2.2.1, rows.2.2.2.2.2.2.2.2.2.2.1, rows.2.2.2.2.2.2.2.2.2.2.2)))
     else
      none
    else
     some (.inl (padV 11 zI targets, all0, wr (k + 1), d, rows)))
    (none)
  else
   none
 else
  some (.inr (padV 11 zI targets, d, rows))
theorem one13_2lf : oneLoop Try.prog 13 2 = true := by kernel_rfl
theorem lp13_2lf : ItemOk Try.prog (.loop 13 2 T13_2lf X13_2lf (loopVal step13_2lf)) := item_loopM md5 ext5 (U := 60) (n := 19) noSpecial mixed Gn3K6_ok one13_2lf (fun x => by kernel_rfl)
noncomputable def Gn3K7 : List Ev.Item := .loop 13 2 T13_2lf X13_2lf (loopVal step13_2lf) :: Gn3K6
theorem Gn3K7_ok : ∀ q ∈ Gn3K7, ItemOk Try.prog q := items_cons lp13_2lf Gn3K6_ok
@[reducible] def T13_2lg : Tmpl := ⟨116, [(2, .ref 2 0 0 0), (7, .cref 21 0 12 (.pair .bool .unit)), (8, .int .i64 3)], [.lst 1 11 zI, .val 9 (.slice zI), .val 10 zI, .cells 2 [.d (.pair zI (.pair zP zP))], .cells 21 Kc3a], [], none⟩
@[reducible] def X13_2lg : List (Ex × Tmpl) := [(.exit 2, ⟨116, [(2, .ref 2 0 0 0), (7, .cref 21 0 12 (.pair .bool .unit)), (8, .int .i64 3)], [.lst 1 11 zI, .cells 2 [.d (.pair zI (.pair zP zP))], .cells 21 Kc3a], [], none⟩)]
noncomputable def step13_2lg : (List Int) × (List Int) × Int × (Int × (Int × Int) × Int × Int) × RwM12 → Option (((List Int) × (List Int) × Int × (Int × (Int × Int) × Int × Int) × RwM12) ⊕ ((List Int) × (Int × (Int × Int) × Int × Int) × RwM12)) := fun (targets, all0, k, d, rows) =>
 bif decide (k < (all0.length : Int)) then
  bif inBounds k all0.length then
   optE (s35 (d, rows.2.2.2.2.1, all0.getD k.toNat 0, false)) (fun r16 =>
    bif r16.2 then
     bif room 24 (rows.2.2.2.1.length + 1) then
      some (.inl (padV 11 zI targets, all0, wr (k + 1), d, (rows.1, rows.2.1, rows.2.2.1, rows.2.2.2.1 ++ [r16.1], rows.2.2.2.2.1, rows.2.2.2.2.2.1, rows.2.2.2.2.2.2.1, rows.2.2.2.2.2.2.2.1, rows.2.2.2.2.2.2.2.2.1, rows.2.2.2.2.2.2.2.2.2.1, rows.2.2.2.2.2.2.2.2.2.2.1, rows.2.2.2.2.2.2.2.2.2.2.2)))
     else
      none
    else
     some (.inl (padV 11 zI targets, all0, wr (k + 1), d, rows)))
    (none)
  else
   none
 else
  some (.inr (padV 11 zI targets, d, rows))
theorem one13_2lg : oneLoop Try.prog 13 2 = true := by kernel_rfl
theorem lp13_2lg : ItemOk Try.prog (.loop 13 2 T13_2lg X13_2lg (loopVal step13_2lg)) := item_loopM md5 ext5 (U := 60) (n := 19) noSpecial mixed Gn3K7_ok one13_2lg (fun x => by kernel_rfl)
noncomputable def Gn3K8 : List Ev.Item := .loop 13 2 T13_2lg X13_2lg (loopVal step13_2lg) :: Gn3K7
theorem Gn3K8_ok : ∀ q ∈ Gn3K8, ItemOk Try.prog q := items_cons lp13_2lg Gn3K7_ok
@[reducible] def T13_2lh : Tmpl := ⟨116, [(2, .ref 2 0 0 0), (7, .cref 21 0 12 (.pair .bool .unit)), (8, .int .i64 2)], [.lst 1 11 zI, .val 9 (.slice zI), .val 10 zI, .cells 2 [.d (.pair zI (.pair zP zP))], .cells 21 Kc3a], [], none⟩
@[reducible] def X13_2lh : List (Ex × Tmpl) := [(.exit 2, ⟨116, [(2, .ref 2 0 0 0), (7, .cref 21 0 12 (.pair .bool .unit)), (8, .int .i64 2)], [.lst 1 11 zI, .cells 2 [.d (.pair zI (.pair zP zP))], .cells 21 Kc3a], [], none⟩)]
noncomputable def step13_2lh : (List Int) × (List Int) × Int × (Int × (Int × Int) × Int × Int) × RwM12 → Option (((List Int) × (List Int) × Int × (Int × (Int × Int) × Int × Int) × RwM12) ⊕ ((List Int) × (Int × (Int × Int) × Int × Int) × RwM12)) := fun (targets, all0, k, d, rows) =>
 bif decide (k < (all0.length : Int)) then
  bif inBounds k all0.length then
   optE (s35 (d, rows.2.2.2.1, all0.getD k.toNat 0, false)) (fun r18 =>
    bif r18.2 then
     bif room 24 (rows.2.2.1.length + 1) then
      some (.inl (padV 11 zI targets, all0, wr (k + 1), d, (rows.1, rows.2.1, rows.2.2.1 ++ [r18.1], rows.2.2.2.1, rows.2.2.2.2.1, rows.2.2.2.2.2.1, rows.2.2.2.2.2.2.1, rows.2.2.2.2.2.2.2.1, rows.2.2.2.2.2.2.2.2.1, rows.2.2.2.2.2.2.2.2.2.1, rows.2.2.2.2.2.2.2.2.2.2.1, rows.2.2.2.2.2.2.2.2.2.2.2)))
     else
      none
    else
     some (.inl (padV 11 zI targets, all0, wr (k + 1), d, rows)))
    (none)
  else
   none
 else
  some (.inr (padV 11 zI targets, d, rows))
theorem one13_2lh : oneLoop Try.prog 13 2 = true := by kernel_rfl
theorem lp13_2lh : ItemOk Try.prog (.loop 13 2 T13_2lh X13_2lh (loopVal step13_2lh)) := item_loopM md5 ext5 (U := 60) (n := 19) noSpecial mixed Gn3K8_ok one13_2lh (fun x => by kernel_rfl)
noncomputable def Gn3K9 : List Ev.Item := .loop 13 2 T13_2lh X13_2lh (loopVal step13_2lh) :: Gn3K8
theorem Gn3K9_ok : ∀ q ∈ Gn3K9, ItemOk Try.prog q := items_cons lp13_2lh Gn3K8_ok
@[reducible] def T13_2li8 : Tmpl := ⟨116, [(2, .ref 2 0 0 0), (7, .cref 21 0 12 (.pair .bool .unit)), (8, .int .i64 1)], [.lst 1 11 zI, .val 9 (.slice zI), .val 10 zI, .cells 2 [.d (.pair zI (.pair zP zP))], .cells 21 Kc3a], [], none⟩
@[reducible] def X13_2li8 : List (Ex × Tmpl) := [(.exit 2, ⟨116, [(2, .ref 2 0 0 0), (7, .cref 21 0 12 (.pair .bool .unit)), (8, .int .i64 1)], [.lst 1 11 zI, .cells 2 [.d (.pair zI (.pair zP zP))], .cells 21 Kc3a], [], none⟩)]
noncomputable def step13_2li8 : (List Int) × (List Int) × Int × (Int × (Int × Int) × Int × Int) × RwM12 → Option (((List Int) × (List Int) × Int × (Int × (Int × Int) × Int × Int) × RwM12) ⊕ ((List Int) × (Int × (Int × Int) × Int × Int) × RwM12)) := fun (targets, all0, k, d, rows) =>
 bif decide (k < (all0.length : Int)) then
  bif inBounds k all0.length then
   optE (s35 (d, rows.2.2.1, all0.getD k.toNat 0, false)) (fun r20 =>
    bif r20.2 then
     bif room 24 (rows.2.1.length + 1) then
      some (.inl (padV 11 zI targets, all0, wr (k + 1), d, (rows.1, rows.2.1 ++ [r20.1], rows.2.2.1, rows.2.2.2.1, rows.2.2.2.2.1, rows.2.2.2.2.2.1, rows.2.2.2.2.2.2.1, rows.2.2.2.2.2.2.2.1, rows.2.2.2.2.2.2.2.2.1, rows.2.2.2.2.2.2.2.2.2.1, rows.2.2.2.2.2.2.2.2.2.2.1, rows.2.2.2.2.2.2.2.2.2.2.2)))
     else
      none
    else
     some (.inl (padV 11 zI targets, all0, wr (k + 1), d, rows)))
    (none)
  else
   none
 else
  some (.inr (padV 11 zI targets, d, rows))
theorem one13_2li8 : oneLoop Try.prog 13 2 = true := by kernel_rfl
theorem lp13_2li8 : ItemOk Try.prog (.loop 13 2 T13_2li8 X13_2li8 (loopVal step13_2li8)) := item_loopM md5 ext5 (U := 60) (n := 19) noSpecial mixed Gn3K9_ok one13_2li8 (fun x => by kernel_rfl)
noncomputable def Gn3K10 : List Ev.Item := .loop 13 2 T13_2li8 X13_2li8 (loopVal step13_2li8) :: Gn3K9
theorem Gn3K10_ok : ∀ q ∈ Gn3K10, ItemOk Try.prog q := items_cons lp13_2li8 Gn3K9_ok
@[reducible] def T13_2li9 : Tmpl := ⟨116, [(2, .ref 2 0 0 0), (7, .cref 21 0 12 (.pair .bool .unit)), (8, .int .i64 0)], [.lst 1 11 zI, .val 9 (.slice zI), .val 10 zI, .cells 2 [.d (.pair zI (.pair zP zP))], .cells 21 Kc3a], [], none⟩
@[reducible] def X13_2li9 : List (Ex × Tmpl) := [(.exit 2, ⟨116, [(2, .ref 2 0 0 0), (7, .cref 21 0 12 (.pair .bool .unit)), (8, .int .i64 0)], [.lst 1 11 zI, .cells 2 [.d (.pair zI (.pair zP zP))], .cells 21 Kc3a], [], none⟩)]
noncomputable def step13_2li9 : (List Int) × (List Int) × Int × (Int × (Int × Int) × Int × Int) × RwM12 → Option (((List Int) × (List Int) × Int × (Int × (Int × Int) × Int × Int) × RwM12) ⊕ ((List Int) × (Int × (Int × Int) × Int × Int) × RwM12)) := fun (targets, all0, k, d, rows) =>
 bif decide (k < (all0.length : Int)) then
  bif inBounds k all0.length then
   optE (s35 (d, rows.2.1, all0.getD k.toNat 0, false)) (fun r22 =>
    bif r22.2 then
     bif room 24 (rows.1.length + 1) then
      some (.inl (padV 11 zI targets, all0, wr (k + 1), d, (rows.1 ++ [r22.1], rows.2.1, rows.2.2.1, rows.2.2.2.1, rows.2.2.2.2.1, rows.2.2.2.2.2.1, rows.2.2.2.2.2.2.1, rows.2.2.2.2.2.2.2.1, rows.2.2.2.2.2.2.2.2.1, rows.2.2.2.2.2.2.2.2.2.1, rows.2.2.2.2.2.2.2.2.2.2.1, rows.2.2.2.2.2.2.2.2.2.2.2)))
     else
      none
    else
     some (.inl (padV 11 zI targets, all0, wr (k + 1), d, rows)))
    (none)
  else
   none
 else
  some (.inr (padV 11 zI targets, d, rows))
theorem one13_2li9 : oneLoop Try.prog 13 2 = true := by kernel_rfl
theorem lp13_2li9 : ItemOk Try.prog (.loop 13 2 T13_2li9 X13_2li9 (loopVal step13_2li9)) := item_loopM md5 ext5 (U := 60) (n := 19) noSpecial mixed Gn3K10_ok one13_2li9 (fun x => by kernel_rfl)
noncomputable def Gn3K11 : List Ev.Item := .loop 13 2 T13_2li9 X13_2li9 (loopVal step13_2li9) :: Gn3K10
theorem Gn3K11_ok : ∀ q ∈ Gn3K11, ItemOk Try.prog q := items_cons lp13_2li9 Gn3K10_ok
noncomputable def p13n11 : (Int × (Int × Int) × Int × Int) × Int × Int × Int × Int × Int × Int × Int × Int × Int × Int × Int → Option ((List Int) × Int × Bool) := fun (d, t0, t1, t2, t3, t4, t5, t6, t7, t8, t9, t10) =>
 optE (s34 (d, t10)) (fun r1 =>
 optE (loopVal step13_2l ([t0, t1, t2, t3, t4, t5, t6, t7, t8, t9, t10], r1, 0, d, ([], [], [], [], [], [], [], [], [], [], [], []))) (fun e2 =>
 optE (s34 (e2.2.1, (padV 11 zI e2.1).getD 9 0)) (fun r3 =>
 optE (loopVal step13_2la (padV 11 zI e2.1, r3, 0, e2.2.1, e2.2.2)) (fun e4 =>
 optE (s34 (e4.2.1, (padV 11 zI e4.1).getD 8 0)) (fun r5 =>
 optE (loopVal step13_2lb (padV 11 zI e4.1, r5, 0, e4.2.1, e4.2.2)) (fun e6 =>
 optE (s34 (e6.2.1, (padV 11 zI e6.1).getD 7 0)) (fun r7 =>
 optE (loopVal step13_2lc (padV 11 zI e6.1, r7, 0, e6.2.1, e6.2.2)) (fun e8 =>
 optE (s34 (e8.2.1, (padV 11 zI e8.1).getD 6 0)) (fun r9 =>
 optE (loopVal step13_2ld (padV 11 zI e8.1, r9, 0, e8.2.1, e8.2.2)) (fun e10 =>
 optE (s34 (e10.2.1, (padV 11 zI e10.1).getD 5 0)) (fun r11 =>
 optE (loopVal step13_2le (padV 11 zI e10.1, r11, 0, e10.2.1, e10.2.2)) (fun e12 =>
 optE (s34 (e12.2.1, (padV 11 zI e12.1).getD 4 0)) (fun r13 =>
 optE (loopVal step13_2lf (padV 11 zI e12.1, r13, 0, e12.2.1, e12.2.2)) (fun e14 =>
 optE (s34 (e14.2.1, (padV 11 zI e14.1).getD 3 0)) (fun r15 =>
 optE (loopVal step13_2lg (padV 11 zI e14.1, r15, 0, e14.2.1, e14.2.2)) (fun e16 =>
 optE (s34 (e16.2.1, (padV 11 zI e16.1).getD 2 0)) (fun r17 =>
 optE (loopVal step13_2lh (padV 11 zI e16.1, r17, 0, e16.2.1, e16.2.2)) (fun e18 =>
 optE (s34 (e18.2.1, (padV 11 zI e18.1).getD 1 0)) (fun r19 =>
 optE (loopVal step13_2li8 (padV 11 zI e18.1, r19, 0, e18.2.1, e18.2.2)) (fun e20 =>
 optE (s34 (e20.2.1, (padV 11 zI e20.1).getD 0 0)) (fun r21 =>
 optE (loopVal step13_2li9 (padV 11 zI e20.1, r21, 0, e20.2.1, e20.2.2)) (fun e22 =>
 optE (s35 (e22.2.1, e22.2.2.1, e22.2.1.2.2.1, false)) (fun r23 =>
 bif !r23.2 then
 some (([], 0, false))
 else
 bif inBounds r23.1.2.2 e22.2.2.1.length then
 bif inBounds r23.1.2.2 e22.2.2.1.length then
 bif inBounds (e22.2.2.1.getD r23.1.2.2.toNat (0, 0, 0)).2.2 e22.2.2.2.1.length then
 bif inBounds (e22.2.2.1.getD r23.1.2.2.toNat (0, 0, 0)).2.2 e22.2.2.2.1.length then
 bif inBounds (e22.2.2.2.1.getD (e22.2.2.1.getD r23.1.2.2.toNat (0, 0, 0)).2.2.toNat (0, 0, 0)).2.2 e22.2.2.2.2.1.length then
 bif inBounds (e22.2.2.2.1.getD (e22.2.2.1.getD r23.1.2.2.toNat (0, 0, 0)).2.2.toNat (0, 0, 0)).2.2 e22.2.2.2.2.1.length then
 bif inBounds (e22.2.2.2.2.1.getD (e22.2.2.2.1.getD (e22.2.2.1.getD r23.1.2.2.toNat (0, 0, 0)).2.2.toNat (0, 0, 0)).2.2.toNat (0, 0, 0)).2.2 e22.2.2.2.2.2.1.length then
 bif inBounds (e22.2.2.2.2.1.getD (e22.2.2.2.1.getD (e22.2.2.1.getD r23.1.2.2.toNat (0, 0, 0)).2.2.toNat (0, 0, 0)).2.2.toNat (0, 0, 0)).2.2 e22.2.2.2.2.2.1.length then
 bif inBounds (e22.2.2.2.2.2.1.getD (e22.2.2.2.2.1.getD (e22.2.2.2.1.getD (e22.2.2.1.getD r23.1.2.2.toNat (0, 0, 0)).2.2.toNat (0, 0, 0)).2.2.toNat (0, 0, 0)).2.2.toNat (0, 0, 0)).2.2 e22.2.2.2.2.2.2.1.length then
 bif inBounds (e22.2.2.2.2.2.1.getD (e22.2.2.2.2.1.getD (e22.2.2.2.1.getD (e22.2.2.1.getD r23.1.2.2.toNat (0, 0, 0)).2.2.toNat (0, 0, 0)).2.2.toNat (0, 0, 0)).2.2.toNat (0, 0, 0)).2.2 e22.2.2.2.2.2.2.1.length then
 bif inBounds (e22.2.2.2.2.2.2.1.getD (e22.2.2.2.2.2.1.getD (e22.2.2.2.2.1.getD (e22.2.2.2.1.getD (e22.2.2.1.getD r23.1.2.2.toNat (0, 0, 0)).2.2.toNat (0, 0, 0)).2.2.toNat (0, 0, 0)).2.2.toNat (0, 0, 0)).2.2.toNat (0, 0, 0)).2.2 e22.2.2.2.2.2.2.2.1.length then
 bif inBounds (e22.2.2.2.2.2.2.1.getD (e22.2.2.2.2.2.1.getD (e22.2.2.2.2.1.getD (e22.2.2.2.1.getD (e22.2.2.1.getD r23.1.2.2.toNat (0, 0, 0)).2.2.toNat (0, 0, 0)).2.2.toNat (0, 0, 0)).2.2.toNat (0, 0, 0)).2.2.toNat (0, 0, 0)).2.2 e22.2.2.2.2.2.2.2.1.length then
 bif inBounds (e22.2.2.2.2.2.2.2.1.getD (e22.2.2.2.2.2.2.1.getD (e22.2.2.2.2.2.1.getD (e22.2.2.2.2.1.getD (e22.2.2.2.1.getD (e22.2.2.1.getD r23.1.2.2.toNat (0, 0, 0)).2.2.toNat (0, 0, 0)).2.2.toNat (0, 0, 0)).2.2.toNat (0, 0, 0)).2.2.toNat (0, 0, 0)).2.2.toNat (0, 0, 0)).2.2 e22.2.2.2.2.2.2.2.2.1.length then
 bif inBounds (e22.2.2.2.2.2.2.2.1.getD (e22.2.2.2.2.2.2.1.getD (e22.2.2.2.2.2.1.getD (e22.2.2.2.2.1.getD (e22.2.2.2.1.getD (e22.2.2.1.getD r23.1.2.2.toNat (0, 0, 0)).2.2.toNat (0, 0, 0)).2.2.toNat (0, 0, 0)).2.2.toNat (0, 0, 0)).2.2.toNat (0, 0, 0)).2.2.toNat (0, 0, 0)).2.2 e22.2.2.2.2.2.2.2.2.1.length then
 bif inBounds (e22.2.2.2.2.2.2.2.2.1.getD (e22.2.2.2.2.2.2.2.1.getD (e22.2.2.2.2.2.2.1.getD (e22.2.2.2.2.2.1.getD (e22.2.2.2.2.1.getD (e22.2.2.2.1.getD (e22.2.2.1.getD r23.1.2.2.toNat (0, 0, 0)).2.2.toNat (0, 0, 0)).2.2.toNat (0, 0, 0)).2.2.toNat (0, 0, 0)).2.2.toNat (0, 0, 0)).2.2.toNat (0, 0, 0)).2.2.toNat (0, 0, 0)).2.2 e22.2.2.2.2.2.2.2.2.2.1.length then
 bif inBounds (e22.2.2.2.2.2.2.2.2.1.getD (e22.2.2.2.2.2.2.2.1.getD (e22.2.2.2.2.2.2.1.getD (e22.2.2.2.2.2.1.getD (e22.2.2.2.2.1.getD (e22.2.2.2.1.getD (e22.2.2.1.getD r23.1.2.2.toNat (0, 0, 0)).2.2.toNat (0, 0, 0)).2.2.toNat (0, 0, 0)).2.2.toNat (0, 0, 0)).2.2.toNat (0, 0, 0)).2.2.toNat (0, 0, 0)).2.2.toNat (0, 0, 0)).2.2 e22.2.2.2.2.2.2.2.2.2.1.length then
 bif inBounds (e22.2.2.2.2.2.2.2.2.2.1.getD (e22.2.2.2.2.2.2.2.2.1.getD (e22.2.2.2.2.2.2.2.1.getD (e22.2.2.2.2.2.2.1.getD (e22.2.2.2.2.2.1.getD (e22.2.2.2.2.1.getD (e22.2.2.2.1.getD (e22.2.2.1.getD r23.1.2.2.toNat (0, 0, 0)).2.2.toNat (0, 0, 0)).2.2.toNat (0, 0, 0)).2.2.toNat (0, 0, 0)).2.2.toNat (0, 0, 0)).2.2.toNat (0, 0, 0)).2.2.toNat (0, 0, 0)).2.2.toNat (0, 0, 0)).2.2 e22.2.2.2.2.2.2.2.2.2.2.1.length then
 bif inBounds (e22.2.2.2.2.2.2.2.2.2.1.getD (e22.2.2.2.2.2.2.2.2.1.getD (e22.2.2.2.2.2.2.2.1.getD (e22.2.2.2.2.2.2.1.getD (e22.2.2.2.2.2.1.getD (e22.2.2.2.2.1.getD (e22.2.2.2.1.getD (e22.2.2.1.getD r23.1.2.2.toNat (0, 0, 0)).2.2.toNat (0, 0, 0)).2.2.toNat (0, 0, 0)).2.2.toNat (0, 0, 0)).2.2.toNat (0, 0, 0)).2.2.toNat (0, 0, 0)).2.2.toNat (0, 0, 0)).2.2.toNat (0, 0, 0)).2.2 e22.2.2.2.2.2.2.2.2.2.2.1.length then
 bif inBounds (e22.2.2.2.2.2.2.2.2.2.2.1.getD (e22.2.2.2.2.2.2.2.2.2.1.getD (e22.2.2.2.2.2.2.2.2.1.getD (e22.2.2.2.2.2.2.2.1.getD (e22.2.2.2.2.2.2.1.getD (e22.2.2.2.2.2.1.getD (e22.2.2.2.2.1.getD (e22.2.2.2.1.getD (e22.2.2.1.getD r23.1.2.2.toNat (0, 0, 0)).2.2.toNat (0, 0, 0)).2.2.toNat (0, 0, 0)).2.2.toNat (0, 0, 0)).2.2.toNat (0, 0, 0)).2.2.toNat (0, 0, 0)).2.2.toNat (0, 0, 0)).2.2.toNat (0, 0, 0)).2.2.toNat (0, 0, 0)).2.2 e22.2.2.2.2.2.2.2.2.2.2.2.1.length then
 bif inBounds (e22.2.2.2.2.2.2.2.2.2.2.1.getD (e22.2.2.2.2.2.2.2.2.2.1.getD (e22.2.2.2.2.2.2.2.2.1.getD (e22.2.2.2.2.2.2.2.1.getD (e22.2.2.2.2.2.2.1.getD (e22.2.2.2.2.2.1.getD (e22.2.2.2.2.1.getD (e22.2.2.2.1.getD (e22.2.2.1.getD r23.1.2.2.toNat (0, 0, 0)).2.2.toNat (0, 0, 0)).2.2.toNat (0, 0, 0)).2.2.toNat (0, 0, 0)).2.2.toNat (0, 0, 0)).2.2.toNat (0, 0, 0)).2.2.toNat (0, 0, 0)).2.2.toNat (0, 0, 0)).2.2.toNat (0, 0, 0)).2.2 e22.2.2.2.2.2.2.2.2.2.2.2.1.length then
 bif inBounds (e22.2.2.2.2.2.2.2.2.2.2.2.1.getD (e22.2.2.2.2.2.2.2.2.2.2.1.getD (e22.2.2.2.2.2.2.2.2.2.1.getD (e22.2.2.2.2.2.2.2.2.1.getD (e22.2.2.2.2.2.2.2.1.getD (e22.2.2.2.2.2.2.1.getD (e22.2.2.2.2.2.1.getD (e22.2.2.2.2.1.getD (e22.2.2.2.1.getD (e22.2.2.1.getD r23.1.2.2.toNat (0, 0, 0)).2.2.toNat (0, 0, 0)).2.2.toNat (0, 0, 0)).2.2.toNat (0, 0, 0)).2.2.toNat (0, 0, 0)).2.2.toNat (0, 0, 0)).2.2.toNat (0, 0, 0)).2.2.toNat (0, 0, 0)).2.2.toNat (0, 0, 0)).2.2.toNat (0, 0, 0)).2.2 e22.2.2.2.2.2.2.2.2.2.2.2.2.1.length then
 bif inBounds (e22.2.2.2.2.2.2.2.2.2.2.2.1.getD (e22.2.2.2.2.2.2.2.2.2.2.1.getD (e22.2.2.2.2.2.2.2.2.2.1.getD (e22.2.2.2.2.2.2.2.2.1.getD (e22.2.2.2.2.2.2.2.1.getD (e22.2.2.2.2.2.2.1.getD (e22.2.2.2.2.2.1.getD (e22.2.2.2.2.1.getD (e22.2.2.2.1.getD (e22.2.2.1.getD r23.1.2.2.toNat (0, 0, 0)).2.2.toNat (0, 0, 0)).2.2.toNat (0, 0, 0)).2.2.toNat (0, 0, 0)).2.2.toNat (0, 0, 0)).2.2.toNat (0, 0, 0)).2.2.toNat (0, 0, 0)).2.2.toNat (0, 0, 0)).2.2.toNat (0, 0, 0)).2.2.toNat (0, 0, 0)).2.2 e22.2.2.2.2.2.2.2.2.2.2.2.2.1.length then
 some (([(e22.2.2.1.getD r23.1.2.2.toNat (0, 0, 0)).1, (e22.2.2.2.1.getD (e22.2.2.1.getD r23.1.2.2.toNat (0, 0, 0)).2.2.toNat (0, 0, 0)).1, (e22.2.2.2.2.1.getD (e22.2.2.2.1.getD (e22.2.2.1.getD r23.1.2.2.toNat (0, 0, 0)).2.2.toNat (0, 0, 0)).2.2.toNat (0, 0, 0)).1, (e22.2.2.2.2.2.1.getD (e22.2.2.2.2.1.getD (e22.2.2.2.1.getD (e22.2.2.1.getD r23.1.2.2.toNat (0, 0, 0)).2.2.toNat (0, 0, 0)).2.2.toNat (0, 0, 0)).2.2.toNat (0, 0, 0)).1, (e22.2.2.2.2.2.2.1.getD (e22.2.2.2.2.2.1.getD (e22.2.2.2.2.1.getD (e22.2.2.2.1.getD (e22.2.2.1.getD r23.1.2.2.toNat (0, 0, 0)).2.2.toNat (0, 0, 0)).2.2.toNat (0, 0, 0)).2.2.toNat (0, 0, 0)).2.2.toNat (0, 0, 0)).1, (e22.2.2.2.2.2.2.2.1.getD (e22.2.2.2.2.2.2.1.getD (e22.2.2.2.2.2.1.getD (e22.2.2.2.2.1.getD (e22.2.2.2.1.getD (e22.2.2.1.getD r23.1.2.2.toNat (0, 0, 0)).2.2.toNat (0, 0, 0)).2.2.toNat (0, 0, 0)).2.2.toNat (0, 0, 0)).2.2.toNat (0, 0, 0)).2.2.toNat (0, 0, 0)).1, (e22.2.2.2.2.2.2.2.2.1.getD (e22.2.2.2.2.2.2.2.1.getD (e22.2.2.2.2.2.2.1.getD (e22.2.2.2.2.2.1.getD (e22.2.2.2.2.1.getD (e22.2.2.2.1.getD (e22.2.2.1.getD r23.1.2.2.toNat (0, 0, 0)).2.2.toNat (0, 0, 0)).2.2.toNat (0, 0, 0)).2.2.toNat (0, 0, 0)).2.2.toNat (0, 0, 0)).2.2.toNat (0, 0, 0)).2.2.toNat (0, 0, 0)).1, (e22.2.2.2.2.2.2.2.2.2.1.getD (e22.2.2.2.2.2.2.2.2.1.getD (e22.2.2.2.2.2.2.2.1.getD (e22.2.2.2.2.2.2.1.getD (e22.2.2.2.2.2.1.getD (e22.2.2.2.2.1.getD (e22.2.2.2.1.getD (e22.2.2.1.getD r23.1.2.2.toNat (0, 0, 0)).2.2.toNat (0, 0, 0)).2.2.toNat (0, 0, 0)).2.2.toNat (0, 0, 0)).2.2.toNat (0, 0, 0)).2.2.toNat (0, 0, 0)).2.2.toNat (0, 0, 0)).2.2.toNat (0, 0, 0)).1, (e22.2.2.2.2.2.2.2.2.2.2.1.getD (e22.2.2.2.2.2.2.2.2.2.1.getD (e22.2.2.2.2.2.2.2.2.1.getD (e22.2.2.2.2.2.2.2.1.getD (e22.2.2.2.2.2.2.1.getD (e22.2.2.2.2.2.1.getD (e22.2.2.2.2.1.getD (e22.2.2.2.1.getD (e22.2.2.1.getD r23.1.2.2.toNat (0, 0, 0)).2.2.toNat (0, 0, 0)).2.2.toNat (0, 0, 0)).2.2.toNat (0, 0, 0)).2.2.toNat (0, 0, 0)).2.2.toNat (0, 0, 0)).2.2.toNat (0, 0, 0)).2.2.toNat (0, 0, 0)).2.2.toNat (0, 0, 0)).1, (e22.2.2.2.2.2.2.2.2.2.2.2.1.getD (e22.2.2.2.2.2.2.2.2.2.2.1.getD (e22.2.2.2.2.2.2.2.2.2.1.getD (e22.2.2.2.2.2.2.2.2.1.getD (e22.2.2.2.2.2.2.2.1.getD (e22.2.2.2.2.2.2.1.getD (e22.2.2.2.2.2.1.getD (e22.2.2.2.2.1.getD (e22.2.2.2.1.getD (e22.2.2.1.getD r23.1.2.2.toNat (0, 0, 0)).2.2.toNat (0, 0, 0)).2.2.toNat (0, 0, 0)).2.2.toNat (0, 0, 0)).2.2.toNat (0, 0, 0)).2.2.toNat (0, 0, 0)).2.2.toNat (0, 0, 0)).2.2.toNat (0, 0, 0)).2.2.toNat (0, 0, 0)).2.2.toNat (0, 0, 0)).1, (e22.2.2.2.2.2.2.2.2.2.2.2.2.1.getD (e22.2.2.2.2.2.2.2.2.2.2.2.1.getD (e22.2.2.2.2.2.2.2.2.2.2.1.getD (e22.2.2.2.2.2.2.2.2.2.1.getD (e22.2.2.2.2.2.2.2.2.1.getD (e22.2.2.2.2.2.2.2.1.getD (e22.2.2.2.2.2.2.1.getD (e22.2.2.2.2.2.1.getD (e22.2.2.2.2.1.getD (e22.2.2.2.1.getD (e22.2.2.1.getD r23.1.2.2.toNat (0, 0, 0)).2.2.toNat (0, 0, 0)).2.2.toNat (0, 0, 0)).2.2.toNat (0, 0, 0)).2.2.toNat (0, 0, 0)).2.2.toNat (0, 0, 0)).2.2.toNat (0, 0, 0)).2.2.toNat (0, 0, 0)).2.2.toNat (0, 0, 0)).2.2.toNat (0, 0, 0)).2.2.toNat (0, 0, 0)).1], r23.1.2.1, true))
 else
 none
 else
 none
 else
 none
 else
 none
 else
 none
 else
 none
 else
 none
 else
 none
 else
 none
 else
 none
 else
 none
 else
 none
 else
 none
 else
 none
 else
 none
 else
 none
 else
 none
 else
 none
 else
 none
 else
 none
 else
 none
 else
 none)
 (none))
 (none))
 (none))
 (none))
 (none))
 (none))
 (none))
 (none))
 (none))
 (none))
 (none))
 (none))
 (none))
 (none))
 (none))
 (none))
 (none))
 (none))
 (none))
 (none))
 (none))
 (none))
 (none)
def f13n11 : (Int × (Int × Int) × Int × Int) × Int × Int × Int × Int × Int × Int × Int × Int × Int × Int × Int → (Int × (Int × Int) × Int × Int) × (List Int) := fun (d, t0, t1, t2, t3, t4, t5, t6, t7, t8, t9, t10) => (d, [t0, t1, t2, t3, t4, t5, t6, t7, t8, t9, t10])
theorem h13n11 : ∀ d, evalK Try.prog (Pars [.own 3 zI, .d zI, .d .bool]) (knowM md5 Gn3K11) 60 20 13 (cvs [.d (.agg (.pair zI (.pair zP zP))), .d (.slice zI)] (f13n11 d)) (canonK [.own 3 zI, .d zI, .d .bool]) = p13n11 d := fun d => by kernel_rfl
noncomputable def s13n11 : (Int × (Int × Int) × Int × Int) × (List Int) → Option ((List Int) × Int × Bool) := fun
 | (d, [t0, t1, t2, t3, t4, t5, t6, t7, t8, t9, t10]) => p13n11 (d, t0, t1, t2, t3, t4, t5, t6, t7, t8, t9, t10)
 | _ => none
theorem q13n11 : ∀ x y, s13n11 x = some y → ∃ d, x = f13n11 d ∧ p13n11 d = some y := by
 intro x y h
 unfold s13n11 at h
 split at h
 ·exact ⟨_, rfl, h⟩
 ·cases h
theorem i13n11 : ItemOk Try.prog (.fn 13 [.d (.agg (.pair zI (.pair zP zP))), .d (.slice zI)] [.own 3 zI, .d zI, .d .bool] s13n11) := @item_fnP Try.prog md5 ext5 Gn3K11 noSpecial mixed Gn3K11_ok 13 60 20 [.d (.agg (.pair zI (.pair zP zP))), .d (.slice zI)] [.own 3 zI, .d zI, .d .bool] ((Int × (Int × Int) × Int × Int) × Int × Int × Int × Int × Int × Int × Int × Int × Int × Int × Int) f13n11 p13n11 s13n11 h13n11 q13n11
end Go.Proofs.Ythabingkfmlbbaa
