/- Printed by gen.py: specifications of functions. -/
import Derived.Test.YthabingkfmlbbaaGn3
set_option linter.unusedSimpArgs false
set_option maxRecDepth 100000
namespace Go.Proofs.Ythabingkfmlbbaa
open Go.Ev
abbrev RwM13 := RwM × RwM × RwM × RwM × RwM × RwM × RwM × RwM × RwM × RwM × RwM × RwM × RwM
@[reducible] def Kc4a : List LK := [.own 950 69 rE, .own 951 69 rE, .own 952 69 rE, .own 953 69 rE, .own 954 69 rE, .own 955 69 rE, .own 956 69 rE, .own 957 69 rE, .own 958 69 rE, .own 959 69 rE, .own 960 69 rE, .own 961 69 rE, .own 962 69 rE]
@[reducible] def Kc4b : List LK := [.own 950 69 rE, .own 951 69 rE, .own 952 69 rE, .own 953 69 rE, .own 954 69 rE, .own 955 69 rE, .own 956 69 rE, .own 957 69 rE, .own 958 69 rE, .own 959 69 rE, .own 960 69 rE, .own 69 69 rE, .own 962 69 rE]
@[reducible] def T13_2m : Tmpl := ⟨116, [(2, .ref 2 0 0 0), (7, .cref 21 0 13 (.pair .bool .unit)), (8, .int .i64 11)], [.lst 1 12 zI, .val 9 (.slice zI), .val 10 zI, .cells 2 [.d (.pair zI (.pair zP zP))], .cells 21 Kc4b], [], none⟩
@[reducible] def X13_2m : List (Ex × Tmpl) := [(.exit 2, ⟨116, [(2, .ref 2 0 0 0), (7, .cref 21 0 13 (.pair .bool .unit)), (8, .int .i64 11)], [.lst 1 12 zI, .cells 2 [.d (.pair zI (.pair zP zP))], .cells 21 Kc4b], [], none⟩)]
noncomputable def step13_2m : (List Int) × (List Int) × Int × (Int × (Int × Int) × Int × Int) × RwM13 → Option (((List Int) × (List Int) × Int × (Int × (Int × Int) × Int × Int) × RwM13) ⊕ ((List Int) × (Int × (Int × Int) × Int × Int) × RwM13)) := fun (targets, all0, k, d, rows) =>
 bif decide (k < (all0.length : Int)) then
  bif inBounds k all0.length then
   optE (s35 (d, rows.2.2.2.2.2.2.2.2.2.2.2.2, all0.getD k.toNat 0, true)) (fun r2 =>
    bif r2.2 then
     bif room 24 (rows.2.2.2.2.2.2.2.2.2.2.2.1.length + 1) then
      some (.inl (padV 12 zI targets, all0, wr (k + 1), d, (rows.1, rows.2.1, rows.2.2.1, rows.2.2.2.1, rows.2.2.2.2.1, rows.2.2.2.2.2.1, rows.2.2.2.2.2.2.1, rows.2.2.2.2.2.2.2.1, rows.2.2.2.2.2.2.2.2.1, rows.2.2.2.2.2.2.2.2.2.1, rows.2.2.2.2.2.2.2.2.2.2.1, rows.2.2.2.2.2.2.2.2.2.2.2.1 ++ [r2.1], rows.2.2.2.2.2.2.2.2.2.2.2.2)))
     else
      none
    else
     some (.inl (padV 12 zI targets, all0, wr (k + 1), d, rows)))
    (none)
  else
   none
 else
  some (.inr (padV 12 zI targets, d, rows))
theorem one13_2m : oneLoop Try.prog 13 2 = true := by kernel_rfl
theorem lp13_2m : ItemOk Try.prog (.loop 13 2 T13_2m X13_2m (loopVal step13_2m)) := item_loopM md5 ext5 (U := 60) (n := 19) noSpecial mixed RpK_ok one13_2m (fun x => by kernel_rfl)
noncomputable def Gn4K1 : List Ev.Item := .loop 13 2 T13_2m X13_2m (loopVal step13_2m) :: RpK
theorem Gn4K1_ok : ∀ q ∈ Gn4K1, ItemOk Try.prog q := items_cons lp13_2m RpK_ok
@[reducible] def T13_2ma : Tmpl := ⟨116, [(2, .ref 2 0 0 0), (7, .cref 21 0 13 (.pair .bool .unit)), (8, .int .i64 10)], [.lst 1 12 zI, .val 9 (.slice zI), .val 10 zI, .cells 2 [.d (.pair zI (.pair zP zP))], .cells 21 Kc4a], [], none⟩
@[reducible] def X13_2ma : List (Ex × Tmpl) := [(.exit 2, ⟨116, [(2, .ref 2 0 0 0), (7, .cref 21 0 13 (.pair .bool .unit)), (8, .int .i64 10)], [.lst 1 12 zI, .cells 2 [.d (.pair zI (.pair zP zP))], .cells 21 Kc4a], [], none⟩)]
noncomputable def step13_2ma : (List Int) × (List Int) × Int × (Int × (Int × Int) × Int × Int) × RwM13 → Option (((List Int) × (List Int) × Int × (Int × (Int × Int) × Int × Int) × RwM13) ⊕ ((List Int) × (Int × (Int × Int) × Int × Int) × RwM13)) := fun (targets, all0, k, d, rows) =>
 bif decide (k < (all0.length : Int)) then
  bif inBounds k all0.length then
   optE (s35 (d, rows.2.2.2.2.2.2.2.2.2.2.2.1, all0.getD k.toNat 0, false)) (fun r4 =>
    bif r4.2 then
     bif room 24 (rows.2.2.2.2.2.2.2.2.2.2.1.length + 1) then
      some (.inl (padV 12 zI targets, all0, wr (k + 1), d, (rows.1, rows.2.1, rows.2.2.1, rows.2.2.2.1, rows.2.2.2.2.1, rows.2.2.2.2.2.1, rows.2.2.2.2.2.2.1, rows.2.2.2.2.2.2.2.1, rows.2.2.2.2.2.2.2.2.1, rows.2.2.2.2.2.2.2.2.2.1, rows.2.2.2.2.2.2.2.2.2.2.1 ++ [r4.1], rows.2.2.2.2.2.2.2.2.2.2.2.1, rows.2.2.2.2.2.2.2.2.2.2.2.2)))
     else
      none
    else
     some (.inl (padV 12 zI targets, all0, wr (k + 1), d, rows)))
    (none)
  else
   none
 else
  some (.inr (padV 12 zI targets, d, rows))
theorem one13_2ma : oneLoop Try.prog 13 2 = true := by kernel_rfl
theorem lp13_2ma : ItemOk Try.prog (.loop 13 2 T13_2ma X13_2ma (loopVal step13_2ma)) := item_loopM md5 ext5 (U := 60) (n := 19) noSpecial mixed Gn4K1_ok one13_2ma (fun x => by kernel_rfl)
noncomputable def Gn4K2 : List Ev.Item := .loop 13 2 T13_2ma X13_2ma (loopVal step13_2ma) :: Gn4K1
theorem Gn4K2_ok : ∀ q ∈ Gn4K2, ItemOk Try.prog q := items_cons lp13_2ma Gn4K1_ok
@[reducible] def T13_2mb : Tmpl := ⟨116, [(2, .ref 2 0 0 0), (7, .cref 21 0 13 (.pair .bool .unit)), (8, .int .i64 9)], [.lst 1 12 zI, .val 9 (.slice zI), .val 10 zI, .cells 2 [.d (.pair zI (.pair zP zP))], .cells 21 Kc4a], [], none⟩
@[reducible] def X13_2mb : List (Ex × Tmpl) := [(.exit 2, ⟨116, [(2, .ref 2 0 0 0), (7, .cref 21 0 13 (.pair .bool .unit)), (8, .int .i64 9)], [.lst 1 12 zI, .cells 2 [.d (.pair zI (.pair zP zP))], .cells 21 Kc4a], [], none⟩)]
noncomputable def step13_2mb : (List Int) × (List Int) × Int × (Int × (Int × Int) × Int × Int) × RwM13 → Option (((List Int) × (List Int) × Int × (Int × (Int × Int) × Int × Int) × RwM13) ⊕ ((List Int) × (Int × (Int × Int) × Int × Int) × RwM13)) := fun (targets, all0, k, d, rows) =>
 bif decide (k < (all0.length : Int)) then
  bif inBounds k all0.length then
   optE (s35 (d, rows.2.2.2.2.2.2.2.2.2.2.1, all0.getD k.toNat 0, false)) (fun r6 =>
    bif r6.2 then
     bif room 24 (rows.2.2.2.2.2.2.2.2.2.1.length + 1) then
      some (.inl (padV 12 zI targets, all0, wr (k + 1), d, (rows.1, rows.2.1, rows.2.2.1, rows.2.2.2.1, rows.2.2.2.2.1, rows.2.2.2.2.2.1, rows.2.2.2.2.2.2.1, rows.2.2.2.2.2.2.2.1, rows.2.2.2.2.2.2.2.2.1, rows.2.2.2.2.2.2.2.2.2.1 ++ [r6.1], rows.2.2.2.2.2.2.2.2.2.2.1, rows.2.2.2.2.2.2.2.2.2.2.2.1, rows.2.2.2.2.2.2.2.2.2.2.2.2)))
     else
      none
    else
     some (.inl (padV 12 zI targets, all0, wr (k + 1), d, rows)))
    (none)
  else
   none
 else
  some (.inr (padV 12 zI targets, d, rows))
theorem one13_2mb : oneLoop Try.prog 13 2 = true := by kernel_rfl
theorem lp13_2mb : ItemOk Try.prog (.loop 13 2 T13_2mb X13_2mb (loopVal step13_2mb)) := item_loopM md5 ext5 (U := 60) (n := 19) noSpecial mixed Gn4K2_ok one13_2mb (fun x => by kernel_rfl)
noncomputable def Gn4K3 : List Ev.Item := .loop 13 2 T13_2mb X13_2mb (loopVal step13_2mb) :: Gn4K2
theorem Gn4K3_ok : ∀ q ∈ Gn4K3, ItemOk Try.prog q := items_cons lp13_2mb Gn4K2_ok
@[reducible] def T13_2mc : Tmpl := ⟨116, [(2, .ref 2 0 0 0), (7, .cref 21 0 13 (.pair .bool .unit)), (8, .int .i64 8)], [.lst 1 12 zI, .val 9 (.slice zI), .val 10 zI, .cells 2 [.d (.pair zI (.pair zP zP))], .cells 21 Kc4a], [], none⟩
@[reducible] def X13_2mc : List (Ex × Tmpl) := [(.exit 2, ⟨116, [(2, .ref 2 0 0 0), (7, .cref 21 0 13 (.pair .bool .unit)), (8, .int .i64 8)], [.lst 1 12 zI, .cells 2 [.d (.pair zI (.pair zP zP))], .cells 21 Kc4a], [], none⟩)]
noncomputable def step13_2mc : (List Int) × (List Int) × Int × (Int × (Int × Int) × Int × Int) × RwM13 → Option (((List Int) × (List Int) × Int × (Int × (Int × Int) × Int × Int) × RwM13) ⊕ ((List Int) × (Int × (Int × Int) × Int × Int) × RwM13)) := fun (targets, all0, k, d, rows) =>
 bif decide (k < (all0.length : Int)) then
  bif inBounds k all0.length then
   optE (s35 (d, rows.2.2.2.2.2.2.2.2.2.1, all0.getD k.toNat 0, false)) (fun r8 =>
    bif r8.2 then
     bif room 24 (rows.2.2.2.2.2.2.2.2.1.length + 1) then
      some (.inl (padV 12 zI targets, all0, wr (k + 1), d, (rows.1, rows.2.1, rows.2.2.1, rows.2.2.2.1, rows.2.2.2.2.1, rows.2.2.2.2.2.1, rows.2.2.2.2.2.2.1, rows.2.2.2.2.2.2.2.1, rows.2.2.2.2.2.2.2.2.1 ++ [r8.1], rows.2.2.2.2.2.2.2.2.2.1, rows.2.2.2.2.2.2.2.2.2.2.1, rows.2.2.2.2.2.2.2.2.2.2.2.1, rows.2.2.2.2.2.2.2.2.2.2.2.2)))
     else
      none
    else
     some (.inl (padV 12 zI targets, all0, wr (k + 1), d, rows)))
    (none)
  else
   none
 else
  some (.inr (padV 12 zI targets, d, rows))
theorem one13_2mc : oneLoop Try.prog 13 2 = true := by kernel_rfl
theorem lp13_2mc : ItemOk Try.prog (.loop 13 2 T13_2mc X13_2mc (loopVal step13_2mc)) := item_loopM md5 ext5 (U := 60) (n := 19) noSpecial mixed Gn4K3_ok one13_2mc (fun x => by kernel_rfl)
noncomputable def Gn4K4 : List Ev.Item := .loop 13 2 T13_2mc X13_2mc (loopVal step13_2mc) :: Gn4K3
theorem Gn4K4_ok : ∀ q ∈ Gn4K4, ItemOk Try.prog q := items_cons lp13_2mc Gn4K3_ok
@[reducible] def T13_2md : Tmpl := ⟨116, [(2, .ref 2 0 0 0), (7, .cref 21 0 13 (.pair .bool .unit)), (8, .int .i64 7)], [.lst 1 12 zI, .val 9 (.slice zI), .val 10 zI, .cells 2 [.d (.pair zI (.pair zP zP))], .cells 21 Kc4a], [], none⟩
@[reducible] def X13_2md : List (Ex × Tmpl) := [(.exit 2, ⟨116, [(2, .ref 2 0 0 0), (7, .cref 21 0 13 (.pair .bool .unit)), (8, .int .i64 7)], [.lst 1 12 zI, .cells 2 [.d (.pair zI (.pair zP zP))], .cells 21 Kc4a], [], none⟩)]
noncomputable def step13_2md : (List Int) × (List Int) × Int × (Int × (Int × Int) × Int × Int) × RwM13 → Option (((List Int) × (List Int) × Int × (Int × (Int × Int) × Int × Int) × RwM13) ⊕ ((List Int) × (Int × (Int × Int) × Int × Int) × RwM13)) := fun (targets, all0, k, d, rows) =>
 bif decide (k < (all0.length : Int)) then
  bif inBounds k all0.length then
   optE (s35 (d, rows.2.2.2.2.2.2.2.2.1, all0.getD k.toNat 0, false)) (fun r10 =>
    bif r10.2 then
     bif room 24 (rows.2.2.2.2.2.2.2.1.length + 1) then
      some (.inl (padV 12 zI targets, all0, wr (k + 1), d, (rows.1, rows.2.1, rows.2.2.1, rows.2.2.2.1, rows.2.2.2.2.1, rows.2.2.2.2.2.1, rows.2.2.2.2.2.2.1, rows.2.2.2.2.2.2.2.1 ++ [r10.1], rows.2.2.2.2.2.2.2.2.1, rows.2.2.2.2.2.2.2.2.2.1, rows.2.2.2.2.2.2.2.2.2.2.1, rows.2.2.2.2.2.2.2.2.2.2.2.1, rows.2.2.2.2.2.2.2.2.2.2.2.2)))
     else
      none
    else
     some (.inl (padV 12 zI targets, all0, wr (k + 1), d, rows)))
    (none)
  else
   none
 else
  some (.inr (padV 12 zI targets, d, rows))
theorem one13_2md : oneLoop Try.prog 13 2 = true := by kernel_rfl
theorem lp13_2md : ItemOk Try.prog (.loop 13 2 T13_2md X13_2md (loopVal step13_2md)) := item_loopM md5 ext5 (U := 60) (n := 19) noSpecial mixed Gn4K4_ok one13_2md (fun x => by kernel_rfl)
noncomputable def Gn4K5 : List Ev.Item := .loop 13 2 T13_2md X13_2md (loopVal step13_2md) :: Gn4K4
theorem Gn4K5_ok : ∀ q ∈ Gn4K5, ItemOk Try.prog q := items_cons lp13_2md Gn4K4_ok
@[reducible] def T13_2me : Tmpl := ⟨116, [(2, .ref 2 0 0 0), (7, .cref 21 0 13 (.pair .bool .unit)), (8, .int .i64 6)], [.lst 1 12 zI, .val 9 (.slice zI), .val 10 zI, .cells 2 [.d (.pair zI (.pair zP zP))], .cells 21 Kc4a], [], none⟩
@[reducible] def X13_2me : List (Ex × Tmpl) := [(.exit 2, ⟨116, [(2, .ref 2 0 0 0), (7, .cref 21 0 13 (.pair .bool .unit)), (8, .int .i64 6)], [.lst 1 12 zI, .cells 2 [.d (.pair zI (.pair zP zP))], .cells 21 Kc4a], [], none⟩)]
noncomputable def step13_2me : (List Int) × (List Int) × Int × (Int × (Int × Int) × Int × Int) × RwM13 → Option (((List Int) × (List Int) × Int × (Int × (Int × Int) × Int × Int) × RwM13) ⊕ ((List Int) × (Int × (Int × Int) × Int × Int) × RwM13)) := fun (targets, all0, k, d, rows) =>
 bif decide (k < (all0.length : Int)) then
  bif inBounds k all0.length then
   optE (s35 (d, rows.2.2.2.2.2.2.2.1, all0.getD k.toNat 0, false)) (fun r12 =>
    bif r12.2 then
     bif room 24 (rows.2.2.2.2.2.2.1.length + 1) then
      some (.inl (padV 12 zI targets, all0, wr (k + 1), d, (rows.1, rows.2.1, rows.2.2.1, rows.2.2.2.1, rows.2.2.2.2.1, rows.2.2.2.2.2.1, rows.2.2.2.2.2.2.1 ++ [r12.1], rows.2.2.2.2.2.2.2.1, rows.2.2.2.2.2.2.2.2.1, rows.2.2.2.2.2.2.2.2.2.1, rows.2.2.2.2.2.2.2.2.2.2.1, rows.2.2.2.2.2.2.2.2.2.2.2.1, rows.2.2.2.2.2.2.2.2.2.2.2.2)))
     else
      none
    else
     some (.inl (padV 12 zI targets, all0, wr (k + 1), d, rows)))
    (none)
  else
   none
 else
  some (.inr (padV 12 zI targets, d, rows))
theorem one13_2me : oneLoop Try.prog 13 2 = true := by kernel_rfl
theorem lp13_2me : ItemOk Try.prog (.loop 13 2 T13_2me X13_2me (loopVal step13_2me)) := item_loopM md5 ext5 (U := 60) (n := 19) noSpecial mixed Gn4K5_ok one13_2me (fun x => by kernel_rfl)
noncomputable def Gn4K6 : List Ev.Item := .loop 13 2 T13_2me X13_2me (loopVal step13_2me) :: Gn4K5
theorem Gn4K6_ok : ∀ q ∈ Gn4K6, ItemOk Try.prog q := items_cons lp13_2me Gn4K5_ok
@[reducible] def T13_2mf : Tmpl := ⟨116, [(2, .ref 2 0 0 0), (7, .cref 21 0 13 (.pair .bool .unit)), (8, .int .i64 5)], [.lst 1 12 zI, .val 9 (.slice zI), .val 10 zI, .cells 2 [.d (.pair zI (.pair zP zP))], .cells 21 Kc4a], [], none⟩
@[reducible] def X13_2mf : List (Ex × Tmpl) := [(.exit 2, ⟨116, [(2, .ref 2 0 0 0), (7, .cref 21 0 13 (.pair .bool .unit)), (8, .int .i64 5)], [.lst 1 12 zI, .cells 2 [.d (.pair zI (.pair zP zP))], .cells 21 Kc4a], [], none⟩)]
noncomputable def step13_2mf : (List Int) × (List Int) × Int × (Int × (Int × Int) × Int × Int) × RwM13 → Option (((List Int) × (List Int) × Int × (Int × (Int × Int) × Int × Int) × RwM13) ⊕ ((List Int) × (Int × (Int × Int) × Int × Int) × RwM13)) := fun (targets, all0, k, d, rows) =>
 bif decide (k < (all0.length : Int)) then
  bif inBounds k all0.length then
   optE (s35 (d, rows.2.2.2.2.2.2.1, all0.getD k.toNat 0, false)) (fun r14 =>
    bif r14.2 then
     bif room 24 (rows.2.2.2.2.2.1.length + 1) then
      some (.inl (padV 12 zI targets, all0, wr (k + 1), d, (rows.1, rows.2.1, rows.2.2.1, rows.2.2.2.1, rows.2.2.2.2.1, rows.2.2.2.2.2.1 ++ [r14.1], rows.2.2.2.2.2.2.1, rows.2.2.2.2.2.2.2.1, rows.2.2.2.2.2.2.2.2.1, rows.2.2.2.2.2.2.2.2.2.1, rows.2.2.2.2.2.2.2.2.2.2.1, rows.2.2.2.2.2.2.2.2.2.2.2.1, rows.2.2.2.2.2.2.2.2.2.2.2.2)))
     else
      none
    else
     some (.inl (padV 12 zI targets, all0, wr (k + 1), d, rows)))
    (none)
  else
   none
 else
  some (.inr (padV 12 zI targets, d, rows))
theorem one13_2mf : oneLoop Try.prog 13 2 = true := by kernel_rfl
theorem lp13_2mf : ItemOk Try.prog (.loop 13 2 T13_2mf X13_2mf (loopVal step13_2mf)) := item_loopM md5 ext5 (U := 60) (n := 19) noSpecial mixed Gn4K6_ok one13_2mf (fun x => by kernel_rfl)
noncomputable def Gn4K7 : List Ev.Item := .loop 13 2 T13_2mf X13_2mf (loopVal step13_2mf) :: Gn4K6
theorem Gn4K7_ok : ∀ q ∈ Gn4K7, ItemOk Try.prog q := items_cons lp13_2mf Gn4K6_ok
@[reducible] def T13_2mg : Tmpl := ⟨116, [(2, .ref 2 0 0 0), (7, .cref 21 0 13 (.pair .bool .unit)), (8, .int .i64 4)], [.lst 1 12 zI, .val 9 (.slice zI), .val 10 zI, .cells 2 [.d (.pair zI (.pair zP zP))], .cells 21 Kc4a], [], none⟩
@[reducible] def X13_2mg : List (Ex × Tmpl) := [(.exit 2, ⟨116, [(2, .ref 2 0 0 0), (7, .cref 21 0 13 (.pair .bool .unit)), (8, .int .i64 4)], [.lst 1 12 zI, .cells 2 [.d (.pair zI (.pair zP zP))], .cells 21 Kc4a], [], none⟩)]
noncomputable def step13_2mg : (List Int) × (List Int) × Int × (Int × (Int × Int) × Int × Int) × RwM13 → Option (((List Int) × (List Int) × Int × (Int × (Int × Int) × Int × Int) × RwM13) ⊕ ((List Int) × (Int × (Int × Int) × Int × Int) × RwM13)) := fun (targets, all0, k, d, rows) =>
 bif decide (k < (all0.length : Int)) then
  bif inBounds k all0.length then
   optE (s35 (d, rows.2.2.2.2.2.1, all0.getD k.toNat 0, false)) (fun r16 =>
    bif r16.2 then
     bif room 24 (rows.2.2.2.2.1.length + 1) then
      some (.inl (padV 12 zI targets, all0, wr (k + 1), d, (rows.1, rows.2.1, rows.2.2.1, rows.2.2.2.1, rows.2.2.2.2.1 ++ [r16.1], rows.2.2.2.2.2.1, rows.2.2.2.2.2.2.1, rows.2.2.2.2.2.2.2.1, rows.2.2.2.2.2.2.2.2.1, rows.2.2.2.2.2.2.2.2.2.1, rows.2.2.2.2.2.2.2.2.2.2.1, rows.2.2.2.2.2.2.2.2.2.2.2.1, rows.2.2.2.2.2.2.2.2.2.2.2.2)))
     else
      none
    else
     some (.inl (padV 12 zI targets, all0, wr (k + 1), d, rows)))
    (none)
  else
   none
 else
  some (.inr (padV 12 zI targets, d, rows))
theorem one13_2mg : oneLoop Try.prog 13 2 = true := by kernel_rfl
theorem lp13_2mg : ItemOk Try.prog (.loop 13 2 T13_2mg X13_2mg (loopVal step13_2mg)) := item_loopM md5 ext5 (U := 60) (n := 19) noSpecial mixed Gn4K7_ok one13_2mg (fun x => by kernel_rfl)
noncomputable def Gn4K8 : List Ev.Item := .loop 13 2 T13_2mg X13_2mg (loopVal step13_2mg) :: Gn4K7
theorem Gn4K8_ok : ∀ q ∈ Gn4K8, ItemOk Try.prog q := items_cons lp13_2mg Gn4K7_ok
@[reducible] def T13_2mh : Tmpl := ⟨116, [(2, .ref 2 0 0 0), (7, .cref 21 0 13 (.pair .bool .unit)), (8, .int .i64 3)], [.lst 1 12 zI, .val 9 (.slice zI), .val 10 zI, .cells 2 [.d (.pair zI (.pair zP zP))], .cells 21 Kc4a], [], none⟩
@[reducible] def X13_2mh : List (Ex × Tmpl) := [(.exit 2, ⟨116, [(2, .ref 2 0 0 0), (7, .cref 21 0 13 (.pair .bool .unit)), (8, .int .i64 3)], [.lst 1 12 zI, .cells 2 [.d (.pair zI (.pair zP zP))], .cells 21 Kc4a], [], none⟩)]
noncomputable def step13_2mh : (List Int) × (List Int) × Int × (Int × (Int × Int) × Int × Int) × RwM13 → Option (((List Int) × (List Int) × Int × (Int × (Int × Int) × Int × Int) × RwM13) ⊕ ((List Int) × (Int × (Int × Int) × Int × Int) × RwM13)) := fun (targets, all0, k, d, rows) =>
 bif decide (k < (all0.length : Int)) then
  bif inBounds k all0.length then
   optE (s35 (d, rows.2.2.2.2.1, all0.getD k.toNat 0, false)) (fun r18 =>
    bif r18.2 then
     bif room 24 (rows.2.2.2.1.length + 1) then
      some (.inl (padV 12 zI targets, all0, wr (k + 1), d, (rows.1, rows.2.1, rows.2.2.1, rows.2.2.2.1 ++ [r18.1], rows.2.2.2.2.1, rows.2.2.2.2.2.1, rows.2.2.2.2.2.2.1, rows.2.2.2.2.2.2.2.1, rows.2.2.2.2.2.2.2.2.1, rows.2.2.2.2.2.2.2.2.2.1, rows.2.2.2.2.2.2.2.2.2.2.1, rows.2.2.2.2.2.2.2.2.2.2.2.1, rows.2.2.2.2.2.2.2.2.2.2.2.2)))
     else
      none
    else
     some (.inl (padV 12 zI targets, all0, wr (k + 1), d, rows)))
    (none)
  else
   none
 else
  some (.inr (padV 12 zI targets, d, rows))
theorem one13_2mh : oneLoop Try.prog 13 2 = true := by kernel_rfl
theorem lp13_2mh : ItemOk Try.prog (.loop 13 2 T13_2mh X13_2mh (loopVal step13_2mh)) := item_loopM md5 ext5 (U := 60) (n := 19) noSpecial mixed Gn4K8_ok one13_2mh (fun x => by kernel_rfl)
noncomputable def Gn4K9 : List Ev.Item := .loop 13 2 T13_2mh X13_2mh (loopVal step13_2mh) :: Gn4K8
theorem Gn4K9_ok : ∀ q ∈ Gn4K9, ItemOk Try.prog q := items_cons lp13_2mh Gn4K8_ok
@[reducible] def T13_2mi8 : Tmpl := ⟨116, [(2, .ref 2 0 0 0), (7, .cref 21 0 13 (.pair .bool .unit)), (8, .int .i64 2)], [.lst 1 12 zI, .val 9 (.slice zI), .val 10 zI, .cells 2 [.d (.pair zI (.pair zP zP))], .cells 21 Kc4a], [], none⟩
@[reducible] def X13_2mi8 : List (Ex × Tmpl) := [(.exit 2, ⟨116, [(2, .ref 2 0 0 0), (7, .cref 21 0 13 (.pair .bool .unit)), (8, .int .i64 2)], [.lst 1 12 zI, .cells 2 [.d (.pair zI (.pair zP zP))], .cells 21 Kc4a], [], none⟩)]
noncomputable def step13_2mi8 : (List Int) × (List Int) × Int × (Int × (Int × Int) × Int × Int) × RwM13 → Option (((List Int) × (List Int) × Int × (Int × (Int × Int) × Int × Int) × RwM13) ⊕ ((List Int) × (Int × (Int × Int) × Int × Int) × RwM13)) := fun (targets, all0, k, d, rows) =>
 bif decide (k < (all0.length : Int)) then
  bif inBounds k all0.length then
   optE (s35 (d, rows.2.2.2.1, all0.getD k.toNat 0, false)) (fun r20 =>
    bif r20.2 then
     bif room 24 (rows.2.2.1.length + 1) then
      some (.inl (padV 12 zI targets, all0, wr (k + 1), d, (rows.1, rows.2.1, rows.2.2.1 ++ [r20.1], rows.2.2.2.1, rows.2.2.2.2.1, rows.2.2.2.2.2.1, rows.2.2.2.2.2.2.1, rows.2.2.2.2.2.2.2.1, rows.2.2.2.2.2.2.2.2.1, rows.2.2.2.2.2.2.2.2.2.1, rows.2.2.2.2.2.2.2.2.2.2.1, rows.2.2.2.2.2.2.2.2.2.2.2.1, rows.2.2.2.2.2.2.2.2.2.2.2.2)))
     else
      none
    else
     some (.inl (padV 12 zI targets, all0, wr (k + 1), d, rows)))
    (none)
  else
   none
 else
  some (.inr (padV 12 zI targets, d, rows))
theorem one13_2mi8 : oneLoop Try.prog 13 2 = true := by kernel_rfl
theorem lp13_2mi8 : ItemOk Try.prog (.loop 13 2 T13_2mi8 X13_2mi8 (loopVal step13_2mi8)) := item_loopM md5 ext5 (U := 60) (n := 19) noSpecial mixed Gn4K9_ok one13_2mi8 (fun x => by kernel_rfl)
noncomputable def Gn4K10 : List Ev.Item := .loop 13 2 T13_2mi8 X13_2mi8 (loopVal step13_2mi8) :: Gn4K9
theorem Gn4K10_ok : ∀ q ∈ Gn4K10, ItemOk Try.prog q := items_cons lp13_2mi8 Gn4K9_ok
@[reducible] def T13_2mi9 : Tmpl := ⟨116, [(2, .ref 2 0 0 0), (7, .cref 21 0 13 (.pair .bool .unit)), (8, .int .i64 1)], [.lst 1 12 zI, .val 9 (.slice zI), .val 10 zI, .cells 2 [.d (.pair zI (.pair zP zP))], .cells 21 Kc4a], [], none⟩
@[reducible] def X13_2mi9 : List (Ex × Tmpl) := [(.exit 2, ⟨116, [(2, .ref 2 0 0 0), (7, .cref 21 0 13 (.pair .bool .unit)), (8, .int .i64 1)], [.lst 1 12 zI, .cells 2 [.d (.pair zI (.pair zP zP))], .cells 21 Kc4a], [], none⟩)]
noncomputable def step13_2mi9 : (List Int) × (List Int) × Int × (Int × (Int × Int) × Int × Int) × RwM13 → Option (((List Int) × (List Int) × Int × (Int × (Int × Int) × Int × Int) × RwM13) ⊕ ((List Int) × (Int × (Int × Int) × Int × Int) × RwM13)) := fun (targets, all0, k, d, rows) =>
 bif decide (k < (all0.length : Int)) then
  bif inBounds k all0.length then
   optE (s35 (d, rows.2.2.1, all0.getD k.toNat 0, false)) (fun r22 =>
    bif r22.2 then
     bif room 24 (rows.2.1.length + 1) then
      some (.inl (padV 12 zI targets, all0, wr (k + 1), d, (rows.1, rows.2.1 ++ [r22.1], rows.2.2.1, rows.2.2.2.1, rows.2.2.2.2.1, rows.2.2.2.2.2.1, rows.2.2.2.2.2.2.1, rows.2.2.2.2.2.2.2.1, rows.2.2.2.2.2.2.2.2.1, rows.2.2.2.2.2.2.2.2.2.1, rows.2.2.2.2.2.2.2.2.2.2.1, rows.2.2.2.2.2.2.2.2.2.2.2.1, rows.2.2.2.2.2.2.2.2.2.2.2.2)))
     else
      none
    else
     some (.inl (padV 12 zI targets, all0, wr (k + 1), d, rows)))
    (none)
  else
   none
 else
  some (.inr (padV 12 zI targets, d, rows))
theorem one13_2mi9 : oneLoop Try.prog 13 2 = true := by kernel_rfl
theorem lp13_2mi9 : ItemOk Try.prog (.loop 13 2 T13_2mi9 X13_2mi9 (loopVal step13_2mi9)) := item_loopM md5 ext5 (U := 60) (n := 19) noSpecial mixed Gn4K10_ok one13_2mi9 (fun x => by kernel_rfl)
noncomputable def Gn4K11 : List Ev.Item := .loop 13 2 T13_2mi9 X13_2mi9 (loopVal step13_2mi9) :: Gn4K10
theorem Gn4K11_ok : ∀ q ∈ Gn4K11, ItemOk Try.prog q := items_cons lp13_2mi9 Gn4K10_ok
@[reducible] def T13_2mi10 : Tmpl := ⟨116, [(2, .ref 2 0 0 0), (7, .cref 21 0 13 (.pair .bool .unit)), (8, .int .i64 0)], [.lst 1 12 zI, .val 9 (.slice zI), .val 10 zI, .cells 2 [.d (.pair zI (.pair zP zP))], .cells 21 Kc4a], [], none⟩
@[reducible] def X13_2mi10 : List (Ex × Tmpl) := [(.exit 2, ⟨116, [(2, .ref 2 0 0 0), (7, .cref 21 0 13 (.pair .bool .unit)), (8, .int .i64 0)], [.lst 1 12 zI, .cells 2 [.d (.pair zI (.pair zP zP))], .cells 21 Kc4a], [], none⟩)]
noncomputable def step13_2mi10 : (List Int) × (List Int) × Int × (Int × (Int × Int) × Int × Int) × RwM13 → Option (((List Int) × (List Int) × Int × (Int × (Int × Int) × Int × Int) × RwM13) ⊕ ((List Int) × (Int × (Int × Int) × Int × Int) × RwM13)) := fun (targets, all0, k, d, rows) =>
 bif decide (k < (all0.length : Int)) then
  bif inBounds k all0.length then
   optE (s35 (d, rows.2.1, all0.getD k.toNat 0, false)) (fun r24 =>
    bif r24.2 then
     bif room 24 (rows.1.length + 1) then
      some (.inl (padV 12 zI targets, all0, wr (k + 1), d, (rows.1 ++ [r24.1], rows.2.1, rows.2.2.1, rows.2.2.2.1, rows.2.2.2.2.1, rows.2.2.2.2.2.1, rows.2.2.2.2.2.2.1, rows.2.2.2.2.2.2.2.1, rows.2.2.2.2.2.2.2.2.1, rows.2.2.2.2.2.2.2.2.2.1, rows.2.2.2.2.2.2.2.2.2.2.1, rows.2.2.2.2.2.2.2.2.2.2.2.1, rows.2.2.2.2.2.2.2.2.2.2.2.2)))
     else
      none
    else
     some (.inl (padV 12 zI targets, all0, wr (k + 1), d, rows)))
    (none)
  else
   none
 else
  some (.inr (padV 12 zI targets, d, rows))
theorem one13_2mi10 : oneLoop Try.prog 13 2 = true := by kernel_rfl
theorem lp13_2mi10 : ItemOk Try.prog (.loop 13 2 T13_2mi10 X13_2mi10 (loopVal step13_2mi10)) := item_loopM md5 ext5 (U := 60) (n := 19) noSpecial mixed Gn4K11_ok one13_2mi10 (fun x => by kernel_rfl)
noncomputable def Gn4K12 : List Ev.Item := .loop 13 2 T13_2mi10 X13_2mi10 (loopVal step13_2mi10) :: Gn4K11
theorem Gn4K12_ok : ∀ q ∈ Gn4K12, ItemOk Try.prog q := items_cons lp13_2mi10 Gn4K11_ok
noncomputable def p13n12 : (Int × (Int × Int) × Int × Int) × Int × Int × Int × Int × Int × Int × Int × Int × Int × Int × Int × Int → Option ((List Int) × Int × Bool) := fun (d, t0, t1, t2, t3, t4, t5, t6, t7, t8, t9, t10, t11) =>
 optE (s34 (d, t11)) (fun r1 =>
 optE (loopVal step13_2m ([t0, t1, t2, t3, t4, t5, t6, t7, t8, t9, t10, t11], r1, 0, d, ([], [], [], [], [], [], [], [], [], [], [], [], []))) (fun e2 =>
 optE (s34 (e2.2.1, (padV 12 zI e2.1).getD 10 0)) (fun r3 =>
 optE (loopVal step13_2ma (padV 12 zI e2.1, r3, 0, e2.2.1, e2.2.2)) (fun e4 =>
 optE (s34 (e4.2.1, (padV 12 zI e4.1).getD 9 0)) (fun r5 =>
 optE (loopVal step13_2mb (padV 12 zI e4.1, r5, 0, e4.2.1, e4.2.2)) (fun e6 =>
 optE (s34 (e6.2.1, (padV 12 zI e6.1).getD 8 0)) (fun r7 =>
 optE (loopVal step13_2mc (padV 12 zI e6.1, r7, 0, e6.2.1, e6.2.2)) (fun e8 =>
 optE (s34 (e8.2.1, (padV 12 zI e8.1).getD 7 0)) (fun r9 =>
 optE (loopVal step13_2md (padV 12 zI e8.1, r9, 0, e8.2.1, e8.2.2)) (fun e10 =>
 optE (s34 (e10.2.1, (padV 12 zI e10.1).getD 6 0)) (fun r11 =>
 optE (loopVal step13_2me (padV 12 zI e10.1, r11, 0, e10.2.1, e10.2.2)) (fun e12 =>
 optE (s34 (e12.2.1, (padV 12 zI e12.1).getD 5 0)) (fun r13 =>
 optE (loopVal step13_2mf (padV 12 zI e12.1, r13, 0, e12.2.1, e12.2.2)) (fun e14 =>
 optE (s34 (e14.2.1, (padV 12 zI e14.1).getD 4 0)) (fun r15 =>
 optE (loopVal step13_2mg (padV 12 zI e14.1, r15, 0, e14.2.1, e14.2.2)) (fun e16 =>
 optE (s34 (e16.2.1, (padV 12 zI e16.1).getD 3 0)) (fun r17 =>
 optE (loopVal step13_2mh (padV 12 zI e16.1, r17, 0, e16.2.1, e16.2.2)) (fun e18 =>
 optE (s34 (e18.2.1, (padV 12 zI e18.1).getD 2 0)) (fun r19 =>
 optE (loopVal step13_2mi8 (padV 12 zI e18.1, r19, 0, e18.2.1, e18.2.2)) (fun e20 =>
 optE (s34 (e20.2.1, (padV 12 zI e20.1).getD 1 0)) (fun r21 =>
 optE (loopVal step13_2mi9 (padV 12 zI e20.1, r21, 0, e20.2.1, e20.2.2)) (fun e22 =>
 optE (s34 (e22.2.1, (padV 12 zI e22.1).getD 0 0)) (fun r23 =>
 optE (loopVal step13_2mi10 (padV 12 zI e22.1, r23, 0, e22.2.1, e22.2.2)) (fun e24 =>
 optE (s35 (e24.2.1, e24.2.2.1, e24.2.1.2.2.1, false)) (fun r25 =>
 bif !r25.2 then
 some (([], 0, false))
 else
 bif inBounds r25.1.2.2 e24.2.2.1.length then
 bif inBounds r25.1.2.2 e24.2.2.1.length then
 bif inBounds (e24.2.2.1.getD r25.1.2.2.toNat (0, 0, 0)).2.2 e24.2.2.2.1.length then
 bif inBounds (e24.2.2.1.getD r25.1.2.2.toNat (0, 0, 0)).2.2 e24.2.2.2.1.length then
 bif inBounds (e24.2.2.2.1.getD (e24.2.2.1.getD r25.1.2.2.toNat (0, 0, 0)).2.2.toNat (0, 0, 0)).2.2 e24.2.2.2.2.1.length then
 bif inBounds (e24.2.2.2.1.getD (e24.2.2.1.getD r25.1.2.2.toNat (0, 0, 0)).2.2.toNat (0, 0, 0)).2.2 e24.2.2.2.2.1.length then
 bif inBounds (e24.2.2.2.2.1.getD (e24.2.2.2.1.getD (e24.2.2.1.getD r25.1.2.2.toNat (0, 0, 0)).2.2.toNat (0, 0, 0)).2.2.toNat (0, 0, 0)).2.2 e24.2.2.2.2.2.1.length then
 bif inBounds (e24.2.2.2.2.1.getD (e24.2.2.2.1.getD (e24.2.2.1.getD r25.1.2.2.toNat (0, 0, 0)).2.2.toNat (0, 0, 0)).2.2.toNat (0, 0, 0)).2.2 e24.2.2.2.2.2.1.length then
 bif inBounds (e24.2.2.2.2.2.1.getD (e24.2.2.2.2.1.getD (e24.2.2.2.1.getD (e24.2.2.1.getD r25.1.2.2.toNat (0, 0, 0)).2.2.toNat (0, 0, 0)).2.2.toNat (0, 0, 0)).2.2.toNat (0, 0, 0)).2.2 e24.2.2.2.2.2.2.1.length then
 bif inBounds (e24.2.2.2.2.2.1.getD (e24.2.2.2.2.1.getD (e24.2.2.2.1.getD (e24.2.2.1.getD r25.1.2.2.toNat (0, 0, 0)).2.2.toNat (0, 0, 0)).2.2.toNat (0, 0, 0)).2.2.toNat (0, 0, 0)).2.2 e24.2.2.2.2.2.2.1.length then
 bif inBounds (e24.2.2.2.2.2.2.1.getD (e24.2.2.2.2.2.1.getD (e24.2.2.2.2.1.getD (e24.2.2.2.1.getD (e24.2.2.1.getD r25.1.2.2.toNat (0, 0, 0)).2.2.toNat (0, 0, 0)).2.2.toNat (0, 0, 0)).2.2.toNat (0, 0, 0)).2.2.toNat (0, 0, 0)).2.2 e24.2.2.2.2.2.2.2.1.length then
 bif inBounds (e24.2.2.2.2.2.2.1.getD (e24.2.2.2.2.2.1.getD (e24.2.2.2.2.1.getD (e24.2.2.2.1.getD (e24.2.2.1.getD r25.1.2.2.toNat (0, 0, 0)).2.2.toNat (0, 0, 0)).2.2.toNat (0, 0, 0)).2.2.toNat (0, 0, 0)).2.2.toNat (0, 0, 0)).2.2 e24.2.2.2.2.2.2.2.1.length then
 bif inBounds (e24.2.2.2.2.2.2.2.1.getD (e24.2.2.2.2.2.2.1.getD (e24.2.2.2.2.2.1.getD (e24.2.2.2.2.1.getD (e24.2.2.2.1.getD (e24.2.2.1.getD r25.1.2.2.toNat (0, 0, 0)).2.2.toNat (0, 0, 0)).2.2.toNat (0, 0, 0)).2.2.toNat (0, 0, 0)).2.2.toNat (0, 0, 0)).2.2.toNat (0, 0, 0)).2.2 e24.2.2.2.2.2.2.2.2.1.length then
 bif inBounds (e24.2.2.2.2.2.2.2.1.getD (e24.2.2.2.2.2.2.1.getD (e24.2.2.2.2.2.1.getD (e24.2.2.2.2.1.getD (e24.2.2.2.1.getD (e24.2.2.1.getD r25.1.2.2.toNat (0, 0, 0)).2.2.toNat (0, 0, 0)).2.2.toNat (0, 0, 0)).2.2.toNat (0, 0, 0)).2.2.toNat (0, 0, 0)).2.2.toNat (0, 0, 0)).2.2 e24.2.2.2.2.2.2.2.2.1.length then
 bif inBounds (e24.2.2.2.2.2.2.2.2.1.getD (e24.2.2.2.2.2.2.2.1.getD (e24.2.2.2.2.2.2.1.getD (e24.2.2.2.2.2.1.getD (e24.2.2.2.2.1.getD (e24.2.2.2.1.getD (e24.2.2.1.getD r25.1.2.2.toNat (0, 0, 0)).2.2.toNat (0, 0, 0)).2.2.toNat (0, 0, 0)).2.2.toNat (0, 0, 0)).2.2.toNat (0, 0, 0)).2.2.toNat (0, 0, 0)).2.2.toNat (0, 0, 0)).2.2 e24.2.2.2.2.2.2.2.2.2.1.length then
 bif inBounds (e24.2.2.2.2.2.2.2.2.1.getD (e24.2.2.2.2.2.2.2.1.getD (e24.2.2.2.2.2.2.1.getD (e24.2.2.2.2.2.1.getD (e24.2.2.2.2.1.getD (e24.2.2.2.1.getD (e24.2.2.1.getD r25.1.2.2.toNat (0, 0, 0)).2.2.toNat (0, 0, 0)).2.2.toNat (0, 0, 0)).2.2.toNat (0, 0, 0)).2.2.toNat (0, 0, 0)).2.2.toNat (0, 0, 0)).2.2.toNat (0, 0, 0)).2.2 e24.2.2.2.2.2.2.2.2.2.1.length then
 bif inBounds (e24.2.2.2.2.2.2.2.2.2.1.getD (e24.2.2.2.2.2.2.2.2.1.getD (e24.2.2.2.2.2.2.2.1.getD (e24.2.2.2.2.2.2.1.getD (e24.2.2.2.2.2.1.getD (e24.2.2.2.2.1.getD (e24.2.2.2.1.getD (e24.2.2.1.getD r25.1.2.2.toNat (0, 0, 0)).2.2.toNat (0, 0, 0)).2.2.toNat (0, 0, 0)).2.2.toNat (0, 0, 0)).2.2.toNat (0, 0, 0)).2.2.toNat (0, 0, 0)).2.2.toNat (0, 0, 0)).2.2.toNat (0, 0, 0)).2.2 e24.2.2.2.2.2.2.2.2.2.2.1.length then
 bif inBounds (e24.2.2.2.2.2.2.2.2.2.1.getD (e24.2.2.2.2.2.2.2.2.1.getD (e24.2.2.2.2.2.2.2.1.getD (e24.2.2.2.2.2.2.1.getD (e24.2.2.2.2.2.1.getD (e24.2.2.2.2.1.getD (e24.2.2.2.1.getD (e24.2.2.1.getD r25.1.2.2.toNat (0, 0, 0)).2.2.toNat (0, 0, 0)).2.2.toNat (0, 0, 0)).2.2.toNat (0, 0, 0)).2.2.toNat (0, 0, 0)).2.2.toNat (0, 0, 0)).2.2.toNat (0, 0, 0)).2.2.toNat (0, 0, 0)).2.2 e24.2.2.2.2.2.2.2.2.2.2.1.length then
 bif inBounds (e24.2.2.2.2.2.2.2.2.2.2.1.getD (e24.2.2.2.2.2.2.2.2.2.1.getD (e24.2.2.2.2.2.2.2.2.1.getD (e24.2.2.2.2.2.2.2.1.getD (e24.2.2.2.2.2.2.1.getD (e24.2.2.2.2.2.1.getD (e24.2.2.2.2.1.getD (e24.2.2.2.1.getD (e24.2.2.1.getD r25.1.2.2.toNat (0, 0, 0)).2.2.toNat (0, 0, 0)).2.2.toNat (0, 0, 0)).2.2.toNat (0, 0, 0)).2.2.toNat (0, 0, 0)).2.2.toNat (0, 0, 0)).2.2.toNat (0, 0, 0)).2.2.toNat (0, 0, 0)).2.2.toNat (0, 0, 0)).2.2 e24.2.2.2.2.2.2.2.2.2.2.2.1.length then
 bif inBounds (e24.2.2.2.2.2.2.2.2.2.2.1.getD (e24.2.2.2.2.2.2.2.2.2.1.getD (e24.2.2.2.2.2.2.2.2.1.getD (e24.2.2.2.2.2.2.2.1.getD (e24.2.2.2.2.2.2.1.getD (e24.2.2.2.2.2.1.getD (e24.2.2.2.2.1.getD (e24.2.2.2.1.getD (e24.2.2.1.getD r25.1.2.2.toNat (0, 0, 0)).2.2.toNat (0, 0, 0)).2.2.toNat (0, 0, 0)).2.2.toNat (0, 0, 0)).2.2.toNat (0, 0, 0)).2.2.toNat (0, 0, 0)).2.2.toNat (0, 0, 0)).2.2.toNat (0, 0, 0)).2.2.toNat (0, 0, 0)).2.2 e24.2.2.2.2.2.2.2.2.2.2.2.1.length then
 bif inBounds (e24.2.2.2.2.2.2.2.2.2.2.2.1.getD (e24.2.2.2.2.2.2.2.2.2.2.1.getD (e24.2.2.2.2.2.2.2.2.2.1.getD (e24.2.2.2.2.2.2.2.2.1.getD (e24.2.2.2.2.2.2.2.1.getD (e24.2.2.2.2.2.2.1.getD (e24.2.2.2.2.2.1.getD (e24.2.2.2.2.1.getD (e24.2.2.2.1.getD (e24.2.2.1.getD r25.1.2.2.toNat (0, 0, 0)).2.2.toNat (0, 0, 0)).2.2.toNat (0, 0, 0)).2.2.toNat (0, 0, 0)).2.2.toNat (0, 0, 0)).2.2.toNat (0, 0, 0)).2.2.toNat (0, 0, 0)).2.2.toNat (0, 0, 0)).2.2.toNat (0, 0, 0)).2.2.toNat (0, 0, 0)).2.2 e24.2.2.2.2.2.2.2.2.2.2.2.2.1.length then
 bif inBounds (e24.2.2.2.2.2.2.2.2.2.2.2.1.getD (e24.2.2.2.2.2.2.2.2.2.2.1.getD (e24.2.2.2.2.2.2.2.2.2.1.getD (e24.2.2.2.2.2.2.2.2.1.getD (e24.2.2.2.2.2.2.2.1.getD (e24.2.2.2.2.2.2.1.getD (e24.2.2.2.2.2.1.getD (e24.2.2.2.2.1.getD (e24.2.2.2.1.getD (e24.2.2.1.getD r25.1.2.2.toNat (0, 0, 0)).2.2.toNat (0, 0, 0)).2.2.toNat (0, 0, 0)).2.2.toNat (0, 0, 0)).2.2.toNat (0, 0, 0)).2.2.toNat (0, 0, 0)).2.2.toNat (0, 0, 0)).2.2.toNat (0, 0, 0)).2.2.toNat (0, 0, 0)).2.2.toNat (0, 0, 0)).2.2 e24.2.2.2.2.2.2.2.2.2.2.2.2.1.length then
 bif inBounds (e24.2.2.2.2.2.2.2.2.2.2.2.2.1.getD (e24.2.2.2.2.2.2.2.2.2.2.2.1.getD (e24.2.2.2.2.2.2.2.2.2.2.1.getD (e24.2.2.2.2.2.2.2.2.2.1.getD (e24.2.2.2.2.2.2.2.2.1.getD (e24.2.2.2.2.2.2.2.1.getD (e24.2.2.2.2.2.2.1.getD (e24.2.2.2.2.2.1.getD (e24.2.2.2.2.1.getD (e24.2.2.2.1.getD (e24.2.2.1.getD r25.1.2.2.toNat (0, 0, 0)).2.2.toNat (0, 0, 0)).2.2.toNat (0, 0, 0)).2.2.toNat (0, 0, 0)).2.2.toNat (0, 0, 0)).2.2.toNat (0, 0, 0)).2.2.toNat (0, 0, 0)).2.2.toNat (0, 0, 0)).2.2.toNat (0, 0, 0)).2.2.toNat (0, 0, 0)).2.2.toNat (0, 0, 0)).2.2 e24.2.2.2.2.2.2.2.2.2.2.2.2.2.1.length then
 bif inBounds (e24.2.2.2.2.2.2.2.2.2.2.2.2.1.getD (e24.2.2.2.2.2.2.2.2.2.2.2.1.getD (e24.2.2.2.2.2.2.2.2.2.2.1.getD (e24.2.2.2.2.2.2.2.2.2.1.getD (e24.2.2.2.2.2.2.2.2.1.getD (e24.2.2.2.2.2.2.2.1.getD (e24.2.2.2.2.2.2.1.getD (e24.2.2.2.2.2.1.getD (e24.2.2.2.2.1.getD (e24.2.2.2.1.getD (e24.2.2.1.getD r25.1.2.2.toNat (0, 0, 0)).2.2.toNat (0, 0, 0)).2.2.toNat (0, 0, 0)).2.2.toNat (0, 0, 0)).2.2.toNat (0, 0, 0)).2.2.toNat (0, 0, 0)).2.2.toNat (0, 0, 0)).2.2.toNat (0, 0, 0)).2.2.toNat (0, 0, 0)).2.2.toNat (0, 0, 0)).2.2.toNat (0, 0, 0)).2.2 e24.2.2.2.2.2.2.2.2.2.2.2.2.2.1.length then
 some (([(e24.2.2.1.getD r25.1.2.2.toNat (0, 0, 0)).1, (e24.2.2.2.1.getD (e24.2.2.1.getD r25.1.2.2.toNat (0, 0, 0)).2.2.toNat (0, 0, 0)).1, (e24.2.2.2.2.1.getD (e24.2.2.2.1.getD (e24.2.2.1.getD r25.1.2.2.toNat (0, 0, 0)).2.2.toNat (0, 0, 0)).2.2.toNat (0, 0, 0)).1, (e24.2.2.2.2.2.1.getD (e24.2.2.2.2.1.getD (e24.2.2.2.1.getD (e24.2.2.1.getD r25.1.2.2.toNat (0, 0, 0)).2.2.toNat (0, 0, 0)).2.2.toNat (0, 0, 0)).2.2.toNat (0, 0, 0)).1, (e24.2.2.2.2.2.2.1.getD (e24.2.2.2.2.2.1.getD (e24.2.2.2.2.1.getD (e24.2.2.2.1.getD (e24.2.2.1.getD r25.1.2.2.toNat (0, 0, 0)).2.2.toNat (0, 0, 0)).2.2.toNat (0, 0, 0)).2.2.toNat (0, 0, 0)).2.2.toNat (0, 0, 0)).1, (e24.2.2.2.2.2.2.2.1.getD (e24.2.2.2.2.2.2.1.getD (e24.2.2.2.2.2.1.getD (e24.2.2.2.2.1.getD (e24.2.2.2.1.getD (e24.2.2.1.getD r25.1.2.2.toNat (0, 0, 0)).2.2.toNat (0, 0, 0)).2.2.toNat (0, 0, 0)).2.2.toNat (0, 0, 0)).2.2.toNat (0, 0, 0)).2.2.toNat (0, 0, 0)).1, (e24.2.2.2.2.2.2.2.2.1.getD (e24.2.2.2.2.2.2.2.1.getD (e24.2.2.2.2.2.2.1.getD (e24.2.2.2.2.2.1.getD (e24.2.2.2.2.1.getD (e24.2.2.2.1.getD (e24.2.2.1.getD r25.1.2.2.toNat (0, 0, 0)).2.2.toNat (0, 0, 0)).2.2.toNat (0, 0, 0)).2.2.toNat (0, 0, 0)).2.2.toNat (0, 0, 0)).2.2.toNat (0, 0, 0)).2.2.toNat (0, 0, 0)).1, (e24.2.2.2.2.2.2.2.2.2.1.getD (e24.2.2.2.2.2.2.2.2.1.getD (e24.2.2.2.2.2.2.2.1.getD (e24.2.2.2.2.2.2.1.getD (e24.2.2.2.2.2.1.getD (e24.2.2.2.2.1.getD (e24.2.2.2.1.getD (e24.2.2.1.getD r25.1.2.2.toNat (0, 0, 0)).2.2.toNat (0, 0, 0)).2.2.toNat (0, 0, 0)).2.2.toNat (0, 0, 0)).2.2.toNat (0, 0, 0)).2.2.toNat (0, 0, 0)).2.2.toNat (0, 0, 0)).2.2.toNat (0, 0, 0)).1, (e24.2.2.2.2.2.2.2.2.2.2.1.getD (e24.2.2.2.2.2.2.2.2.2.1.getD (e24.2.2.2.2.2.2.2.2.1.getD (e24.2.2.2.2.2.2.2.1.getD (e24.2.2.2.2.2.2.1.getD (e24.2.2.2.2.2.1.getD (e24.2.2.2.2.1.getD (e24.2.2.2.1.getD (e24.2.2.1.getD r25.1.2.2.toNat (0, 0, 0)).2.2.toNat (0, 0, 0)).2.2.toNat (0, 0, 0)).2.2.toNat (0, 0, 0)).2.2.toNat (0, 0, 0)).2.2.toNat (0, 0, 0)).2.2.toNat (0, 0, 0)).2.2.toNat (0, 0, 0)).2.2.toNat (0, 0, 0)).1, (e24.2.2.2.2.2.2.2.2.2.2.2.1.getD (e24.2.2.2.2.2.2.2.2.2.2.1.getD (e24.2.2.2.2.2.2.2.2.2.1.getD (e24.2.2.2.2.2.2.2.2.1.getD (e24.2.2.2.2.2.2.2.1.getD (e24.2.2.2.2.2.2.1.getD (e24.2.2.2.2.2.1.getD (e24.2.2.2.2.1.getD (e24.2.2.2.1.getD (e24.2.2.1.getD r25.1.2.2.toNat (0, 0, 0)).2.2.toNat (0, 0, 0)).2.2.toNat (0, 0, 0)).2.2.toNat (0, 0, 0)).2.2.toNat (0, 0, 0)).2.2.toNat (0, 0, 0)).2.2.toNat (0, 0, 0)).2.2.toNat (0, 0, 0)).2.2.toNat (0, 0, 0)).2.2.toNat (0, 0, 0)).1, (e24.2.2.2.2.2.2.2.2.2.2.2.2.1.getD (e24.2.2.2.2.2.2.2.2.2.2.2.1.getD (e24.2.2.2.2.2.2.2.2.2.2.1.getD (e24.2.2.2.2.2.2.2.2.2.1.getD (e24.2.2.2.2.2.2.2.2.1.getD (e24.2.2.2.2.2.2.2.1.getD (e24.2.2.2.2.2.2.1.getD (e24.2.2.2.2.2.1.getD (e24.2.2.2.2.1.getD (e24.2.2.2.1.getD (e24.2.2.1.getD r25.1.2.2.toNat (0, 0, 0)).2.2.toNat (0, 0, 0)).2.2.toNat (0, 0, 0)).2.2.toNat (0, 0, 0)).2.2.toNat (0, 0, 0)).2.2.toNat (0, 0, 0)).2.2.toNat (0, 0, 0)).2.2.toNat (0, 0, 0)).2.2.toNat (0, 0, 0)).2.2.toNat (0, 0, 0)).2.2.toNat (0, 0, 0)).1, (e24.2.2.2.2.2.2.2.2.2.2.2.2.2.1.getD (e24.2.2.2.2.2.2.2.2.2.2.2.2.1.getD (e24.2.2.2.2.2.2.2.2.2.2.2.1.getD (e24.2.2.2.2.2.2.2.2.2.2.1.getD (e24.2.2.2.2.2.2.2.2.2.1.getD (e24.2.2.2.2.2.2.2.2.1.getD (e24.2.2.2.2.2.2.2.1.getD (e24.2.2.2.2.2.2.1.getD (e24.2.2.2.2.2.1.getD (e24.2.2.2.2.1.getD (e24.2.2.2.1.getD (e24.2.2.1.getD r25.1.2.2.toNat (0, 0, 0)).2.2.toNat (0, 0, 0)).2.2.toNat (0, 0, 0)).2.2.toNat (0, 0, 0)).2.2.toNat (0, 0, 0)).2.2.toNat (0, 0, 0)).2.2.toNat (0, 0, 0)).2.2.toNat (0, 0, 0)).2.2.toNat (0, 0, 0)).2.2.toNat (0, 0, 0)).2.2.toNat (0, 0, 0)).2.2.toNat (0, 0, 0)).1], r25.1.2.1, true))
 else
 none
 else
 none
 else
 none
 else
 none
 else
 none
 else
 none
 else
 none
 else
 none
 else
 none
 else
 none
 else
 none
 else
 none
 else
 none
 else
 none
 else
 none
 else
 none
 else
 none
 else
 none
 else
 none
 else
 none
 else
 none
 else
 none
 else
 none
 else
 none)
 (none))
 (none))
 (none))
 (none))
 (none))
 (none))
 (none))
 (none))
 (none))
 (none))
 (none))
 (none))
 (none))
 (none))
 (none))
 (none))
 (none))
 (none))
 (none))
 (none))
 (none))
 (none))
 (none))
 (none))
 (none)
def f13n12 : (Int × (Int × Int) × Int × Int) × Int × Int × Int × Int × Int × Int × Int × Int × Int × Int × Int × Int → (Int × (Int × Int) × Int × Int) × (List Int) := fun (d, t0, t1, t2, t3, t4, t5, t6, t7, t8, t9, t10, t11) => (d, [t0, t1, t2, t3, t4, t5, t6, t7, t8, t9, t10, t11])
theorem h13n12 : ∀ d, evalK Try.prog (Pars [.own 3 zI, .d zI, .d .bool]) (knowM md5 Gn4K12) 60 20 13 (cvs [.d (.agg (.pair zI (.pair zP zP))), .d (.slice zI)] (f13n12 d)) (canonK [.own 3 zI, .d zI, .d .bool]) = p13n12 d := fun d => by kernel_rfl
noncomputable def s13n12 : (Int × (Int × Int) × Int × Int) × (List Int) → Option ((List Int) × Int × Bool) := fun
 | (d, [t0, t1, t2, t3, t4, t5, t6, t7, t8, t9, t10, t11]) => p13n12 (d, t0, t1, t2, t3, t4, t5, t6, t7, t8, t9, t10, t11)
 | _ => none
theorem q13n12 : ∀ x y, s13n12 x = some y → ∃ d, x = f13n12 d ∧ p13n12 d = some y := by
 intro x y h
 unfold s13n12 at h
 split at h
 ·exact ⟨_, rfl, h⟩
 ·cases h
theorem i13n12 : ItemOk Try.prog (.fn 13 [.d (.agg (.pair zI (.pair zP zP))), .d (.slice zI)] [.own 3 zI, .d zI, .d .bool] s13n12) := @item_fnP Try.prog md5 ext5 Gn4K12 noSpecial mixed Gn4K12_ok 13 60 20 [.d (.agg (.pair zI (.pair zP zP))), .d (.slice zI)] [.own 3 zI, .d zI, .d .bool] ((Int × (Int × Int) × Int × Int) × Int × Int × Int × Int × Int × Int × Int × Int × Int × Int × Int × Int) f13n12 p13n12 s13n12 h13n12 q13n12
end Go.Proofs.Ythabingkfmlbbaa
