/- Printed by gen.py: specifications of functions. -/
import Derived.Test.YthabingkfmlbbaaGn1
set_option linter.unusedSimpArgs false
set_option maxRecDepth 100000
namespace Go.Proofs.Ythabingkfmlbbaa
open Go.Ev
abbrev RwM11 := RwM × RwM × RwM × RwM × RwM × RwM × RwM × RwM × RwM × RwM × RwM
abbrev RwM10 := RwM × RwM × RwM × RwM × RwM × RwM × RwM × RwM × RwM × RwM
abbrev RwM9 := RwM × RwM × RwM × RwM × RwM × RwM × RwM × RwM × RwM
@[reducible] def Kc2a : List LK := [.own 950 69 rE, .own 951 69 rE, .own 952 69 rE, .own 953 69 rE, .own 954 69 rE, .own 955 69 rE, .own 956 69 rE, .own 957 69 rE, .own 958 69 rE, .own 959 69 rE, .own 960 69 rE]
@[reducible] def Kc2b : List LK := [.own 950 69 rE, .own 951 69 rE, .own 952 69 rE, .own 953 69 rE, .own 954 69 rE, .own 955 69 rE, .own 956 69 rE, .own 957 69 rE, .own 958 69 rE, .own 69 69 rE, .own 960 69 rE]
@[reducible] def Kc2c : List LK := [.own 950 69 rE, .own 951 69 rE, .own 952 69 rE, .own 953 69 rE, .own 954 69 rE, .own 955 69 rE, .own 956 69 rE, .own 957 69 rE, .own 958 69 rE, .own 959 69 rE]
@[reducible] def Kc2d : List LK := [.own 950 69 rE, .own 951 69 rE, .own 952 69 rE, .own 953 69 rE, .own 954 69 rE, .own 955 69 rE, .own 956 69 rE, .own 957 69 rE, .own 69 69 rE, .own 959 69 rE]
@[reducible] def Kc2e : List LK := [.own 950 69 rE, .own 951 69 rE, .own 952 69 rE, .own 953 69 rE, .own 954 69 rE, .own 955 69 rE, .own 956 69 rE, .own 957 69 rE, .own 958 69 rE]
@[reducible] def Kc2f : List LK := [.own 950 69 rE, .own 951 69 rE, .own 952 69 rE, .own 953 69 rE, .own 954 69 rE, .own 955 69 rE, .own 956 69 rE, .own 69 69 rE, .own 958 69 rE]
@[reducible] def T13_2i : Tmpl := ⟨116, [(2, .ref 2 0 0 0), (7, .cref 21 0 9 (.pair .bool .unit)), (8, .int .i64 7)], [.lst 1 8 zI, .val 9 (.slice zI), .val 10 zI, .cells 2 [.d (.pair zI (.pair zP zP))], .cells 21 Kc2f], [], none⟩
@[reducible] def X13_2i : List (Ex × Tmpl) := [(.exit 2, ⟨116, [(2, .ref 2 0 0 0), (7, .cref 21 0 9 (.pair .bool .unit)), (8, .int .i64 7)], [.lst 1 8 zI, .cells 2 [.d (.pair zI (.pair zP zP))], .cells 21 Kc2f], [], none⟩)]
noncomputable def step13_2i : (List Int) × (List Int) × Int × (Int × (Int × Int) × Int × Int) × RwM9 → Option (((List Int) × (List Int) × Int × (Int × (Int × Int) × Int × Int) × RwM9) ⊕ ((List Int) × (Int × (Int × Int) × Int × Int) × RwM9)) := fun (targets, all0, k, d, rows) =>
 bif decide (k < (all0.length : Int)) then
  bif inBounds k all0.length then
   optE (s35 (d, rows.2.2.2.2.2.2.2.2, all0.getD k.toNat 0, true)) (fun r2 =>
    bif r2.2 then
     bif room 24 (rows.2.2.2.2.2.2.2.1.length + 1) then
      some (.inl (padV 8 zI targets, all0, wr (k + 1), d, (rows.1, rows.2.1, rows.2.2.1, rows.2.2.2.1, rows.2.2.2.2.1, rows.2.2.2.2.2.1, rows.2.2.2.2.2.2.1, rows.2.2.2.2.2.2.2.1 ++ [r2.1], rows.2.2.2.2.2.2.2.2)))
     else
      none
    else
     some (.inl (padV 8 zI targets, all0, wr (k + 1), d, rows)))
    (none)
  else
   none
 else
  some (.inr (padV 8 zI targets, d, rows))
theorem one13_2i : oneLoop Try.prog 13 2 = true := by kernel_rfl
theorem lp13_2i : ItemOk Try.prog (.loop 13 2 T13_2i X13_2i (loopVal step13_2i)) := item_loopM md5 ext5 (U := 60) (n := 19) noSpecial mixed RpK_ok one13_2i (fun x => by kernel_rfl)
noncomputable def Gn2K1 : List Ev.Item := .loop 13 2 T13_2i X13_2i (loopVal step13_2i) :: RpK
theorem Gn2K1_ok : ∀ q ∈ Gn2K1, ItemOk Try.prog q := items_cons lp13_2i RpK_ok
@[reducible] def T13_2ia : Tmpl := ⟨116, [(2, .ref 2 0 0 0), (7, .cref 21 0 9 (.pair .bool .unit)), (8, .int .i64 6)], [.lst 1 8 zI, .val 9 (.slice zI), .val 10 zI, .cells 2 [.d (.pair zI (.pair zP zP))], .cells 21 Kc2e], [], none⟩
@[reducible] def X13_2ia : List (Ex × Tmpl) := [(.exit 2, ⟨116, [(2, .ref 2 0 0 0), (7, .cref 21 0 9 (.pair .bool .unit)), (8, .int .i64 6)], [.lst 1 8 zI, .cells 2 [.d (.pair zI (.pair zP zP))], .cells 21 Kc2e], [], none⟩)]
noncomputable def step13_2ia : (List Int) × (List Int) × Int × (Int × (Int × Int) × Int × Int) × RwM9 → Option (((List Int) × (List Int) × Int × (Int × (Int × Int) × Int × Int) × RwM9) ⊕ ((List Int) × (Int × (Int × Int) × Int × Int) × RwM9)) := fun (targets, all0, k, d, rows) =>
 bif decide (k < (all0.length : Int)) then
  bif inBounds k all0.length then
   optE (s35 (d, rows.2.2.2.2.2.2.2.1, all0.getD k.toNat 0, false)) (fun r4 =>
    bif r4.2 then
     bif room 24 (rows.2.2.2.2.2.2.1.length + 1) then
      some (.inl (padV 8 zI targets, all0, wr (k + 1), d, (rows.1, rows.2.1, rows.2.2.1, rows.2.2.2.1, rows.2.2.2.2.1, rows.2.2.2.2.2.1, rows.2.2.2.2.2.2.1 ++ [r4.1], rows.2.2.2.2.2.2.2.1, rows.2.2.2.2.2.2.2.2)))
     else
      none
    else
     some (.inl (padV 8 zI targets, all0, wr (k + 1), d, rows)))
    (none)
  else
   none
 else
  some (.inr (padV 8 zI targets, d, rows))
theorem one13_2ia : oneLoop Try.prog 13 2 = true := by kernel_rfl
theorem lp13_2ia : ItemOk Try.prog (.loop 13 2 T13_2ia X13_2ia (loopVal step13_2ia)) := item_loopM md5 ext5 (U := 60) (n := 19) noSpecial mixed Gn2K1_ok one13_2ia (fun x => by kernel_rfl)
noncomputable def Gn2K2 : List Ev.Item := .loop 13 2 T13_2ia X13_2ia (loopVal step13_2ia) :: Gn2K1
theorem Gn2K2_ok : ∀ q ∈ Gn2K2, ItemOk Try.prog q := items_cons lp13_2ia Gn2K1_ok
@[reducible] def T13_2ib : Tmpl := ⟨116, [(2, .ref 2 0 0 0), (7, .cref 21 0 9 (.pair .bool .unit)), (8, .int .i64 5)], [.lst 1 8 zI, .val 9 (.slice zI), .val 10 zI, .cells 2 [.d (.pair zI (.pair zP zP))], .cells 21 Kc2e], [], none⟩
@[reducible] def X13_2ib : List (Ex × Tmpl) := [(.exit 2, ⟨116, [(2, .ref 2 0 0 0), (7, .cref 21 0 9 (.pair .bool .unit)), (8, .int .i64 5)], [.lst 1 8 zI, .cells 2 [.d (.pair zI (.pair zP zP))], .cells 21 Kc2e], [], none⟩)]
noncomputable def step13_2ib : (List Int) × (List Int) × Int × (Int × (Int × Int) × Int × Int) × RwM9 → Option (((List Int) × (List Int) × Int × (Int × (Int × Int) × Int × Int) × RwM9) ⊕ ((List Int) × (Int × (Int × Int) × Int × Int) × RwM9)) := fun (targets, all0, k, d, rows) =>
 bif decide (k < (all0.length : Int)) then
  bif inBounds k all0.length then
   optE (s35 (d, rows.2.2.2.2.2.2.1, all0.getD k.toNat 0, false)) (fun r6 =>
    bif r6.2 then
     bif room 24 (rows.2.2.2.2.2.1.length + 1) then
      some (.inl (padV 8 zI targets, all0, wr (k + 1), d, (rows.1, rows.2.1, rows.2.2.1, rows.2.2.2.1, rows.2.2.2.2.1, rows.2.2.2.2.2.1 ++ [r6.1], rows.2.2.2.2.2.2.1, rows.2.2.2.2.2.2.2.1, rows.2.2.2.2.2.2.2.2)))
     else
      none
    else
     some (.inl (padV 8 zI targets, all0, wr (k + 1), d, rows)))
    (none)
  else
   none
 else
  some (.inr (padV 8 zI targets, d, rows))
theorem one13_2ib : oneLoop Try.prog 13 2 = true := by kernel_rfl
theorem lp13_2ib : ItemOk Try.prog (.loop 13 2 T13_2ib X13_2ib (loopVal step13_2ib)) := item_loopM md5 ext5 (U := 60) (n := 19) noSpecial mixed Gn2K2_ok one13_2ib (fun x => by kernel_rfl)
noncomputable def Gn2K3 : List Ev.Item := .loop 13 2 T13_2ib X13_2ib (loopVal step13_2ib) :: Gn2K2
theorem Gn2K3_ok : ∀ q ∈ Gn2K3, ItemOk Try.prog q := items_cons lp13_2ib Gn2K2_ok
@[reducible] def T13_2ic : Tmpl := ⟨116, [(2, .ref 2 0 0 0), (7, .cref 21 0 9 (.pair .bool .unit)), (8, .int .i64 4)], [.lst 1 8 zI, .val 9 (.slice zI), .val 10 zI, .cells 2 [.d (.pair zI (.pair zP zP))], .cells 21 Kc2e], [], none⟩
@[reducible] def X13_2ic : List (Ex × Tmpl) := [(.exit 2, ⟨116, [(2, .ref 2 0 0 0), (7, .cref 21 0 9 (.pair .bool .unit)), (8, .int .i64 4)], [.lst 1 8 zI, .cells 2 [.d (.pair zI (.pair zP zP))], .cells 21 Kc2e], [], none⟩)]
noncomputable def step13_2ic : (List Int) × (List Int) × Int × (Int × (Int × Int) × Int × Int) × RwM9 → Option (((List Int) × (List Int) × Int × (Int × (Int × Int) × Int × Int) × RwM9) ⊕ ((List Int) × (Int × (Int × Int) × Int × Int) × RwM9)) := fun (targets, all0, k, d, rows) =>
 bif decide (k < (all0.length : Int)) then
  bif inBounds k all0.length then
   optE (s35 (d, rows.2.2.2.2.2.1, all0.getD k.toNat 0, false)) (fun r8 =>
    bif r8.2 then
     bif room 24 (rows.2.2.2.2.1.length + 1) then
      some (.inl (padV 8 zI targets, all0, wr (k + 1), d, (rows.1, rows.2.1, rows.2.2.1, rows.2.2.2.1, rows.2.2.2.2.1 ++ [r8.1], rows.2.2.2.2.2.1, rows.2.2.2.2.2.2.1, rows.2.2.2.2.2.2.2.1, rows.2.2.2.2.2.2.2.2)))
     else
      none
    else
     some (.inl (padV 8 zI targets, all0, wr (k + 1), d, rows)))
    (none)
  else
   none
 else
  some (.inr (padV 8 zI targets, d, rows))
theorem one13_2ic : oneLoop Try.prog 13 2 = true := by kernel_rfl
theorem lp13_2ic : ItemOk Try.prog (.loop 13 2 T13_2ic X13_2ic (loopVal step13_2ic)) := item_loopM md5 ext5 (U := 60) (n := 19) noSpecial mixed Gn2K3_ok one13_2ic (fun x => by kernel_rfl)
noncomputable def Gn2K4 : List Ev.Item := .loop 13 2 T13_2ic X13_2ic (loopVal step13_2ic) :: Gn2K3
theorem Gn2K4_ok : ∀ q ∈ Gn2K4, ItemOk Try.prog q := items_cons lp13_2ic Gn2K3_ok
@[reducible] def T13_2id : Tmpl := ⟨116, [(2, .ref 2 0 0 0), (7, .cref 21 0 9 (.pair .bool .unit)), (8, .int .i64 3)], [.lst 1 8 zI, .val 9 (.slice zI), .val 10 zI, .cells 2 [.d (.pair zI (.pair zP zP))], .cells 21 Kc2e], [], none⟩
@[reducible] def X13_2id : List (Ex × Tmpl) := [(.exit 2, ⟨116, [(2, .ref 2 0 0 0), (7, .cref 21 0 9 (.pair .bool .unit)), (8, .int .i64 3)], [.lst 1 8 zI, .cells 2 [.d (.pair zI (.pair zP zP))], .cells 21 Kc2e], [], none⟩)]
noncomputable def step13_2id : (List Int) × (List Int) × Int × (Int × (Int × Int) × Int × Int) × RwM9 → Option (((List Int) × (List Int) × Int × (Int × (Int × Int) × Int × Int) × RwM9) ⊕ ((List Int) × (Int × (Int × Int) × Int × Int) × RwM9)) := fun (targets, all0, k, d, rows) =>
 bif decide (k < (all0.length : Int)) then
  bif inBounds k all0.length then
   optE (s35 (d, rows.2.2.2.2.1, all0.getD k.toNat 0, false)) (fun r10 =>
    bif r10.2 then
     bif room 24 (rows.2.2.2.1.length + 1) then
      some (.inl (padV 8 zI targets, all0, wr (k + 1), d, (rows.1, rows.2.1, rows.2.2.1, rows.2.2.2.1 ++ [r10.1], rows.2.2.2.2.1, rows.2.2.2.2.2.1, rows.2.2.2.2.2.2.1, rows.2.2.2.2.2.2.2.1, rows.2.2.2.2.2.2.2.2)))
     else
      none
    else
     some (.inl (padV 8 zI targets, all0, wr (k + 1), d, rows)))
    (none)
  else
   none
 else
  some (.inr (padV 8 zI targets, d, rows))
theorem one13_2id : oneLoop Try.prog 13 2 = true := by kernel_rfl
theorem lp13_2id : ItemOk Try.prog (.loop 13 2 T13_2id X13_2id (loopVal step13_2id)) := item_loopM md5 ext5 (U := 60) (n := 19) noSpecial mixed Gn2K4_ok one13_2id (fun x => by kernel_rfl)
noncomputable def Gn2K5 : List Ev.Item := .loop 13 2 T13_2id X13_2id (loopVal step13_2id) :: Gn2K4
theorem Gn2K5_ok : ∀ q ∈ Gn2K5, ItemOk Try.prog q := items_cons lp13_2id Gn2K4_ok
@[reducible] def T13_2ie : Tmpl := ⟨116, [(2, .ref 2 0 0 0), (7, .cref 21 0 9 (.pair .bool .unit)), (8, .int .i64 2)], [.lst 1 8 zI, .val 9 (.slice zI), .val 10 zI, .cells 2 [.d (.pair zI (.pair zP zP))], .cells 21 Kc2e], [], none⟩
@[reducible] def X13_2ie : List (Ex × Tmpl) := [(.exit 2, ⟨116, [(2, .ref 2 0 0 0), (7, .cref 21 0 9 (.pair .bool .unit)), (8, .int .i64 2)], [.lst 1 8 zI, .cells 2 [.d (.pair zI (.pair zP zP))], .cells 21 Kc2e], [], none⟩)]
noncomputable def step13_2ie : (List Int) × (List Int) × Int × (Int × (Int × Int) × Int × Int) × RwM9 → Option (((List Int) × (List Int) × Int × (Int × (Int × Int) × Int × Int) × RwM9) ⊕ ((List Int) × (Int × (Int × Int) × Int × Int) × RwM9)) := fun (targets, all0, k, d, rows) =>
 bif decide (k < (all0.length : Int)) then
  bif inBounds k all0.length then
   optE (s35 (d, rows.2.2.2.1, all0.getD k.toNat 0, false)) (fun r12 =>
    bif r12.2 then
     bif room 24 (rows.2.2.1.length + 1) then
      some (.inl (padV 8 zI targets, all0, wr (k + 1), d, (rows.1, rows.2.1, rows.2.2.1 ++ [r12.1], rows.2.2.2.1, rows.2.2.2.2.1, rows.2.2.2.2.2.1, rows.2.2.2.2.2.2.1, rows.2.2.2.2.2.2.2.1, rows.2.2.2.2.2.2.2.2)))
     else
      none
    else
     some (.inl (padV 8 zI targets, all0, wr (k + 1), d, rows)))
    (none)
  else
   none
 else
  some (.inr (padV 8 zI targets, d, rows))
theorem one13_2ie : oneLoop Try.prog 13 2 = true := by kernel_rfl
theorem lp13_2ie : ItemOk Try.prog (.loop 13 2 T13_2ie X13_2ie (loopVal step13_2ie)) := item_loopM md5 ext5 (U := 60) (n := 19) noSpecial mixed Gn2K5_ok one13_2ie (fun x => by kernel_rfl)
noncomputable def Gn2K6 : List Ev.Item := .loop 13 2 T13_2ie X13_2ie (loopVal step13_2ie) :: Gn2K5
theorem Gn2K6_ok : ∀ q ∈ Gn2K6, ItemOk Try.prog q := items_cons lp13_2ie Gn2K5_ok
@[reducible] def T13_2if : Tmpl := ⟨116, [(2, .ref 2 0 0 0), (7, .cref 21 0 9 (.pair .bool .unit)), (8, .int .i64 1)], [.lst 1 8 zI, .val 9 (.slice zI), .val 10 zI, .cells 2 [.d (.pair zI (.pair zP zP))], .cells 21 Kc2e], [], none⟩
@[reducible] def X13_2if : List (Ex × Tmpl) := [(.exit 2, ⟨116, [(2, .ref 2 0 0 0), (7, .cref 21 0 9 (.pair .bool .unit)), (8, .int .i64 1)], [.lst 1 8 zI, .cells 2 [.d (.pair zI (.pair zP zP))], .cells 21 Kc2e], [], none⟩)]
noncomputable def step13_2if : (List Int) × (List Int) × Int × (Int × (Int × Int) × Int × Int) × RwM9 → Option (((List Int) × (List Int) × Int × (Int × (Int × Int) × Int × Int) × RwM9) ⊕ ((List Int) × (Int × (Int × Int) × Int × Int) × RwM9)) := fun (targets, all0, k, d, rows) =>
 bif decide (k < (all0.length : Int)) then
  bif inBounds k all0.length then
   optE (s35 (d, rows.2.2.1, all0.getD k.toNat 0, false)) (fun r14 =>
    bif r14.2 then
     bif room 24 (rows.2.1.length + 1) then
      some (.inl (padV 8 zI targets, all0, wr (k + 1), d, (rows.1, rows.2.1 ++ [r14.1], rows.2.2.1, rows.2.2.2.1, rows.2.2.2.2.1, rows.2.2.2.2.2.1, rows.2.2.2.2.2.2.1, rows.2.2.2.2.2.2.2.1, rows.2.2.2.2.2.2.2.2)))
     else
      none
    else
     some (.inl (padV 8 zI targets, all0, wr (k + 1), d, rows)))
    (none)
  else
   none
 else
  some (.inr (padV 8 zI targets, d, rows))
theorem one13_2if : oneLoop Try.prog 13 2 = true := by kernel_rfl
theorem lp13_2if : ItemOk Try.prog (.loop 13 2 T13_2if X13_2if (loopVal step13_2if)) := item_loopM md5 ext5 (U := 60) (n := 19) noSpecial mixed Gn2K6_ok one13_2if (fun x => by kernel_rfl)
noncomputable def Gn2K7 : List Ev.Item := .loop 13 2 T13_2if X13_2if (loopVal step13_2if) :: Gn2K6
theorem Gn2K7_ok : ∀ q ∈ Gn2K7, ItemOk Try.prog q := items_cons lp13_2if Gn2K6_ok
@[reducible] def T13_2ig : Tmpl := ⟨116, [(2, .ref 2 0 0 0), (7, .cref 21 0 9 (.pair .bool .unit)), (8, .int .i64 0)], [.lst 1 8 zI, .val 9 (.slice zI), .val 10 zI, .cells 2 [.d (.pair zI (.pair zP zP))], .cells 21 Kc2e], [], none⟩
@[reducible] def X13_2ig : List (Ex × Tmpl) := [(.exit 2, ⟨116, [(2, .ref 2 0 0 0), (7, .cref 21 0 9 (.pair .bool .unit)), (8, .int .i64 0)], [.lst 1 8 zI, .cells 2 [.d (.pair zI (.pair zP zP))], .cells 21 Kc2e], [], none⟩)]
noncomputable def step13_2ig : (List Int) × (List Int) × Int × (Int × (Int × Int) × Int × Int) × RwM9 → Option (((List Int) × (List Int) × Int × (Int × (Int × Int) × Int × Int) × RwM9) ⊕ ((List Int) × (Int × (Int × Int) × Int × Int) × RwM9)) := fun (targets, all0, k, d, rows) =>
 bif decide (k < (all0.length : Int)) then
  bif inBounds k all0.length then
   optE (s35 (d, rows.2.1, all0.getD k.toNat 0, false)) (fun r16 =>
    bif r16.2 then
     bif room 24 (rows.1.length + 1) then
      some (.inl (padV 8 zI targets, all0, wr (k + 1), d, (rows.1 ++ [r16.1], rows.2.1, rows.2.2.1, rows.2.2.2.1, rows.2.2.2.2.1, rows.2.2.2.2.2.1, rows.2.2.2.2.2.2.1, rows.2.2.2.2.2.2.2.1, rows.2.2.2.2.2.2.2.2)))
     else
      none
    else
     some (.inl (padV 8 zI targets, all0, wr (k + 1), d, rows)))
    (none)
  else
   none
 else
  some (.inr (padV 8 zI targets, d, rows))
theorem one13_2ig : oneLoop Try.prog 13 2 = true := by kernel_rfl
theorem lp13_2ig : ItemOk Try.prog (.loop 13 2 T13_2ig X13_2ig (loopVal step13_2ig)) := item_loopM md5 ext5 (U := 60) (n := 19) noSpecial mixed Gn2K7_ok one13_2ig (fun x => by kernel_rfl)
noncomputable def Gn2K8 : List Ev.Item := .loop 13 2 T13_2ig X13_2ig (loopVal step13_2ig) :: Gn2K7
theorem Gn2K8_ok : ∀ q ∈ Gn2K8, ItemOk Try.prog q := items_cons lp13_2ig Gn2K7_ok
noncomputable def p13n8 : (Int × (Int × Int) × Int × Int) × Int × Int × Int × Int × Int × Int × Int × Int → Option ((List Int) × Int × Bool) := fun (d, t0, t1, t2, t3, t4, t5, t6, t7) =>
 optE (s34 (d, t7)) (fun r1 =>
 optE (loopVal step13_2i ([t0, t1, t2, t3, t4, t5, t6, t7], r1, 0, d, ([], [], [], [], [], [], [], [], []))) (fun e2 =>
 optE (s34 (e2.2.1, (padV 8 zI e2.1).getD 6 0)) (fun r3 =>
 optE (loopVal step13_2ia (padV 8 zI e2.1, r3, 0, e2.2.1, e2.2.2)) (fun e4 =>
 optE (s34 (e4.2.1, (padV 8 zI e4.1).getD 5 0)) (fun r5 =>
 optE (loopVal step13_2ib (padV 8 zI e4.1, r5, 0, e4.2.1, e4.2.2)) (fun e6 =>
 optE (s34 (e6.2.1, (padV 8 zI e6.1).getD 4 0)) (fun r7 =>
 optE (loopVal step13_2ic (padV 8 zI e6.1, r7, 0, e6.2.1, e6.2.2)) (fun e8 =>
 optE (s34 (e8.2.1, (padV 8 zI e8.1).getD 3 0)) (fun r9 =>
 optE (loopVal step13_2id (padV 8 zI e8.1, r9, 0, e8.2.1, e8.2.2)) (fun e10 =>
 optE (s34 (e10.2.1, (padV 8 zI e10.1).getD 2 0)) (fun r11 =>
 optE (loopVal step13_2ie (padV 8 zI e10.1, r11, 0, e10.2.1, e10.2.2)) (fun e12 =>
 optE (s34 (e12.2.1, (padV 8 zI e12.1).getD 1 0)) (fun r13 =>
 optE (loopVal step13_2if (padV 8 zI e12.1, r13, 0, e12.2.1, e12.2.2)) (fun e14 =>
 optE (s34 (e14.2.1, (padV 8 zI e14.1).getD 0 0)) (fun r15 =>
 optE (loopVal step13_2ig (padV 8 zI e14.1, r15, 0, e14.2.1, e14.2.2)) (fun e16 =>
 optE (s35 (e16.2.1, e16.2.2.1, e16.2.1.2.2.1, false)) (fun r17 =>
 bif !r17.2 then
 some (([], 0, false))
 else
 bif inBounds r17.1.2.2 e16.2.2.1.length then
 bif inBounds r17.1.2.2 e16.2.2.1.length then
 bif inBounds (e16.2.2.1.getD r17.1.2.2.toNat (0, 0, 0)).2.2 e16.2.2.2.1.length then
 bif inBounds (e16.2.2.1.getD r17.1.2.2.toNat (0, 0, 0)).2.2 e16.2.2.2.1.length then
 bif inBounds (e16.2.2.2.1.getD (e16.2.2.1.getD r17.1.2.2.toNat (0, 0, 0)).2.2.toNat (0, 0, 0)).2.2 e16.2.2.2.2.1.length then
 bif inBounds (e16.2.2.2.1.getD (e16.2.2.1.getD r17.1.2.2.toNat (0, 0, 0)).2.2.toNat (0, 0, 0)).2.2 e16.2.2.2.2.1.length then
 bif inBounds (e16.2.2.2.2.1.getD (e16.2.2.2.1.getD (e16.2.2.1.getD r17.1.2.2.toNat (0, 0, 0)).2.2.toNat (0, 0, 0)).2.2.toNat (0, 0, 0)).2.2 e16.2.2.2.2.2.1.length then
 bif inBounds (e16.2.2.2.2.1.getD (e16.2.2.2.1.getD (e16.2.2.1.getD r17.1.2.2.toNat (0, 0, 0)).2.2.toNat (0, 0, 0)).2.2.toNat (0, 0, 0)).2.2 e16.2.2.2.2.2.1.length then
 bif inBounds (e16.2.2.2.2.2.1.getD (e16.2.2.2.2.1.getD (e16.2.2.2.1.getD (e16.2.2.1.getD r17.1.2.2.toNat (0, 0, 0)).2.2.toNat (0, 0, 0)).2.2.toNat (0, 0, 0)).2.2.toNat (0, 0, 0)).2.2 e16.2.2.2.2.2.2.1.length then
 bif inBounds (e16.2.2.2.2.2.1.getD (e16.2.2.2.2.1.getD (e16.2.2.2.1.getD (e16.2.2.1.getD r17.1.2.2.toNat (0, 0, 0)).2.2.toNat (0, 0, 0)).2.2.toNat (0, 0, 0)).2.2.toNat (0, 0, 0)).2.2 e16.2.2.2.2.2.2.1.length then
 bif inBounds (e16.2.2.2.2.2.2.1.getD (e16.2.2.2.2.2.1.getD (e16.2.2.2.2.1.getD (e16.2.2.2.1.getD (e16.2.2.1.getD r17.1.2.2.toNat (0, 0, 0)).2.2.toNat (0, 0, 0)).2.2.toNat (0, 0, 0)).2.2.toNat (0, 0, 0)).2.2.toNat (0, 0, 0)).2.2 e16.2.2.2.2.2.2.2.1.length then
 bif inBounds (e16.2.2.2.2.2.2.1.getD (e16.2.2.2.2.2.1.getD (e16.2.2.2.2.1.getD (e16.2.2.2.1.getD (e16.2.2.1.getD r17.1.2.2.toNat (0, 0, 0)).2.2.toNat (0, 0, 0)).2.2.toNat (0, 0, 0)).2.2.toNat (0, 0, 0)).2.2.toNat (0, 0, 0)).2.2 e16.2.2.2.2.2.2.2.1.length then
 bif inBounds (e16.2.2.2.2.2.2.2.1.getD (e16.2.2.2.2.2.2.1.getD (e16.2.2.2.2.2.1.getD (e16.2.2.2.2.1.getD (e16.2.2.2.1.getD (e16.2.2.1.getD r17.1.2.2.toNat (0, 0, 0)).2.2.toNat (0, 0, 0)).2.2.toNat (0, 0, 0)).2.2.toNat (0, 0, 0)).2.2.toNat (0, 0, 0)).2.2.toNat (0, 0, 0)).2.2 e16.2.2.2.2.2.2.2.2.1.length then
 bif inBounds (e16.2.2.2.2.2.2.2.1.getD (e16.2.2.2.2.2.2.1.getD (e16.2.2.2.2.2.1.getD (e16.2.2.2.2.1.getD (e16.2.2.2.1.getD (e16.2.2.1.getD r17.1.2.2.toNat (0, 0, 0)).2.2.toNat (0, 0, 0)).2.2.toNat (0, 0, 0)).2.2.toNat (0, 0, 0)).2.2.toNat (0, 0, 0)).2.2.toNat (0, 0, 0)).2.2 e16.2.2.2.2.2.2.2.2.1.length then
 bif inBounds (e16.2.2.2.2.2.2.2.2.1.getD (e16.2.2.2.2.2.2.2.1.getD (e16.2.2.2.2.2.2.1.getD (e16.2.2.2.2.2.1.getD (e16.2.2.2.2.1.getD (e16.2.2.2.1.getD (e16.2.2.1.getD r17.1.2.2.toNat (0, 0, 0)).2.2.toNat (0, 0, 0)).2.2.toNat (0, 0, 0)).2.2.toNat (0, 0, 0)).2.2.toNat (0, 0, 0)).2.2.toNat (0, 0, 0)).2.2.toNat (0, 0, 0)).2.2 e16.2.2.2.2.2.2.2.2.2.1.length then
 bif inBounds (e16.2.2.2.2.2.2.2.2.1.getD (e16.2.2.2.2.2.2.2.1.getD (e16.2.2.2.2.2.2.1.getD (e16.2.2.2.2.2.1.getD (e16.2.2.2.2.1.getD (e16.2.2.2.1.getD (e16.2.2.1.getD r17.1.2.2.toNat (0, 0, 0)).2.2.toNat (0, 0, 0)).2.2.toNat (0, 0, 0)).2.2.toNat (0, 0, 0)).2.2.toNat (0, 0, 0)).2.2.toNat (0, 0, 0)).2.2.toNat (0, 0, 0)).2.2 e16.2.2.2.2.2.2.2.2.2.1.length then
 some (([(e16.2.2.1.getD r17.1.2.2.toNat (0, 0, 0)).1, (e16.2.2.2.1.getD (e16.2.2.1.getD r17.1.2.2.toNat (0, 0, 0)).2.2.toNat (0, 0, 0)).1, (e16.2.2.2.2.1.getD (e16.2.2.2.1.getD (e16.2.2.1.getD r17.1.2.2.toNat (0, 0, 0)).2.2.toNat (0, 0, 0)).2.2.toNat (0, 0, 0)).1, (e16.2.2.2.2.2.1.getD (e16.2.2.2.2.1.getD (e16.2.2.2.1.getD (e16.2.2.1.getD r17.1.2.2.toNat (0, 0, 0)).2.2.toNat (0, 0, 0)).2.2.toNat (0, 0, 0)).2.2.toNat (0, 0, 0)).1, (e16.2.2.2.2.2.2.1.getD (e16.2.2.2.2.2.1.getD (e16.2.2.2.2.1.getD (e16.2.2.2.1.getD (e16.2.2.1.getD r17.1.2.2.toNat (0, 0, 0)).2.2.toNat (0, 0, 0)).2.2.toNat (0, 0, 0)).2.2.toNat (0, 0, 0)).2.2.toNat (0, 0, 0)).1, (e16.2.2.2.2.2.2.2.1.getD (e16.2.2.2.2.2.2.1.getD (e16.2.2.2.2.2.1.getD (e16.2.2.2.2.1.getD (e16.2.2.2.1.getD (e16.2.2.1.getD r17.1.2.2.toNat (0, 0, 0)).2.2.toNat (0, 0, 0)).2.2.toNat (0, 0, 0)).2.2.toNat (0, 0, 0)).2.2.toNat (0, 0, 0)).2.2.toNat (0, 0, 0)).1, (e16.2.2.2.2.2.2.2.2.1.getD (e16.2.2.2.2.2.2.2.1.getD (e16.2.2.2.2.2.2.1.getD (e16.2.2.2.2.2.1.getD (e16.2.2.2.2.1.getD (e16.2.2.2.1.getD (e16.2.2.1.getD r17.1.2.2.toNat (0, 0, 0)).2.2.toNat (0, 0, 0)).2.2.toNat (0, 0, 0)).2.2.toNat (0, 0, 0)).2.2.toNat (0, 0, 0)).2.2.toNat (0, 0, 0)).2.2.toNat (0, 0, 0)).1, (e16.2.2.2.2.2.2.2.2.2.1.getD (e16.2.2.2.2.2.2.2.2.1.getD (e16.2.2.2.2.2.2.2.1.getD (e16.2.2.2.2.2.2.1.getD (e16.2.2.2.2.2.1.getD (e16.2.2.2.2.1.getD (e16.2.2.2.1.getD (e16.2.2.1.getD r17.1.2.2.toNat (0, 0, 0)).2.2.toNat (0, 0, 0)).2.2.toNat (0, 0, 0)).2.2.toNat (0, 0, 0)).2.2.toNat (0, 0, 0)).2.2.toNat (0, 0, 0)).2.2.toNat (0, 0, 0)).2.2.toNat (0, 0, 0)).1], r17.1.2.1, true))
 else
 none
 else
 none
 else
 none
 else
 none
 else
 none
 else
 none
 else
 none
 else
 none
 else
 none
 else
 none
 else
 none
 else
 none
 else
 none
 else
 none
 else
 none
 else
 none)
 (none))
 (none))
 (none))
 (none))
 (none))
 (none))
 (none))
 (none))
 (none))
 (none))
 (none))
 (none))
 (none))
 (none))
 (none))
 (none))
 (none)
def f13n8 : (Int × (Int × Int) × Int × Int) × Int × Int × Int × Int × Int × Int × Int × Int → (Int × (Int × Int) × Int × Int) × (List Int) := fun (d, t0, t1, t2, t3, t4, t5, t6, t7) => (d, [t0, t1, t2, t3, t4, t5, t6, t7])
theorem h13n8 : ∀ d, evalK Try.prog (Pars [.own 3 zI, .d zI, .d .bool]) (knowM md5 Gn2K8) 60 20 13 (cvs [.d (.agg (.pair zI (.pair zP zP))), .d (.slice zI)] (f13n8 d)) (canonK [.own 3 zI, .d zI, .d .bool]) = p13n8 d := fun d => by kernel_rfl
noncomputable def s13n8 : (Int × (Int × Int) × Int × Int) × (List Int) → Option ((List Int) × Int × Bool) := fun
 | (d, [t0, t1, t2, t3, t4, t5, t6, t7]) => p13n8 (d, t0, t1, t2, t3, t4, t5, t6, t7)
 | _ => none
theorem q13n8 : ∀ x y, s13n8 x = some y → ∃ d, x = f13n8 d ∧ p13n8 d = some y := by
 intro x y h
 unfold s13n8 at h
 split at h
 ·exact ⟨_, rfl, h⟩
 ·cases h
theorem i13n8 : ItemOk Try.prog (.fn 13 [.d (.agg (.pair zI (.pair zP zP))), .d (.slice zI)] [.own 3 zI, .d zI, .d .bool] s13n8) := @item_fnP Try.prog md5 ext5 Gn2K8 noSpecial mixed Gn2K8_ok 13 60 20 [.d (.agg (.pair zI (.pair zP zP))), .d (.slice zI)] [.own 3 zI, .d zI, .d .bool] ((Int × (Int × Int) × Int × Int) × Int × Int × Int × Int × Int × Int × Int × Int) f13n8 p13n8 s13n8 h13n8 q13n8
@[reducible] def T13_2j : Tmpl := ⟨116, [(2, .ref 2 0 0 0), (7, .cref 21 0 10 (.pair .bool .unit)), (8, .int .i64 8)], [.lst 1 9 zI, .val 9 (.slice zI), .val 10 zI, .cells 2 [.d (.pair zI (.pair zP zP))], .cells 21 Kc2d], [], none⟩
@[reducible] def X13_2j : List (Ex × Tmpl) := [(.exit 2, ⟨116, [(2, .ref 2 0 0 0), (7, .cref 21 0 10 (.pair .bool .unit)), (8, .int .i64 8)], [.lst 1 9 zI, .cells 2 [.d (.pair zI (.pair zP zP))], .cells 21 Kc2d], [], none⟩)]
noncomputable def step13_2j : (List Int) × (List Int) × Int × (Int × (Int × Int) × Int × Int) × RwM10 → Option (((List Int) × (List Int) × Int × (Int × (Int × Int) × Int × Int) × RwM10) ⊕ ((List Int) × (Int × (Int × Int) × Int × Int) × RwM10)) := fun (targets, all0, k, d, rows) =>
 bif decide (k < (all0.length : Int)) then
  bif inBounds k all0.length then
   optE (s35 (d, rows.2.2.2.2.2.2.2.2.2, all0.getD k.toNat 0, true)) (fun r2 =>
    bif r2.2 then
     bif room 24 (rows.2.2.2.2.2.2.2.2.1.length + 1) then
      some (.inl (padV 9 zI targets, all0, wr (k + 1), d, (rows.1, rows.2.1, rows.2.2.1, rows.2.2.2.1, rows.2.2.2.2.1, rows.2.2.2.2.2.1, rows.2.2.2.2.2.2.1, rows.2.2.2.2.2.2.2.1, rows.2.2.2.2.2.2.2.2.1 ++ [r2.1], rows.2.2.2.2.2.2.2.2.2)))
     else
      none
    else
     some (.inl (padV 9 zI targets, all0, wr (k + 1), d, rows)))
    (none)
  else
   none
 else
  some (.inr (padV 9 zI targets, d, rows))
theorem one13_2j : oneLoop Try.prog 13 2 = true := by kernel_rfl
theorem lp13_2j : ItemOk Try.prog (.loop 13 2 T13_2j X13_2j (loopVal step13_2j)) := item_loopM md5 ext5 (U := 60) (n := 19) noSpecial mixed RpK_ok one13_2j (fun x => by kernel_rfl)
noncomputable def Gn2K9 : List Ev.Item := .loop 13 2 T13_2j X13_2j (loopVal step13_2j) :: RpK
theorem Gn2K9_ok : ∀ q ∈ Gn2K9, ItemOk Try.prog q := items_cons lp13_2j RpK_ok
@[reducible] def T13_2ja : Tmpl := ⟨116, [(2, .ref 2 0 0 0), (7, .cref 21 0 10 (.pair .bool .unit)), (8, .int .i64 7)], [.lst 1 9 zI, .val 9 (.slice zI), .val 10 zI, .cells 2 [.d (.pair zI (.pair zP zP))], .cells 21 Kc2c], [], none⟩
@[reducible] def X13_2ja : List (Ex × Tmpl) := [(.exit 2, ⟨116, [(2, .ref 2 0 0 0), (7, .cref 21 0 10 (.pair .bool .unit)), (8, .int .i64 7)], [.lst 1 9 zI, .cells 2 [.d (.pair zI (.pair zP zP))], .cells 21 Kc2c], [], none⟩)]
noncomputable def step13_2ja : (List Int) × (List Int) × Int × (Int × (Int × Int) × Int × Int) × RwM10 → Option (((List Int) × (List Int) × Int × (Int × (Int × Int) × Int × Int) × RwM10) ⊕ ((List Int) × (Int × (Int × Int) × Int × Int) × RwM10)) := fun (targets, all0, k, d, rows) =>
 bif decide (k < (all0.length : Int)) then
  bif inBounds k all0.length then
   optE (s35 (d, rows.2.2.2.2.2.2.2.2.1, all0.getD k.toNat 0, false)) (fun r4 =>
    bif r4.2 then
     bif room 24 (rows.2.2.2.2.2.2.2.1.length + 1) then
      some (.inl (padV 9 zI targets, all0, wr (k + 1), d, (rows.1, rows.2.1, rows.2.2.1, rows.2.2.2.1, rows.2.2.2.2.1, rows.2.2.2.2.2.1, rows.2.2.2.2.2.2.1, rows.2.2.2.2.2.2.2.1 ++ [r4.1], rows.2.2.2.2.2.2.2.2.1, rows.2.2.2.2.2.2.2.2.2)))
     else
      none
    else
     some (.inl (padV 9 zI targets, all0, wr (k + 1), d, rows)))
    (none)
  else
   none
 else
  some (.inr (padV 9 zI targets, d, rows))
theorem one13_2ja : oneLoop Try.prog 13 2 = true := by kernel_rfl
theorem lp13_2ja : ItemOk Try.prog (.loop 13 2 T13_2ja X13_2ja (loopVal step13_2ja)) := item_loopM md5 ext5 (U := 60) (n := 19) noSpecial mixed Gn2K9_ok one13_2ja (fun x => by kernel_rfl)
noncomputable def Gn2K10 : List Ev.Item := .loop 13 2 T13_2ja X13_2ja (loopVal step13_2ja) :: Gn2K9
theorem Gn2K10_ok : ∀ q ∈ Gn2K10, ItemOk Try.prog q := items_cons lp13_2ja Gn2K9_ok
@[reducible] def T13_2jb : Tmpl := ⟨116, [(2, .ref 2 0 0 0), (7, .cref 21 0 10 (.pair .bool .unit)), (8, .int .i64 6)], [.lst 1 9 zI, .val 9 (.slice zI), .val 10 zI, .cells 2 [.d (.pair zI (.pair zP zP))], .cells 21 Kc2c], [], none⟩
@[reducible] def X13_2jb : List (Ex × Tmpl) := [(.exit 2, ⟨116, [(2, .ref 2 0 0 0), (7, .cref 21 0 10 (.pair .bool .unit)), (8, .int .i64 6)], [.lst 1 9 zI, .cells 2 [.d (.pair zI (.pair zP zP))], .cells 21 Kc2c], [], none⟩)]
noncomputable def step13_2jb : (List Int) × (List Int) × Int × (Int × (Int × Int) × Int × Int) × RwM10 → Option (((List Int) × (List Int) × Int × (Int × (Int × Int) × Int × Int) × RwM10) ⊕ ((List Int) × (Int × (Int × Int) × Int × Int) × RwM10)) := fun (targets, all0, k, d, rows) =>
 bif decide (k < (all0.length : Int)) then
  bif inBounds k all0.length then
   optE (s35 (d, rows.2.2.2.2.2.2.2.1, all0.getD k.toNat 0, false)) (fun r6 =>
    bif r6.2 then
     bif room 24 (rows.2.2.2.2.2.2.1.length + 1) then
      some (.inl (padV 9 zI targets, all0, wr (k + 1), d, (rows.1, rows.2.1, rows.2.2.1, rows.2.2.2.1, rows.2.2.2.2.1, rows.2.2.2.2.2.1, rows.2.2.2.2.2.2.1 ++ [r6.1], rows.2.2.2.2.2.2.2.1, rows.2.2.2.2.2.2.2.2.1, rows.2.2.2.2.2.2.2.2.2)))
     else
      none
    else
     some (.inl (padV 9 zI targets, all0, wr (k + 1), d, rows)))
    (none)
  else
   none
 else
  some (.inr (padV 9 zI targets, d, rows))
theorem one13_2jb : oneLoop Try.prog 13 2 = true := by kernel_rfl
theorem lp13_2jb : ItemOk Try.prog (.loop 13 2 T13_2jb X13_2jb (loopVal step13_2jb)) := item_loopM md5 ext5 (U := 60) (n := 19) noSpecial mixed Gn2K10_ok one13_2jb (fun x => by kernel_rfl)
noncomputable def Gn2K11 : List Ev.Item := .loop 13 2 T13_2jb X13_2jb (loopVal step13_2jb) :: Gn2K10
theorem Gn2K11_ok : ∀ q ∈ Gn2K11, ItemOk Try.prog q := items_cons lp13_2jb Gn2K10_ok
@[reducible] def T13_2jc : Tmpl := ⟨116, [(2, .ref 2 0 0 0), (7, .cref 21 0 10 (.pair .bool .unit)), (8, .int .i64 5)], [.lst 1 9 zI, .val 9 (.slice zI), .val 10 zI, .cells 2 [.d (.pair zI (.pair zP zP))], .cells 21 Kc2c], [], none⟩
@[reducible] def X13_2jc : List (Ex × Tmpl) := [(.exit 2, ⟨116, [(2, .ref 2 0 0 0), (7, .cref 21 0 10 (.pair .bool .unit)), (8, .int .i64 5)], [.lst 1 9 zI, .cells 2 [.d (.pair zI (.pair zP zP))], .cells 21 Kc2c], [], none⟩)]
noncomputable def step13_2jc : (List Int) × (List Int) × Int × (Int × (Int × Int) × Int × Int) × RwM10 → Option (((List Int) × (List Int) × Int × (Int × (Int × Int) × Int × Int) × RwM10) ⊕ ((List Int) × (Int × (Int × Int) × Int × Int) × RwM10)) := fun (targets, all0, k, d, rows) =>
 bif decide (k < (all0.length : Int)) then
  bif inBounds k all0.length then
   optE (s35 (d, rows.2.2.2.2.2.2.1, all0.getD k.toNat 0, false)) (fun r8 =>
    bif r8.2 then
     bif room 24 (rows.2.2.2.2.2.1.length + 1) then
      some (.inl (padV 9 zI targets, all0, wr (k + 1), d, (rows.1, rows.2.1, rows.2.2.1, rows.2.2.2.1, rows.2.2.2.2.1, rows.2.2.2.2.2.1 ++ [r8.1], rows.2.2.2.2.2.2.1, rows.2.2.2.2.2.2.2.1, rows.2.2.2.2.2.2.2.2.1, rows.2.2.2.2.2.2.2.2.2)))
     else
      none
    else
     some (.inl (padV 9 zI targets, all0, wr (k + 1), d, rows)))
    (none)
  else
   none
 else
  some (.inr (padV 9 zI targets, d, rows))
theorem one13_2jc : oneLoop Try.prog 13 2 = true := by kernel_rfl
theorem lp13_2jc : ItemOk Try.prog (.loop 13 2 T13_2jc X13_2jc (loopVal step13_2jc)) := item_loopM md5 ext5 (U := 60) (n := 19) noSpecial mixed Gn2K11_ok one13_2jc (fun x => by kernel_rfl)
noncomputable def Gn2K12 : List Ev.Item := .loop 13 2 T13_2jc X13_2jc (loopVal step13_2jc) :: Gn2K11
theorem Gn2K12_ok : ∀ q ∈ Gn2K12, ItemOk Try.prog q := items_cons lp13_2jc Gn2K11_ok
@[reducible] def T13_2jd : Tmpl := ⟨116, [(2, .ref 2 0 0 0), (7, .cref 21 0 10 (.pair .bool .unit)), (8, .int .i64 4)], [.lst 1 9 zI, .val 9 (.slice zI), .val 10 zI, .cells 2 [.d (.pair zI (.pair zP zP))], .cells 21 Kc2c], [], none⟩
@[reducible] def X13_2jd : List (Ex × Tmpl) := [(.exit 2, ⟨116, [(2, .ref 2 0 0 0), (7, .cref 21 0 10 (.pair .bool .unit)), (8, .int .i64 4)], [.lst 1 9 zI, .cells 2 [.d (.pair zI (.pair zP zP))], .cells 21 Kc2c], [], none⟩)]
noncomputable def step13_2jd : (List Int) × (List Int) × Int × (Int × (Int × Int) × Int × Int) × RwM10 → Option (((List Int) × (List Int) × Int × (Int × (Int × Int) × Int × Int) × RwM10) ⊕ ((List Int) × (Int × (Int × Int) × Int × Int) × RwM10)) := fun (targets, all0, k, d, rows) =>
 bif decide (k < (all0.length : Int)) then
  bif inBounds k all0.length then
   optE (s35 (d, rows.2.2.2.2.2.1, all0.getD k.toNat 0, false)) (fun r10 =>
    bif r10.2 then
     bif room 24 (rows.2.2.2.2.1.length + 1) then
      some (.inl (padV 9 zI targets, all0, wr (k + 1), d, (rows.1, rows.2.1, rows.2.2.1, rows.2.2.2.1, rows.2.2.2.2.1 ++ [r10.1], rows.2.2.2.2.2.1, rows.2.2.2.2.2.2.1, rows.2.2.2.2.2.2.2.1, rows.2.2.2.2.2.2.2.2.1, rows.2.2.2.2.2.2.2.2.2)))
     else
      none
    else
     some (.inl (padV 9 zI targets, all0, wr (k + 1), d, rows)))
    (none)
  else
   none
 else
  some (.inr (padV 9 zI targets, d, rows))
theorem one13_2jd : oneLoop Try.prog 13 2 = true := by kernel_rfl
theorem lp13_2jd : ItemOk Try.prog (.loop 13 2 T13_2jd X13_2jd (loopVal step13_2jd)) := item_loopM md5 ext5 (U := 60) (n := 19) noSpecial mixed Gn2K12_ok one13_2jd (fun x => by kernel_rfl)
noncomputable def Gn2K13 : List Ev.Item := .loop 13 2 T13_2jd X13_2jd (loopVal step13_2jd) :: Gn2K12
theorem Gn2K13_ok : ∀ q ∈ Gn2K13, ItemOk Try.prog q := items_cons lp13_2jd Gn2K12_ok
@[reducible] def T13_2je : Tmpl := ⟨116, [(2, .ref 2 0 0 0), (7, .cref 21 0 10 (.pair .bool .unit)), (8, .int .i64 3)], [.lst 1 9 zI, .val 9 (.slice zI), .val 10 zI, .cells 2 [.d (.pair zI (.pair zP zP))], .cells 21 Kc2c], [], none⟩
@[reducible] def X13_2je : List (Ex × Tmpl) := [(.exit 2, ⟨116, [(2, .ref 2 0 0 0), (7, .cref 21 0 10 (.pair .bool .unit)), (8, .int .i64 3)], [.lst 1 9 zI, .cells 2 [.d (.pair zI (.pair zP zP))], .cells 21 Kc2c], [], none⟩)]
noncomputable def step13_2je : (List Int) × (List Int) × Int × (Int × (Int × Int) × Int × Int) × RwM10 → Option (((List Int) × (List Int) × Int × (Int × (Int × Int) × Int × Int) × RwM10) ⊕ ((List Int) × (Int × (Int × Int) × Int × Int) × RwM10)) := fun (targets, all0, k, d, rows) =>
 bif decide (k < (all0.length : Int)) then
  bif inBounds k all0.length then
   optE (s35 (d, rows.2.2.2.2.1, all0.getD k.toNat 0, false)) (fun r12 =>
    bif r12.2 then
     bif room 24 (rows.2.2.2.1.length + 1) then
      some (.inl (padV 9 zI targets, all0, wr (k + 1), d, (rows.1, rows.2.1, rows.2.2.1, rows.2.2.2.1 ++ [r12.1], rows.2.2.2.2.1, rows.2.2.2.2.2.1, rows.2.2.2.2.2.2.1, rows.2.2.2.2.2.2.2.1, rows.2.2.2.2.2.2.2.2.1, rows.2.2.2.2.2.2.2.2.2)))
     else
      none
    else
     some (.inl (padV 9 zI targets, all0, wr (k + 1), d, rows)))
    (none)
  else
   none
 else
  some (.inr (padV 9 zI targets, d, rows))
theorem one13_2je : oneLoop Try.prog 13 2 = true := by kernel_rfl
theorem lp13_2je : ItemOk Try.prog (.loop 13 2 T13_2je X13_2je (loopVal step13_2je)) := item_loopM md5 ext5 (U := 60) (n := 19) noSpecial mixed Gn2K13_ok one13_2je (fun x => by kernel_rfl)
noncomputable def Gn2K14 : List Ev.Item := .loop 13 2 T13_2je X13_2je (loopVal step13_2je) :: Gn2K13
theorem Gn2K14_ok : ∀ q ∈ Gn2K14, ItemOk Try.prog q := items_cons lp13_2je Gn2K13_ok
@[reducible] def T13_2jf : Tmpl := ⟨116, [(2, .ref 2 0 0 0), (7, .cref 21 0 10 (.pair .bool .unit)), (8, .int .i64 2)], [.lst 1 9 zI, .val 9 (.slice zI), .val 10 zI, .cells 2 [.d (.pair zI (.pair zP zP))], .cells 21 Kc2c], [], none⟩
@[reducible] def X13_2jf : List (Ex × Tmpl) := [(.exit 2, ⟨116, [(2, .ref 2 0 0 0), (7, .cref 21 0 10 (.pair .bool .unit)), (8, .int .i64 2)], [.lst 1 9 zI, .cells 2 [.d (.pair zI (.pair zP zP))], .cells 21 Kc2c], [], none⟩)]
noncomputable def step13_2jf : (List Int) × (List Int) × Int × (Int × (Int × Int) × Int × Int) × RwM10 → Option (((List Int) × (List Int) × Int × (Int × (Int × Int) × Int × Int) × RwM10) ⊕ ((List Int) × (Int × (Int × Int) × Int × Int) × RwM10)) := fun (targets, all0, k, d, rows) =>
 bif decide (k < (all0.length : Int)) then
  bif inBounds k all0.length then
   optE (s35 (d, rows.2.2.2.1, all0.getD k.toNat 0, false)) (fun r14 =>
    bif r14.2 then
     bif room 24 (rows.2.2.1.length + 1) then
      some (.inl (padV 9 zI targets, all0, wr (k + 1), d, (rows.1, rows.2.1, rows.2.2.1 ++ [r14.1], rows.2.2.2.1, rows.2.2.2.2.1, rows.2.2.2.2.2.1, rows.2.2.2.2.2.2.1, rows.2.2.2.2.2.2.2.1, rows.2.2.2.2.2.2.2.2.1, rows.2.2.2.2.2.2.2.2.2)))
     else
      none
    else
     some (.inl (padV 9 zI targets, all0, wr (k + 1), d, rows)))
    (none)
  else
   none
 else
  some (.inr (padV 9 zI targets, d, rows))
theorem one13_2jf : oneLoop Try.prog 13 2 = true := by kernel_rfl
theorem lp13_2jf : ItemOk Try.prog (.loop 13 2 T13_2jf X13_2jf (loopVal step13_2jf)) := item_loopM md5 ext5 (U := 60) (n := 19) noSpecial mixed Gn2K14_ok one13_2jf (fun x => by kernel_rfl)
noncomputable def Gn2K15 : List Ev.Item := .loop 13 2 T13_2jf X13_2jf (loopVal step13_2jf) :: Gn2K14
theorem Gn2K15_ok : ∀ q ∈ Gn2K15, ItemOk Try.prog q := items_cons lp13_2jf Gn2K14_ok
@[reducible] def T13_2jg : Tmpl := ⟨116, [(2, .ref 2 0 0 0), (7, .cref 21 0 10 (.pair .bool .unit)), (8, .int .i64 1)], [.lst 1 9 zI, .val 9 (.slice zI), .val 10 zI, .cells 2 [.d (.pair zI (.pair zP zP))], .cells 21 Kc2c], [], none⟩
@[reducible] def X13_2jg : List (Ex × Tmpl) := [(.exit 2, ⟨116, [(2, .ref 2 0 0 0), (7, .cref 21 0 10 (.pair .bool .unit)), (8, .int .i64 1)], [.lst 1 9 zI, .cells 2 [.d (.pair zI (.pair zP zP))], .cells 21 Kc2c], [], none⟩)]
noncomputable def step13_2jg : (List Int) × (List Int) × Int × (Int × (Int × Int) × Int × Int) × RwM10 → Option (((List Int) × (List Int) × Int × (Int × (Int × Int) × Int × Int) × RwM10) ⊕ ((List Int) × (Int × (Int × Int) × Int × Int) × RwM10)) := fun (targets, all0, k, d, rows) =>
 bif decide (k < (all0.length : Int)) then
  bif inBounds k all0.length then
   optE (s35 (d, rows.2.2.1, all0.getD k.toNat 0, false)) (fun r16 =>
    bif r16.2 then
     bif room 24 (rows.2.1.length + 1) then
      some (.inl (padV 9 zI targets, all0, wr (k + 1), d, (rows.1, rows.2.1 ++ [r16.1], rows.2.2.1, rows.2.2.2.1, rows.2.2.2.2.1, rows.2.2.2.2.2.1, rows.2.2.2.2.2.2.1, rows.2.2.2.2.2.2.2.1, rows.2.2.2.2.2.2.2.2.1, rows.2.2.2.2.2.2.2.2.2)))
     else
      none
    else
     some (.inl (padV 9 zI targets, all0, wr (k + 1), d, rows)))
    (none)
  else
   none
 else
  some (.inr (padV 9 zI targets, d, rows))
theorem one13_2jg : oneLoop Try.prog 13 2 = true := by kernel_rfl
theorem lp13_2jg : ItemOk Try.prog (.loop 13 2 T13_2jg X13_2jg (loopVal step13_2jg)) := item_loopM md5 ext5 (U := 60) (n := 19) noSpecial mixed Gn2K15_ok one13_2jg (fun x => by kernel_rfl)
noncomputable def Gn2K16 : List Ev.Item := .loop 13 2 T13_2jg X13_2jg (loopVal step13_2jg) :: Gn2K15
theorem Gn2K16_ok : ∀ q ∈ Gn2K16, ItemOk Try.prog q := items_cons lp13_2jg Gn2K15_ok
@[reducible] def T13_2jh : Tmpl := ⟨116, [(2, .ref 2 0 0 0), (7, .cref 21 0 10 (.pair .bool .unit)), (8, .int .i64 0)], [.lst 1 9 zI, .val 9 (.slice zI), .val 10 zI, .cells 2 [.d (.pair zI (.pair zP zP))], .cells 21 Kc2c], [], none⟩
@[reducible] def X13_2jh : List (Ex × Tmpl) := [(.exit 2, ⟨116, [(2, .ref 2 0 0 0), (7, .cref 21 0 10 (.pair .bool .unit)), (8, .int .i64 0)], [.lst 1 9 zI, .cells 2 [.d (.pair zI (.pair zP zP))], .cells 21 Kc2c], [], none⟩)]
noncomputable def step13_2jh : (List Int) × (List Int) × Int × (Int × (Int × Int) × Int × Int) × RwM10 → Option (((List Int) × (List Int) × Int × (Int × (Int × Int) × Int × Int) × RwM10) ⊕ ((List Int) × (Int × (Int × Int) × Int × Int) × RwM10)) := fun (targets, all0, k, d, rows) =>
 bif decide (k < (all0.length : Int)) then
  bif inBounds k all0.length then
   optE (s35 (d, rows.2.1, all0.getD k.toNat 0, false)) (fun r18 =>
    bif r18.2 then
     bif room 24 (rows.1.length + 1) then
      some (.inl (padV 9 zI targets, all0, wr (k + 1), d, (rows.1 ++ [r18.1], rows.2.1, rows.2.2.1, rows.2.2.2.1, rows.2.2.2.2.1, rows.2.2.2.2.2.1, rows.2.2.2.2.2.2.1, rows.2.2.2.2.2.2.2.1, rows.2.2.2.2.2.2.2.2.1, rows.2.2.2.2.2.2.2.2.2)))
     else
      none
    else
     some (.inl (padV 9 zI targets, all0, wr (k + 1), d, rows)))
    (none)
  else
   none
 else
  some (.inr (padV 9 zI targets, d, rows))
theorem one13_2jh : oneLoop Try.prog 13 2 = true := by kernel_rfl
theorem lp13_2jh : ItemOk Try.prog (.loop 13 2 T13_2jh X13_2jh (loopVal step13_2jh)) := item_loopM md5 ext5 (U := 60) (n := 19) noSpecial mixed Gn2K16_ok one13_2jh (fun x => by kernel_rfl)
noncomputable def Gn2K17 : List Ev.Item := .loop 13 2 T13_2jh X13_2jh (loopVal step13_2jh) :: Gn2K16
theorem Gn2K17_ok : ∀ q ∈ Gn2K17, ItemOk Try.prog q := items_cons lp13_2jh Gn2K16_ok
noncomputable def p13n9 : (Int × (Int × Int) × Int × Int) × Int × Int × Int × Int × Int × Int × Int × Int × Int → Option ((List Int) × Int × Bool) := fun (d, t0, t1, t2, t3, t4, t5, t6, t7, t8) =>
 optE (s34 (d, t8)) (fun r1 =>
 optE (loopVal step13_2j ([t0, t1, t2, t3, t4, t5, t6, t7, t8], r1, 0, d, ([], [], [], [], [], [], [], [], [], []))) (fun e2 =>
 optE (s34 (e2.2.1, (padV 9 zI e2.1).getD 7 0)) (fun r3 =>
 optE (loopVal step13_2ja (padV 9 zI e2.1, r3, 0, e2.2.1, e2.2.2)) (fun e4 =>
 optE (s34 (e4.2.1, (padV 9 zI e4.1).getD 6 0)) (fun r5 =>
 optE (loopVal step13_2jb (padV 9 zI e4.1, r5, 0, e4.2.1, e4.2.2)) (fun e6 =>
 optE (s34 (e6.2.1, (padV 9 zI e6.1).getD 5 0)) (fun r7 =>
 optE (loopVal step13_2jc (padV 9 zI e6.1, r7, 0, e6.2.1, e6.2.2)) (fun e8 =>
 optE (s34 (e8.2.1, (padV 9 zI e8.1).getD 4 0)) (fun r9 =>
 optE (loopVal step13_2jd (padV 9 zI e8.1, r9, 0, e8.2.1, e8.2.2)) (fun e10 =>
 optE (s34 (e10.2.1, (padV 9 zI e10.1).getD 3 0)) (fun r11 =>
 optE (loopVal step13_2je (padV 9 zI e10.1, r11, 0, e10.2.1, e10.2.2)) (fun e12 =>
 optE (s34 (e12.2.1, (padV 9 zI e12.1).getD 2 0)) (fun r13 =>
 optE (loopVal step13_2jf (padV 9 zI e12.1, r13, 0, e12.2.1, e12.2.2)) (fun e14 =>
 optE (s34 (e14.2.1, (padV 9 zI e14.1).getD 1 0)) (fun r15 =>
 optE (loopVal step13_2jg (padV 9 zI e14.1, r15, 0, e14.2.1, e14.2.2)) (fun e16 =>
 optE (s34 (e16.2.1, (padV 9 zI e16.1).getD 0 0)) (fun r17 =>
 optE (loopVal step13_2jh (padV 9 zI e16.1, r17, 0, e16.2.1, e16.2.2)) (fun e18 =>
 optE (s35 (e18.2.1, e18.2.2.1, e18.2.1.2.2.1, false)) (fun r19 =>
 bif !r19.2 then
 some (([], 0, false))
 else
 bif inBounds r19.1.2.2 e18.2.2.1.length then
 bif inBounds r19.1.2.2 e18.2.2.1.length then
 bif inBounds (e18.2.2.1.getD r19.1.2.2.toNat (0, 0, 0)).2.2 e18.2.2.2.1.length then
 bif inBounds (e18.2.2.1.getD r19.1.2.2.toNat (0, 0, 0)).2.2 e18.2.2.2.1.length then
 bif inBounds (e18.2.2.2.1.getD (e18.2.2.1.getD r19.1.2.2.toNat (0, 0, 0)).2.2.toNat (0, 0, 0)).2.2 e18.2.2.2.2.1.length then
 bif inBounds (e18.2.2.2.1.getD (e18.2.2.1.getD r19.1.2.2.toNat (0, 0, 0)).2.2.toNat (0, 0, 0)).2.2 e18.2.2.2.2.1.length then
 bif inBounds (e18.2.2.2.2.1.getD (e18.2.2.2.1.getD (e18.2.2.1.getD r19.1.2.2.toNat (0, 0, 0)).2.2.toNat (0, 0, 0)).2.2.toNat (0, 0, 0)).2.2 e18.2.2.2.2.2.1.length then
 bif inBounds (e18.2.2.2.2.1.getD (e18.2.2.2.1.getD (e18.2.2.1.getD r19.1.2.2.toNat (0, 0, 0)).2.2.toNat (0, 0, 0)).2.2.toNat (0, 0, 0)).2.2 e18.2.2.2.2.2.1.length then
 bif inBounds (e18.2.2.2.2.2.1.getD (e18.2.2.2.2.1.getD (e18.2.2.2.1.getD (e18.2.2.1.getD r19.1.2.2.toNat (0, 0, 0)).2.2.toNat (0, 0, 0)).2.2.toNat (0, 0, 0)).2.2.toNat (0, 0, 0)).2.2 e18.2.2.2.2.2.2.1.length then
 bif inBounds (e18.2.2.2.2.2.1.getD (e18.2.2.2.2.1.getD (e18.2.2.2.1.getD (e18.2.2.1.getD r19.1.2.2.toNat (0, 0, 0)).2.2.toNat (0, 0, 0)).2.2.toNat (0, 0, 0)).2.2.toNat (0, 0, 0)).2.2 e18.2.2.2.2.2.2.1.length then
 bif inBounds (e18.2.2.2.2.2.2.1.getD (e18.2.2.2.2.2.1.getD (e18.2.2.2.2.1.getD (e18.2.2.2.1.getD (e18.2.2.1.getD r19.1.2.2.toNat (0, 0, 0)).2.2.toNat (0, 0, 0)).2.2.toNat (0, 0, 0)).2.2.toNat (0, 0, 0)).2.2.toNat (0, 0, 0)).2.2 e18.2.2.2.2.2.2.2.1.length then
 bif inBounds (e18.2.2.2.2.2.2.1.getD (e18.2.2.2.2.2.1.getD (e18.2.2.2.2.1.getD (e18.2.2.2.1.getD (e18.2.2.1.getD r19.1.2.2.toNat (0, 0, 0)).2.2.toNat (0, 0, 0)).2.2.toNat (0, 0, 0)).2.2.toNat (0, 0, 0)).2.2.toNat (0, 0, 0)).2.2 e18.2.2.2.2.2.2.2.1.length then
 bif inBounds (e18.2.2.2.2.2.2.2.1.getD (e18.2.2.2.2.2.2.1.getD (e18.2.2.2.2.2.1.getD (e18.2.2.2.2.1.getD (e18.2.2.2.1.getD (e18.2.2.1.getD r19.1.2.2.toNat (0, 0, 0)).2.2.toNat (0, 0, 0)).2.2.toNat (0, 0, 0)).2.2.toNat (0, 0, 0)).2.2.toNat (0, 0, 0)).2.2.toNat (0, 0, 0)).2.2 e18.2.2.2.2.2.2.2.2.1.length then
 bif inBounds (e18.2.2.2.2.2.2.2.1.getD (e18.2.2.2.2.2.2.1.getD (e18.2.2.2.2.2.1.getD (e18.2.2.2.2.1.getD (e18.2.2.2.1.getD (e18.2.2.1.getD r19.1.2.2.toNat (0, 0, 0)).2.2.toNat (0, 0, 0)).2.2.toNat (0, 0, 0)).2.2.toNat (0, 0, 0)).2.2.toNat (0, 0, 0)).2.2.toNat (0, 0, 0)).2.2 e18.2.2.2.2.2.2.2.2.1.length then
 bif inBounds (e18.2.2.2.2.2.2.2.2.1.getD (e18.2.2.2.2.2.2.2.1.getD (e18.2.2.2.2.2.2.1.getD (e18.2.2.2.2.2.1.getD (e18.2.2.2.2.1.getD (e18.2.2.2.1.getD (e18.2.2.1.getD r19.1.2.2.toNat (0, 0, 0)).2.2.toNat (0, 0, 0)).2.2.toNat (0, 0, 0)).2.2.toNat (0, 0, 0)).2.2.toNat (0, 0, 0)).2.2.toNat (0, 0, 0)).2.2.toNat (0, 0, 0)).2.2 e18.2.2.2.2.2.2.2.2.2.1.length then
 bif inBounds (e18.2.2.2.2.2.2.2.2.1.getD (e18.2.2.2.2.2.2.2.1.getD (e18.2.2.2.2.2.2.1.getD (e18.2.2.2.2.2.1.getD (e18.2.2.2.2.1.getD (e18.2.2.2.1.getD (e18.2.2.1.getD r19.1.2.2.toNat (0, 0, 0)).2.2.toNat (0, 0, 0)).2.2.toNat (0, 0, 0)).2.2.toNat (0, 0, 0)).2.2.toNat (0, 0, 0)).2.2.toNat (0, 0, 0)).2.2.toNat (0, 0, 0)).2.2 e18.2.2.2.2.2.2.2.2.2.1.length then
 bif inBounds (e18.2.2.2.2.2.2.2.2.2.1.getD (e18.2.2.2.2.2.2.2.2.1.getD (e18.2.2.2.2.2.2.2.1.getD (e18.2.2.2.2.2.2.1.getD (e18.2.2.2.2.2.1.getD (e18.2.2.2.2.1.getD (e18.2.2.2.1.getD (e18.2.2.1.getD r19.1.2.2.toNat (0, 0, 0)).2.2.toNat (0, 0, 0)).2.2.toNat (0, 0, 0)).2.2.toNat (0, 0, 0)).2.2.toNat (0, 0, 0)).2.2.toNat (0, 0, 0)).2.2.toNat (0, 0, 0)).2.2.toNat (0, 0, 0)).2.2 e18.2.2.2.2.2.2.2.2.2.2.1.length then
 bif inBounds (e18.2.2.2.2.2.2.2.2.2.1.getD (e18.2.2.2.2.2.2.2.2.1.getD (e18.2.2.2.2.2.2.2.1.getD (e18.2.2.2.2.2.2.1.getD (e18.2.2.2.2.2.1.getD (e18.2.2.2.2.1.getD (e18.2.2.2.1.getD (e18.2.2.1.getD r19.1.2.2.toNat (0, 0, 0)).2.2.toNat (0, 0, 0)).2.2.toNat (0, 0, 0)).2.2.toNat (0, 0, 0)).2.2.toNat (0, 0, 0)).2.2.toNat (0, 0, 0)).2.2.toNat (0, 0, 0)).2.2.toNat (0, 0, 0)).2.2 e18.2.2.2.2.2.2.2.2.2.2.1.length then
 some (([(e18.2.2.1.getD r19.1.2.2.toNat (0, 0, 0)).1, (e18.2.2.2.1.getD (e18.2.2.1.getD r19.1.2.2.toNat (0, 0, 0)).2.2.toNat (0, 0, 0)).1, (e18.2.2.2.2.1.getD (e18.2.2.2.1.getD (e18.2.2.1.getD r19.1.2.2.toNat (0, 0, 0)).2.2.toNat (0, 0, 0)).2.2.toNat (0, 0, 0)).1, (e18.2.2.2.2.2.1.getD (e18.2.2.2.2.1.getD (e18.2.2.2.1.getD (e18.2.2.1.getD r19.1.2.2.toNat (0, 0, 0)).2.2.toNat (0, 0, 0)).2.2.toNat (0, 0, 0)).2.2.toNat (0, 0, 0)).1, (e18.2.2.2.2.2.2.1.getD (e18.2.2.2.2.2.1.getD (e18.2.2.2.2.1.getD (e18.2.2.2.1.getD (e18.2.2.1.getD r19.1.2.2.toNat (0, 0, 0)).2.2.toNat (0, 0, 0)).2.2.toNat (0, 0, 0)).2.2.toNat (0, 0, 0)).2.2.toNat (0, 0, 0)).1, (e18.2.2.2.2.2.2.2.1.getD (e18.2.2.2.2.2.2.1.getD (e18.2.2.2.2.2.1.getD (e18.2.2.2.2.1.getD (e18.2.2.2.1.getD (e18.2.2.1.getD r19.1.2.2.toNat (0, 0, 0)).2.2.toNat (0, 0, 0)).2.2.toNat (0, 0, 0)).2.2.toNat (0, 0, 0)).2.2.toNat (0, 0, 0)).2.2.toNat (0, 0, 0)).1, (e18.2.2.2.2.2.2.2.2.1.getD (e18.2.2.2.2.2.2.2.1.getD (e18.2.2.2.2.2.2.1.getD (e18.2.2.2.2.2.1.getD (e18.2.2.2.2.1.getD (e18.2.2.2.1.getD (e18.2.2.1.getD r19.1.2.2.toNat (0, 0, 0)).2.2.toNat (0, 0, 0)).2.2.toNat (0, 0, 0)).2.2.toNat (0, 0, 0)).2.2.toNat (0, 0, 0)).2.2.toNat (0, 0, 0)).2.2.toNat (0, 0, 0)).1, (e18.2.2.2.2.2.2.2.2.2.1.getD (e18.2.2.2.2.2.2.2.2.1.getD (e18.2.2.2.2.2.2.2.1.getD (e18.2.2.2.2.2.2.1.getD (e18.2.2.2.2.2.1.getD (e18.2.2.2.2.1.getD (e18.2.2.2.1.getD (e18.2.2.1.getD r19.1.2.2.toNat (0, 0, 0)).2.2.toNat (0, 0, 0)).2.2.toNat (0, 0, 0)).2.2.toNat (0, 0, 0)).2.2.toNat (0, 0, 0)).2.2.toNat (0, 0, 0)).2.2.toNat (0, 0, 0)).2.2.toNat (0, 0, 0)).1, (e18.2.2.2.2.2.2.2.2.2.2.1.getD (e18.2.2.2.2.2.2.2.2.2.1.getD (e18.2.2.2.2.2.2.2.2.1.getD (e18.2.2.2.2.2.2.2.1.getD (e18.2.2.2.2.2.2.1.getD (e18.2.2.2.2.2.1.getD (e18.2.2.2.2.1.getD (e18.2.2.2.1.getD (e18.2.2.1.getD r19.1.2.2.toNat (0, 0, 0)).2.2.toNat (0, 0, 0)).2.2.toNat (0, 0, 0)).2.2.toNat (0, 0, 0)).2.2.toNat (0, 0, 0)).2.2.toNat (0, 0, 0)).2.2.toNat (0, 0, 0)).2.2.toNat (0, 0, 0)).2.2.toNat (0, 0, 0)).1], r19.1.2.1, true))
 else
 none
 else
 none
 else
 none
 else
 none
 else
 none
 else
 none
 else
 none
 else
 none
 else
 none
 else
 none
 else
 none
 else
 none
 else
 none
 else
 none
 else
 none
 else
 none
 else
 none
 else
 none)
 (none))
 (none))
 (none))
 (none))
 (none))
 (none))
 (none))
 (none))
 (none))
 (none))
 (none))
 (none))
 (none))
 (none))
 (none))
 (none))
 (none))
 (none))
 (none)
def f13n9 : (Int × (Int × Int) × Int × Int) × Int × Int × Int × Int × Int × Int × Int × Int × Int → (Int × (Int × Int) × Int × Int) × (List Int) := fun (d, t0, t1, t2, t3, t4, t5, t6, t7, t8) => (d, [t0, t1, t2, t3, t4, t5, t6, t7, t8])
theorem h13n9 : ∀ d, evalK Try.prog (Pars [.own 3 zI, .d zI, .d .bool]) (knowM md5 Gn2K17) 60 20 13 (cvs [.d (.agg (.pair zI (.pair zP zP))), .d (.slice zI)] (f13n9 d)) (canonK [.own 3 zI, .d zI, .d .bool]) = p13n9 d := fun d => by kernel_rfl
noncomputable def s13n9 : (Int × (Int × Int) × Int × Int) × (List Int) → Option ((List Int) × Int × Bool) := fun
 | (d, [t0, t1, t2, t3, t4, t5, t6, t7, t8]) => p13n9 (d, t0, t1, t2, t3, t4, t5, t6, t7, t8)
 | _ => none
theorem q13n9 : ∀ x y, s13n9 x = some y → ∃ d, x = f13n9 d ∧ p13n9 d = some y := by
 intro x y h
 unfold s13n9 at h
 split at h
 ·exact ⟨_, rfl, h⟩
 ·cases h
theorem i13n9 : ItemOk Try.prog (.fn 13 [.d (.agg (.pair zI (.pair zP zP))), .d (.slice zI)] [.own 3 zI, .d zI, .d .bool] s13n9) := @item_fnP Try.prog md5 ext5 Gn2K17 noSpecial mixed Gn2K17_ok 13 60 20 [.d (.agg (.pair zI (.pair zP zP))), .d (.slice zI)] [.own 3 zI, .d zI, .d .bool] ((Int × (Int × Int) × Int × Int) × Int × Int × Int × Int × Int × Int × Int × Int × Int) f13n9 p13n9 s13n9 h13n9 q13n9
@[reducible] def T13_2k : Tmpl := ⟨116, [(2, .ref 2 0 0 0), (7, .cref 21 0 11 (.pair .bool .unit)), (8, .int .i64 9)], [.lst 1 10 zI, .val 9 (.slice zI), .val 10 zI, .cells 2 [.d (.pair zI (.pair zP zP))], .cells 21 Kc2b], [], none⟩
@[reducible] def X13_2k : List (Ex × Tmpl) := [(.exit 2, ⟨116, [(2, .ref 2 0 0 0), (7, .cref 21 0 11 (.pair .bool .unit)), (8, .int .i64 9)], [.lst 1 10 zI, .cells 2 [.d (.pair zI (.pair zP zP))], .cells 21 Kc2b], [], none⟩)]
noncomputable def step13_2k : (List Int) × (List Int) × Int × (Int × (Int × Int) × Int × Int) × RwM11 → Option (((List Int) × (List Int) × Int × (Int × (Int × Int) × Int × Int) × RwM11) ⊕ ((List Int) × (Int × (Int × Int) × Int × Int) × RwM11)) := fun (targets, all0, k, d, rows) =>
 bif decide (k < (all0.length : Int)) then
  bif inBounds k all0.length then
   optE (s35 (d, rows.2.2.2.2.2.2.2.2.2.2, all0.getD k.toNat 0, true)) (fun r2 =>
    bif r2.2 then
     bif room 24 (rows.2.2.2.2.2.2.2.2.2.1.length + 1) then
      some (.inl (padV 10 zI targets, all0, wr (k + 1), d, (rows.1, rows.2.1, rows.2.2.1, rows.2.2.2.1, rows.2.2.2.2.1, rows.2.2.2.2.2.1, rows.2.2.2.2.2.2.1, rows.2.2.2.2.2.2.2.1, rows.2.2.2.2.2.2.2.2.1, rows.2.2.2.2.2.2.2.2.2.1 ++ [r2.1], rows.2.2.2.2.2.2.2.2.2.2)))
     else
      none
    else
     some (.inl (padV 10 zI targets, all0, wr (k + 1), d, rows)))
    (none)
  else
   none
 else
  some (.inr (padV 10 zI targets, d, rows))
theorem one13_2k : oneLoop Try.prog 13 2 = true := by kernel_rfl
theorem lp13_2k : ItemOk Try.prog (.loop 13 2 T13_2k X13_2k (loopVal step13_2k)) := item_loopM md5 ext5 (U := 60) (n := 19) noSpecial mixed RpK_ok one13_2k (fun x => by kernel_rfl)
noncomputable def Gn2K18 : List Ev.Item := .loop 13 2 T13_2k X13_2k (loopVal step13_2k) :: RpK
theorem Gn2K18_ok : ∀ q ∈ Gn2K18, ItemOk Try.prog q := items_cons lp13_2k RpK_ok
@[reducible] def T13_2ka : Tmpl := ⟨116, [(2, .ref 2 0 0 0), (7, .cref 21 0 11 (.pair .bool .unit)), (8, .int .i64 8)], [.lst 1 10 zI, .val 9 (.slice zI), .val 10 zI, .cells 2 [.d (.pair zI (.pair zP zP))], .cells 21 Kc2a], [], none⟩
@[reducible] def X13_2ka : List (Ex × Tmpl) := [(.exit 2, ⟨116, [(2, .ref 2 0 0 0), (7, .cref 21 0 11 (.pair .bool .unit)), (8, .int .i64 8)], [.lst 1 10 zI, .cells 2 [.d (.pair zI (.pair zP zP))], .cells 21 Kc2a], [], none⟩)]
noncomputable def step13_2ka : (List Int) × (List Int) × Int × (Int × (Int × Int) × Int × Int) × RwM11 → Option (((List Int) × (List Int) × Int × (Int × (Int × Int) × Int × Int) × RwM11) ⊕ ((List Int) × (Int × (Int × Int) × Int × Int) × RwM11)) := fun (targets, all0, k, d, rows) =>
 bif decide (k < (all0.length : Int)) then
  bif inBounds k all0.length then
   optE (s35 (d, rows.2.2.2.2.2.2.2.2.2.1, all0.getD k.toNat 0, false)) (fun r4 =>
    bif r4.2 then
     bif room 24 (rows.2.2.2.2.2.2.2.2.1.length + 1) then
      some (.inl (padV 10 zI targets, all0, wr (k + 1), d, (rows.1, rows.2.1, rows.2.2.1, rows.2.2.2.1, rows.2.2.2.2.1, rows.2.2.2.2.2.1, rows.2.2.2.2.2.2.1, rows.2.2.2.2.2.2.2.1, rows.2.2.2.2.2.2.2.2.1 ++ [r4.1], rows.2.2.2.2.2.2.2.2.2.1, rows.2.2.2.2.2.2.2.2.2.2)))
     else
      none
    else
     some (.inl (padV 10 zI targets, all0, wr (k + 1), d, rows)))
    (none)
  else
   none
 else
  some (.inr (padV 10 zI targets, d, rows))
theorem one13_2ka : oneLoop Try.prog 13 2 = true := by kernel_rfl
theorem lp13_2ka : ItemOk Try.prog (.loop 13 2 T13_2ka X13_2ka (loopVal step13_2ka)) := item_loopM md5 ext5 (U := 60) (n := 19) noSpecial mixed Gn2K18_ok one13_2ka (fun x => by kernel_rfl)
noncomputable def Gn2K19 : List Ev.Item := .loop 13 2 T13_2ka X13_2ka (loopVal step13_2ka) :: Gn2K18
theorem Gn2K19_ok : ∀ q ∈ Gn2K19, ItemOk Try.prog q := items_cons lp13_2ka Gn2K18_ok
@[reducible] def T13_2kb : Tmpl := ⟨116, [(2, .ref 2 0 0 0), (7, .cref 21 0 11 (.pair .bool .unit)), (8, .int .i64 7)], [.lst 1 10 zI, .val 9 (.slice zI), .val 10 zI, .cells 2 [.d (.pair zI (.pair zP zP))], .cells 21 Kc2a], [], none⟩
@[reducible] def X13_2kb : List (Ex × Tmpl) := [(.exit 2, ⟨116, [(2, .ref 2 0 0 0), (7, .cref 21 0 11 (.pair .bool .unit)), (8, .int .i64 7)], [.lst 1 10 zI, .cells 2 [.d (.pair zI (.pair zP zP))], .cells 21 Kc2a], [], none⟩)]
noncomputable def step13_2kb : (List Int) × (List Int) × Int × (Int × (Int × Int) × Int × Int) × RwM11 → Option (((List Int) × (List Int) × Int × (Int × (Int × Int) × Int × Int) × RwM11) ⊕ ((List Int) × (Int × (Int × Int) × Int × Int) × RwM11)) := fun (targets, all0, k, d, rows) =>
 bif decide (k < (all0.length : Int)) then
  bif inBounds k all0.length then
   optE (s35 (d, rows.2.2.2.2.2.2.2.2.1, all0.getD k.toNat 0, false)) (fun r6 =>
    bif r6.2 then
     bif room 24 (rows.2.2.2.2.2.2.2.1.length + 1) then
      some (.inl (padV 10 zI targets, all0, wr (k + 1), d, (rows.1, rows.2.1, rows.2.2.1, rows.2.2.2.1, rows.2.2.2.2.1, rows.2.2.2.2.2.1, rows.2.2.2.2.2.2.1, rows.2.2.2.2.2.2.2.1 ++ [r6.1], rows.2.2.2.2.2.2.2.2.1, rows.2.2.2.2.2.2.2.2.2.1, rows.2.2.2.2.2.2.2.2.2.2)))
     else
      none
    else
     some (.inl (padV 10 zI targets, all0, wr (k + 1), d, rows)))
    (none)
  else
   none
 else
  some (.inr (padV 10 zI targets, d, rows))
theorem one13_2kb : oneLoop Try.prog 13 2 = true := by kernel_rfl
theorem lp13_2kb : ItemOk Try.prog (.loop 13 2 T13_2kb X13_2kb (loopVal step13_2kb)) := item_loopM md5 ext5 (U := 60) (n := 19) noSpecial mixed Gn2K19_ok one13_2kb (fun x => by kernel_rfl)
noncomputable def Gn2K20 : List Ev.Item := .loop 13 2 T13_2kb X13_2kb (loopVal step13_2kb) :: Gn2K19
theorem Gn2K20_ok : ∀ q ∈ Gn2K20, ItemOk Try.prog q := items_cons lp13_2kb Gn2K19_ok
@[reducible] def T13_2kc : Tmpl := ⟨116, [(2, .ref 2 0 0 0), (7, .cref 21 0 11 (.pair .bool .unit)), (8, .int .i64 6)], [.lst 1 10 zI, .val 9 (.slice zI), .val 10 zI, .cells 2 [.d (.pair zI (.pair zP zP))], .cells 21 Kc2a], [], none⟩
@[reducible] def X13_2kc : List (Ex × Tmpl) := [(.exit 2, ⟨116, [(2, .ref 2 0 0 0), (7, .cref 21 0 11 (.pair .bool .unit)), (8, .int .i64 6)], [.lst 1 10 zI, .cells 2 [.d (.pair zI (.pair zP zP))], .cells 21 Kc2a], [], none⟩)]
noncomputable def step13_2kc : (List Int) × (List Int) × Int × (Int × (Int × Int) × Int × Int) × RwM11 → Option (((List Int) × (List Int) × Int × (Int × (Int × Int) × Int × Int) × RwM11) ⊕ ((List Int) × (Int × (Int × Int) × Int × Int) × RwM11)) := fun (targets, all0, k, d, rows) =>
 bif decide (k < (all0.length : Int)) then
  bif inBounds k all0.length then
   optE (s35 (d, rows.2.2.2.2.2.2.2.1, all0.getD k.toNat 0, false)) (fun r8 =>
    bif r8.2 then
     bif room 24 (rows.2.2.2.2.2.2.1.length + 1) then
      some (.inl (padV 10 zI targets, all0, wr (k + 1), d, (rows.1, rows.2.1, rows.2.2.1, rows.2.2.2.1, rows.2.2.2.2.1, rows.2.2.2.2.2.1, rows.2.2.2.2.2.2.1 ++ [r8.1], rows.2.2.2.2.2.2.2.1, rows.2.2.2.2.2.2.2.2.1, rows.2.2.2.2.2.2.2.2.2.1, rows.2.2.2.2.2.2.2.2.2.2)))
     else
      none
    else
     some (.inl (padV 10 zI targets, all0, wr (k + 1), d, rows)))
    (none)
  else
   none
 else
  some (.inr (padV 10 zI targets, d, rows))
theorem one13_2kc : oneLoop Try.prog 13 2 = true := by kernel_rfl
theorem lp13_2kc : ItemOk Try.prog (.loop 13 2 T13_2kc X13_2kc (loopVal step13_2kc)) := item_loopM md5 ext5 (U := 60) (n := 19) noSpecial mixed Gn2K20_ok one13_2kc (fun x => by kernel_rfl)
noncomputable def Gn2K21 : List Ev.Item := .loop 13 2 T13_2kc X13_2kc (loopVal step13_2kc) :: Gn2K20
theorem Gn2K21_ok : ∀ q ∈ Gn2K21, ItemOk Try.prog q := items_cons lp13_2kc Gn2K20_ok
@[reducible] def T13_2kd : Tmpl := ⟨116, [(2, .ref 2 0 0 0), (7, .cref 21 0 11 (.pair .bool .unit)), (8, .int .i64 5)], [.lst 1 10 zI, .val 9 (.slice zI), .val 10 zI, .cells 2 [.d (.pair zI (.pair zP zP))], .cells 21 Kc2a], [], none⟩
@[reducible] def X13_2kd : List (Ex × Tmpl) := [(.exit 2, ⟨116, [(2, .ref 2 0 0 0), (7, .cref 21 0 11 (.pair .bool .unit)), (8, .int .i64 5)], [.lst 1 10 zI, .cells 2 [.d (.pair zI (.pair zP zP))], .cells 21 Kc2a], [], none⟩)]
noncomputable def step13_2kd : (List Int) × (List Int) × Int × (Int × (Int × Int) × Int × Int) × RwM11 → Option (((List Int) × (List Int) × Int × (Int × (Int × Int) × Int × Int) × RwM11) ⊕ ((List Int) × (Int × (Int × Int) × Int × Int) × RwM11)) := fun (targets, all0, k, d, rows) =>
 bif decide (k < (all0.length : Int)) then
  bif inBounds k all0.length then
   optE (s35 (d, rows.2.2.2.2.2.2.1, all0.getD k.toNat 0, false)) (fun r10 =>
    bif r10.2 then
     bif room 24 (rows.2.2.2.2.2.1.length + 1) then
      some (.inl (padV 10 zI targets, all0, wr (k + 1), d, (rows.1, rows.2.1, rows.2.2.1, rows.2.2.2.1, rows.2.2.2.2.1, rows.2.2.2.2.2.1 ++ [r10.1], rows.2.2.2.2.2.2.1, rows.2.2.2.2.2.2.2.1, rows.2.2.2.2.2.2.2.2.1, rows.2.2.2.2.2.2.2.2.2.1, rows.2.2.2.2.2.2.2.2.2.2)))
     else
      none
    else
     some (.inl (padV 10 zI targets, all0, wr (k + 1), d, rows)))
    (none)
  else
   none
 else
  some (.inr (padV 10 zI targets, d, rows))
theorem one13_2kd : oneLoop Try.prog 13 2 = true := by kernel_rfl
theorem lp13_2kd : ItemOk Try.prog (.loop 13 2 T13_2kd X13_2kd (loopVal step13_2kd)) := item_loopM md5 ext5 (U := 60) (n := 19) noSpecial mixed Gn2K21_ok one13_2kd (fun x => by kernel_rfl)
noncomputable def Gn2K22 : List Ev.Item := .loop 13 2 T13_2kd X13_2kd (loopVal step13_2kd) :: Gn2K21
theorem Gn2K22_ok : ∀ q ∈ Gn2K22, ItemOk Try.prog q := items_cons lp13_2kd Gn2K21_ok
@[reducible] def T13_2ke : Tmpl := ⟨116, [(2, .ref 2 0 0 0), (7, .cref 21 0 11 (.pair .bool .unit)), (8, .int .i64 4)], [.lst 1 10 zI, .val 9 (.slice zI), .val 10 zI, .cells 2 [.d (.pair zI (.pair zP zP))], .cells 21 Kc2a], [], none⟩
@[reducible] def X13_2ke : List (Ex × Tmpl) := [(.exit 2, ⟨116, [(2, .ref 2 0 0 0), (7, .cref 21 0 11 (.pair .bool .unit)), (8, .int .i64 4)], [.lst 1 10 zI, .cells 2 [.d (.pair zI (.pair zP zP))], .cells 21 Kc2a], [], none⟩)]
noncomputable def step13_2ke : (List Int) × (List Int) × Int × (Int × (Int × Int) × Int × Int) × RwM11 → Option (((List Int) × (List Int) × Int × (Int × (Int × Int) × Int × Int) × RwM11) ⊕ ((List Int) × (Int × (Int × Int) × Int × Int) × RwM11)) := fun (targets, all0, k, d, rows) =>
 bif decide (k < (all0.length : Int)) then
  bif inBounds k all0.length then
   optE (s35 (d, rows.2.2.2.2.2.1, all0.getD k.toNat 0, false)) (fun r12 =>
    bif r12.2 then
     bif room 24 (rows.2.2.2.2.1.length + 1) then
      some (.inl (padV 10 zI targets, all0, wr (k + 1), d, (rows.1, rows.2.1, rows.2.2.1, rows.2.2.2.1, rows.2.2.2.2.1 ++ [r12.1], rows.2.2.2.2.2.1, rows.2.2.2.2.2.2.1, rows.2.2.2.2.2.2.2.1, rows.2.2.2.2.2.2.2.2.1, rows.2.2.2.2.2.2.2.2.2.1, rows.2.2.2.2.2.2.2.2.2.2)))
     else
      none
    else
     some (.inl (padV 10 zI targets, all0, wr (k + 1), d, rows)))
    (none)
  else
   none
 else
  some (.inr (padV 10 zI targets, d, rows))
theorem one13_2ke : oneLoop Try.prog 13 2 = true := by kernel_rfl
theorem lp13_2ke : ItemOk Try.prog (.loop 13 2 T13_2ke X13_2ke (loopVal step13_2ke)) := item_loopM md5 ext5 (U := 60) (n := 19) noSpecial mixed Gn2K22_ok one13_2ke (fun x => by kernel_rfl)
noncomputable def Gn2K23 : List Ev.Item := .loop 13 2 T13_2ke X13_2ke (loopVal step13_2ke) :: Gn2K22
theorem Gn2K23_ok : ∀ q ∈ Gn2K23, ItemOk Try.prog q := items_cons lp13_2ke Gn2K22_ok
@[reducible] def T13_2kf : Tmpl := ⟨116, [(2, .ref 2 0 0 0), (7, .cref 21 0 11 (.pair .bool .unit)), (8, .int .i64 3)], [.lst 1 10 zI, .val 9 (.slice zI), .val 10 zI, .cells 2 [.d (.pair zI (.pair zP zP))], .cells 21 Kc2a], [], none⟩
@[reducible] def X13_2kf : List (Ex × Tmpl) := [(.exit 2, ⟨116, [(2, .ref 2 0 0 0), (7, .cref 21 0 11 (.pair .bool .unit)), (8, .int .i64 3)], [.lst 1 10 zI, .cells 2 [.d (.pair zI (.pair zP zP))], .cells 21 Kc2a], [], none⟩)]
noncomputable def step13_2kf : (List Int) × (List Int) × Int × (Int × (Int × Int) × Int × Int) × RwM11 → Option (((List Int) × (List Int) × Int × (Int × (Int × Int) × Int × Int) × RwM11) ⊕ ((List Int) × (Int × (Int × Int) × Int × Int) × RwM11)) := fun (targets, all0, k, d, rows) =>
 bif decide (k < (all0.length : Int)) then
  bif inBounds k all0.length then
   optE (s35 (d, rows.2.2.2.2.1, all0.getD k.toNat 0, false)) (fun r14 =>
    bif r14.2 then
     bif room 24 (rows.2.2.2.1.length + 1) then
      some (.inl (padV 10 zI targets, all0, wr (k + 1), d, (rows.1, rows.2.1, rows.2.2.1, rows.2.2.2.1 ++ [r14.1], rows.2.2.2.2.1, rows.2.2.2.2.2.1, rows.2.2.2.2.2.2.1, rows.2.2.2.2.2.2.2.1, rows.2.2.2.2.2.2.2.2.1, rows.2.2.2.2.2.2.2.2.2.1, rows.2.2.2.2.2.2.2.2.2.2)))
     else
      none
    else
     some (.inl (padV 10 zI targets, all0, wr (k + 1), d, rows)))
    (none)
  else
   none
 else
  some (.inr (padV 10 zI targets, d, rows))
theorem one13_2kf : oneLoop Try.prog 13 2 = true := by kernel_rfl
theorem lp13_2kf : ItemOk Try.prog (.loop 13 2 T13_2kf X13_2kf (loopVal step13_2kf)) := item_loopM md5 ext5 (U := 60) (n := 19) noSpecial mixed Gn2K23_ok one13_2kf (fun x => by kernel_rfl)
noncomputable def Gn2K24 : List Ev.Item := .loop 13 2 T13_2kf X13_2kf (loopVal step13_2kf) :: Gn2K23
theorem Gn2K24_ok : ∀ q ∈ Gn2K24, ItemOk Try.prog q := items_cons lp13_2kf Gn2K23_ok
@[reducible] def T13_2kg : Tmpl := ⟨116, [(2, .ref 2 0 0 0), (7, .cref 21 0 11 (.pair .bool .unit)), (8, .int .i64 2)], [.lst 1 10 zI, .val 9 (.slice zI), .val 10 zI, .cells 2 [.d (.pair zI (.pair zP zP))], .cells 21 Kc2a], [], none⟩
@[reducible] def X13_2kg : List (Ex × Tmpl) := [(.exit 2, ⟨116, [(2, .ref 2 0 0 0), (7, .cref 21 0 11 (.pair .bool .unit)), (8, .int .i64 2)], [.lst 1 10 zI, .cells 2 [.d (.pair zI (.pair zP zP))], .cells 21 Kc2a], [], none⟩)]
noncomputable def step13_2kg : (List Int) × (List Int) × Int × (Int × (Int × Int) × Int × Int) × RwM11 → Option (((List Int) × (List Int) × Int × (Int × (Int × Int) × Int × Int) × RwM11) ⊕ ((List Int) × (Int × (Int × Int) × Int × Int) × RwM11)) := fun (targets, all0, k, d, rows) =>
 bif decide (k < (all0.length : Int)) then
  bif inBounds k all0.length then
   optE (s35 (d, rows.2.2.2.1, all0.getD k.toNat 0, false)) (fun r16 =>
    bif r16.2 then
     bif room 24 (rows.2.2.1.length + 1) then
      some (.inl (padV 10 zI targets, all0, wr (k + 1), d, (rows.1, rows.2.1, rows.2.2.1 ++ [r16.1], rows.2.2.2.1, rows.2.2.2.2.1, rows.2.2.2.2.2.1, rows.2.2.2.2.2.2.1, rows.2.2.2.2.2.2.2.1, rows.2.2.2.2.2.2.2.2.1, rows.2.2.2.2.2.2.2.2.2.1, rows.2.2.2.2.2.2.2.2.2.2)))
     else
      none
    else
     some (.inl (padV 10 zI targets, all0, wr (k + 1), d, rows)))
    (none)
  else
   none
 else
  some (.inr (padV 10 zI targets, d, rows))
theorem one13_2kg : oneLoop Try.prog 13 2 = true := by kernel_rfl
theorem lp13_2kg : ItemOk Try.prog (.loop 13 2 T13_2kg X13_2kg (loopVal step13_2kg)) := item_loopM md5 ext5 (U := 60) (n := 19) noSpecial mixed Gn2K24_ok one13_2kg (fun x => by kernel_rfl)
noncomputable def Gn2K25 : List Ev.Item := .loop 13 2 T13_2kg X13_2kg (loopVal step13_2kg) :: Gn2K24
theorem Gn2K25_ok : ∀ q ∈ Gn2K25, ItemOk Try.prog q := items_cons lp13_2kg Gn2K24_ok
@[reducible] def T13_2kh : Tmpl := ⟨116, [(2, .ref 2 0 0 0), (7, .cref 21 0 11 (.pair .bool .unit)), (8, .int .i64 1)], [.lst 1 10 zI, .val 9 (.slice zI), .val 10 zI, .cells 2 [.d (.pair zI (.pair zP zP))], .cells 21 Kc2a], [], none⟩
@[reducible] def X13_2kh : List (Ex × Tmpl) := [(.exit 2, ⟨116, [(2, .ref 2 0 0 0), (7, .cref 21 0 11 (.pair .bool .unit)), (8, .int .i64 1)], [.lst 1 10 zI, .cells 2 [.d (.pair zI (.pair zP zP))], .cells 21 Kc2a], [], none⟩)]
noncomputable def step13_2kh : (List Int) × (List Int) × Int × (Int × (Int × Int) × Int × Int) × RwM11 → Option (((List Int) × (List Int) × Int × (Int × (Int × Int) × Int × Int) × RwM11) ⊕ ((List Int) × (Int × (Int × Int) × Int × Int) × RwM11)) := fun (targets, all0, k, d, rows) =>
 bif decide (k < (all0.length : Int)) then
  bif inBounds k all0.length then
   optE (s35 (d, rows.2.2.1, all0.getD k.toNat 0, false)) (fun r18 =>
    bif r18.2 then
     bif room 24 (rows.2.1.length + 1) then
      some (.inl (padV 10 zI targets, all0, wr (k + 1), d, (rows.1, rows.2.1 ++ [r18.1], rows.2.2.1, rows.2.2.2.1, rows.2.2.2.2.1, rows.2.2.2.2.2.1, rows.2.2.2.2.2.2.1, rows.2.2.2.2.2.2.2.1, rows.2.2.2.2.2.2.2.2.1, rows.2.2.2.2.2.2.2.2.2.1, rows.2.2.2.2.2.2.2.2.2.2)))
     else
      none
    else
     some (.inl (padV 10 zI targets, all0, wr (k + 1), d, rows)))
    (none)
  else
   none
 else
  some (.inr (padV 10 zI targets, d, rows))
theorem one13_2kh : oneLoop Try.prog 13 2 = true := by kernel_rfl
theorem lp13_2kh : ItemOk Try.prog (.loop 13 2 T13_2kh X13_2kh (loopVal step13_2kh)) := item_loopM md5 ext5 (U := 60) (n := 19) noSpecial mixed Gn2K25_ok one13_2kh (fun x => by kernel_rfl)
noncomputable def Gn2K26 : List Ev.Item := .loop 13 2 T13_2kh X13_2kh (loopVal step13_2kh) :: Gn2K25
theorem Gn2K26_ok : ∀ q ∈ Gn2K26, ItemOk Try.prog q := items_cons lp13_2kh Gn2K25_ok
@[reducible] def T13_2ki8 : Tmpl := ⟨116, [(2, .ref 2 0 0 0), (7, .cref 21 0 11 (.pair .bool .unit)), (8, .int .i64 0)], [.lst 1 10 zI, .val 9 (.slice zI), .val 10 zI, .cells 2 [.d (.pair zI (.pair zP zP))], .cells 21 Kc2a], [], none⟩
@[reducible] def X13_2ki8 : List (Ex × Tmpl) := [(.exit 2, ⟨116, [(2, .ref 2 0 0 0), (7, .cref 21 0 11 (.pair .bool .unit)), (8, .int .i64 0)], [.lst 1 10 zI, .cells 2 [.d (.pair zI (.pair zP zP))], .cells 21 Kc2a], [], none⟩)]
noncomputable def step13_2ki8 : (List Int) × (List Int) × Int × (Int × (Int × Int) × Int × Int) × RwM11 → Option (((List Int) × (List Int) × Int × (Int × (Int × Int) × Int × Int) × RwM11) ⊕ ((List Int) × (Int × (Int × Int) × Int × Int) × RwM11)) := fun (targets, all0, k, d, rows) =>
 bif decide (k < (all0.length : Int)) then
  bif inBounds k all0.length then
   optE (s35 (d, rows.2.1, all0.getD k.toNat 0, false)) (fun r20 =>
    bif r20.2 then
     bif room 24 (rows.1.length + 1) then
      some (.inl (padV 10 zI targets, all0, wr (k + 1), d, (rows.1 ++ [r20.1], rows.2.1, rows.2.2.1, rows.2.2.2.1, rows.2.2.2.2.1, rows.2.2.2.2.2.1, rows.2.2.2.2.2.2.1, rows.2.2.2.2.2.2.2.1, rows.2.2.2.2.2.2.2.2.1, rows.2.2.2.2.2.2.2.2.2.1, rows.2.2.2.2.2.2.2.2.2.2)))
     else
      none
    else
     some (.inl (padV 10 zI targets, all0, wr (k + 1), d, rows)))
    (none)
  else
   none
 else
  some (.inr (padV 10 zI targets, d, rows))
theorem one13_2ki8 : oneLoop Try.prog 13 2 = true := by kernel_rfl
theorem lp13_2ki8 : ItemOk Try.prog (.loop 13 2 T13_2ki8 X13_2ki8 (loopVal step13_2ki8)) := item_loopM md5 ext5 (U := 60) (n := 19) noSpecial mixed Gn2K26_ok one13_2ki8 (fun x => by kernel_rfl)
noncomputable def Gn2K27 : List Ev.Item := .loop 13 2 T13_2ki8 X13_2ki8 (loopVal step13_2ki8) :: Gn2K26
theorem Gn2K27_ok : ∀ q ∈ Gn2K27, ItemOk Try.prog q := items_cons lp13_2ki8 Gn2K26_ok
noncomputable def p13n10 : (Int × (Int × Int) × Int × Int) × Int × Int × Int × Int × Int × Int × Int × Int × Int × Int → Option ((List Int) × Int × Bool) := fun (d, t0, t1, t2, t3, t4, t5, t6, t7, t8, t9) =>
 optE (s34 (d, t9)) (fun r1 =>
 optE (loopVal step13_2k ([t0, t1, t2, t3, t4, t5, t6, t7, t8, t9], r1, 0, d, ([], [], [], [], [], [], [], [], [], [], []))) (fun e2 =>
 optE (s34 (e2.2.1, (padV 10 zI e2.1).getD 8 0)) (fun r3 =>
 optE (loopVal step13_2ka (padV 10 zI e2.1, r3, 0, e2.2.1, e2.2.2)) (fun e4 =>
 optE (s34 (e4.2.1, (padV 10 zI e4.1).getD 7 0)) (fun r5 =>
 optE (loopVal step13_2kb (padV 10 zI e4.1, r5, 0, e4.2.1, e4.2.2)) (fun e6 =>
 optE (s34 (e6.2.1, (padV 10 zI e6.1).getD 6 0)) (fun r7 =>
 optE (loopVal step13_2kc (padV 10 zI e6.1, r7, 0, e6.2.1, e6.2.2)) (fun e8 =>
 optE (s34 (e8.2.1, (padV 10 zI e8.1).getD 5 0)) (fun r9 =>
 optE (loopVal step13_2kd (padV 10 zI e8.1, r9, 0, e8.2.1, e8.2.2)) (fun e10 =>
 optE (s34 (e10.2.1, (padV 10 zI e10.1).getD 4 0)) (fun r11 =>
 optE (loopVal step13_2ke (padV 10 zI e10.1, r11, 0, e10.2.1, e10.2.2)) (fun e12 =>
 optE (s34 (e12.2.1, (padV 10 zI e12.1).getD 3 0)) (fun r13 =>
 optE (loopVal step13_2kf (padV 10 zI e12.1, r13, 0, e12.2.1, e12.2.2)) (fun e14 =>
 optE (s34 (e14.2.1, (padV 10 zI e14.1).getD 2 0)) (fun r15 =>
 optE (loopVal step13_2kg (padV 10 zI e14.1, r15, 0, e14.2.1, e14.2.2)) (fun e16 =>
 optE (s34 (e16.2.1, (padV 10 zI e16.1).getD 1 0)) (fun r17 =>
 optE (loopVal step13_2kh (padV 10 zI e16.1, r17, 0, e16.2.1, e16.2.2)) (fun e18 =>
 optE (s34 (e18.2.1, (padV 10 zI e18.1).getD 0 0)) (fun r19 =>
 optE (loopVal step13_2ki8 (padV 10 zI e18.1, r19, 0, e18.2.1, e18.2.2)) (fun e20 =>
 optE (s35 (e20.2.1, e20.2.2.1, e20.2.1.2.2.1, false)) (fun r21 =>
 bif !r21.2 then
 some (([], 0, false))
 else
 bif inBounds r21.1.2.2 e20.2.2.1.length then
 bif inBounds r21.1.2.2 e20.2.2.1.length then
 bif inBounds (e20.2.2.1.getD r21.1.2.2.toNat (0, 0, 0)).2.2 e20.2.2.2.1.length then
 bif inBounds (e20.2.2.1.getD r21.1.2.2.toNat (0, 0, 0)).2.2 e20.2.2.2.1.length then
 bif inBounds (e20.2.2.2.1.getD (e20.2.2.1.getD r21.1.2.2.toNat (0, 0, 0)).2.2.toNat (0, 0, 0)).2.2 e20.2.2.2.2.1.length then
 bif inBounds (e20.2.2.2.1.getD (e20.2.2.1.getD r21.1.2.2.toNat (0, 0, 0)).2.2.toNat (0, 0, 0)).2.2 e20.2.2.2.2.1.length then
 bif inBounds (e20.2.2.2.2.1.getD (e20.2.2.2.1.getD (e20.2.2.1.getD r21.1.2.2.toNat (0, 0, 0)).2.2.toNat (0, 0, 0)).2.2.toNat (0, 0, 0)).2.2 e20.2.2.2.2.2.1.length then
 bif inBounds (e20.2.2.2.2.1.getD (e20.2.2.2.1.getD (e20.2.2.1.getD r21.1.2.2.toNat (0, 0, 0)).2.2.toNat (0, 0, 0)).2.2.toNat (0, 0, 0)).2.2 e20.2.2.2.2.2.1.length then
 bif inBounds (e20.2.2.2.2.2.1.getD (e20.2.2.2.2.1.getD (e20.2.2.2.1.getD (e20.2.2.1.getD r21.1.2.2.toNat (0, 0, 0)).2.2.toNat (0, 0, 0)).2.2.toNat (0, 0, 0)).2.2.toNat (0, 0, 0)).2.2 e20.2.2.2.2.2.2.1.length then
 bif inBounds (e20.2.2.2.2.2.1.getD (e20.2.2.2.2.1.getD (e20.2.2.2.1.getD (e20.2.2.1.getD r21.1.2.2.toNat (0, 0, 0)).2.2.toNat (0, 0, 0)).2.2.toNat (0, 0, 0)).2.2.toNat (0, 0, 0)).2.2 e20.2.2.2.2.2.2.1.length then
 bif inBounds (e20.2.2.2.2.2.2.1.getD (e20.2.2.2.2.2.1.getD (e20.2.2.2.2.1.getD (e20.2.2.2.1.getD (e20.2.2.1.getD r21.1.2.2.toNat (0, 0, 0)).2.2.toNat (0, 0, 0)).2.2.toNat (0, 0, 0)).2.2.toNat (0, 0, 0)).2.2.toNat (0, 0, 0)).2.2 e20.2.2.2.2.2.2.2.1.length then
 bif inBounds (e20.2.2.2.2.2.2.1.getD (e20.2.2.2.2.2.1.getD (e20.2.2.2.2.1.getD (e20.2.2.2.1.getD (e20.2.2.1.getD r21.1.2.2.toNat (0, 0, 0)).2.2.toNat (0, 0, 0)).2.2.toNat (0, 0, 0)).2.2.toNat (0, 0, 0)).2.2.toNat (0, 0, 0)).2.2 e20.2.2.2.2.2.2.2.1.length then
 bif inBounds (e20.2.2.2.2.2.2.2.1.getD (e20.2.2.2.2.2.2.1.getD (e20.2.2.2.2.2.1.getD (e20.2.2.2.2.1.getD (e20.2.2.2.1.getD (e20.2.2.1.getD r21.1.2.2.toNat (0, 0, 0)).2.2.toNat (0, 0, 0)).2.2.toNat (0, 0, 0)).2.2.toNat (0, 0, 0)).2.2.toNat (0, 0, 0)).2.2.toNat (0, 0, 0)).2.2 e20.2.2.2.2.2.2.2.2.1.length then
 bif inBounds (e20.2.2.2.2.2.2.2.1.getD (e20.2.2.2.2.2.2.1.getD (e20.2.2.2.2.2.1.getD (e20.2.2.2.2.1.getD (e20.2.2.2.1.getD (e20.2.2.1.getD r21.1.2.2.toNat (0, 0, 0)).2.2.toNat (0, 0, 0)).2.2.toNat (0, 0, 0)).2.2.toNat (0, 0, 0)).2.2.toNat (0, 0, 0)).2.2.toNat (0, 0, 0)).2.2 e20.2.2.2.2.2.2.2.2.1.length then
 bif inBounds (e20.2.2.2.2.2.2.2.2.1.getD (e20.2.2.2.2.2.2.2.1.getD (e20.2.2.2.2.2.2.1.getD (e20.2.2.2.2.2.1.getD (e20.2.2.2.2.1.getD (e20.2.2.2.1.getD (e20.2.2.1.getD r21.1.2.2.toNat (0, 0, 0)).2.2.toNat (0, 0, 0)).2.2.toNat (0, 0, 0)).2.2.toNat (0, 0, 0)).2.2.toNat (0, 0, 0)).2.2.toNat (0, 0, 0)).2.2.toNat (0, 0, 0)).2.2 e20.2.2.2.2.2.2.2.2.2.1.length then
 bif inBounds (e20.2.2.2.2.2.2.2.2.1.getD (e20.2.2.2.2.2.2.2.1.getD (e20.2.2.2.2.2.2.1.getD (e20.2.2.2.2.2.1.getD (e20.2.2.2.2.1.getD (e20.2.2.2.1.getD (e20.2.2.1.getD r21.1.2.2.toNat (0, 0, 0)).2.2.toNat (0, 0, 0)).2.2.toNat (0, 0, 0)).2.2.toNat (0, 0, 0)).2.2.toNat (0, 0, 0)).2.2.toNat (0, 0, 0)).2.2.toNat (0, 0, 0)).2.2 e20.2.2.2.2.2.2.2.2.2.1.length then
 bif inBounds (e20.2.2.2.2.2.2.2.2.2.1.getD (e20.2.2.2.2.2.2.2.2.1.getD (e20.2.2.2.2.2.2.2.1.getD (e20.2.2.2.2.2.2.1.getD (e20.2.2.2.2.2.1.getD (e20.2.2.2.2.1.getD (e20.2.2.2.1.getD (e20.2.2.1.getD r21.1.2.2.toNat (0, 0, 0)).2.2.toNat (0, 0, 0)).2.2.toNat (0, 0, 0)).2.2.toNat (0, 0, 0)).2.2.toNat (0, 0, 0)).2.2.toNat (0, 0, 0)).2.2.toNat (0, 0, 0)).2.2.toNat (0, 0, 0)).2.2 e20.2.2.2.2.2.2.2.2.2.2.1.length then
 bif inBounds (e20.2.2.2.2.2.2.2.2.2.1.getD (e20.2.2.2.2.2.2.2.2.1.getD (e20.2.2.2.2.2.2.2.1.getD (e20.2.2.2.2.2.2.1.getD (e20.2.2.2.2.2.1.getD (e20.2.2.2.2.1.getD (e20.2.2.2.1.getD (e20.2.2.1.getD r21.1.2.2.toNat (0, 0, 0)).2.2.toNat (0, 0, 0)).2.2.toNat (0, 0, 0)).2.2.toNat (0, 0, 0)).2.2.toNat (0, 0, 0)).2.2.toNat (0, 0, 0)).2.2.toNat (0, 0, 0)).2.2.toNat (0, 0, 0)).2.2 e20.2.2.2.2.2.2.2.2.2.2.1.length then
 bif inBounds (e20.2.2.2.2.2.2.2.2.2.2.1.getD (e20.2.2.2.2.2.2.2.2.2.1.getD (e20.2.2.2.2.2.2.2.2.1.getD (e20.2.2.2.2.2.2.2.1.getD (e20.2.2.2.2.2.2.1.getD (e20.2.2.2.2.2.1.getD (e20.2.2.2.2.1.getD (e20.2.2.2.1.getD (e20.2.2.1.getD r21.1.2.2.toNat (0, 0, 0)).2.2.toNat (0, 0, 0)).2.2.toNat (0, 0, 0)).2.2.toNat (0, 0, 0)).2.2.toNat (0, 0, 0)).2.2.toNat (0, 0, 0)).2.2.toNat (0, 0, 0)).2.2.toNat (0, 0, 0)).2.2.toNat (0, 0, 0)).2.2 e20.2.2.2.2.2.2.2.2.2.2.2.1.length then
 bif inBounds (e20.2.2.2.2.2.2.2.2.2.2.1.getD (e20.2.2.2.2.2.2.2.2.2.1.getD (e20.2.2.2.2.2.2.2.2.1.getD (e20.2.2.2.2.2.2.2.1.getD (e20.2.2.2.2.2.2.1.getD (e20.2.2.2.2.2.1.getD (e20.2.2.2.2.1.getD (e20.2.2.2.1.getD (e20.2.2.1.getD r21.1.2.2.toNat (0, 0, 0)).2.2.toNat (0, 0, 0)).2.2.toNat (0, 0, 0)).2.2.toNat (0, 0, 0)).2.2.toNat (0, 0, 0)).2.2.toNat (0, 0, 0)).2.2.toNat (0, 0, 0)).2.2.toNat (0, 0, 0)).2.2.toNat (0, 0, 0)).2.2 e20.2.2.2.2.2.2.2.2.2.2.2.1.length then
 some (([(e20.2.2.1.getD r21.1.2.2.toNat (0, 0, 0)).1, (e20.2.2.2.1.getD (e20.2.2.1.getD r21.1.2.2.toNat (0, 0, 0)).2.2.toNat (0, 0, 0)).1, (e20.2.2.2.2.1.getD (e20.2.2.2.1.getD (e20.2.2.1.getD r21.1.2.2.toNat (0, 0, 0)).2.2.toNat (0, 0, 0)).2.2.toNat (0, 0, 0)).1, (e20.2.2.2.2.2.1.getD (e20.2.2.2.2.1.getD (e20.2.2.2.1.getD (e20.2.2.1.getD r21.1.2.2.toNat (0, 0, 0)).2.2.toNat (0, 0, 0)).2.2.toNat (0, 0, 0)).2.2.toNat (0, 0, 0)).1, (e20.2.2.2.2.2.2.1.getD (e20.2.2.2.2.2.1.getD (e20.2.2.2.2.1.getD (e20.2.2.2.1.getD (e20.2.2.1.getD r21.1.2.2.toNat (0, 0, 0)).2.2.toNat (0, 0, 0)).2.2.toNat (0, 0, 0)).2.2.toNat (0, 0, 0)).2.2.toNat (0, 0, 0)).1, (e20.2.2.2.2.2.2.2.1.getD (e20.2.2.2.2.2.2.1.getD (e20.2.2.2.2.2.1.getD (e20.2.2.2.2.1.getD (e20.2.2.2.1.getD (e20.2.2.1.getD r21.1.2.2.toNat (0, 0, 0)).2.2.toNat (0, 0, 0)).2.2.toNat (0, 0, 0)).2.2.toNat (0, 0, 0)).2.2.toNat (0, 0, 0)).2.2.toNat (0, 0, 0)).1, (e20.2.2.2.2.2.2.2.2.1.getD (e20.2.2.2.2.2.2.2.1.getD (e20.2.2.2.2.2.2.1.getD (e20.2.2.2.2.2.1.getD (e20.2.2.2.2.1.getD (e20.2.2.2.1.getD (e20.2.2.1.getD r21.1.2.2.toNat (0, 0, 0)).2.2.toNat (0, 0, 0)).2.2.toNat (0, 0, 0)).2.2.toNat (0, 0, 0)).2.2.toNat (0, 0, 0)).2.2.toNat (0, 0, 0)).2.2.toNat (0, 0, 0)).1, (e20.2.2.2.2.2.2.2.2.2.1.getD (e20.2.2.2.2.2.2.2.2.1.getD (e20.2.2.2.2.2.2.2.1.getD (e20.2.2.2.2.2.2.1.getD (e20.2.2.2.2.2.1.getD (e20.2.2.2.2.1.getD (e20.2.2.2.1.getD (e20.2.2.1.getD r21.1.2.2.toNat (0, 0, 0)).2.2.toNat (0, 0, 0)).2.2.toNat (0, 0, 0)).2.2.toNat (0, 0, 0)).2.2.toNat (0, 0, 0)).2.2.toNat (0, 0, 0)).2.2.toNat (0, 0, 0)).2.2.toNat (0, 0, 0)).1, (e20.2.2.2.2.2.2.2.2.2.2.1.getD (e20.2.2.2.2.2.2.2.2.2.1.getD (e20.2.2.2.2.2.2.2.2.1.getD (e20.2.2.2.2.2.2.2.1.getD (e20.2.2.2.2.2.2.1.getD (e20.2.2.2.2.2.1.getD (e20.2.2.2.2.1.getD (e20.2.2.2.1.getD (e20.2.2.1.getD r21.1.2.2.toNat (0, 0, 0)).2.2.toNat (0, 0, 0)).2.2.toNat (0, 0, 0)).2.2.toNat (0, 0, 0)).2.2.toNat (0, 0, 0)).2.2.toNat (0, 0, 0)).2.2.toNat (0, 0, 0)).2.2.toNat (0, 0, 0)).2.2.toNat (0, 0, 0)).1, (e20.2.2.2.2.2.2.2.2.2.2.2.1.getD (e20.2.2.2.2.2.2.2.2.2.2.1.getD (e20.2.2.2.2.2.2.2.2.2.1.getD (e20.2.2.2.2.2.2.2.2.1.getD (e20.2.2.2.2.2.2.2.1.getD (e20.2.2.2.2.2.2.1.getD (e20.2.2.2.2.2.1.getD (e20.2.2.2.2.1.getD (e20.2.2.2.1.getD (e20.2.2.1.getD r21.1.2.2.toNat (0, 0, 0)).2.2.toNat (0, 0, 0)).2.2.toNat (0, 0, 0)).2.2.toNat (0, 0, 0)).2.2.toNat (0, 0, 0)).2.2.toNat (0, 0, 0)).2.2.toNat (0, 0, 0)).2.2.toNat (0, 0, 0)).2.2.toNat (0, 0, 0)).2.2.toNat (0, 0, 0)).1], r21.1.2.1, true))
 else
 none
 else
 none
 else
 none
 else
 none
 else
 none
 else
 none
 else
 none
 else
 none
 else
 none
 else
 none
 else
 none
 else
 none
 else
 none
 else
 none
 else
 none
 else
 none
 else
 none
 else
 none
 else
 none
 else
 none)
 (none))
 (none))
 (none))
 (none))
 (none))
 (none))
 (none))
 (none))
 (none))
 (none))
 (none))
 (none))
 (none))
 (none))
 (none))
 (none))
 (none))
 (none))
 (none))
 (none))
 (none)
def f13n10 : (Int × (Int × Int) × Int × Int) × Int × Int × Int × Int × Int × Int × Int × Int × Int × Int → (Int × (Int × Int) × Int × Int) × (List Int) := fun (d, t0, t1, t2, t3, t4, t5, t6, t7, t8, t9) => (d, [t0, t1, t2, t3, t4, t5, t6, t7, t8, t9])
theorem h13n10 : ∀ d, evalK Try.prog (Pars [.own 3 zI, .d zI, .d .bool]) (knowM md5 Gn2K27) 60 20 13 (cvs [.d (.agg (.pair zI (.pair zP zP))), .d (.slice zI)] (f13n10 d)) (canonK [.own 3 zI, .d zI, .d .bool]) = p13n10 d := fun d => by kernel_rfl
noncomputable def s13n10 : (Int × (Int × Int) × Int × Int) × (List Int) → Option ((List Int) × Int × Bool) := fun
 | (d, [t0, t1, t2, t3, t4, t5, t6, t7, t8, t9]) => p13n10 (d, t0, t1, t2, t3, t4, t5, t6, t7, t8, t9)
 | _ => none
theorem q13n10 : ∀ x y, s13n10 x = some y → ∃ d, x = f13n10 d ∧ p13n10 d = some y := by
 intro x y h
 unfold s13n10 at h
 split at h
 ·exact ⟨_, rfl, h⟩
 ·cases h
theorem i13n10 : ItemOk Try.prog (.fn 13 [.d (.agg (.pair zI (.pair zP zP))), .d (.slice zI)] [.own 3 zI, .d zI, .d .bool] s13n10) := @item_fnP Try.prog md5 ext5 Gn2K27 noSpecial mixed Gn2K27_ok 13 60 20 [.d (.agg (.pair zI (.pair zP zP))), .d (.slice zI)] [.own 3 zI, .d zI, .d .bool] ((Int × (Int × Int) × Int × Int) × Int × Int × Int × Int × Int × Int × Int × Int × Int × Int) f13n10 p13n10 s13n10 h13n10 q13n10
end Go.Proofs.Ythabingkfmlbbaa
