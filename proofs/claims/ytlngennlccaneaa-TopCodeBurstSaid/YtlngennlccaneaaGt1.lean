/- Printed by gen.py: specifications of functions. -/
import Derived.Test.YtlngennlccaneaaGt0
set_option linter.unusedSimpArgs false
set_option maxRecDepth 100000
namespace Go.Proofs.Ytlngennlccaneaa
open Go.Ev
@[reducible] def T31_0 : Tmpl := ⟨87, [(3, .ref 3 0 0 0), (6, .ref 6 0 0 0)], [.val 1 zI, .val 2 (.slice zI), .val 20 (.slice zI), .val 21 zI, .val 22 zI, .arr 3 zI, .arrp 6 zI 15 (.pair zI (.pair zI (.pair zI (.pair zI (.pair zI (.pair zI (.pair zI (.pair zI (.pair zI (.pair zI (.pair zI zF)))))))))))], [], none⟩
@[reducible] def X31_0 : List (Ex × Tmpl) := [(.exit 0, ⟨87, [(3, .ref 3 0 0 0), (6, .ref 6 0 0 0)], [.val 1 zI, .val 2 (.slice zI), .arr 3 zI, .arrp 6 zI 15 (.pair zI (.pair zI (.pair zI (.pair zI (.pair zI (.pair zI (.pair zI (.pair zI (.pair zI (.pair zI (.pair zI zF)))))))))))], [], none⟩)]
noncomputable def step31_0 : Int × (List Int) × (List Int) × Int × Int × (List Int) × (Int × Int × Int × Int × Int × Int × Int × Int × Int × Int × Int × Int × Int × Int × Int) → Option ((Int × (List Int) × (List Int) × Int × Int × (List Int) × (Int × Int × Int × Int × Int × Int × Int × Int × Int × Int × Int × Int × Int × Int × Int)) ⊕ (Int × (List Int) × (List Int) × (Int × Int × Int × Int × Int × Int × Int × Int × Int × Int × Int × Int × Int × Int × Int))) := fun (half, erased, t20, t21, t22, w, t6) =>
 bif decide (t22 < t21) then
  bif inBounds t22 t20.length then
   bif (inBounds (t20.getD t22.toNat 0) 15) && (decide (w.length = 15)) then
    some (.inl (half, erased, t20, t21, wr (t22 + 1), w.set (t20.getD t22.toNat 0).toNat 0, t6))
   else
    none
  else
   none
 else
  some (.inr (half, erased, w, t6))
theorem one31_0 : oneLoop Try.prog 31 0 = true := by kernel_rfl
theorem lp31_0 : ItemOk Try.prog (.loop 31 0 T31_0 X31_0 (loopVal step31_0)) := item_loopM md5 ext5 (U := 9) (n := 11) noSpecial mixed Gt0K26_ok one31_0 (fun x => by kernel_rfl)
noncomputable def Gt1K1 : List Ev.Item := .loop 31 0 T31_0 X31_0 (loopVal step31_0) :: Gt0K26
theorem Gt1K1_ok : ∀ q ∈ Gt1K1, ItemOk Try.prog q := items_cons lp31_0 Gt0K26_ok
@[reducible] def T31_4 : Tmpl := ⟨87, [(3, .ref 3 0 0 0), (6, .ref 6 0 0 0)], [.pool 3, .val 2 (.slice zI), .ids 10 60 23, .val 11 zI, .val 12 zI, .own 13 52 3 zI, .own 31 31 3 zI, .val 32 zI, .val 33 zI, .val 38 (.slice zI), .val 39 zI, .val 40 zI, .arr 3 zI, .arrp 6 zI 15 (.pair zI (.pair zI (.pair zI (.pair zI (.pair zI (.pair zI (.pair zI (.pair zI (.pair zI (.pair zI (.pair zI zF)))))))))))], [], none⟩
@[reducible] def X31_4 : List (Ex × Tmpl) := [(.exit 4, ⟨87, [(3, .ref 3 0 0 0), (6, .ref 6 0 0 0)], [.pool 3, .val 2 (.slice zI), .ids 10 60 23, .val 12 zI, .own 13 52 3 zI, .own 31 31 3 zI, .val 32 zI, .val 33 zI, .arr 3 zI, .arrp 6 zI 15 (.pair zI (.pair zI (.pair zI (.pair zI (.pair zI (.pair zI (.pair zI (.pair zI (.pair zI (.pair zI (.pair zI zF)))))))))))], [], none⟩)]
noncomputable def step31_4 : (List (List Int)) × (List Int) × (List Nat) × Int × Int × (List Int) × (List Int) × Int × Int × (List Int) × Int × Int × (List Int) × (Int × Int × Int × Int × Int × Int × Int × Int × Int × Int × Int × Int × Int × Int × Int) → Option (((List (List Int)) × (List Int) × (List Nat) × Int × Int × (List Int) × (List Int) × Int × Int × (List Int) × Int × Int × (List Int) × (Int × Int × Int × Int × Int × Int × Int × Int × Int × Int × Int × Int × Int × Int × Int)) ⊕ ((List (List Int)) × (List Int) × (List Nat) × Int × (List Int) × (List Int) × Int × Int × (List Int) × (Int × Int × Int × Int × Int × Int × Int × Int × Int × Int × Int × Int × Int × Int × Int))) := fun (pool, erased, rows, j, s, r0, t31, t32, t33, t38, t39, t40, w, t6) =>
 bif decide (t40 < t39) then
  bif inBounds t40 t38.length then
   optE (s40 (wr ((wr (j + 1)) * (wr (14 - (t38.getD t40.toNat 0)))))) (fun r3 =>
    bif room 8 (r0.length + 1) then
     some (.inl (pool, erased, rows, j, s, r0 ++ [r3], t31, t32, t33, t38, t39, wr (t40 + 1), w, t6))
    else
     none)
    (none)
  else
   none
 else
  some (.inr (pool, erased, rows, s, r0, t31, t32, t33, w, t6))
theorem one31_4 : oneLoop Try.prog 31 4 = true := by kernel_rfl
theorem lp31_4 : ItemOk Try.prog (.loop 31 4 T31_4 X31_4 (loopVal step31_4)) := item_loopM md5 ext5 (U := 9) (n := 11) noSpecial mixed Gt1K1_ok one31_4 (fun x => by kernel_rfl)
noncomputable def Gt1K2 : List Ev.Item := .loop 31 4 T31_4 X31_4 (loopVal step31_4) :: Gt1K1
theorem Gt1K2_ok : ∀ q ∈ Gt1K2, ItemOk Try.prog q := items_cons lp31_4 Gt1K1_ok
@[reducible] def T31_2 : Tmpl := ⟨87, [(3, .ref 3 0 0 0), (6, .ref 6 0 0 0)], [.pool 3, .val 2 (.slice zI), .ids 10 60 23, .own 31 31 3 zI, .val 32 zI, .val 33 zI, .arr 3 zI, .arrp 6 zI 15 (.pair zI (.pair zI (.pair zI (.pair zI (.pair zI (.pair zI (.pair zI (.pair zI (.pair zI (.pair zI (.pair zI zF)))))))))))], [], none⟩
@[reducible] def X31_2 : List (Ex × Tmpl) := [(.exit 2, ⟨87, [(3, .ref 3 0 0 0), (6, .ref 6 0 0 0)], [.pool 3, .val 2 (.slice zI), .ids 10 60 23, .arr 3 zI, .arrp 6 zI 15 (.pair zI (.pair zI (.pair zI (.pair zI (.pair zI (.pair zI (.pair zI (.pair zI (.pair zI (.pair zI (.pair zI zF)))))))))))], [], none⟩)]
noncomputable def step31_2 : (List (List Int)) × (List Int) × (List Nat) × (List Int) × Int × Int × (List Int) × (Int × Int × Int × Int × Int × Int × Int × Int × Int × Int × Int × Int × Int × Int × Int) → Option (((List (List Int)) × (List Int) × (List Nat) × (List Int) × Int × Int × (List Int) × (Int × Int × Int × Int × Int × Int × Int × Int × Int × Int × Int × Int × Int × Int × Int)) ⊕ ((List (List Int)) × (List Int) × (List Nat) × (List Int) × (Int × Int × Int × Int × Int × Int × Int × Int × Int × Int × Int × Int × Int × Int × Int))) := fun (pool, erased, rows, t31, t32, t33, w, t6) =>
 bif decide (t33 < t32) then
  bif inBounds t33 t31.length then
   optE (loopVal step31_4 (pool, erased, rows, t33, t31.getD t33.toNat 0, [], t31, t32, t33, erased, (erased.length : Int), 0, w, t6)) (fun e3 =>
    bif room 8 (e3.2.2.2.2.1.length + 1) then
     bif room 24 (e3.2.2.1.length + 1) then
      some (.inl (e3.1 ++ [e3.2.2.2.2.1 ++ [e3.2.2.2.1]], e3.2.1, e3.2.2.1 ++ [e3.1.length], e3.2.2.2.2.2.1, e3.2.2.2.2.2.2.1, wr (e3.2.2.2.2.2.2.2.1 + 1), e3.2.2.2.2.2.2.2.2.1, e3.2.2.2.2.2.2.2.2.2))
     else
      none
    else
     none)
    (none)
  else
   none
 else
  some (.inr (pool, erased, rows, w, t6))
theorem one31_2 : oneLoop Try.prog 31 2 = true := by kernel_rfl
theorem lp31_2 : ItemOk Try.prog (.loop 31 2 T31_2 X31_2 (loopVal step31_2)) := item_loopM md5 ext5 (U := 9) (n := 11) noSpecial mixed Gt1K2_ok one31_2 (fun x => by kernel_rfl)
noncomputable def Gt1K3 : List Ev.Item := .loop 31 2 T31_2 X31_2 (loopVal step31_2) :: Gt1K2
theorem Gt1K3_ok : ∀ q ∈ Gt1K3, ItemOk Try.prog q := items_cons lp31_2 Gt1K2_ok
@[reducible] def T49_0 : Tmpl := ⟨19, [(1, .cloR 50 [.ref 1006]), (16006, .ref 1006 0 0 0), (32003, .ref 2003 0 0 0), (32006, .ref 2006 0 0 0)], [.pool 3, .cut 0 2060 1, .val 7 zI, .val 8 zI, .ids 16000 2060 23, .val 16001 zI, .val 16017 zI, .val 16018 zI, .val 32002 (.slice zI), .cells 1006 [.d zI], .arr 2003 zI, .arrp 2006 zI 15 (.pair zI (.pair zI (.pair zI (.pair zI (.pair zI (.pair zI (.pair zI (.pair zI (.pair zI (.pair zI (.pair zI zF)))))))))))], [146, 87], none⟩
@[reducible] def X49_0 : List (Ex × Tmpl) := [(.ret, ⟨19, [(16006, .ref 1006 0 0 0), (32003, .ref 2003 0 0 0), (32006, .ref 2006 0 0 0)], [.pool 3, .val 4 zI, .ids 16000 2060 23, .val 16001 zI, .val 16017 zI, .val 16018 zI, .val 32002 (.slice zI), .cells 1006 [.d zI], .arr 2003 zI, .arrp 2006 zI 15 (.pair zI (.pair zI (.pair zI (.pair zI (.pair zI (.pair zI (.pair zI (.pair zI (.pair zI (.pair zI (.pair zI zF)))))))))))], [146, 87], none⟩), (.exit 0, ⟨19, [(16006, .ref 1006 0 0 0), (32003, .ref 2003 0 0 0), (32006, .ref 2006 0 0 0)], [.pool 3, .ids 16000 2060 23, .val 16001 zI, .val 16017 zI, .val 16018 zI, .val 32002 (.slice zI), .cells 1006 [.d zI], .arr 2003 zI, .arrp 2006 zI 15 (.pair zI (.pair zI (.pair zI (.pair zI (.pair zI (.pair zI (.pair zI (.pair zI (.pair zI (.pair zI (.pair zI zF)))))))))))], [146, 87], none⟩)]
noncomputable def step49_0 : (List (List Int)) × (Nat × Nat) × Int × Int × (List Nat) × Int × Int × Int × (List Int) × Int × (List Int) × (Int × Int × Int × Int × Int × Int × Int × Int × Int × Int × Int × Int × Int × Int × Int) → Option (((List (List Int)) × (Nat × Nat) × Int × Int × (List Nat) × Int × Int × Int × (List Int) × Int × (List Int) × (Int × Int × Int × Int × Int × Int × Int × Int × Int × Int × Int × Int × Int × Int × Int)) ⊕ (((List (List Int)) × Int × (List Nat) × Int × Int × Int × (List Int) × Int × (List Int) × (Int × Int × Int × Int × Int × Int × Int × Int × Int × Int × Int × Int × Int × Int × Int)) ⊕ ((List (List Int)) × (List Nat) × Int × Int × Int × (List Int) × Int × (List Int) × (Int × Int × Int × Int × Int × Int × Int × Int × Int × Int × Int × Int × Int × Int × Int)))) := fun (pool, s, t7, t8, rows, unknowns, t16017, t16018, erased, f, w, t2006) =>
 bif decide (t8 < t7) then
  bif inBounds t8 s.2 then
   bif inBounds f (Ev.rowAt pool (rows.getD (s.1 + t8.toNat) 0)).length then
    bif ((Ev.rowAt pool (rows.getD (s.1 + t8.toNat) 0)).getD f.toNat 0) != 0 then
     some (.inr (.inl (pool, t8, rows, unknowns, t16017, t16018, erased, f, w, t2006)))
    else
     some (.inl (pool, s, t7, wr (t8 + 1), rows, unknowns, t16017, t16018, erased, f, w, t2006))
   else
    none
  else
   none
 else
  some (.inr (.inr (pool, rows, unknowns, t16017, t16018, erased, f, w, t2006)))
theorem one49_0 : oneLoop Try.prog 49 0 = true := by kernel_rfl
theorem lp49_0 : ItemOk Try.prog (.loop 49 0 T49_0 X49_0 (loopVal step49_0)) := item_loopM md5 ext5 (U := 9) (n := 9) noSpecial mixed Gt1K3_ok one49_0 (fun x => by kernel_rfl)
noncomputable def Gt1K4 : List Ev.Item := .loop 49 0 T49_0 X49_0 (loopVal step49_0) :: Gt1K3
theorem Gt1K4_ok : ∀ q ∈ Gt1K4, ItemOk Try.prog q := items_cons lp49_0 Gt1K3_ok
@[reducible] def T41_2 : Tmpl := ⟨146, [(6, .ref 6 0 0 0), (16003, .ref 1003 0 0 0), (16006, .ref 1006 0 0 0)], [.pool 3, .ids 0 1060 23, .val 1 zI, .val 8 zI, .val 17 zI, .val 18 zI, .val 61 zI, .val 62 zI, .val 16002 (.slice zI), .cells 6 [.d zI], .arr 1003 zI, .arrp 1006 zI 15 (.pair zI (.pair zI (.pair zI (.pair zI (.pair zI (.pair zI (.pair zI (.pair zI (.pair zI (.pair zI (.pair zI zF)))))))))))], [87], none⟩
@[reducible] def X41_2 : List (Ex × Tmpl) := [(.exit 2, ⟨146, [(6, .ref 6 0 0 0), (16003, .ref 1003 0 0 0), (16006, .ref 1006 0 0 0)], [.pool 3, .ids 0 1060 23, .val 1 zI, .val 17 zI, .val 18 zI, .val 16002 (.slice zI), .cells 6 [.d zI], .arr 1003 zI, .arrp 1006 zI 15 (.pair zI (.pair zI (.pair zI (.pair zI (.pair zI (.pair zI (.pair zI (.pair zI (.pair zI (.pair zI (.pair zI zF)))))))))))], [87], none⟩)]
noncomputable def step41_2 : (List (List Int)) × (List Nat) × Int × Int × Int × Int × Int × Int × (List Int) × Int × (List Int) × (Int × Int × Int × Int × Int × Int × Int × Int × Int × Int × Int × Int × Int × Int × Int) → Option (((List (List Int)) × (List Nat) × Int × Int × Int × Int × Int × Int × (List Int) × Int × (List Int) × (Int × Int × Int × Int × Int × Int × Int × Int × Int × Int × Int × Int × Int × Int × Int)) ⊕ ((List (List Int)) × (List Nat) × Int × Int × Int × (List Int) × Int × (List Int) × (Int × Int × Int × Int × Int × Int × Int × Int × Int × Int × Int × Int × Int × Int × Int))) := fun (pool, rows, unknowns, scale, t17, t18, t61, t62, erased, k, w, t1006) =>
 bif decide (t62 < t61) then
  bif inBounds k rows.length then
   bif inBounds k rows.length then
    bif inBounds t62 (Ev.rowAt pool (rows.getD k.toNat 0)).length then
     optE (s37 ((Ev.rowAt pool (rows.getD k.toNat 0)).getD t62.toNat 0, scale)) (fun r8 =>
      bif inBounds t62 (Ev.rowAt pool (rows.getD k.toNat 0)).length then
       some (.inl (pool.set (rows.getD k.toNat 0) ((Ev.rowAt pool (rows.getD k.toNat 0)).set t62.toNat r8), rows, unknowns, scale, t17, t18, t61, wr (t62 + 1), erased, k, w, t1006))
      else
       none)
      (none)
    else
     none
   else
    none
  else
   none
 else
  some (.inr (pool, rows, unknowns, t17, t18, erased, k, w, t1006))
theorem one41_2 : oneLoop Try.prog 41 2 = true := by kernel_rfl
theorem lp41_2 : ItemOk Try.prog (.loop 41 2 T41_2 X41_2 (loopVal step41_2)) := item_loopM md5 ext5 (U := 9) (n := 10) noSpecial mixed Gt1K4_ok one41_2 (fun x => by kernel_rfl)
noncomputable def Gt1K5 : List Ev.Item := .loop 41 2 T41_2 X41_2 (loopVal step41_2) :: Gt1K4
theorem Gt1K5_ok : ∀ q ∈ Gt1K5, ItemOk Try.prog q := items_cons lp41_2 Gt1K4_ok
@[reducible] def T41_6 : Tmpl := ⟨146, [(6, .ref 6 0 0 0), (81, .full 1060), (16003, .ref 1003 0 0 0), (16006, .ref 1006 0 0 0)], [.pool 3, .ids 0 1060 23, .val 1 zI, .row 11, .val 12 zI, .val 17 zI, .val 18 zI, .val 82 zI, .val 83 zI, .val 100 zI, .val 101 zI, .val 16002 (.slice zI), .cells 6 [.d zI], .arr 1003 zI, .arrp 1006 zI 15 (.pair zI (.pair zI (.pair zI (.pair zI (.pair zI (.pair zI (.pair zI (.pair zI (.pair zI (.pair zI (.pair zI zF)))))))))))], [87], none⟩
@[reducible] def X41_6 : List (Ex × Tmpl) := [(.exit 6, ⟨146, [(6, .ref 6 0 0 0), (81, .full 1060), (16003, .ref 1003 0 0 0), (16006, .ref 1006 0 0 0)], [.pool 3, .ids 0 1060 23, .val 1 zI, .val 17 zI, .val 18 zI, .val 82 zI, .val 83 zI, .val 16002 (.slice zI), .cells 6 [.d zI], .arr 1003 zI, .arrp 1006 zI 15 (.pair zI (.pair zI (.pair zI (.pair zI (.pair zI (.pair zI (.pair zI (.pair zI (.pair zI (.pair zI (.pair zI zF)))))))))))], [87], none⟩)]
noncomputable def step41_6 : (List (List Int)) × (List Nat) × Int × Nat × Int × Int × Int × Int × Int × Int × Int × (List Int) × Int × (List Int) × (Int × Int × Int × Int × Int × Int × Int × Int × Int × Int × Int × Int × Int × Int × Int) → Option (((List (List Int)) × (List Nat) × Int × Nat × Int × Int × Int × Int × Int × Int × Int × (List Int) × Int × (List Int) × (Int × Int × Int × Int × Int × Int × Int × Int × Int × Int × Int × Int × Int × Int × Int)) ⊕ ((List (List Int)) × (List Nat) × Int × Int × Int × Int × Int × (List Int) × Int × (List Int) × (Int × Int × Int × Int × Int × Int × Int × Int × Int × Int × Int × Int × Int × Int × Int))) := fun (pool, rows, unknowns, r0, by0, t17, t18, t82, t83, t100, t101, erased, k, w, t1006) =>
 bif decide (t101 < t100) then
  bif inBounds t101 (Ev.rowAt pool r0).length then
   bif inBounds k rows.length then
    bif inBounds t101 (Ev.rowAt pool (rows.getD k.toNat 0)).length then
     optE (s37 ((Ev.rowAt pool (rows.getD k.toNat 0)).getD t101.toNat 0, by0)) (fun r9 =>
      bif inBounds t101 (Ev.rowAt pool r0).length then
       some (.inl (pool.set r0 ((Ev.rowAt pool r0).set t101.toNat (xorI .i64 ((Ev.rowAt pool r0).getD t101.toNat 0) r9)), rows, unknowns, r0, by0, t17, t18, t82, t83, t100, wr (t101 + 1), erased, k, w, t1006))
      else
       none)
      (none)
    else
     none
   else
    none
  else
   none
 else
  some (.inr (pool, rows, unknowns, t17, t18, t82, t83, erased, k, w, t1006))
theorem one41_6 : oneLoop Try.prog 41 6 = true := by kernel_rfl
theorem lp41_6 : ItemOk Try.prog (.loop 41 6 T41_6 X41_6 (loopVal step41_6)) := item_loopM md5 ext5 (U := 9) (n := 10) noSpecial mixed Gt1K5_ok one41_6 (fun x => by kernel_rfl)
noncomputable def Gt1K6 : List Ev.Item := .loop 41 6 T41_6 X41_6 (loopVal step41_6) :: Gt1K5
theorem Gt1K6_ok : ∀ q ∈ Gt1K6, ItemOk Try.prog q := items_cons lp41_6 Gt1K5_ok
@[reducible] def T41_4 : Tmpl := ⟨146, [(6, .ref 6 0 0 0), (81, .full 1060), (16003, .ref 1003 0 0 0), (16006, .ref 1006 0 0 0)], [.pool 3, .ids 0 1060 23, .val 1 zI, .val 17 zI, .val 18 zI, .val 82 zI, .val 83 zI, .val 16002 (.slice zI), .cells 6 [.d zI], .arr 1003 zI, .arrp 1006 zI 15 (.pair zI (.pair zI (.pair zI (.pair zI (.pair zI (.pair zI (.pair zI (.pair zI (.pair zI (.pair zI (.pair zI zF)))))))))))], [87], none⟩
@[reducible] def X41_4 : List (Ex × Tmpl) := [(.exit 4, ⟨146, [(16003, .ref 1003 0 0 0), (16006, .ref 1006 0 0 0)], [.pool 3, .ids 0 1060 23, .val 1 zI, .val 17 zI, .val 18 zI, .val 16002 (.slice zI), .arr 1003 zI, .arrp 1006 zI 15 (.pair zI (.pair zI (.pair zI (.pair zI (.pair zI (.pair zI (.pair zI (.pair zI (.pair zI (.pair zI (.pair zI zF)))))))))))], [87], none⟩)]
noncomputable def step41_4 : (List (List Int)) × (List Nat) × Int × Int × Int × Int × Int × (List Int) × Int × (List Int) × (Int × Int × Int × Int × Int × Int × Int × Int × Int × Int × Int × Int × Int × Int × Int) → Option (((List (List Int)) × (List Nat) × Int × Int × Int × Int × Int × (List Int) × Int × (List Int) × (Int × Int × Int × Int × Int × Int × Int × Int × Int × Int × Int × Int × Int × Int × Int)) ⊕ ((List (List Int)) × (List Nat) × Int × Int × Int × (List Int) × (List Int) × (Int × Int × Int × Int × Int × Int × Int × Int × Int × Int × Int × Int × Int × Int × Int))) := fun (pool, rows, unknowns, t17, t18, t82, t83, erased, k, w, t1006) =>
 bif decide (t83 < t82) then
  bif inBounds t83 rows.length then
   bif inBounds k (Ev.rowAt pool (rows.getD t83.toNat 0)).length then
    bif t83 != k then
     bif ((Ev.rowAt pool (rows.getD t83.toNat 0)).getD k.toNat 0) != 0 then
      optE (loopVal step41_6 (pool, rows, unknowns, rows.getD t83.toNat 0, (Ev.rowAt pool (rows.getD t83.toNat 0)).getD k.toNat 0, t17, t18, t82, t83, ((Ev.rowAt pool (rows.getD t83.toNat 0)).length : Int), 0, erased, k, w, t1006)) (fun e9 =>
       some (.inl (e9.1, e9.2.1, e9.2.2.1, e9.2.2.2.1, e9.2.2.2.2.1, e9.2.2.2.2.2.1, wr (e9.2.2.2.2.2.2.1 + 1), e9.2.2.2.2.2.2.2.1, e9.2.2.2.2.2.2.2.2.1, e9.2.2.2.2.2.2.2.2.2.1, e9.2.2.2.2.2.2.2.2.2.2)))
       (none)
     else
      some (.inl (pool, rows, unknowns, t17, t18, t82, wr (t83 + 1), erased, k, w, t1006))
    else
     some (.inl (pool, rows, unknowns, t17, t18, t82, wr (t83 + 1), erased, k, w, t1006))
   else
    none
  else
   none
 else
  some (.inr (pool, rows, unknowns, t17, t18, erased, w, t1006))
theorem one41_4 : oneLoop Try.prog 41 4 = true := by kernel_rfl
theorem lp41_4 : ItemOk Try.prog (.loop 41 4 T41_4 X41_4 (loopVal step41_4)) := item_loopM md5 ext5 (U := 9) (n := 10) noSpecial mixed Gt1K6_ok one41_4 (fun x => by kernel_rfl)
noncomputable def Gt1K7 : List Ev.Item := .loop 41 4 T41_4 X41_4 (loopVal step41_4) :: Gt1K6
theorem Gt1K7_ok : ∀ q ∈ Gt1K7, ItemOk Try.prog q := items_cons lp41_4 Gt1K6_ok
@[reducible] def T41_0 : Tmpl := ⟨146, [(16003, .ref 1003 0 0 0), (16006, .ref 1006 0 0 0)], [.pool 3, .ids 0 1060 23, .val 1 zI, .val 17 zI, .val 18 zI, .val 16002 (.slice zI), .arr 1003 zI, .arrp 1006 zI 15 (.pair zI (.pair zI (.pair zI (.pair zI (.pair zI (.pair zI (.pair zI (.pair zI (.pair zI (.pair zI (.pair zI zF)))))))))))], [87], none⟩
@[reducible] def X41_0 : List (Ex × Tmpl) := [(.ret, ⟨146, [(16003, .ref 1003 0 0 0), (16006, .ref 1006 0 0 0)], [.val 4 (.slice zI), .val 5 .bool, .val 16002 (.slice zI), .arr 1003 zI, .arrp 1006 zI 15 (.pair zI (.pair zI (.pair zI (.pair zI (.pair zI (.pair zI (.pair zI (.pair zI (.pair zI (.pair zI (.pair zI zF)))))))))))], [87], none⟩), (.exit 0, ⟨146, [(16003, .ref 1003 0 0 0), (16006, .ref 1006 0 0 0)], [.pool 3, .ids 0 1060 23, .val 1 zI, .val 16002 (.slice zI), .arr 1003 zI, .arrp 1006 zI 15 (.pair zI (.pair zI (.pair zI (.pair zI (.pair zI (.pair zI (.pair zI (.pair zI (.pair zI (.pair zI (.pair zI zF)))))))))))], [87], none⟩)]
noncomputable def step41_0 : (List (List Int)) × (List Nat) × Int × Int × Int × (List Int) × (List Int) × (Int × Int × Int × Int × Int × Int × Int × Int × Int × Int × Int × Int × Int × Int × Int) → Option (((List (List Int)) × (List Nat) × Int × Int × Int × (List Int) × (List Int) × (Int × Int × Int × Int × Int × Int × Int × Int × Int × Int × Int × Int × Int × Int × Int)) ⊕ (((List Int) × Bool × (List Int) × (List Int) × (Int × Int × Int × Int × Int × Int × Int × Int × Int × Int × Int × Int × Int × Int × Int)) ⊕ ((List (List Int)) × (List Nat) × Int × (List Int) × (List Int) × (Int × Int × Int × Int × Int × Int × Int × Int × Int × Int × Int × Int × Int × Int × Int)))) := fun (pool, rows, unknowns, t17, t18, erased, w, t1006) =>
 bif decide (t18 < t17) then
  bif (decide (0 < rows.length)) && ((decide (0 ≤ (mn t18 (rows.length : Int)))) && ((decide ((mn t18 (rows.length : Int)) ≤ (rows.length : Int))) && (decide ((rows.length : Int) ≤ (rows.length : Int))))) then
   optE (loopVal step49_0 (pool, ((mn t18 (rows.length : Int)).toNat, (rows.length : Int).toNat - (mn t18 (rows.length : Int)).toNat), (((rows.length : Int).toNat - (mn t18 (rows.length : Int)).toNat : Nat) : Int), 0, rows, unknowns, t17, t18, erased, t18, w, t1006)) (fun e4 =>
    sumE e4 (fun e5 =>
     bif decide (e5.2.1 < 0) then
      some (.inr (.inl ([], false, e5.2.2.2.2.2.2.1, e5.2.2.2.2.2.2.2.2.1, e5.2.2.2.2.2.2.2.2.2)))
     else
      bif inBounds (wr (e5.2.2.2.2.2.2.2.1 + e5.2.1)) e5.2.2.1.length then
       bif inBounds e5.2.2.2.2.2.2.2.1 e5.2.2.1.length then
        bif inBounds e5.2.2.2.2.2.2.2.1 e5.2.2.1.length then
         bif inBounds (wr (e5.2.2.2.2.2.2.2.1 + e5.2.1)) (e5.2.2.1.set e5.2.2.2.2.2.2.2.1.toNat (e5.2.2.1.getD (wr (e5.2.2.2.2.2.2.2.1 + e5.2.1)).toNat 0)).length then
          bif inBounds e5.2.2.2.2.2.2.2.1 ((e5.2.2.1.set e5.2.2.2.2.2.2.2.1.toNat (e5.2.2.1.getD (wr (e5.2.2.2.2.2.2.2.1 + e5.2.1)).toNat 0)).set (wr (e5.2.2.2.2.2.2.2.1 + e5.2.1)).toNat (e5.2.2.1.getD e5.2.2.2.2.2.2.2.1.toNat 0)).length then
           bif inBounds e5.2.2.2.2.2.2.2.1 (Ev.rowAt e5.1 (((e5.2.2.1.set e5.2.2.2.2.2.2.2.1.toNat (e5.2.2.1.getD (wr (e5.2.2.2.2.2.2.2.1 + e5.2.1)).toNat 0)).set (wr (e5.2.2.2.2.2.2.2.1 + e5.2.1)).toNat (e5.2.2.1.getD e5.2.2.2.2.2.2.2.1.toNat 0)).getD e5.2.2.2.2.2.2.2.1.toNat 0)).length then
            optE (s47 ((Ev.rowAt e5.1 (((e5.2.2.1.set e5.2.2.2.2.2.2.2.1.toNat (e5.2.2.1.getD (wr (e5.2.2.2.2.2.2.2.1 + e5.2.1)).toNat 0)).set (wr (e5.2.2.2.2.2.2.2.1 + e5.2.1)).toNat (e5.2.2.1.getD e5.2.2.2.2.2.2.2.1.toNat 0)).getD e5.2.2.2.2.2.2.2.1.toNat 0)).getD e5.2.2.2.2.2.2.2.1.toNat 0)) (fun r7 =>
             bif inBounds e5.2.2.2.2.2.2.2.1 ((e5.2.2.1.set e5.2.2.2.2.2.2.2.1.toNat (e5.2.2.1.getD (wr (e5.2.2.2.2.2.2.2.1 + e5.2.1)).toNat 0)).set (wr (e5.2.2.2.2.2.2.2.1 + e5.2.1)).toNat (e5.2.2.1.getD e5.2.2.2.2.2.2.2.1.toNat 0)).length then
              optE (loopVal step41_2 (e5.1, (e5.2.2.1.set e5.2.2.2.2.2.2.2.1.toNat (e5.2.2.1.getD (wr (e5.2.2.2.2.2.2.2.1 + e5.2.1)).toNat 0)).set (wr (e5.2.2.2.2.2.2.2.1 + e5.2.1)).toNat (e5.2.2.1.getD e5.2.2.2.2.2.2.2.1.toNat 0), e5.2.2.2.1, r7, e5.2.2.2.2.1, e5.2.2.2.2.2.1, ((Ev.rowAt e5.1 (((e5.2.2.1.set e5.2.2.2.2.2.2.2.1.toNat (e5.2.2.1.getD (wr (e5.2.2.2.2.2.2.2.1 + e5.2.1)).toNat 0)).set (wr (e5.2.2.2.2.2.2.2.1 + e5.2.1)).toNat (e5.2.2.1.getD e5.2.2.2.2.2.2.2.1.toNat 0)).getD e5.2.2.2.2.2.2.2.1.toNat 0)).length : Int), 0, e5.2.2.2.2.2.2.1, e5.2.2.2.2.2.2.2.1, e5.2.2.2.2.2.2.2.2.1, e5.2.2.2.2.2.2.2.2.2)) (fun e8 =>
               optE (loopVal step41_4 (e8.1, e8.2.1, e8.2.2.1, e8.2.2.2.1, e8.2.2.2.2.1, (e8.2.1.length : Int), 0, e8.2.2.2.2.2.1, e8.2.2.2.2.2.2.1, e8.2.2.2.2.2.2.2.1, e8.2.2.2.2.2.2.2.2)) (fun e9 =>
                some (.inl (e9.1, e9.2.1, e9.2.2.1, e9.2.2.2.1, wr (e9.2.2.2.2.1 + 1), e9.2.2.2.2.2.1, e9.2.2.2.2.2.2.1, e9.2.2.2.2.2.2.2)))
                (none))
               (none)
             else
              none)
             (none)
           else
            none
          else
           none
         else
          none
        else
         none
       else
        none
      else
       none) (fun e6 =>
     some (.inr (.inl ([], false, e6.2.2.2.2.2.1, e6.2.2.2.2.2.2.2.1, e6.2.2.2.2.2.2.2.2)))))
    (none)
  else
   none
 else
  some (.inr (.inr (pool, rows, unknowns, erased, w, t1006)))
theorem one41_0 : oneLoop Try.prog 41 0 = true := by kernel_rfl
theorem lp41_0 : ItemOk Try.prog (.loop 41 0 T41_0 X41_0 (loopVal step41_0)) := item_loopM md5 ext5 (U := 9) (n := 10) noSpecial mixed Gt1K7_ok one41_0 (fun x => by kernel_rfl)
noncomputable def Gt1K8 : List Ev.Item := .loop 41 0 T41_0 X41_0 (loopVal step41_0) :: Gt1K7
theorem Gt1K8_ok : ∀ q ∈ Gt1K8, ItemOk Try.prog q := items_cons lp41_0 Gt1K7_ok
@[reducible] def T31_6 : Tmpl := ⟨87, [(3, .ref 3 0 0 0), (6, .ref 6 0 0 0)], [.val 16 (.slice zI), .val 72 (.slice zI), .val 73 zI, .val 74 zI, .arr 3 zI, .arrp 6 zI 15 (.pair zI (.pair zI (.pair zI (.pair zI (.pair zI (.pair zI (.pair zI (.pair zI (.pair zI (.pair zI (.pair zI zF)))))))))))], [], none⟩
@[reducible] def X31_6 : List (Ex × Tmpl) := [(.exit 6, ⟨87, [(3, .ref 3 0 0 0), (6, .ref 6 0 0 0)], [.arr 3 zI, .arrp 6 zI 15 (.pair zI (.pair zI (.pair zI (.pair zI (.pair zI (.pair zI (.pair zI (.pair zI (.pair zI (.pair zI (.pair zI zF)))))))))))], [], none⟩)]
noncomputable def step31_6 : (List Int) × (List Int) × Int × Int × (List Int) × (Int × Int × Int × Int × Int × Int × Int × Int × Int × Int × Int × Int × Int × Int × Int) → Option (((List Int) × (List Int) × Int × Int × (List Int) × (Int × Int × Int × Int × Int × Int × Int × Int × Int × Int × Int × Int × Int × Int × Int)) ⊕ ((List Int) × (Int × Int × Int × Int × Int × Int × Int × Int × Int × Int × Int × Int × Int × Int × Int))) := fun (values, t72, t73, t74, w, t6) =>
 bif decide (t74 < t73) then
  bif inBounds t74 t72.length then
   bif inBounds t74 values.length then
    bif (inBounds (t72.getD t74.toNat 0) 15) && (decide (w.length = 15)) then
     some (.inl (values, t72, t73, wr (t74 + 1), w.set (t72.getD t74.toNat 0).toNat (values.getD t74.toNat 0), t6))
    else
     none
   else
    none
  else
   none
 else
  some (.inr (w, t6))
theorem one31_6 : oneLoop Try.prog 31 6 = true := by kernel_rfl
theorem lp31_6 : ItemOk Try.prog (.loop 31 6 T31_6 X31_6 (loopVal step31_6)) := item_loopM md5 ext5 (U := 9) (n := 11) noSpecial mixed Gt1K8_ok one31_6 (fun x => by kernel_rfl)
noncomputable def Gt1K9 : List Ev.Item := .loop 31 6 T31_6 X31_6 (loopVal step31_6) :: Gt1K8
theorem Gt1K9_ok : ∀ q ∈ Gt1K9, ItemOk Try.prog q := items_cons lp31_6 Gt1K8_ok
@[reducible] def T41_8 : Tmpl := ⟨146, [(16003, .ref 1003 0 0 0), (16006, .ref 1006 0 0 0)], [.pool 3, .val 1 zI, .own 14 138 3 zI, .ids 122 1060 23, .val 123 zI, .val 124 zI, .val 16002 (.slice zI), .arr 1003 zI, .arrp 1006 zI 15 (.pair zI (.pair zI (.pair zI (.pair zI (.pair zI (.pair zI (.pair zI (.pair zI (.pair zI (.pair zI (.pair zI zF)))))))))))], [87], none⟩
@[reducible] def X41_8 : List (Ex × Tmpl) := [(.ret, ⟨146, [(16003, .ref 1003 0 0 0), (16006, .ref 1006 0 0 0)], [.val 4 (.slice zI), .val 5 .bool, .val 16002 (.slice zI), .arr 1003 zI, .arrp 1006 zI 15 (.pair zI (.pair zI (.pair zI (.pair zI (.pair zI (.pair zI (.pair zI (.pair zI (.pair zI (.pair zI (.pair zI zF)))))))))))], [87], none⟩), (.exit 8, ⟨146, [(16003, .ref 1003 0 0 0), (16006, .ref 1006 0 0 0)], [.own 14 138 3 zI, .val 16002 (.slice zI), .arr 1003 zI, .arrp 1006 zI 15 (.pair zI (.pair zI (.pair zI (.pair zI (.pair zI (.pair zI (.pair zI (.pair zI (.pair zI (.pair zI (.pair zI zF)))))))))))], [87], none⟩)]
noncomputable def step41_8 : (List (List Int)) × Int × (List Int) × (List Nat) × Int × Int × (List Int) × (List Int) × (Int × Int × Int × Int × Int × Int × Int × Int × Int × Int × Int × Int × Int × Int × Int) → Option (((List (List Int)) × Int × (List Int) × (List Nat) × Int × Int × (List Int) × (List Int) × (Int × Int × Int × Int × Int × Int × Int × Int × Int × Int × Int × Int × Int × Int × Int)) ⊕ (((List Int) × Bool × (List Int) × (List Int) × (Int × Int × Int × Int × Int × Int × Int × Int × Int × Int × Int × Int × Int × Int × Int)) ⊕ ((List Int) × (List Int) × (List Int) × (Int × Int × Int × Int × Int × Int × Int × Int × Int × Int × Int × Int × Int × Int × Int)))) := fun (pool, unknowns, out, ids, t123, t124, erased, w, t1006) =>
 bif decide (t124 < t123) then
  bif inBounds t124 ids.length then
   bif decide (t124 < unknowns) then
    bif inBounds unknowns (Ev.rowAt pool (ids.getD t124.toNat 0)).length then
     bif room 8 (out.length + 1) then
      some (.inl (pool, unknowns, out ++ [(Ev.rowAt pool (ids.getD t124.toNat 0)).getD unknowns.toNat 0], ids, t123, wr (t124 + 1), erased, w, t1006))
     else
      none
    else
     none
   else
    bif inBounds unknowns (Ev.rowAt pool (ids.getD t124.toNat 0)).length then
     bif ((Ev.rowAt pool (ids.getD t124.toNat 0)).getD unknowns.toNat 0) != 0 then
      some (.inr (.inl ([], false, erased, w, t1006)))
     else
      some (.inl (pool, unknowns, out, ids, t123, wr (t124 + 1), erased, w, t1006))
    else
     none
  else
   none
 else
  some (.inr (.inr (out, erased, w, t1006)))
theorem one41_8 : oneLoop Try.prog 41 8 = true := by kernel_rfl
theorem lp41_8 : ItemOk Try.prog (.loop 41 8 T41_8 X41_8 (loopVal step41_8)) := item_loopM md5 ext5 (U := 9) (n := 10) noSpecial mixed Gt1K9_ok one41_8 (fun x => by kernel_rfl)
noncomputable def Gt1K10 : List Ev.Item := .loop 41 8 T41_8 X41_8 (loopVal step41_8) :: Gt1K9
theorem Gt1K10_ok : ∀ q ∈ Gt1K10, ItemOk Try.prog q := items_cons lp41_8 Gt1K9_ok
@[reducible] def T31_6a : Tmpl := ⟨87, [(3, .ref 3 0 0 0), (6, .ref 6 0 0 0)], [.own 16 900 3 zI, .val 72 (.slice zI), .val 73 zI, .val 74 zI, .arr 3 zI, .arrp 6 zI 15 (.pair zI (.pair zI (.pair zI (.pair zI (.pair zI (.pair zI (.pair zI (.pair zI (.pair zI (.pair zI (.pair zI zF)))))))))))], [], none⟩
@[reducible] def X31_6a : List (Ex × Tmpl) := [(.exit 6, ⟨87, [(3, .ref 3 0 0 0), (6, .ref 6 0 0 0)], [.arr 3 zI, .arrp 6 zI 15 (.pair zI (.pair zI (.pair zI (.pair zI (.pair zI (.pair zI (.pair zI (.pair zI (.pair zI (.pair zI (.pair zI zF)))))))))))], [], none⟩)]
noncomputable def step31_6a : (List Int) × (List Int) × Int × Int × (List Int) × (Int × Int × Int × Int × Int × Int × Int × Int × Int × Int × Int × Int × Int × Int × Int) → Option (((List Int) × (List Int) × Int × Int × (List Int) × (Int × Int × Int × Int × Int × Int × Int × Int × Int × Int × Int × Int × Int × Int × Int)) ⊕ ((List Int) × (Int × Int × Int × Int × Int × Int × Int × Int × Int × Int × Int × Int × Int × Int × Int))) := fun (values, t72, t73, t74, w, t6) =>
 bif decide (t74 < t73) then
  bif inBounds t74 t72.length then
   bif inBounds t74 values.length then
    bif (inBounds (t72.getD t74.toNat 0) 15) && (decide (w.length = 15)) then
     some (.inl (values, t72, t73, wr (t74 + 1), w.set (t72.getD t74.toNat 0).toNat (values.getD t74.toNat 0), t6))
    else
     none
   else
    none
  else
   none
 else
  some (.inr (w, t6))
theorem one31_6a : oneLoop Try.prog 31 6 = true := by kernel_rfl
theorem lp31_6a : ItemOk Try.prog (.loop 31 6 T31_6a X31_6a (loopVal step31_6a)) := item_loopM md5 ext5 (U := 9) (n := 11) noSpecial mixed Gt1K10_ok one31_6a (fun x => by kernel_rfl)
noncomputable def Gt1K11 : List Ev.Item := .loop 31 6 T31_6a X31_6a (loopVal step31_6a) :: Gt1K10
theorem Gt1K11_ok : ∀ q ∈ Gt1K11, ItemOk Try.prog q := items_cons lp31_6a Gt1K10_ok
noncomputable def s31 : (Int × Int × Int × Int × Int × Int × Int × Int × Int × Int × Int × Int × Int × Int × Int) × Int × (List Int) → Option ((Int × Int × Int × Int × Int × Int × Int × Int × Int × Int × Int × Int × Int × Int × Int) × Bool) := fun (w, half, erased) =>
 optE (loopVal step31_0 (half, erased, erased, (erased.length : Int), 0, [w.1, w.2.1, w.2.2.1, w.2.2.2.1, w.2.2.2.2.1, w.2.2.2.2.2.1, w.2.2.2.2.2.2.1, w.2.2.2.2.2.2.2.1, w.2.2.2.2.2.2.2.2.1, w.2.2.2.2.2.2.2.2.2.1, w.2.2.2.2.2.2.2.2.2.2.1, w.2.2.2.2.2.2.2.2.2.2.2.1, w.2.2.2.2.2.2.2.2.2.2.2.2.1, w.2.2.2.2.2.2.2.2.2.2.2.2.2.1, w.2.2.2.2.2.2.2.2.2.2.2.2.2.2], (0, 0, 0, 0, 0, 0, 0, 0, 0, 0, 0, 0, 0, 0, 0))) (fun e1 =>
  bif decide (e1.2.2.1.length * 1 = 15) then
   optE (s38 (((padV 15 zI e1.2.2.1).getD 0 0, (padV 15 zI e1.2.2.1).getD 1 0, (padV 15 zI e1.2.2.1).getD 2 0, (padV 15 zI e1.2.2.1).getD 3 0, (padV 15 zI e1.2.2.1).getD 4 0, (padV 15 zI e1.2.2.1).getD 5 0, (padV 15 zI e1.2.2.1).getD 6 0, (padV 15 zI e1.2.2.1).getD 7 0, (padV 15 zI e1.2.2.1).getD 8 0, (padV 15 zI e1.2.2.1).getD 9 0, (padV 15 zI e1.2.2.1).getD 10 0, (padV 15 zI e1.2.2.1).getD 11 0, (padV 15 zI e1.2.2.1).getD 12 0, (padV 15 zI e1.2.2.1).getD 13 0, (padV 15 zI e1.2.2.1).getD 14 0), e1.1)) (fun r2 =>
    optE (loopVal step31_2 ([], e1.2.1, [], r2, (r2.length : Int), 0, e1.2.2.1, e1.2.2.2)) (fun e3 =>
     optE (loopVal step41_0 (e3.1, e3.2.2.1, (e3.2.1.length : Int), (e3.2.1.length : Int), 0, e3.2.1, e3.2.2.2.1, e3.2.2.2.2)) (fun e4 =>
      sumE e4 (fun e5 =>
       bif !e5.2.1 then
        some (((0, 0, 0, 0, 0, 0, 0, 0, 0, 0, 0, 0, 0, 0, 0), false))
       else
        optE (loopVal step31_6 (e5.1, e5.2.2.1, (e5.2.2.1.length : Int), 0, e5.2.2.2.1, e5.2.2.2.2)) (fun e7 =>
         bif decide (e7.1.length * 1 = 15) then
          some ((((padV 15 zI e7.1).getD 0 0, (padV 15 zI e7.1).getD 1 0, (padV 15 zI e7.1).getD 2 0, (padV 15 zI e7.1).getD 3 0, (padV 15 zI e7.1).getD 4 0, (padV 15 zI e7.1).getD 5 0, (padV 15 zI e7.1).getD 6 0, (padV 15 zI e7.1).getD 7 0, (padV 15 zI e7.1).getD 8 0, (padV 15 zI e7.1).getD 9 0, (padV 15 zI e7.1).getD 10 0, (padV 15 zI e7.1).getD 11 0, (padV 15 zI e7.1).getD 12 0, (padV 15 zI e7.1).getD 13 0, (padV 15 zI e7.1).getD 14 0), true))
         else
          none)
         (none)) (fun e6 =>
       optE (loopVal step41_8 (e6.1, e6.2.2.1, [], e6.2.1, (e6.2.1.length : Int), 0, e6.2.2.2.1, e6.2.2.2.2.1, e6.2.2.2.2.2)) (fun e8 =>
        sumE e8 (fun e9 =>
         bif !e9.2.1 then
          some (((0, 0, 0, 0, 0, 0, 0, 0, 0, 0, 0, 0, 0, 0, 0), false))
         else
          optE (loopVal step31_6 (e9.1, e9.2.2.1, (e9.2.2.1.length : Int), 0, e9.2.2.2.1, e9.2.2.2.2)) (fun e11 =>
           bif decide (e11.1.length * 1 = 15) then
            some ((((padV 15 zI e11.1).getD 0 0, (padV 15 zI e11.1).getD 1 0, (padV 15 zI e11.1).getD 2 0, (padV 15 zI e11.1).getD 3 0, (padV 15 zI e11.1).getD 4 0, (padV 15 zI e11.1).getD 5 0, (padV 15 zI e11.1).getD 6 0, (padV 15 zI e11.1).getD 7 0, (padV 15 zI e11.1).getD 8 0, (padV 15 zI e11.1).getD 9 0, (padV 15 zI e11.1).getD 10 0, (padV 15 zI e11.1).getD 11 0, (padV 15 zI e11.1).getD 12 0, (padV 15 zI e11.1).getD 13 0, (padV 15 zI e11.1).getD 14 0), true))
           else
            none)
           (none)) (fun e10 =>
         optE (loopVal step31_6a (e10.1, e10.2.1, (e10.2.1.length : Int), 0, e10.2.2.1, e10.2.2.2)) (fun e12 =>
          bif decide (e12.1.length * 1 = 15) then
           some ((((padV 15 zI e12.1).getD 0 0, (padV 15 zI e12.1).getD 1 0, (padV 15 zI e12.1).getD 2 0, (padV 15 zI e12.1).getD 3 0, (padV 15 zI e12.1).getD 4 0, (padV 15 zI e12.1).getD 5 0, (padV 15 zI e12.1).getD 6 0, (padV 15 zI e12.1).getD 7 0, (padV 15 zI e12.1).getD 8 0, (padV 15 zI e12.1).getD 9 0, (padV 15 zI e12.1).getD 10 0, (padV 15 zI e12.1).getD 11 0, (padV 15 zI e12.1).getD 12 0, (padV 15 zI e12.1).getD 13 0, (padV 15 zI e12.1).getD 14 0), true))
          else
           none)
          (none)))
        (none)))
      (none))
     (none))
    (none)
  else
   none)
  (none)
theorem i31 : ItemOk Try.prog (.fn 31 [.d (.agg (.pair zI (.pair zI (.pair zI (.pair zI (.pair zI (.pair zI (.pair zI (.pair zI (.pair zI (.pair zI (.pair zI zF)))))))))))), .d zI, .d (.slice zI)] [.d (.agg (.pair zI (.pair zI (.pair zI (.pair zI (.pair zI (.pair zI (.pair zI (.pair zI (.pair zI (.pair zI (.pair zI zF)))))))))))), .d .bool] s31) := item_fnM md5 ext5 (U := 9) (n := 12) noSpecial mixed Gt1K11_ok (fun x => by kernel_rfl)
noncomputable def Gt1K12 : List Ev.Item := .fn 31 [.d (.agg (.pair zI (.pair zI (.pair zI (.pair zI (.pair zI (.pair zI (.pair zI (.pair zI (.pair zI (.pair zI (.pair zI zF)))))))))))), .d zI, .d (.slice zI)] [.d (.agg (.pair zI (.pair zI (.pair zI (.pair zI (.pair zI (.pair zI (.pair zI (.pair zI (.pair zI (.pair zI (.pair zI zF)))))))))))), .d .bool] s31 :: Gt1K11
theorem Gt1K12_ok : ∀ q ∈ Gt1K12, ItemOk Try.prog q := items_cons i31 Gt1K11_ok
end Go.Proofs.Ytlngennlccaneaa
