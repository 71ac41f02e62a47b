/- Printed by gen.py: specifications of functions. -/
import Derived.Test.YtlngennlccaneaaGt1
set_option linter.unusedSimpArgs false
set_option maxRecDepth 100000
namespace Go.Proofs.Ytlngennlccaneaa
open Go.Ev
@[reducible] def T39_2 : Tmpl := ⟨96, [], [.pool 3, .val 0 (.slice zI), .val 1 zI, .ids 6 54 23, .val 7 zI, .own 8 42 3 zI, .val 9 zI], [], none⟩
@[reducible] def X39_2 : List (Ex × Tmpl) := [(.exit 2, ⟨96, [], [.pool 3, .val 0 (.slice zI), .val 1 zI, .ids 6 54 23, .val 7 zI, .own 8 42 3 zI], [], none⟩)]
noncomputable def step39_2 : (List (List Int)) × (List Int) × Int × (List Nat) × Int × (List Int) × Int → Option (((List (List Int)) × (List Int) × Int × (List Nat) × Int × (List Int) × Int) ⊕ ((List (List Int)) × (List Int) × Int × (List Nat) × Int × (List Int))) := fun (pool, s, errors, rows, j, r0, k) =>
 bif decide (k ≤ errors) then
  bif inBounds (wr ((wr (j + errors)) - k)) s.length then
   bif room 8 (r0.length + 1) then
    some (.inl (pool, s, errors, rows, j, r0 ++ [s.getD (wr ((wr (j + errors)) - k)).toNat 0], wr (k + 1)))
   else
    none
  else
   none
 else
  some (.inr (pool, s, errors, rows, j, r0))
theorem one39_2 : oneLoop Try.prog 39 2 = true := by kernel_rfl
theorem lp39_2 : ItemOk Try.prog (.loop 39 2 T39_2 X39_2 (loopVal step39_2)) := item_loopM md5 ext5 (U := 9) (n := 11) noSpecial mixed Gt1K12_ok one39_2 (fun x => by kernel_rfl)
noncomputable def Gt2K1 : List Ev.Item := .loop 39 2 T39_2 X39_2 (loopVal step39_2) :: Gt1K12
theorem Gt2K1_ok : ∀ q ∈ Gt2K1, ItemOk Try.prog q := items_cons lp39_2 Gt1K12_ok
@[reducible] def T39_0 : Tmpl := ⟨96, [], [.pool 3, .val 0 (.slice zI), .val 1 zI, .ids 6 54 23, .val 7 zI], [], none⟩
@[reducible] def X39_0 : List (Ex × Tmpl) := [(.exit 0, ⟨96, [], [.pool 3, .val 1 zI, .ids 6 54 23], [], none⟩)]
noncomputable def step39_0 : (List (List Int)) × (List Int) × Int × (List Nat) × Int → Option (((List (List Int)) × (List Int) × Int × (List Nat) × Int) ⊕ ((List (List Int)) × Int × (List Nat))) := fun (pool, s, errors, rows, j) =>
 bif decide ((wr (j + errors)) < (s.length : Int)) then
  optE (loopVal step39_2 (pool, s, errors, rows, j, [], 1)) (fun e1 =>
   bif inBounds (wr (e1.2.2.2.2.1 + e1.2.2.1)) e1.2.1.length then
    bif room 8 (e1.2.2.2.2.2.length + 1) then
     bif room 24 (e1.2.2.2.1.length + 1) then
      some (.inl (e1.1 ++ [e1.2.2.2.2.2 ++ [e1.2.1.getD (wr (e1.2.2.2.2.1 + e1.2.2.1)).toNat 0]], e1.2.1, e1.2.2.1, e1.2.2.2.1 ++ [e1.1.length], wr (e1.2.2.2.2.1 + 1)))
     else
      none
    else
     none
   else
    none)
   (none)
 else
  some (.inr (pool, errors, rows))
theorem one39_0 : oneLoop Try.prog 39 0 = true := by kernel_rfl
theorem lp39_0 : ItemOk Try.prog (.loop 39 0 T39_0 X39_0 (loopVal step39_0)) := item_loopM md5 ext5 (U := 9) (n := 11) noSpecial mixed Gt2K1_ok one39_0 (fun x => by kernel_rfl)
noncomputable def Gt2K2 : List Ev.Item := .loop 39 0 T39_0 X39_0 (loopVal step39_0) :: Gt2K1
theorem Gt2K2_ok : ∀ q ∈ Gt2K2, ItemOk Try.prog q := items_cons lp39_0 Gt2K1_ok
@[reducible] def T49_0a : Tmpl := ⟨19, [(1, .cloR 50 [.ref 1006]), (16006, .ref 1006 0 0 0)], [.pool 3, .cut 0 2054 1, .val 7 zI, .val 8 zI, .ids 16000 2054 23, .val 16001 zI, .val 16017 zI, .val 16018 zI, .val 32001 zI, .cells 1006 [.d zI]], [146, 96], none⟩
@[reducible] def X49_0a : List (Ex × Tmpl) := [(.ret, ⟨19, [(16006, .ref 1006 0 0 0)], [.pool 3, .val 4 zI, .ids 16000 2054 23, .val 16001 zI, .val 16017 zI, .val 16018 zI, .val 32001 zI, .cells 1006 [.d zI]], [146, 96], none⟩), (.exit 0, ⟨19, [(16006, .ref 1006 0 0 0)], [.pool 3, .ids 16000 2054 23, .val 16001 zI, .val 16017 zI, .val 16018 zI, .val 32001 zI, .cells 1006 [.d zI]], [146, 96], none⟩)]
noncomputable def step49_0a : (List (List Int)) × (Nat × Nat) × Int × Int × (List Nat) × Int × Int × Int × Int × Int → Option (((List (List Int)) × (Nat × Nat) × Int × Int × (List Nat) × Int × Int × Int × Int × Int) ⊕ (((List (List Int)) × Int × (List Nat) × Int × Int × Int × Int × Int) ⊕ ((List (List Int)) × (List Nat) × Int × Int × Int × Int × Int))) := fun (pool, s, t7, t8, rows, unknowns, t16017, t16018, errors, f) =>
 bif decide (t8 < t7) then
  bif inBounds t8 s.2 then
   bif inBounds f (Ev.rowAt pool (rows.getD (s.1 + t8.toNat) 0)).length then
    bif ((Ev.rowAt pool (rows.getD (s.1 + t8.toNat) 0)).getD f.toNat 0) != 0 then
     some (.inr (.inl (pool, t8, rows, unknowns, t16017, t16018, errors, f)))
    else
     some (.inl (pool, s, t7, wr (t8 + 1), rows, unknowns, t16017, t16018, errors, f))
   else
    none
  else
   none
 else
  some (.inr (.inr (pool, rows, unknowns, t16017, t16018, errors, f)))
theorem one49_0a : oneLoop Try.prog 49 0 = true := by kernel_rfl
theorem lp49_0a : ItemOk Try.prog (.loop 49 0 T49_0a X49_0a (loopVal step49_0a)) := item_loopM md5 ext5 (U := 9) (n := 9) noSpecial mixed Gt2K2_ok one49_0a (fun x => by kernel_rfl)
noncomputable def Gt2K3 : List Ev.Item := .loop 49 0 T49_0a X49_0a (loopVal step49_0a) :: Gt2K2
theorem Gt2K3_ok : ∀ q ∈ Gt2K3, ItemOk Try.prog q := items_cons lp49_0a Gt2K2_ok
@[reducible] def T41_2a : Tmpl := ⟨146, [(6, .ref 6 0 0 0)], [.pool 3, .ids 0 1054 23, .val 1 zI, .val 8 zI, .val 17 zI, .val 18 zI, .val 61 zI, .val 62 zI, .val 16001 zI, .cells 6 [.d zI]], [96], none⟩
@[reducible] def X41_2a : List (Ex × Tmpl) := [(.exit 2, ⟨146, [(6, .ref 6 0 0 0)], [.pool 3, .ids 0 1054 23, .val 1 zI, .val 17 zI, .val 18 zI, .val 16001 zI, .cells 6 [.d zI]], [96], none⟩)]
noncomputable def step41_2a : (List (List Int)) × (List Nat) × Int × Int × Int × Int × Int × Int × Int × Int → Option (((List (List Int)) × (List Nat) × Int × Int × Int × Int × Int × Int × Int × Int) ⊕ ((List (List Int)) × (List Nat) × Int × Int × Int × Int × Int)) := fun (pool, rows, unknowns, scale, t17, t18, t61, t62, errors, k) =>
 bif decide (t62 < t61) then
  bif inBounds k rows.length then
   bif inBounds k rows.length then
    bif inBounds t62 (Ev.rowAt pool (rows.getD k.toNat 0)).length then
     optE (s37 ((Ev.rowAt pool (rows.getD k.toNat 0)).getD t62.toNat 0, scale)) (fun r6 =>
      bif inBounds t62 (Ev.rowAt pool (rows.getD k.toNat 0)).length then
       some (.inl (pool.set (rows.getD k.toNat 0) ((Ev.rowAt pool (rows.getD k.toNat 0)).set t62.toNat r6), rows, unknowns, scale, t17, t18, t61, wr (t62 + 1), errors, k))
      else
       none)
      (none)
    else
     none
   else
    none
  else
   none
 else
  some (.inr (pool, rows, unknowns, t17, t18, errors, k))
theorem one41_2a : oneLoop Try.prog 41 2 = true := by kernel_rfl
theorem lp41_2a : ItemOk Try.prog (.loop 41 2 T41_2a X41_2a (loopVal step41_2a)) := item_loopM md5 ext5 (U := 9) (n := 10) noSpecial mixed Gt2K3_ok one41_2a (fun x => by kernel_rfl)
noncomputable def Gt2K4 : List Ev.Item := .loop 41 2 T41_2a X41_2a (loopVal step41_2a) :: Gt2K3
theorem Gt2K4_ok : ∀ q ∈ Gt2K4, ItemOk Try.prog q := items_cons lp41_2a Gt2K3_ok
@[reducible] def T41_6a : Tmpl := ⟨146, [(6, .ref 6 0 0 0), (81, .full 1054)], [.pool 3, .ids 0 1054 23, .val 1 zI, .row 11, .val 12 zI, .val 17 zI, .val 18 zI, .val 82 zI, .val 83 zI, .val 100 zI, .val 101 zI, .val 16001 zI, .cells 6 [.d zI]], [96], none⟩
@[reducible] def X41_6a : List (Ex × Tmpl) := [(.exit 6, ⟨146, [(6, .ref 6 0 0 0), (81, .full 1054)], [.pool 3, .ids 0 1054 23, .val 1 zI, .val 17 zI, .val 18 zI, .val 82 zI, .val 83 zI, .val 16001 zI, .cells 6 [.d zI]], [96], none⟩)]
noncomputable def step41_6a : (List (List Int)) × (List Nat) × Int × Nat × Int × Int × Int × Int × Int × Int × Int × Int × Int → Option (((List (List Int)) × (List Nat) × Int × Nat × Int × Int × Int × Int × Int × Int × Int × Int × Int) ⊕ ((List (List Int)) × (List Nat) × Int × Int × Int × Int × Int × Int × Int)) := fun (pool, rows, unknowns, r0, by0, t17, t18, t82, t83, t100, t101, errors, k) =>
 bif decide (t101 < t100) then
  bif inBounds t101 (Ev.rowAt pool r0).length then
   bif inBounds k rows.length then
    bif inBounds t101 (Ev.rowAt pool (rows.getD k.toNat 0)).length then
     optE (s37 ((Ev.rowAt pool (rows.getD k.toNat 0)).getD t101.toNat 0, by0)) (fun r7 =>
      bif inBounds t101 (Ev.rowAt pool r0).length then
       some (.inl (pool.set r0 ((Ev.rowAt pool r0).set t101.toNat (xorI .i64 ((Ev.rowAt pool r0).getD t101.toNat 0) r7)), rows, unknowns, r0, by0, t17, t18, t82, t83, t100, wr (t101 + 1), errors, k))
      else
       none)
      (none)
    else
     none
   else
    none
  else
   none
 else
  some (.inr (pool, rows, unknowns, t17, t18, t82, t83, errors, k))
theorem one41_6a : oneLoop Try.prog 41 6 = true := by kernel_rfl
theorem lp41_6a : ItemOk Try.prog (.loop 41 6 T41_6a X41_6a (loopVal step41_6a)) := item_loopM md5 ext5 (U := 9) (n := 10) noSpecial mixed Gt2K4_ok one41_6a (fun x => by kernel_rfl)
noncomputable def Gt2K5 : List Ev.Item := .loop 41 6 T41_6a X41_6a (loopVal step41_6a) :: Gt2K4
theorem Gt2K5_ok : ∀ q ∈ Gt2K5, ItemOk Try.prog q := items_cons lp41_6a Gt2K4_ok
@[reducible] def T41_4a : Tmpl := ⟨146, [(6, .ref 6 0 0 0), (81, .full 1054)], [.pool 3, .ids 0 1054 23, .val 1 zI, .val 17 zI, .val 18 zI, .val 82 zI, .val 83 zI, .val 16001 zI, .cells 6 [.d zI]], [96], none⟩
@[reducible] def X41_4a : List (Ex × Tmpl) := [(.exit 4, ⟨146, [], [.pool 3, .ids 0 1054 23, .val 1 zI, .val 17 zI, .val 18 zI, .val 16001 zI], [96], none⟩)]
noncomputable def step41_4a : (List (List Int)) × (List Nat) × Int × Int × Int × Int × Int × Int × Int → Option (((List (List Int)) × (List Nat) × Int × Int × Int × Int × Int × Int × Int) ⊕ ((List (List Int)) × (List Nat) × Int × Int × Int × Int)) := fun (pool, rows, unknowns, t17, t18, t82, t83, errors, k) =>
 bif decide (t83 < t82) then
  bif inBounds t83 rows.length then
   bif inBounds k (Ev.rowAt pool (rows.getD t83.toNat 0)).length then
    bif t83 != k then
     bif ((Ev.rowAt pool (rows.getD t83.toNat 0)).getD k.toNat 0) != 0 then
      optE (loopVal step41_6a (pool, rows, unknowns, rows.getD t83.toNat 0, (Ev.rowAt pool (rows.getD t83.toNat 0)).getD k.toNat 0, t17, t18, t82, t83, ((Ev.rowAt pool (rows.getD t83.toNat 0)).length : Int), 0, errors, k)) (fun e7 =>
       some (.inl (e7.1, e7.2.1, e7.2.2.1, e7.2.2.2.1, e7.2.2.2.2.1, e7.2.2.2.2.2.1, wr (e7.2.2.2.2.2.2.1 + 1), e7.2.2.2.2.2.2.2.1, e7.2.2.2.2.2.2.2.2)))
       (none)
     else
      some (.inl (pool, rows, unknowns, t17, t18, t82, wr (t83 + 1), errors, k))
    else
     some (.inl (pool, rows, unknowns, t17, t18, t82, wr (t83 + 1), errors, k))
   else
    none
  else
   none
 else
  some (.inr (pool, rows, unknowns, t17, t18, errors))
theorem one41_4a : oneLoop Try.prog 41 4 = true := by kernel_rfl
theorem lp41_4a : ItemOk Try.prog (.loop 41 4 T41_4a X41_4a (loopVal step41_4a)) := item_loopM md5 ext5 (U := 9) (n := 10) noSpecial mixed Gt2K5_ok one41_4a (fun x => by kernel_rfl)
noncomputable def Gt2K6 : List Ev.Item := .loop 41 4 T41_4a X41_4a (loopVal step41_4a) :: Gt2K5
theorem Gt2K6_ok : ∀ q ∈ Gt2K6, ItemOk Try.prog q := items_cons lp41_4a Gt2K5_ok
@[reducible] def T41_0a : Tmpl := ⟨146, [], [.pool 3, .ids 0 1054 23, .val 1 zI, .val 17 zI, .val 18 zI, .val 16001 zI], [96], none⟩
@[reducible] def X41_0a : List (Ex × Tmpl) := [(.ret, ⟨146, [], [.val 4 (.slice zI), .val 5 .bool, .val 16001 zI], [96], none⟩), (.exit 0, ⟨146, [], [.pool 3, .ids 0 1054 23, .val 1 zI, .val 16001 zI], [96], none⟩)]
noncomputable def step41_0a : (List (List Int)) × (List Nat) × Int × Int × Int × Int → Option (((List (List Int)) × (List Nat) × Int × Int × Int × Int) ⊕ (((List Int) × Bool × Int) ⊕ ((List (List Int)) × (List Nat) × Int × Int))) := fun (pool, rows, unknowns, t17, t18, errors) =>
 bif decide (t18 < t17) then
  bif (decide (0 < rows.length)) && ((decide (0 ≤ (mn t18 (rows.length : Int)))) && ((decide ((mn t18 (rows.length : Int)) ≤ (rows.length : Int))) && (decide ((rows.length : Int) ≤ (rows.length : Int))))) then
   optE (loopVal step49_0a (pool, ((mn t18 (rows.length : Int)).toNat, (rows.length : Int).toNat - (mn t18 (rows.length : Int)).toNat), (((rows.length : Int).toNat - (mn t18 (rows.length : Int)).toNat : Nat) : Int), 0, rows, unknowns, t17, t18, errors, t18)) (fun e2 =>
    sumE e2 (fun e3 =>
     bif decide (e3.2.1 < 0) then
      some (.inr (.inl ([], false, e3.2.2.2.2.2.2.1)))
     else
      bif inBounds (wr (e3.2.2.2.2.2.2.2 + e3.2.1)) e3.2.2.1.length then
       bif inBounds e3.2.2.2.2.2.2.2 e3.2.2.1.length then
        bif inBounds e3.2.2.2.2.2.2.2 e3.2.2.1.length then
         bif inBounds (wr (e3.2.2.2.2.2.2.2 + e3.2.1)) (e3.2.2.1.set e3.2.2.2.2.2.2.2.toNat (e3.2.2.1.getD (wr (e3.2.2.2.2.2.2.2 + e3.2.1)).toNat 0)).length then
          bif inBounds e3.2.2.2.2.2.2.2 ((e3.2.2.1.set e3.2.2.2.2.2.2.2.toNat (e3.2.2.1.getD (wr (e3.2.2.2.2.2.2.2 + e3.2.1)).toNat 0)).set (wr (e3.2.2.2.2.2.2.2 + e3.2.1)).toNat (e3.2.2.1.getD e3.2.2.2.2.2.2.2.toNat 0)).length then
           bif inBounds e3.2.2.2.2.2.2.2 (Ev.rowAt e3.1 (((e3.2.2.1.set e3.2.2.2.2.2.2.2.toNat (e3.2.2.1.getD (wr (e3.2.2.2.2.2.2.2 + e3.2.1)).toNat 0)).set (wr (e3.2.2.2.2.2.2.2 + e3.2.1)).toNat (e3.2.2.1.getD e3.2.2.2.2.2.2.2.toNat 0)).getD e3.2.2.2.2.2.2.2.toNat 0)).length then
            optE (s47 ((Ev.rowAt e3.1 (((e3.2.2.1.set e3.2.2.2.2.2.2.2.toNat (e3.2.2.1.getD (wr (e3.2.2.2.2.2.2.2 + e3.2.1)).toNat 0)).set (wr (e3.2.2.2.2.2.2.2 + e3.2.1)).toNat (e3.2.2.1.getD e3.2.2.2.2.2.2.2.toNat 0)).getD e3.2.2.2.2.2.2.2.toNat 0)).getD e3.2.2.2.2.2.2.2.toNat 0)) (fun r5 =>
             bif inBounds e3.2.2.2.2.2.2.2 ((e3.2.2.1.set e3.2.2.2.2.2.2.2.toNat (e3.2.2.1.getD (wr (e3.2.2.2.2.2.2.2 + e3.2.1)).toNat 0)).set (wr (e3.2.2.2.2.2.2.2 + e3.2.1)).toNat (e3.2.2.1.getD e3.2.2.2.2.2.2.2.toNat 0)).length then
              optE (loopVal step41_2a (e3.1, (e3.2.2.1.set e3.2.2.2.2.2.2.2.toNat (e3.2.2.1.getD (wr (e3.2.2.2.2.2.2.2 + e3.2.1)).toNat 0)).set (wr (e3.2.2.2.2.2.2.2 + e3.2.1)).toNat (e3.2.2.1.getD e3.2.2.2.2.2.2.2.toNat 0), e3.2.2.2.1, r5, e3.2.2.2.2.1, e3.2.2.2.2.2.1, ((Ev.rowAt e3.1 (((e3.2.2.1.set e3.2.2.2.2.2.2.2.toNat (e3.2.2.1.getD (wr (e3.2.2.2.2.2.2.2 + e3.2.1)).toNat 0)).set (wr (e3.2.2.2.2.2.2.2 + e3.2.1)).toNat (e3.2.2.1.getD e3.2.2.2.2.2.2.2.toNat 0)).getD e3.2.2.2.2.2.2.2.toNat 0)).length : Int), 0, e3.2.2.2.2.2.2.1, e3.2.2.2.2.2.2.2)) (fun e6 =>
               optE (loopVal step41_4a (e6.1, e6.2.1, e6.2.2.1, e6.2.2.2.1, e6.2.2.2.2.1, (e6.2.1.length : Int), 0, e6.2.2.2.2.2.1, e6.2.2.2.2.2.2)) (fun e7 =>
                some (.inl (e7.1, e7.2.1, e7.2.2.1, e7.2.2.2.1, wr (e7.2.2.2.2.1 + 1), e7.2.2.2.2.2)))
                (none))
               (none)
             else
              none)
             (none)
           else
            none
          else
           none
         else
          none
        else
         none
       else
        none
      else
       none) (fun e4 =>
     some (.inr (.inl ([], false, e4.2.2.2.2.2.1)))))
    (none)
  else
   none
 else
  some (.inr (.inr (pool, rows, unknowns, errors)))
theorem one41_0a : oneLoop Try.prog 41 0 = true := by kernel_rfl
theorem lp41_0a : ItemOk Try.prog (.loop 41 0 T41_0a X41_0a (loopVal step41_0a)) := item_loopM md5 ext5 (U := 9) (n := 10) noSpecial mixed Gt2K6_ok one41_0a (fun x => by kernel_rfl)
noncomputable def Gt2K7 : List Ev.Item := .loop 41 0 T41_0a X41_0a (loopVal step41_0a) :: Gt2K6
theorem Gt2K7_ok : ∀ q ∈ Gt2K7, ItemOk Try.prog q := items_cons lp41_0a Gt2K6_ok
@[reducible] def T39_6 : Tmpl := ⟨96, [], [.val 1 zI, .val 10 (.slice zI), .own 12 89 3 zI, .val 13 zI, .val 14 zI, .val 15 zI, .val 16 zI, .val 63 zI, .val 69 (.slice zI), .val 70 zI, .val 71 zI], [], none⟩
@[reducible] def X39_6 : List (Ex × Tmpl) := [(.exit 6, ⟨96, [], [.val 1 zI, .val 10 (.slice zI), .own 12 89 3 zI, .val 13 zI, .val 15 zI, .val 63 zI], [], none⟩)]
noncomputable def step39_6 : Int × (List Int) × (List Int) × Int × Int × Int × Int × Int × (List Int) × Int × Int → Option ((Int × (List Int) × (List Int) × Int × Int × Int × Int × Int × (List Int) × Int × Int) ⊕ (Int × (List Int) × (List Int) × Int × Int × Int)) := fun (errors, c, out, i, z, sum, term, t63, t69, t70, t71) =>
 bif decide (t71 < t70) then
  bif inBounds t71 t69.length then
   optE (s37 (term, z)) (fun r7 =>
    optE (s37 (t69.getD t71.toNat 0, r7)) (fun r8 =>
     some (.inl (errors, c, out, i, z, xorI .i64 sum r8, r7, t63, t69, t70, wr (t71 + 1))))
     (none))
    (none)
  else
   none
 else
  some (.inr (errors, c, out, i, sum, t63))
theorem one39_6 : oneLoop Try.prog 39 6 = true := by kernel_rfl
theorem lp39_6 : ItemOk Try.prog (.loop 39 6 T39_6 X39_6 (loopVal step39_6)) := item_loopM md5 ext5 (U := 9) (n := 11) noSpecial mixed Gt2K7_ok one39_6 (fun x => by kernel_rfl)
noncomputable def Gt2K8 : List Ev.Item := .loop 39 6 T39_6 X39_6 (loopVal step39_6) :: Gt2K7
theorem Gt2K8_ok : ∀ q ∈ Gt2K8, ItemOk Try.prog q := items_cons lp39_6 Gt2K7_ok
@[reducible] def T39_4 : Tmpl := ⟨96, [], [.val 1 zI, .val 10 (.slice zI), .own 12 89 3 zI, .val 63 zI], [], none⟩
@[reducible] def X39_4 : List (Ex × Tmpl) := [(.exit 4, ⟨96, [], [.val 1 zI, .own 12 89 3 zI], [], none⟩)]
noncomputable def step39_4 : Int × (List Int) × (List Int) × Int → Option ((Int × (List Int) × (List Int) × Int) ⊕ (Int × (List Int))) := fun (errors, c, out, t63) =>
 bif decide (t63 < 15) then
  optE (s48 t63) (fun r5 =>
   optE (s47 r5) (fun r6 =>
    optE (loopVal step39_6 (errors, c, out, t63, r6, 1, 1, t63, c, (c.length : Int), 0)) (fun e7 =>
     bif e7.2.2.2.2.1 == 0 then
      bif room 8 (e7.2.2.1.length + 1) then
       some (.inl (e7.1, e7.2.1, e7.2.2.1 ++ [e7.2.2.2.1], wr (e7.2.2.2.2.2 + 1)))
      else
       none
     else
      some (.inl (e7.1, e7.2.1, e7.2.2.1, wr (e7.2.2.2.2.2 + 1))))
     (none))
    (none))
   (none)
 else
  some (.inr (errors, out))
theorem one39_4 : oneLoop Try.prog 39 4 = true := by kernel_rfl
theorem lp39_4 : ItemOk Try.prog (.loop 39 4 T39_4 X39_4 (loopVal step39_4)) := item_loopM md5 ext5 (U := 9) (n := 11) noSpecial mixed Gt2K8_ok one39_4 (fun x => by kernel_rfl)
noncomputable def Gt2K9 : List Ev.Item := .loop 39 4 T39_4 X39_4 (loopVal step39_4) :: Gt2K8
theorem Gt2K9_ok : ∀ q ∈ Gt2K9, ItemOk Try.prog q := items_cons lp39_4 Gt2K8_ok
@[reducible] def T41_8a : Tmpl := ⟨146, [], [.pool 3, .val 1 zI, .own 14 138 3 zI, .ids 122 1054 23, .val 123 zI, .val 124 zI, .val 16001 zI], [96], none⟩
@[reducible] def X41_8a : List (Ex × Tmpl) := [(.ret, ⟨146, [], [.val 4 (.slice zI), .val 5 .bool, .val 16001 zI], [96], none⟩), (.exit 8, ⟨146, [], [.own 14 138 3 zI, .val 16001 zI], [96], none⟩)]
noncomputable def step41_8a : (List (List Int)) × Int × (List Int) × (List Nat) × Int × Int × Int → Option (((List (List Int)) × Int × (List Int) × (List Nat) × Int × Int × Int) ⊕ (((List Int) × Bool × Int) ⊕ ((List Int) × Int))) := fun (pool, unknowns, out, ids, t123, t124, errors) =>
 bif decide (t124 < t123) then
  bif inBounds t124 ids.length then
   bif decide (t124 < unknowns) then
    bif inBounds unknowns (Ev.rowAt pool (ids.getD t124.toNat 0)).length then
     bif room 8 (out.length + 1) then
      some (.inl (pool, unknowns, out ++ [(Ev.rowAt pool (ids.getD t124.toNat 0)).getD unknowns.toNat 0], ids, t123, wr (t124 + 1), errors))
     else
      none
    else
     none
   else
    bif inBounds unknowns (Ev.rowAt pool (ids.getD t124.toNat 0)).length then
     bif ((Ev.rowAt pool (ids.getD t124.toNat 0)).getD unknowns.toNat 0) != 0 then
      some (.inr (.inl ([], false, errors)))
     else
      some (.inl (pool, unknowns, out, ids, t123, wr (t124 + 1), errors))
    else
     none
  else
   none
 else
  some (.inr (.inr (out, errors)))
theorem one41_8a : oneLoop Try.prog 41 8 = true := by kernel_rfl
theorem lp41_8a : ItemOk Try.prog (.loop 41 8 T41_8a X41_8a (loopVal step41_8a)) := item_loopM md5 ext5 (U := 9) (n := 10) noSpecial mixed Gt2K9_ok one41_8a (fun x => by kernel_rfl)
noncomputable def Gt2K10 : List Ev.Item := .loop 41 8 T41_8a X41_8a (loopVal step41_8a) :: Gt2K9
theorem Gt2K10_ok : ∀ q ∈ Gt2K10, ItemOk Try.prog q := items_cons lp41_8a Gt2K9_ok
@[reducible] def T39_6a : Tmpl := ⟨96, [], [.val 1 zI, .own 10 900 3 zI, .own 12 89 3 zI, .val 13 zI, .val 14 zI, .val 15 zI, .val 16 zI, .val 63 zI, .own 69 900 3 zI, .val 70 zI, .val 71 zI], [], none⟩
@[reducible] def X39_6a : List (Ex × Tmpl) := [(.exit 6, ⟨96, [], [.val 1 zI, .own 10 900 3 zI, .own 12 89 3 zI, .val 13 zI, .val 15 zI, .val 63 zI], [], none⟩)]
noncomputable def step39_6a : Int × (List Int) × (List Int) × Int × Int × Int × Int × Int × (List Int) × Int × Int → Option ((Int × (List Int) × (List Int) × Int × Int × Int × Int × Int × (List Int) × Int × Int) ⊕ (Int × (List Int) × (List Int) × Int × Int × Int)) := fun (errors, _, out, i, z, sum, term, t63, t69, t70, t71) =>
 bif decide (t71 < t70) then
  bif inBounds t71 t69.length then
   optE (s37 (term, z)) (fun r12 =>
    optE (s37 (t69.getD t71.toNat 0, r12)) (fun r13 =>
     some (.inl (errors, t69, out, i, z, xorI .i64 sum r13, r12, t63, t69, t70, wr (t71 + 1))))
     (none))
    (none)
  else
   none
 else
  some (.inr (errors, t69, out, i, sum, t63))
theorem one39_6a : oneLoop Try.prog 39 6 = true := by kernel_rfl
theorem lp39_6a : ItemOk Try.prog (.loop 39 6 T39_6a X39_6a (loopVal step39_6a)) := item_loopM md5 ext5 (U := 9) (n := 11) noSpecial mixed Gt2K10_ok one39_6a (fun x => by kernel_rfl)
noncomputable def Gt2K11 : List Ev.Item := .loop 39 6 T39_6a X39_6a (loopVal step39_6a) :: Gt2K10
theorem Gt2K11_ok : ∀ q ∈ Gt2K11, ItemOk Try.prog q := items_cons lp39_6a Gt2K10_ok
@[reducible] def T39_4a : Tmpl := ⟨96, [], [.val 1 zI, .own 10 900 3 zI, .own 12 89 3 zI, .val 63 zI], [], none⟩
@[reducible] def X39_4a : List (Ex × Tmpl) := [(.exit 4, ⟨96, [], [.val 1 zI, .own 12 89 3 zI], [], none⟩)]
noncomputable def step39_4a : Int × (List Int) × (List Int) × Int → Option ((Int × (List Int) × (List Int) × Int) ⊕ (Int × (List Int))) := fun (errors, c, out, t63) =>
 bif decide (t63 < 15) then
  optE (s48 t63) (fun r10 =>
   optE (s47 r10) (fun r11 =>
    optE (loopVal step39_6a (errors, c, out, t63, r11, 1, 1, t63, c, (c.length : Int), 0)) (fun e12 =>
     bif e12.2.2.2.2.1 == 0 then
      bif room 8 (e12.2.2.1.length + 1) then
       some (.inl (e12.1, e12.2.1, e12.2.2.1 ++ [e12.2.2.2.1], wr (e12.2.2.2.2.2 + 1)))
      else
       none
     else
      some (.inl (e12.1, e12.2.1, e12.2.2.1, wr (e12.2.2.2.2.2 + 1))))
     (none))
    (none))
   (none)
 else
  some (.inr (errors, out))
theorem one39_4a : oneLoop Try.prog 39 4 = true := by kernel_rfl
theorem lp39_4a : ItemOk Try.prog (.loop 39 4 T39_4a X39_4a (loopVal step39_4a)) := item_loopM md5 ext5 (U := 9) (n := 11) noSpecial mixed Gt2K11_ok one39_4a (fun x => by kernel_rfl)
noncomputable def Gt2K12 : List Ev.Item := .loop 39 4 T39_4a X39_4a (loopVal step39_4a) :: Gt2K11
theorem Gt2K12_ok : ∀ q ∈ Gt2K12, ItemOk Try.prog q := items_cons lp39_4a Gt2K11_ok
noncomputable def s39 : (List Int) × Int → Option ((List Int) × Bool) := fun (s, errors) =>
 optE (loopVal step39_0 ([], s, errors, [], 0)) (fun e1 =>
  optE (loopVal step41_0a (e1.1, e1.2.2, e1.2.1, e1.2.1, 0, e1.2.1)) (fun e2 =>
   sumE e2 (fun e3 =>
    bif !e3.2.1 then
     some (([], false))
    else
     optE (loopVal step39_4 (e3.2.2, e3.1, [], 0)) (fun e5 =>
      some ((e5.2, (e5.2.length : Int) == e5.1)))
      (none)) (fun e4 =>
    optE (loopVal step41_8a (e4.1, e4.2.2.1, [], e4.2.1, (e4.2.1.length : Int), 0, e4.2.2.2)) (fun e6 =>
     sumE e6 (fun e7 =>
      bif !e7.2.1 then
       some (([], false))
      else
       optE (loopVal step39_4 (e7.2.2, e7.1, [], 0)) (fun e9 =>
        some ((e9.2, (e9.2.length : Int) == e9.1)))
        (none)) (fun e8 =>
      optE (loopVal step39_4a (e8.2, e8.1, [], 0)) (fun e10 =>
       some ((e10.2, (e10.2.length : Int) == e10.1)))
       (none)))
     (none)))
   (none))
  (none)
theorem i39 : ItemOk Try.prog (.fn 39 [.d (.slice zI), .d zI] [.own 3 zI, .d .bool] s39) := item_fnM md5 ext5 (U := 9) (n := 12) noSpecial mixed Gt2K12_ok (fun x => by kernel_rfl)
noncomputable def Gt2K13 : List Ev.Item := .fn 39 [.d (.slice zI), .d zI] [.own 3 zI, .d .bool] s39 :: Gt2K12
theorem Gt2K13_ok : ∀ q ∈ Gt2K13, ItemOk Try.prog q := items_cons i39 Gt2K12_ok
end Go.Proofs.Ytlngennlccaneaa
