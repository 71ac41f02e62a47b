/- Printed by gen.py: specifications of functions. -/
import Derived.Test.YtinkhmfciealkaaGa6
set_option linter.unusedSimpArgs false
set_option maxRecDepth 100000
namespace Go.Proofs.Ytinkhmfciealkaa
open Go.Ev

/-! cassegrain sample.Composed -/
@[reducible] def T33_2 : Tmpl := ⟨73, [(2, .ref 2 0 0 0), (3, .ref 3 0 0 0), (4, .ref 4 0 0 0)], [.own 7 31 3 (.int .i64), .val 8 (.int .i64), .val 9 (.int .i64), .val 33 (.slice (.int .i64)), .val 34 (.int .i64), .val 35 (.int .i64), .val 41 (.slice (.int .i64)), .val 42 (.int .i64), .val 43 (.int .i64), .cells 2 [.d (.pair (.slice (.int .i64)) (.int .i64))], .cells 3 [.d (.pair (.slice (.int .i64)) (.int .i64))], .cells 4 [.d (.pair (.slice (.int .i64)) (.int .i64))]]⟩
@[reducible] def X33_2 : List (Ex × Tmpl) := [(.exit 2, ⟨73, [(2, .ref 2 0 0 0), (3, .ref 3 0 0 0), (4, .ref 4 0 0 0)], [.own 7 31 3 (.int .i64), .val 33 (.slice (.int .i64)), .val 34 (.int .i64), .val 35 (.int .i64), .cells 2 [.d (.pair (.slice (.int .i64)) (.int .i64))], .cells 3 [.d (.pair (.slice (.int .i64)) (.int .i64))], .cells 4 [.d (.pair (.slice (.int .i64)) (.int .i64))]]⟩)]
/-- data: t7, t8, t9, t33, t34, t35, t41, t42, t43, t2, t3, t4; ends: exit 2: t7, t33, t34, t35, t2, t3, t4 -/
noncomputable def step33_2 : (List Int) × Int × Int × (List Int) × Int × Int × (List Int) × Int × Int × ((List Int) × Int) × ((List Int) × Int) × ((List Int) × Int) → Option (((List Int) × Int × Int × (List Int) × Int × Int × (List Int) × Int × Int × ((List Int) × Int) × ((List Int) × Int) × ((List Int) × Int)) ⊕ ((List Int) × (List Int) × Int × Int × ((List Int) × Int) × ((List Int) × Int) × ((List Int) × Int))) := fun (t7, t8, t9, t33, t34, t35, t41, t42, t43, t2, t3, t4) =>
  bif decide (t43 < t42) then
    bif inBounds t43 t41.length then
      bif inBounds (wr (t8 + t43)) t7.length then
        bif inBounds (wr (t8 + t43)) t7.length then
          some (.inl (t7.set (wr (t8 + t43)).toNat (wr ((t7.getD (wr (t8 + t43)).toNat 0) + (wr (t9 * (t41.getD t43.toNat 0))))), t8, t9, t33, t34, t35, t41, t42, wr (t43 + 1), t2, t3, t4))
        else
          none
      else
        none
    else
      none
  else
    some (.inr (t7, t33, t34, t35, t2, t3, t4))
theorem one33_2 : oneLoop Try.prog 33 2 = true := by kernel_rfl
theorem lp33_2 : ItemOk Try.prog (.loop 33 2 T33_2 X33_2 (loopVal step33_2)) := item_loop (U := 9) (n := 3) noSpecial mixed Ga6K17_ok one33_2 (fun x => by kernel_rfl)
noncomputable def Ga7K1 : List Ev.Item := .loop 33 2 T33_2 X33_2 (loopVal step33_2) :: Ga6K17
theorem Ga7K1_ok : ∀ q ∈ Ga7K1, ItemOk Try.prog q := items_cons lp33_2 Ga6K17_ok
@[reducible] def T33_0 : Tmpl := ⟨73, [(2, .ref 2 0 0 0), (3, .ref 3 0 0 0), (4, .ref 4 0 0 0)], [.own 7 31 3 (.int .i64), .val 33 (.slice (.int .i64)), .val 34 (.int .i64), .val 35 (.int .i64), .cells 2 [.d (.pair (.slice (.int .i64)) (.int .i64))], .cells 3 [.d (.pair (.slice (.int .i64)) (.int .i64))], .cells 4 [.d (.pair (.slice (.int .i64)) (.int .i64))]]⟩
@[reducible] def X33_0 : List (Ex × Tmpl) := [(.exit 0, ⟨73, [(2, .ref 2 0 0 0), (3, .ref 3 0 0 0), (4, .ref 4 0 0 0)], [.own 7 31 3 (.int .i64), .cells 2 [.d (.pair (.slice (.int .i64)) (.int .i64))], .cells 3 [.d (.pair (.slice (.int .i64)) (.int .i64))], .cells 4 [.d (.pair (.slice (.int .i64)) (.int .i64))]]⟩)]
/-- data: t7, t33, t34, t35, t2, t3, t4; ends: exit 0: t7, t2, t3, t4 -/
noncomputable def step33_0 : (List Int) × (List Int) × Int × Int × ((List Int) × Int) × ((List Int) × Int) × ((List Int) × Int) → Option (((List Int) × (List Int) × Int × Int × ((List Int) × Int) × ((List Int) × Int) × ((List Int) × Int)) ⊕ ((List Int) × ((List Int) × Int) × ((List Int) × Int) × ((List Int) × Int))) := fun (t7, t33, t34, t35, t2, t3, t4) =>
  bif decide (t35 < t34) then
    bif inBounds t35 t33.length then
      optE (loopVal step33_2 (t7, t35, t33.getD t35.toNat 0, t33, t34, t35, t3.1, (t3.1.length : Int), 0, t2, t3, t4)) (fun e3 =>
        some (.inl (e3.1, e3.2.1, e3.2.2.1, wr (e3.2.2.2.1 + 1), e3.2.2.2.2.1, e3.2.2.2.2.2.1, e3.2.2.2.2.2.2)))
        (none)
    else
      none
  else
    some (.inr (t7, t2, t3, t4))
theorem one33_0 : oneLoop Try.prog 33 0 = true := by kernel_rfl
theorem lp33_0 : ItemOk Try.prog (.loop 33 0 T33_0 X33_0 (loopVal step33_0)) := item_loop (U := 9) (n := 3) noSpecial mixed Ga7K1_ok one33_0 (fun x => by kernel_rfl)
noncomputable def Ga7K2 : List Ev.Item := .loop 33 0 T33_0 X33_0 (loopVal step33_0) :: Ga7K1
theorem Ga7K2_ok : ∀ q ∈ Ga7K2, ItemOk Try.prog q := items_cons lp33_0 Ga7K1_ok
noncomputable def s33 : ((List Int) × Int) × ((List Int) × Int) → Option (((List Int) × Int) × Int) := fun (a0, a1) =>
  optE (p59 a0) (fun r1 =>
    optE (p59 a1) (fun r2 =>
      bif (firstE [r1, r2]) != 0 then
        some ((([], 0), firstE [r1, r2]))
      else
        bif (decide (0 ≤ (wr ((wr ((a0.1.length : Int) + (a1.1.length : Int))) - 1)))) && ((decide ((wr ((wr ((a0.1.length : Int) + (a1.1.length : Int))) - 1)) = (wr ((wr ((a0.1.length : Int) + (a1.1.length : Int))) - 1)))) && (room 8 (wr ((wr ((a0.1.length : Int) + (a1.1.length : Int))) - 1)).toNat)) then
          optE (loopVal step33_0 (List.replicate (wr ((wr ((a0.1.length : Int) + (a1.1.length : Int))) - 1)).toNat 0, a0.1, (a0.1.length : Int), 0, a0, a1, ([], 0))) (fun e3 =>
            optE (p59 (e3.1, wr (e3.2.1.2 * e3.2.2.1.2))) (fun r4 =>
              bif r4 != 0 then
                some ((([], 0), 8))
              else
                some (((e3.1, wr (e3.2.1.2 * e3.2.2.1.2)), 0)))
              (none))
            (none)
        else
          none)
      (none))
    (none)
theorem i33 : ItemOk Try.prog (.fn 33 [.d (.agg (.pair (.slice (.int .i64)) (.int .i64))), .d (.agg (.pair (.slice (.int .i64)) (.int .i64)))] [.d (.agg (.pair (.slice (.int .i64)) (.int .i64))), .d (.int .i64)] s33) := item_fn (U := 9) (n := 4) noSpecial mixed Ga7K2_ok (fun x => by kernel_rfl)
theorem law33 (f : List Int × Int) (g : List Int × Int) (hg : f.1.length ≤ 1000000 ∧ g.1.length ≤ 1000000) : s33 (f, g) = some (compR f g) := by
  have hp1 := p59_pos hg.1
  have hp2 := p59_pos hg.2
  simp only [s33, hp1, hp2, optE, compR]
  cases hf : firstE [filtE f, filtE g] != 0
  · have hz := firstE_zero.1 (bne_eq_false_iff_eq.1 hf)
    obtain ⟨f1, f2, _, f4⟩ := filtE_zero.1 (hz (filtE f) (by simp))
    obtain ⟨g1, g2, _, g4⟩ := filtE_zero.1 (hz (filtE g) (by simp))
    have hn : wr (wr ((f.1.length : Int) + (g.1.length : Int)) - 1) = ((f.1.length + g.1.length - 1 : Nat) : Int) := by
      rw [wr_id (n := (f.1.length : Int) + (g.1.length : Int)) (by omega) (by omega), wr_id (by omega) (by omega)]; omega
    have inner : ∀ (l : List Int) (i : Nat) (a : Int) (u : List Int) (v w : Int) (t2 t4 : List Int × Int), i + g.1.length ≤ l.length → l.length ≤ 1000 → loopVal step33_2 (l, (i : Int), a, u, v, w, g.1, (g.1.length : Int), 0, t2, g, t4) = some (rowTo l i a g.1 g.1.length, u, v, w, t2, g, t4) := by
      intro l i a u v w t2 t4 hi hl
      have h1 := loop_for (step := step33_2) (st := fun k => (rowTo l i a g.1 k, (i : Int), a, u, v, w, g.1, (g.1.length : Int), (k : Int), t2, g, t4)) (n := g.1.length) (e := (rowTo l i a g.1 g.1.length, u, v, w, t2, g, t4))
        (fun k hk => by
          have hw : wr ((i : Int) + (k : Int)) = ((i + k : Nat) : Int) := by rw [wr_id (by omega) (by omega)]; rfl
          have hik : i + k < (rowTo l i a g.1 k).length := by rw [rowTo_length]; omega
          simp only [step33_2, lt_cast, hw, inB_cast, hk, hik, decide_true, cond_true, Int.toNat_natCast, wr_succ (show k < 4611686018427387904 by omega)]
          rfl) (by simp [step33_2]) 0 (by omega)
      exact h1
    have outer := loop_for (step := step33_0) (st := fun k => (prodTo f.1 g.1 (List.replicate (f.1.length + g.1.length - 1) 0) k, f.1, (f.1.length : Int), (k : Int), f, g, (([], 0) : List Int × Int))) (n := f.1.length) (e := (prodW f.1 g.1, f, g, ([], 0)))
      (fun k hk => by
        have hlen : (prodTo f.1 g.1 (List.replicate (f.1.length + g.1.length - 1) 0) k).length = f.1.length + g.1.length - 1 := by rw [prodTo_length, List.length_replicate]
        simp only [step33_0, lt_cast, inB_cast, hk, decide_true, cond_true, Int.toNat_natCast, inner _ k _ _ _ _ _ _ (by rw [hlen]; omega) (by rw [hlen]; omega), optE, wr_succ (show k < 4611686018427387904 by omega)]
        rfl) (by simp [step33_0, prodW]) 0 (by omega)
    have h0 : prodTo f.1 g.1 (List.replicate (f.1.length + g.1.length - 1) 0) 0 = List.replicate (f.1.length + g.1.length - 1) 0 := rfl
    rw [show ((0 : Nat) : Int) = 0 from rfl, h0] at outer
    have hp3 : p59 (prodW f.1 g.1, wr (f.2 * g.2)) = some (filtE (compF f g)) := p59_pos (x := (prodW f.1 g.1, wr (f.2 * g.2))) (by show (prodW f.1 g.1).length ≤ _; rw [prodW_length]; omega)
    simp only [cond_false, hn, Int.toNat_natCast, room_true (show (f.1.length + g.1.length - 1) * 8 ≤ 140737488355328 by omega) (by omega), decide_true, Bool.and_true, show decide ((0 : Int) ≤ ((f.1.length + g.1.length - 1 : Nat) : Int)) = true from decide_eq_true (by omega), cond_true, outer, optE, hp3]
    cases filtE (compF f g) != 0 <;> rfl
  · rfl
noncomputable def p33 : (List Int × Int) × (List Int × Int) → Option ((List Int × Int) × Int) := fun x => if x.1.1.length ≤ 1000000 ∧ x.2.1.length ≤ 1000000 then some (compR x.1 x.2) else none
theorem p33_pos {x : (List Int × Int) × (List Int × Int)} (h : x.1.1.length ≤ 1000000 ∧ x.2.1.length ≤ 1000000) : p33 x = some (compR x.1 x.2) := if_pos h
theorem j33 : ItemOk Try.prog (.fn 33 [.d (.agg (.pair (.slice (.int .i64)) (.int .i64))), .d (.agg (.pair (.slice (.int .i64)) (.int .i64)))] [.d (.agg (.pair (.slice (.int .i64)) (.int .i64))), .d (.int .i64)] (p33)) := item_imp i33 (by
  intro x y h
  unfold p33 at h
  split at h
  · rename_i hg
    rw [← h]
    exact law33 x.1 x.2 hg
  · cases h)
noncomputable def Ga7K3 : List Ev.Item := .fn 33 [.d (.agg (.pair (.slice (.int .i64)) (.int .i64))), .d (.agg (.pair (.slice (.int .i64)) (.int .i64)))] [.d (.agg (.pair (.slice (.int .i64)) (.int .i64))), .d (.int .i64)] (p33) :: Ga7K2
theorem Ga7K3_ok : ∀ q ∈ Ga7K3, ItemOk Try.prog q := items_cons j33 Ga7K2_ok

/-! cassegrain cassegrainref02.Composed -/
@[reducible] def T40_2 : Tmpl := ⟨63, [(2, .ref 2 0 0 0), (3, .ref 3 0 0 0), (4, .ref 4 0 0 0), (5, .ref 5 0 0 0)], [.val 6 (.int .i64), .val 7 (.int .i64), .cells 2 [.d (.pair (.slice (.int .i64)) (.int .i64))], .cells 3 [.d (.pair (.slice (.int .i64)) (.int .i64))], .cells 4 [.d (.pair (.slice (.int .i64)) (.int .i64))], .cells 5 [.own 16 3 (.int .i64), .d (.int .i64)]]⟩
@[reducible] def X40_2 : List (Ex × Tmpl) := [(.exit 2, ⟨63, [(2, .ref 2 0 0 0), (3, .ref 3 0 0 0), (4, .ref 4 0 0 0), (5, .ref 5 0 0 0)], [.val 6 (.int .i64), .cells 2 [.d (.pair (.slice (.int .i64)) (.int .i64))], .cells 3 [.d (.pair (.slice (.int .i64)) (.int .i64))], .cells 4 [.d (.pair (.slice (.int .i64)) (.int .i64))], .cells 5 [.own 16 3 (.int .i64), .d (.int .i64)]]⟩)]
/-- data: i, k, f, g, t4, out; ends: exit 2: i, f, g, t4, out -/
noncomputable def step40_2 : Int × Int × ((List Int) × Int) × ((List Int) × Int) × ((List Int) × Int) × ((List Int) × Int) → Option ((Int × Int × ((List Int) × Int) × ((List Int) × Int) × ((List Int) × Int) × ((List Int) × Int)) ⊕ (Int × ((List Int) × Int) × ((List Int) × Int) × ((List Int) × Int) × ((List Int) × Int))) := fun (i, k, f, g, t4, out) =>
  bif decide (k < (g.1.length : Int)) then
    bif inBounds (wr (i + k)) out.1.length then
      bif inBounds i f.1.length then
        bif inBounds k g.1.length then
          bif inBounds (wr (i + k)) out.1.length then
            some (.inl (i, wr (k + 1), f, g, t4, (out.1.set (wr (i + k)).toNat (wr ((out.1.getD (wr (i + k)).toNat 0) + (wr ((f.1.getD i.toNat 0) * (g.1.getD k.toNat 0))))), out.2)))
          else
            none
        else
          none
      else
        none
    else
      none
  else
    some (.inr (i, f, g, t4, out))
theorem one40_2 : oneLoop Try.prog 40 2 = true := by kernel_rfl
theorem lp40_2 : ItemOk Try.prog (.loop 40 2 T40_2 X40_2 (loopVal step40_2)) := item_loop (U := 9) (n := 3) noSpecial mixed Ga7K3_ok one40_2 (fun x => by kernel_rfl)
noncomputable def Ga7K4 : List Ev.Item := .loop 40 2 T40_2 X40_2 (loopVal step40_2) :: Ga7K3
theorem Ga7K4_ok : ∀ q ∈ Ga7K4, ItemOk Try.prog q := items_cons lp40_2 Ga7K3_ok
@[reducible] def T40_0 : Tmpl := ⟨63, [(2, .ref 2 0 0 0), (3, .ref 3 0 0 0), (4, .ref 4 0 0 0), (5, .ref 5 0 0 0)], [.val 6 (.int .i64), .cells 2 [.d (.pair (.slice (.int .i64)) (.int .i64))], .cells 3 [.d (.pair (.slice (.int .i64)) (.int .i64))], .cells 4 [.d (.pair (.slice (.int .i64)) (.int .i64))], .cells 5 [.own 16 3 (.int .i64), .d (.int .i64)]]⟩
@[reducible] def X40_0 : List (Ex × Tmpl) := [(.exit 0, ⟨63, [(4, .ref 4 0 0 0), (5, .ref 5 0 0 0)], [.cells 4 [.d (.pair (.slice (.int .i64)) (.int .i64))], .cells 5 [.own 16 3 (.int .i64), .d (.int .i64)]]⟩)]
/-- data: i, f, g, t4, out; ends: exit 0: t4, out -/
noncomputable def step40_0 : Int × ((List Int) × Int) × ((List Int) × Int) × ((List Int) × Int) × ((List Int) × Int) → Option ((Int × ((List Int) × Int) × ((List Int) × Int) × ((List Int) × Int) × ((List Int) × Int)) ⊕ (((List Int) × Int) × ((List Int) × Int))) := fun (i, f, g, t4, out) =>
  bif decide (i < (f.1.length : Int)) then
    optE (loopVal step40_2 (i, 0, f, g, t4, out)) (fun e2 =>
      some (.inl (wr (e2.1 + 1), e2.2.1, e2.2.2.1, e2.2.2.2.1, e2.2.2.2.2)))
      (none)
  else
    some (.inr (t4, out))
theorem one40_0 : oneLoop Try.prog 40 0 = true := by kernel_rfl
theorem lp40_0 : ItemOk Try.prog (.loop 40 0 T40_0 X40_0 (loopVal step40_0)) := item_loop (U := 9) (n := 3) noSpecial mixed Ga7K4_ok one40_0 (fun x => by kernel_rfl)
noncomputable def Ga7K5 : List Ev.Item := .loop 40 0 T40_0 X40_0 (loopVal step40_0) :: Ga7K4
theorem Ga7K5_ok : ∀ q ∈ Ga7K5, ItemOk Try.prog q := items_cons lp40_0 Ga7K4_ok
noncomputable def s40 : ((List Int) × Int) × ((List Int) × Int) → Option ((List Int) × Int) := fun (f, g) =>
  bif (decide (0 ≤ (wr ((wr ((f.1.length : Int) + (g.1.length : Int))) - 1)))) && ((decide ((wr ((wr ((f.1.length : Int) + (g.1.length : Int))) - 1)) = (wr ((wr ((f.1.length : Int) + (g.1.length : Int))) - 1)))) && (room 8 (wr ((wr ((f.1.length : Int) + (g.1.length : Int))) - 1)).toNat)) then
    optE (loopVal step40_0 (0, f, g, ([], 0), (List.replicate (wr ((wr ((f.1.length : Int) + (g.1.length : Int))) - 1)).toNat 0, wr (f.2 * g.2)))) (fun e1 =>
      some (e1.2))
      (none)
  else
    none
theorem i40 : ItemOk Try.prog (.fn 40 [.d (.agg (.pair (.slice (.int .i64)) (.int .i64))), .d (.agg (.pair (.slice (.int .i64)) (.int .i64)))] [.d (.agg (.pair (.slice (.int .i64)) (.int .i64)))] s40) := item_fn (U := 9) (n := 4) noSpecial mixed Ga7K5_ok (fun x => by kernel_rfl)
theorem law40 (f : List Int × Int) (g : List Int × Int) (hg : filtE f = 0 ∧ filtE g = 0) : s40 (f, g) = some (compF f g) := by
  obtain ⟨f1, f2, _, f4⟩ := filtE_zero.1 hg.1
  obtain ⟨g1, g2, _, g4⟩ := filtE_zero.1 hg.2
  have hn : wr (wr ((f.1.length : Int) + (g.1.length : Int)) - 1) = ((f.1.length + g.1.length - 1 : Nat) : Int) := by
    rw [wr_id (n := (f.1.length : Int) + (g.1.length : Int)) (by omega) (by omega), wr_id (by omega) (by omega)]; omega
  have inner : ∀ (l : List Int) (d : Int) (i : Nat) (t4 : List Int × Int), i < f.1.length → i + g.1.length ≤ l.length → l.length ≤ 1000 → loopVal step40_2 ((i : Int), 0, f, g, t4, (l, d)) = some ((i : Int), f, g, t4, (rowTo l i (f.1.getD i 0) g.1 g.1.length, d)) := by
    intro l d i t4 hif hi hl
    have h1 := loop_for (step := step40_2) (st := fun k => ((i : Int), (k : Int), f, g, t4, (rowTo l i (f.1.getD i 0) g.1 k, d))) (n := g.1.length) (e := ((i : Int), f, g, t4, (rowTo l i (f.1.getD i 0) g.1 g.1.length, d)))
      (fun k hk => by
        have hw : wr ((i : Int) + (k : Int)) = ((i + k : Nat) : Int) := by rw [wr_id (by omega) (by omega)]; rfl
        have hik : i + k < (rowTo l i (f.1.getD i 0) g.1 k).length := by rw [rowTo_length]; omega
        simp only [step40_2, lt_cast, hw, inB_cast, hk, hik, hif, decide_true, cond_true, Int.toNat_natCast, wr_succ (show k < 4611686018427387904 by omega)]
        rfl) (by simp [step40_2]) 0 (by omega)
    exact h1
  have outer := loop_for (step := step40_0) (st := fun k => ((k : Int), f, g, (([], 0) : List Int × Int), (prodTo f.1 g.1 (List.replicate (f.1.length + g.1.length - 1) 0) k, wr (f.2 * g.2)))) (n := f.1.length) (e := (([], 0), compF f g))
    (fun k hk => by
      have hlen : (prodTo f.1 g.1 (List.replicate (f.1.length + g.1.length - 1) 0) k).length = f.1.length + g.1.length - 1 := by rw [prodTo_length, List.length_replicate]
      simp only [step40_0, lt_cast, hk, decide_true, cond_true, inner _ _ k _ hk (by rw [hlen]; omega) (by rw [hlen]; omega), optE, wr_succ (show k < 4611686018427387904 by omega)]
      rfl) (by simp [step40_0, prodW, compF]) 0 (by omega)
  have h0 : prodTo f.1 g.1 (List.replicate (f.1.length + g.1.length - 1) 0) 0 = List.replicate (f.1.length + g.1.length - 1) 0 := rfl
  rw [show ((0 : Nat) : Int) = 0 from rfl, h0] at outer
  simp only [s40, hn, Int.toNat_natCast, room_true (show (f.1.length + g.1.length - 1) * 8 ≤ 140737488355328 by omega) (by omega), decide_true, Bool.and_true, show decide ((0 : Int) ≤ ((f.1.length + g.1.length - 1 : Nat) : Int)) = true from decide_eq_true (by omega), cond_true, outer, optE]
noncomputable def p40 : (List Int × Int) × (List Int × Int) → Option (List Int × Int) := fun x => if filtE x.1 = 0 ∧ filtE x.2 = 0 then some (compF x.1 x.2) else none
theorem p40_pos {x : (List Int × Int) × (List Int × Int)} (h : filtE x.1 = 0 ∧ filtE x.2 = 0) : p40 x = some (compF x.1 x.2) := if_pos h
theorem j40 : ItemOk Try.prog (.fn 40 [.d (.agg (.pair (.slice (.int .i64)) (.int .i64))), .d (.agg (.pair (.slice (.int .i64)) (.int .i64)))] [.d (.agg (.pair (.slice (.int .i64)) (.int .i64)))] (p40)) := item_imp i40 (by
  intro x y h
  unfold p40 at h
  split at h
  · rename_i hg
    rw [← h]
    exact law40 x.1 x.2 hg
  · cases h)
noncomputable def Ga7K6 : List Ev.Item := .fn 40 [.d (.agg (.pair (.slice (.int .i64)) (.int .i64))), .d (.agg (.pair (.slice (.int .i64)) (.int .i64)))] [.d (.agg (.pair (.slice (.int .i64)) (.int .i64)))] (p40) :: Ga7K5
theorem Ga7K6_ok : ∀ q ∈ Ga7K6, ItemOk Try.prog q := items_cons j40 Ga7K5_ok
end Go.Proofs.Ytinkhmfciealkaa
