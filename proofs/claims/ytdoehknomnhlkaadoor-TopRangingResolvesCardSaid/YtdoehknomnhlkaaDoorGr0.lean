/- Printed by gen.py: specifications of functions. -/
import Derived.Test.YtdoehknomnhlkaaDoorGc3
set_option linter.unusedSimpArgs false
set_option maxRecDepth 100000
namespace Go.Proofs.YtdoehknomnhlkaaDoor
open Go.Ev
noncomputable def RfK : List Ev.Item := [.fn 32 [.d (.slice (.agg (.pair zI zP))), .d zI, .d (.slice zI)] [.d .bool] s32]
theorem RfK_ok : ∀ q ∈ RfK, ItemOk Tryd.prog q := items_cons i32 items_nil
noncomputable def p10n0 : (Int × Int) → Option ((List Int) × Bool) := fun _ =>
 some (([], false))
def f10n0 : (Int × Int) → (List (Int × Int × Int)) × (Int × Int) := fun limit => ([], limit)
theorem h10n0 : ∀ d, evalK Tryd.prog (Pars [.d (.slice zI), .d .bool]) (knowM md7 RfK) 40 20 10 (cvs [.d (.slice (.agg (.pair zI zP))), .d (.agg zP)] (f10n0 d)) (canonK [.d (.slice zI), .d .bool]) = p10n0 d := fun d => by kernel_rfl
noncomputable def s10n0 : (List (Int × Int × Int)) × (Int × Int) → Option ((List Int) × Bool) := fun
 | ([], limit) => p10n0 limit
 | _ => none
theorem q10n0 : ∀ x y, s10n0 x = some y → ∃ d, x = f10n0 d ∧ p10n0 d = some y := by
 intro x y h
 unfold s10n0 at h
 split at h
 ·exact ⟨_, rfl, h⟩
 ·cases h
theorem i10n0 : ItemOk Tryd.prog (.fn 10 [.d (.slice (.agg (.pair zI zP))), .d (.agg zP)] [.d (.slice zI), .d .bool] s10n0) := @item_fnP Tryd.prog md7 ext7 RfK noSpecial mixed RfK_ok 10 40 20 [.d (.slice (.agg (.pair zI zP))), .d (.agg zP)] [.d (.slice zI), .d .bool] ((Int × Int)) f10n0 p10n0 s10n0 h10n0 q10n0
@[reducible] def T10_4 : Tmpl := ⟨57, [(3, .ref 3 0 0 0)], [.val 0 (.slice (.agg (.pair zI zP))), .val 6 zI, .own 7 21 27 (.slice zI), .val 8 zI, .val 9 (.slice zI), .val 10 .bool, .val 11 zI, .cells 3 [.d zP]], [], none⟩
@[reducible] def X10_4 : List (Ex × Tmpl) := [(.exit 4, ⟨57, [(3, .ref 3 0 0 0)], [.val 0 (.slice (.agg (.pair zI zP))), .val 6 zI, .own 7 21 27 (.slice zI), .val 8 zI, .val 10 .bool, .cells 3 [.d zP]], [], none⟩)]
noncomputable def step10_4 : (List (Int × Int × Int)) × Int × (List (List Int)) × Int × (List Int) × Bool × Int × (Int × Int) → Option (((List (Int × Int × Int)) × Int × (List (List Int)) × Int × (List Int) × Bool × Int × (Int × Int)) ⊕ ((List (Int × Int × Int)) × Int × (List (List Int)) × Int × Bool × (Int × Int))) := fun (l, size, all0, i, left, found, d, limit) =>
 bif decide (d ≤ limit.2) then
  bif !found then
   optE (s32 (l, d, left)) (fun r1 =>
    some (.inl (l, size, all0, i, left, r1, wr (d + 1), limit)))
    (none)
  else
   some (.inr (l, size, all0, i, found, limit))
 else
  some (.inr (l, size, all0, i, found, limit))
theorem one10_4 : oneLoop Tryd.prog 10 4 = true := by kernel_rfl
theorem lp10_4 : ItemOk Tryd.prog (.loop 10 4 T10_4 X10_4 (loopVal step10_4)) := item_loopM md7 ext7 (U := 40) (n := 19) noSpecial mixed RfK_ok one10_4 (fun x => by kernel_rfl)
def pi10_4 : (List (Int × Int × Int)) × Int × (List (List Int)) × Int × (List Int) × Bool × Int × (Int × Int) → (List (Int × Int × Int)) × Int × (List (List Int)) × Int × (Int × Int) := fun (l, size, all0, i, _, _, _, limit) => (l, size, all0, i, limit)
def rho10_4 : ((List (Int × Int × Int)) × Int × (List (List Int)) × Int × Bool × (Int × Int)) → (List (Int × Int × Int)) × Int × (List (List Int)) × Int × (Int × Int) := fun (e0, e1, e2, e3, _, e5) => (e0, e1, e2, e3, e5)
theorem ka10_4 : ∀ x y, step10_4 x = some (.inl y) → pi10_4 y = pi10_4 x := by
 rintro ⟨l, size, all0, i, left, found, d, limit⟩ y h
 dsimp only [step10_4] at h
 rcases bifS h with ⟨_, h⟩ | ⟨_, h⟩
 ·rcases bifS h with ⟨_, h⟩ | ⟨_, h⟩
  ·obtain ⟨r1, _, h⟩ := optS h
   cases h; rfl
  ·cases h
 ·cases h
theorem kb10_4 : ∀ x e, step10_4 x = some (.inr e) → rho10_4 e = pi10_4 x := by
 rintro ⟨l, size, all0, i, left, found, d, limit⟩ y h
 dsimp only [step10_4] at h
 rcases bifS h with ⟨_, h⟩ | ⟨_, h⟩
 ·rcases bifS h with ⟨_, h⟩ | ⟨_, h⟩
  ·obtain ⟨r1, _, h⟩ := optS h
   cases h
  ·cases h; rfl
 ·cases h; rfl
noncomputable def F10_4 : T10_4.D → Out (ExT X10_4) := fun (l, size, all0, i, left, found, d, limit) => .alt (loopVal step10_4 (l, size, all0, i, left, found, d, limit)) (fun e => .done ((l, size, all0, i, e.2.2.2.2.1, limit))) .no
theorem hO10_4 : ∀ x y, (F10_4 x).at' = some y → loopVal step10_4 x = some y := by
 rintro ⟨l, size, all0, i, left, found, d, limit⟩ y h
 cases hv : loopVal step10_4 (l, size, all0, i, left, found, d, limit) with
 | none =>
   have h : (Out.alt (loopVal step10_4 (l, size, all0, i, left, found, d, limit)) _ Out.no).at' = some y := h
   rw [hv] at h; cases h
 | some e =>
   have h : (Out.alt (loopVal step10_4 (l, size, all0, i, left, found, d, limit)) _ Out.no).at' = some y := h
   rw [hv] at h
   have k := loop_keep step10_4 pi10_4 rho10_4 ka10_4 kb10_4 _ _ hv
   obtain ⟨e0, e1, e2, e3, e4, e5⟩ := e
   cases k
   exact h
theorem lo10_4 : ItemOk Tryd.prog (.loopO 10 4 T10_4 X10_4 F10_4) := item_loopO lp10_4 hO10_4
noncomputable def Gr0K1 : List Ev.Item := .loopO 10 4 T10_4 X10_4 F10_4 :: RfK
theorem Gr0K1_ok : ∀ q ∈ Gr0K1, ItemOk Tryd.prog q := items_cons lo10_4 RfK_ok
noncomputable def p10n1 : (Int × Int × Int) × (Int × Int) → Option ((List Int) × Bool) := fun (t0, limit) =>
 optE (loopVal step10_4 ([t0], 1, [[0]], 0, [], false, limit.1, limit)) (fun e1 =>
 bif !e1.2.2.2.2.1 then
 some (([0], true))
 else
 some (([], false)))
 (none)
def f10n1 : (Int × Int × Int) × (Int × Int) → (List (Int × Int × Int)) × (Int × Int) := fun (t0, limit) => ([t0], limit)
theorem h10n1 : ∀ d, evalK Tryd.prog (Pars [.d (.slice zI), .d .bool]) (knowM md7 Gr0K1) 40 20 10 (cvs [.d (.slice (.agg (.pair zI zP))), .d (.agg zP)] (f10n1 d)) (canonK [.d (.slice zI), .d .bool]) = p10n1 d := fun d => by kernel_rfl
noncomputable def s10n1 : (List (Int × Int × Int)) × (Int × Int) → Option ((List Int) × Bool) := fun
 | ([t0], limit) => p10n1 (t0, limit)
 | _ => none
theorem q10n1 : ∀ x y, s10n1 x = some y → ∃ d, x = f10n1 d ∧ p10n1 d = some y := by
 intro x y h
 unfold s10n1 at h
 split at h
 ·exact ⟨_, rfl, h⟩
 ·cases h
theorem i10n1 : ItemOk Tryd.prog (.fn 10 [.d (.slice (.agg (.pair zI zP))), .d (.agg zP)] [.d (.slice zI), .d .bool] s10n1) := @item_fnP Tryd.prog md7 ext7 Gr0K1 noSpecial mixed Gr0K1_ok 10 40 20 [.d (.slice (.agg (.pair zI zP))), .d (.agg zP)] [.d (.slice zI), .d .bool] ((Int × Int × Int) × (Int × Int)) f10n1 p10n1 s10n1 h10n1 q10n1
@[reducible] def T10_4a : Tmpl := ⟨57, [(3, .ref 3 0 0 0)], [.val 0 (.slice (.agg (.pair zI zP))), .val 6 zI, .own 7 21 27 (.slice zI), .val 8 zI, .own 9 34 3 zI, .val 10 .bool, .val 11 zI, .cells 3 [.d zP]], [], none⟩
@[reducible] def X10_4a : List (Ex × Tmpl) := [(.exit 4, ⟨57, [(3, .ref 3 0 0 0)], [.val 0 (.slice (.agg (.pair zI zP))), .val 6 zI, .own 7 21 27 (.slice zI), .val 8 zI, .val 10 .bool, .cells 3 [.d zP]], [], none⟩)]
noncomputable def step10_4a : (List (Int × Int × Int)) × Int × (List (List Int)) × Int × (List Int) × Bool × Int × (Int × Int) → Option (((List (Int × Int × Int)) × Int × (List (List Int)) × Int × (List Int) × Bool × Int × (Int × Int)) ⊕ ((List (Int × Int × Int)) × Int × (List (List Int)) × Int × Bool × (Int × Int))) := fun (l, size, all0, i, left, found, d, limit) =>
 bif decide (d ≤ limit.2) then
  bif !found then
   optE (s32 (l, d, left)) (fun r1 =>
    some (.inl (l, size, all0, i, left, r1, wr (d + 1), limit)))
    (none)
  else
   some (.inr (l, size, all0, i, found, limit))
 else
  some (.inr (l, size, all0, i, found, limit))
theorem one10_4a : oneLoop Tryd.prog 10 4 = true := by kernel_rfl
theorem lp10_4a : ItemOk Tryd.prog (.loop 10 4 T10_4a X10_4a (loopVal step10_4a)) := item_loopM md7 ext7 (U := 40) (n := 19) noSpecial mixed Gr0K1_ok one10_4a (fun x => by kernel_rfl)
def pi10_4a : (List (Int × Int × Int)) × Int × (List (List Int)) × Int × (List Int) × Bool × Int × (Int × Int) → (List (Int × Int × Int)) × Int × (List (List Int)) × Int × (Int × Int) := fun (l, size, all0, i, _, _, _, limit) => (l, size, all0, i, limit)
def rho10_4a : ((List (Int × Int × Int)) × Int × (List (List Int)) × Int × Bool × (Int × Int)) → (List (Int × Int × Int)) × Int × (List (List Int)) × Int × (Int × Int) := fun (e0, e1, e2, e3, _, e5) => (e0, e1, e2, e3, e5)
theorem ka10_4a : ∀ x y, step10_4a x = some (.inl y) → pi10_4a y = pi10_4a x := by
 rintro ⟨l, size, all0, i, left, found, d, limit⟩ y h
 dsimp only [step10_4a] at h
 rcases bifS h with ⟨_, h⟩ | ⟨_, h⟩
 ·rcases bifS h with ⟨_, h⟩ | ⟨_, h⟩
  ·obtain ⟨r1, _, h⟩ := optS h
   cases h; rfl
  ·cases h
 ·cases h
theorem kb10_4a : ∀ x e, step10_4a x = some (.inr e) → rho10_4a e = pi10_4a x := by
 rintro ⟨l, size, all0, i, left, found, d, limit⟩ y h
 dsimp only [step10_4a] at h
 rcases bifS h with ⟨_, h⟩ | ⟨_, h⟩
 ·rcases bifS h with ⟨_, h⟩ | ⟨_, h⟩
  ·obtain ⟨r1, _, h⟩ := optS h
   cases h
  ·cases h; rfl
 ·cases h; rfl
noncomputable def F10_4a : T10_4a.D → Out (ExT X10_4a) := fun (l, size, all0, i, left, found, d, limit) => .alt (loopVal step10_4a (l, size, all0, i, left, found, d, limit)) (fun e => .done ((l, size, all0, i, e.2.2.2.2.1, limit))) .no
theorem hO10_4a : ∀ x y, (F10_4a x).at' = some y → loopVal step10_4a x = some y := by
 rintro ⟨l, size, all0, i, left, found, d, limit⟩ y h
 cases hv : loopVal step10_4a (l, size, all0, i, left, found, d, limit) with
 | none =>
   have h : (Out.alt (loopVal step10_4a (l, size, all0, i, left, found, d, limit)) _ Out.no).at' = some y := h
   rw [hv] at h; cases h
 | some e =>
   have h : (Out.alt (loopVal step10_4a (l, size, all0, i, left, found, d, limit)) _ Out.no).at' = some y := h
   rw [hv] at h
   have k := loop_keep step10_4a pi10_4a rho10_4a ka10_4a kb10_4a _ _ hv
   obtain ⟨e0, e1, e2, e3, e4, e5⟩ := e
   cases k
   exact h
theorem lo10_4a : ItemOk Tryd.prog (.loopO 10 4 T10_4a X10_4a F10_4a) := item_loopO lp10_4a hO10_4a
noncomputable def Gr0K2 : List Ev.Item := .loopO 10 4 T10_4a X10_4a F10_4a :: Gr0K1
theorem Gr0K2_ok : ∀ q ∈ Gr0K2, ItemOk Tryd.prog q := items_cons lo10_4a Gr0K1_ok
noncomputable def p10n2 : (Int × Int × Int) × (Int × Int × Int) × (Int × Int) → Option ((List Int) × Bool) := fun (t0, t1, limit) =>
 optE (loopVal step10_4a ([t0, t1], 1, [[0], [1]], 0, [1], false, limit.1, limit)) (fun e1 =>
 bif !e1.2.2.2.2.1 then
 some (([0], true))
 else
 optE (loopVal step10_4a ([t0, t1], 1, [[0], [1]], 1, [0], false, limit.1, limit)) (fun e2 =>
 bif !e2.2.2.2.2.1 then
 some (([1], true))
 else
 optE (loopVal step10_4a ([t0, t1], 2, [[0, 1]], 0, [], false, limit.1, limit)) (fun e3 =>
 bif !e3.2.2.2.2.1 then
 some (([0, 1], true))
 else
 some (([], false)))
 (none))
 (none))
 (none)
def f10n2 : (Int × Int × Int) × (Int × Int × Int) × (Int × Int) → (List (Int × Int × Int)) × (Int × Int) := fun (t0, t1, limit) => ([t0, t1], limit)
theorem h10n2 : ∀ d, evalK Tryd.prog (Pars [.d (.slice zI), .d .bool]) (knowM md7 Gr0K2) 40 20 10 (cvs [.d (.slice (.agg (.pair zI zP))), .d (.agg zP)] (f10n2 d)) (canonK [.d (.slice zI), .d .bool]) = p10n2 d := fun d => by kernel_rfl
noncomputable def s10n2 : (List (Int × Int × Int)) × (Int × Int) → Option ((List Int) × Bool) := fun
 | ([t0, t1], limit) => p10n2 (t0, t1, limit)
 | _ => none
theorem q10n2 : ∀ x y, s10n2 x = some y → ∃ d, x = f10n2 d ∧ p10n2 d = some y := by
 intro x y h
 unfold s10n2 at h
 split at h
 ·exact ⟨_, rfl, h⟩
 ·cases h
theorem i10n2 : ItemOk Tryd.prog (.fn 10 [.d (.slice (.agg (.pair zI zP))), .d (.agg zP)] [.d (.slice zI), .d .bool] s10n2) := @item_fnP Tryd.prog md7 ext7 Gr0K2 noSpecial mixed Gr0K2_ok 10 40 20 [.d (.slice (.agg (.pair zI zP))), .d (.agg zP)] [.d (.slice zI), .d .bool] ((Int × Int × Int) × (Int × Int × Int) × (Int × Int)) f10n2 p10n2 s10n2 h10n2 q10n2
noncomputable def p10n3 : (Int × Int × Int) × (Int × Int × Int) × (Int × Int × Int) × (Int × Int) → Option ((List Int) × Bool) := fun (t0, t1, t2, limit) =>
 optE (loopVal step10_4a ([t0, t1, t2], 1, [[0], [1], [2]], 0, [1, 2], false, limit.1, limit)) (fun e1 =>
 bif !e1.2.2.2.2.1 then
 some (([0], true))
 else
 optE (loopVal step10_4a ([t0, t1, t2], 1, [[0], [1], [2]], 1, [0, 2], false, limit.1, limit)) (fun e2 =>
 bif !e2.2.2.2.2.1 then
 some (([1], true))
 else
 optE (loopVal step10_4a ([t0, t1, t2], 1, [[0], [1], [2]], 2, [0, 1], false, limit.1, limit)) (fun e3 =>
 bif !e3.2.2.2.2.1 then
 some (([2], true))
 else
 optE (loopVal step10_4a ([t0, t1, t2], 2, [[0, 1], [0, 2], [1, 2]], 0, [2], false, limit.1, limit)) (fun e4 =>
 bif !e4.2.2.2.2.1 then
 some (([0, 1], true))
 else
 optE (loopVal step10_4a ([t0, t1, t2], 2, [[0, 1], [0, 2], [1, 2]], 1, [1], false, limit.1, limit)) (fun e5 =>
 bif !e5.2.2.2.2.1 then
 some (([0, 2], true))
 else
 optE (loopVal step10_4a ([t0, t1, t2], 2, [[0, 1], [0, 2], [1, 2]], 2, [0], false, limit.1, limit)) (fun e6 =>
 bif !e6.2.2.2.2.1 then
 some (([1, 2], true))
 else
 optE (loopVal step10_4a ([t0, t1, t2], 3, [[0, 1, 2]], 0, [], false, limit.1, limit)) (fun e7 =>
 bif !e7.2.2.2.2.1 then
 some (([0, 1, 2], true))
 else
 some (([], false)))
 (none))
 (none))
 (none))
 (none))
 (none))
 (none))
 (none)
def f10n3 : (Int × Int × Int) × (Int × Int × Int) × (Int × Int × Int) × (Int × Int) → (List (Int × Int × Int)) × (Int × Int) := fun (t0, t1, t2, limit) => ([t0, t1, t2], limit)
theorem h10n3 : ∀ d, evalK Tryd.prog (Pars [.d (.slice zI), .d .bool]) (knowM md7 Gr0K2) 40 20 10 (cvs [.d (.slice (.agg (.pair zI zP))), .d (.agg zP)] (f10n3 d)) (canonK [.d (.slice zI), .d .bool]) = p10n3 d := fun d => by kernel_rfl
noncomputable def s10n3 : (List (Int × Int × Int)) × (Int × Int) → Option ((List Int) × Bool) := fun
 | ([t0, t1, t2], limit) => p10n3 (t0, t1, t2, limit)
 | _ => none
theorem q10n3 : ∀ x y, s10n3 x = some y → ∃ d, x = f10n3 d ∧ p10n3 d = some y := by
 intro x y h
 unfold s10n3 at h
 split at h
 ·exact ⟨_, rfl, h⟩
 ·cases h
theorem i10n3 : ItemOk Tryd.prog (.fn 10 [.d (.slice (.agg (.pair zI zP))), .d (.agg zP)] [.d (.slice zI), .d .bool] s10n3) := @item_fnP Tryd.prog md7 ext7 Gr0K2 noSpecial mixed Gr0K2_ok 10 40 20 [.d (.slice (.agg (.pair zI zP))), .d (.agg zP)] [.d (.slice zI), .d .bool] ((Int × Int × Int) × (Int × Int × Int) × (Int × Int × Int) × (Int × Int)) f10n3 p10n3 s10n3 h10n3 q10n3
noncomputable def p10n4 : (Int × Int × Int) × (Int × Int × Int) × (Int × Int × Int) × (Int × Int × Int) × (Int × Int) → Option ((List Int) × Bool) := fun (t0, t1, t2, t3, limit) =>
 optE (loopVal step10_4a ([t0, t1, t2, t3], 1, [[0], [1], [2], [3]], 0, [1, 2, 3], false, limit.1, limit)) (fun e1 =>
 bif !e1.2.2.2.2.1 then
 some (([0], true))
 else
 optE (loopVal step10_4a ([t0, t1, t2, t3], 1, [[0], [1], [2], [3]], 1, [0, 2, 3], false, limit.1, limit)) (fun e2 =>
 bif !e2.2.2.2.2.1 then
 some (([1], true))
 else
 optE (loopVal step10_4a ([t0, t1, t2, t3], 1, [[0], [1], [2], [3]], 2, [0, 1, 3], false, limit.1, limit)) (fun e3 =>
 bif !e3.2.2.2.2.1 then
 some (([2], true))
 else
 optE (loopVal step10_4a ([t0, t1, t2, t3], 1, [[0], [1], [2], [3]], 3, [0, 1, 2], false, limit.1, limit)) (fun e4 =>
 bif !e4.2.2.2.2.1 then
 some (([3], true))
 else
 optE (loopVal step10_4a ([t0, t1, t2, t3], 2, [[0, 1], [0, 2], [0, 3], [1, 2], [1, 3], [2, 3]], 0, [2, 3], false, limit.1, limit)) (fun e5 =>
 bif !e5.2.2.2.2.1 then
 some (([0, 1], true))
 else
 optE (loopVal step10_4a ([t0, t1, t2, t3], 2, [[0, 1], [0, 2], [0, 3], [1, 2], [1, 3], [2, 3]], 1, [1, 3], false, limit.1, limit)) (fun e6 =>
 bif !e6.2.2.2.2.1 then
 some (([0, 2], true))
 else
 optE (loopVal step10_4a ([t0, t1, t2, t3], 2, [[0, 1], [0, 2], [0, 3], [1, 2], [1, 3], [2, 3]], 2, [1, 2], false, limit.1, limit)) (fun e7 =>
 bif !e7.2.2.2.2.1 then
 some (([0, 3], true))
 else
 optE (loopVal step10_4a ([t0, t1, t2, t3], 2, [[0, 1], [0, 2], [0, 3], [1, 2], [1, 3], [2, 3]], 3, [0, 3], false, limit.1, limit)) (fun e8 =>
 bif !e8.2.2.2.2.1 then
 some (([1, 2], true))
 else
 optE (loopVal step10_4a ([t0, t1, t2, t3], 2, [[0, 1], [0, 2], [0, 3], [1, 2], [1, 3], [2, 3]], 4, [0, 2], false, limit.1, limit)) (fun e9 =>
 bif !e9.2.2.2.2.1 then
 some (([1, 3], true))
 else
 optE (loopVal step10_4a ([t0, t1, t2, t3], 2, [[0, 1], [0, 2], [0, 3], [1, 2], [1, 3], [2, 3]], 5, [0, 1], false, limit.1, limit)) (fun e10 =>
 bif !e10.2.2.2.2.1 then
 some (([2, 3], true))
 else
 optE (loopVal step10_4a ([t0, t1, t2, t3], 3, [[0, 1, 2], [0, 1, 3], [0, 2, 3], [1, 2, 3]], 0, [3], false, limit.1, limit)) (fun e11 =>
 bif !e11.2.2.2.2.1 then
 some (([0, 1, 2], true))
 else
 optE (loopVal step10_4a ([t0, t1, t2, t3], 3, [[0, 1, 2], [0, 1, 3], [0, 2, 3], [1, 2, 3]], 1, [2], false, limit.1, limit)) (fun e12 =>
 bif !e12.2.2.2.2.1 then
 some (([0, 1, 3], true))
 else
 optE (loopVal step10_4a ([t0, t1, t2, t3], 3, [[0, 1, 2], [0, 1, 3], [0, 2, 3], [1, 2, 3]], 2, [1], false, limit.1, limit)) (fun e13 =>
 bif !e13.2.2.2.2.1 then
 some (([0, 2, 3], true))
 else
 optE (loopVal step10_4a ([t0, t1, t2, t3], 3, [[0, 1, 2], [0, 1, 3], [0, 2, 3], [1, 2, 3]], 3, [0], false, limit.1, limit)) (fun e14 =>
 bif !e14.2.2.2.2.1 then
 some (([1, 2, 3], true))
 else
 optE (loopVal step10_4a ([t0, t1, t2, t3], 4, [[0, 1, 2, 3]], 0, [], false, limit.1, limit)) (fun e15 =>
 bif !e15.2.2.2.2.1 then
 some (([0, 1, 2, 3], true))
 else
 some (([], false)))
 (none))
 (none))
 (none))
 (none))
 (none))
 (none))
 (none))
 (none))
 (none))
 (none))
 (none))
 (none))
 (none))
 (none))
 (none)
def f10n4 : (Int × Int × Int) × (Int × Int × Int) × (Int × Int × Int) × (Int × Int × Int) × (Int × Int) → (List (Int × Int × Int)) × (Int × Int) := fun (t0, t1, t2, t3, limit) => ([t0, t1, t2, t3], limit)
theorem h10n4 : ∀ d, evalK Tryd.prog (Pars [.d (.slice zI), .d .bool]) (knowM md7 Gr0K2) 40 20 10 (cvs [.d (.slice (.agg (.pair zI zP))), .d (.agg zP)] (f10n4 d)) (canonK [.d (.slice zI), .d .bool]) = p10n4 d := fun d => by kernel_rfl
noncomputable def s10n4 : (List (Int × Int × Int)) × (Int × Int) → Option ((List Int) × Bool) := fun
 | ([t0, t1, t2, t3], limit) => p10n4 (t0, t1, t2, t3, limit)
 | _ => none
theorem q10n4 : ∀ x y, s10n4 x = some y → ∃ d, x = f10n4 d ∧ p10n4 d = some y := by
 intro x y h
 unfold s10n4 at h
 split at h
 ·exact ⟨_, rfl, h⟩
 ·cases h
theorem i10n4 : ItemOk Tryd.prog (.fn 10 [.d (.slice (.agg (.pair zI zP))), .d (.agg zP)] [.d (.slice zI), .d .bool] s10n4) := @item_fnP Tryd.prog md7 ext7 Gr0K2 noSpecial mixed Gr0K2_ok 10 40 20 [.d (.slice (.agg (.pair zI zP))), .d (.agg zP)] [.d (.slice zI), .d .bool] ((Int × Int × Int) × (Int × Int × Int) × (Int × Int × Int) × (Int × Int × Int) × (Int × Int)) f10n4 p10n4 s10n4 h10n4 q10n4
noncomputable def p10n5 : (Int × Int × Int) × (Int × Int × Int) × (Int × Int × Int) × (Int × Int × Int) × (Int × Int × Int) × (Int × Int) → Option ((List Int) × Bool) := fun (t0, t1, t2, t3, t4, limit) =>
 optE (loopVal step10_4a ([t0, t1, t2, t3, t4], 1, [[0], [1], [2], [3], [4]], 0, [1, 2, 3, 4], false, limit.1, limit)) (fun e1 =>
 bif !e1.2.2.2.2.1 then
 some (([0], true))
 else
 optE (loopVal step10_4a ([t0, t1, t2, t3, t4], 1, [[0], [1], [2], [3], [4]], 1, [0, 2, 3, 4], false, limit.1, limit)) (fun e2 =>
 bif !e2.2.2.2.2.1 then
 some (([1], true))
 else
 optE (loopVal step10_4a ([t0, t1, t2, t3, t4], 1, [[0], [1], [2], [3], [4]], 2, [0, 1, 3, 4], false, limit.1, limit)) (fun e3 =>
 bif !e3.2.2.2.2.1 then
 some (([2], true))
 else
 optE (loopVal step10_4a ([t0, t1, t2, t3, t4], 1, [[0], [1], [2], [3], [4]], 3, [0, 1, 2, 4], false, limit.1, limit)) (fun e4 =>
 bif !e4.2.2.2.2.1 then
 some (([3], true))
 else
 optE (loopVal step10_4a ([t0, t1, t2, t3, t4], 1, [[0], [1], [2], [3], [4]], 4, [0, 1, 2, 3], false, limit.1, limit)) (fun e5 =>
 bif !e5.2.2.2.2.1 then
 some (([4], true))
 else
 optE (loopVal step10_4a ([t0, t1, t2, t3, t4], 2, [[0, 1], [0, 2], [0, 3], [0, 4], [1, 2], [1, 3], [1, 4], [2, 3], [2, 4], [3, 4]], 0, [2, 3, 4], false, limit.1, limit)) (fun e6 =>
 bif !e6.2.2.2.2.1 then
 some (([0, 1], true))
 else
 optE (loopVal step10_4a ([t0, t1, t2, t3, t4], 2, [[0, 1], [0, 2], [0, 3], [0, 4], [1, 2], [1, 3], [1, 4], [2, 3], [2, 4], [3, 4]], 1, [1, 3, 4], false, limit.1, limit)) (fun e7 =>
 bif !e7.2.2.2.2.1 then
 some (([0, 2], true))
 else
 optE (loopVal step10_4a ([t0, t1, t2, t3, t4], 2, [[0, 1], [0, 2], [0, 3], [0, 4], [1, 2], [1, 3], [1, 4], [2, 3], [2, 4], [3, 4]], 2, [1, 2, 4], false, limit.1, limit)) (fun e8 =>
 bif !e8.2.2.2.2.1 then
 some (([0, 3], true))
 else
 optE (loopVal step10_4a ([t0, t1, t2, t3, t4], 2, [[0, 1], [0, 2], [0, 3], [0, 4], [1, 2], [1, 3], [1, 4], [2, 3], [2, 4], [3, 4]], 3, [1, 2, 3], false, limit.1, limit)) (fun e9 =>
 bif !e9.2.2.2.2.1 then
 some (([0, 4], true))
 else
 optE (loopVal step10_4a ([t0, t1, t2, t3, t4], 2, [[0, 1], [0, 2], [0, 3], [0, 4], [1, 2], [1, 3], [1, 4], [2, 3], [2, 4], [3, 4]], 4, [0, 3, 4], false, limit.1, limit)) (fun e10 =>
 bif !e10.2.2.2.2.1 then
 some (([1, 2], true))
 else
 optE (loopVal step10_4a ([t0, t1, t2, t3, t4], 2, [[0, 1], [0, 2], [0, 3], [0, 4], [1, 2], [1, 3], [1, 4], [2, 3], [2, 4], [3, 4]], 5, [0, 2, 4], false, limit.1, limit)) (fun e11 =>
 bif !e11.2.2.2.2.1 then
 some (([1, 3], true))
 else
 optE (loopVal step10_4a ([t0, t1, t2, t3, t4], 2, [[0, 1], [0, 2], [0, 3], [0, 4], [1, 2], [1, 3], [1, 4], [2, 3], [2, 4], [3, 4]], 6, [0, 2, 3], false, limit.1, limit)) (fun e12 =>
 bif !e12.2.2.2.2.1 then
 some (([1, 4], true))
 else
 optE (loopVal step10_4a ([t0, t1, t2, t3, t4], 2, [[0, 1], [0, 2], [0, 3], [0, 4], [1, 2], [1, 3], [1, 4], [2, 3], [2, 4], [3, 4]], 7, [0, 1, 4], false, limit.1, limit)) (fun e13 =>
 bif !e13.2.2.2.2.1 then
 some (([2, 3], true))
 else
 optE (loopVal step10_4a ([t0, t1, t2, t3, t4], 2, [[0, 1], [0, 2], [0, 3], [0, 4], [1, 2], [1, 3], [1, 4], [2, 3], [2, 4], [3, 4]], 8, [0, 1, 3], false, limit.1, limit)) (fun e14 =>
 bif !e14.2.2.2.2.1 then
 some (([2, 4], true))
 else
 optE (loopVal step10_4a ([t0, t1, t2, t3, t4], 2, [[0, 1], [0, 2], [0, 3], [0, 4], [1, 2], [1, 3], [1, 4], [2, 3], [2, 4], [3, 4]], 9, [0, 1, 2], false, limit.1, limit)) (fun e15 =>
 bif !e15.2.2.2.2.1 then
 some (([3, 4], true))
 else
 optE (loopVal step10_4a ([t0, t1, t2, t3, t4], 3, [[0, 1, 2], [0, 1, 3], [0, 1, 4], [0, 2, 3], [0, 2, 4], [0, 3, 4], [1, 2, 3], [1, 2, 4], [1, 3, 4], [2, 3, 4]], 0, [3, 4], false, limit.1, limit)) (fun e16 =>
 bif !e16.2.2.2.2.1 then
 some (([0, 1, 2], true))
 else
 optE (loopVal step10_4a ([t0, t1, t2, t3, t4], 3, [[0, 1, 2], [0, 1, 3], [0, 1, 4], [0, 2, 3], [0, 2, 4], [0, 3, 4], [1, 2, 3], [1, 2, 4], [1, 3, 4], [2, 3, 4]], 1, [2, 4], false, limit.1, limit)) (fun e17 =>
 bif !e17.2.2.2.2.1 then
 some (([0, 1, 3], true))
 else
 optE (loopVal step10_4a ([t0, t1, t2, t3, t4], 3, [[0, 1, 2], [0, 1, 3], [0, 1, 4], [0, 2, 3], [0, 2, 4], [0, 3, 4], [1, 2, 3], [1, 2, 4], [1, 3, 4], [2, 3, 4]], 2, [2, 3], false, limit.1, limit)) (fun e18 =>
 bif !e18.2.2.2.2.1 then
 some (([0, 1, 4], true))
 else
 optE (loopVal step10_4a ([t0, t1, t2, t3, t4], 3, [[0, 1, 2], [0, 1, 3], [0, 1, 4], [0, 2, 3], [0, 2, 4], [0, 3, 4], [1, 2, 3], [1, 2, 4], [1, 3, 4], [2, 3, 4]], 3, [1, 4], false, limit.1, limit)) (fun e19 =>
 bif !e19.2.2.2.2.1 then
 some (([0, 2, 3], true))
 else
 optE (loopVal step10_4a ([t0, t1, t2, t3, t4], 3, [[0, 1, 2], [0, 1, 3], [0, 1, 4], [0, 2, 3], [0, 2, 4], [0, 3, 4], [1, 2, 3], [1, 2, 4], [1, 3, 4], [2, 3, 4]], 4, [1, 3], false, limit.1, limit)) (fun e20 =>
 bif !e20.2.2.2.2.1 then
 some (([0, 2, 4], true))
 else
 optE (loopVal step10_4a ([t0, t1, t2, t3, t4], 3, [[0, 1, 2], [0, 1, 3], [0, 1, 4], [0, 2, 3], [0, 2, 4], [0, 3, 4], [1, 2, 3], [1, 2, 4], [1, 3, 4], [2, 3, 4]], 5, [1, 2], false, limit.1, limit)) (fun e21 =>
 bif !e21.2.2.2.2.1 then
 some (([0, 3, 4], true))
 else
 optE (loopVal step10_4a ([t0, t1, t2, t3, t4], 3, [[0, 1, 2], [0, 1, 3], [0, 1, 4], [0, 2, 3], [0, 2, 4], [0, 3, 4], [1, 2, 3], [1, 2, 4], [1, 3, 4], [2, 3, 4]], 6, [0, 4], false, limit.1, limit)) (fun e22 =>
 bif !e22.2.2.2.2.1 then
 some (([1, 2, 3], true))
 else
 optE (loopVal step10_4a ([t0, t1, t2, t3, t4], 3, [[0, 1, 2], [0, 1, 3], [0, 1, 4], [0, 2, 3], [0, 2, 4], [0, 3, 4], [1, 2, 3], [1, 2, 4], [1, 3, 4], [2, 3, 4]], 7, [0, 3], false, limit.1, limit)) (fun e23 =>
 bif !e23.2.2.2.2.1 then
 some (([1, 2, 4], true))
 else
 optE (loopVal step10_4a ([t0, t1, t2, t3, t4], 3, [[0, 1, 2], [0, 1, 3], [0, 1, 4], [0, 2, 3], [0, 2, 4], [0, 3, 4], [1, 2, 3], [1, 2, 4], [1, 3, 4], [2, 3, 4]], 8, [0, 2], false, limit.1, limit)) (fun e24 =>
 bif !e24.2.2.2.2.1 then
 some (([1, 3, 4], true))
 else
 optE (loopVal step10_4a ([t0, t1, t2, t3, t4], 3, [[0, 1, 2], [0, 1, 3], [0, 1, 4], [0, 2, 3], [0, 2, 4], [0, 3, 4], [1, 2, 3], [1, 2, 4], [1, 3, 4], [2, 3, 4]], 9, [0, 1], false, limit.1, limit)) (fun e25 =>
 bif !e25.2.2.2.2.1 then
 some (([2, 3, 4], true))
 else
 optE (loopVal step10_4a ([t0, t1, t2, t3, t4], 4, [[0, 1, 2, 3], [0, 1, 2, 4], [0, 1, 3, 4], [0, 2, 3, 4], [1, 2, 3, 4]], 0, [4], false, limit.1, limit)) (fun e26 =>
 bif !e26.2.2.2.2.1 then
 some (([0, 1, 2, 3], true))
 else
 optE (loopVal step10_4a ([t0, t1, t2, t3, t4], 4, [[0, 1, 2, 3], [0, 1, 2, 4], [0, 1, 3, 4], [0, 2, 3, 4], [1, 2, 3, 4]], 1, [3], false, limit.1, limit)) (fun e27 =>
 bif !e27.2.2.2.2.1 then
 some (([0, 1, 2, 4], true))
 else
 optE (loopVal step10_4a ([t0, t1, t2, t3, t4], 4, [[0, 1, 2, 3], [0, 1, 2, 4], [0, 1, 3, 4], [0, 2, 3, 4], [1, 2, 3, 4]], 2, [2], false, limit.1, limit)) (fun e28 =>
 bif !e28.2.2.2.2.1 then
 some (([0, 1, 3, 4], true))
 else
 optE (loopVal step10_4a ([t0, t1, t2, t3, t4], 4, [[0, 1, 2, 3], [0, 1, 2, 4], [0, 1, 3, 4], [0, 2, 3, 4], [1, 2, 3, 4]], 3, [1], false, limit.1, limit)) (fun e29 =>
 bif !e29.2.2.2.2.1 then
 some (([0, 2, 3, 4], true))
 else
 optE (loopVal step10_4a ([t0, t1, t2, t3, t4], 4, [[0, 1, 2, 3], [0, 1, 2, 4], [0, 1, 3, 4], [0, 2, 3, 4], [1, 2, 3, 4]], 4, [0], false, limit.1, limit)) (fun e30 =>
 bif !e30.2.2.2.2.1 then
 some (([1, 2, 3, 4], true))
 else
 optE (loopVal step10_4a ([t0, t1, t2, t3, t4], 5, [[0, 1, 2, 3, 4]], 0, [], false, limit.1, limit)) (fun e31 =>
 bif !e31.2.2.2.2.1 then
 some (([0, 1, 2, 3, 4], true))
 else
 some (([], false)))
 (none))
 (none))
 (none))
 (none))
 (none))
 (none))
 (none))
 (none))
 (none))
 (none))
 (none))
 (none))
 (none))
 (none))
 (none))
 (none))
 (none))
 (none))
 (none))
 (none))
 (none))
 (none))
 (none))
 (none))
 (none))
 (none))
 (none))
 (none))
 (none))
 (none))
 (none)
def f10n5 : (Int × Int × Int) × (Int × Int × Int) × (Int × Int × Int) × (Int × Int × Int) × (Int × Int × Int) × (Int × Int) → (List (Int × Int × Int)) × (Int × Int) := fun (t0, t1, t2, t3, t4, limit) => ([t0, t1, t2, t3, t4], limit)
theorem h10n5 : ∀ d, evalK Tryd.prog (Pars [.d (.slice zI), .d .bool]) (knowM md7 Gr0K2) 40 20 10 (cvs [.d (.slice (.agg (.pair zI zP))), .d (.agg zP)] (f10n5 d)) (canonK [.d (.slice zI), .d .bool]) = p10n5 d := fun d => by kernel_rfl
noncomputable def s10n5 : (List (Int × Int × Int)) × (Int × Int) → Option ((List Int) × Bool) := fun
 | ([t0, t1, t2, t3, t4], limit) => p10n5 (t0, t1, t2, t3, t4, limit)
 | _ => none
theorem q10n5 : ∀ x y, s10n5 x = some y → ∃ d, x = f10n5 d ∧ p10n5 d = some y := by
 intro x y h
 unfold s10n5 at h
 split at h
 ·exact ⟨_, rfl, h⟩
 ·cases h
theorem i10n5 : ItemOk Tryd.prog (.fn 10 [.d (.slice (.agg (.pair zI zP))), .d (.agg zP)] [.d (.slice zI), .d .bool] s10n5) := @item_fnP Tryd.prog md7 ext7 Gr0K2 noSpecial mixed Gr0K2_ok 10 40 20 [.d (.slice (.agg (.pair zI zP))), .d (.agg zP)] [.d (.slice zI), .d .bool] ((Int × Int × Int) × (Int × Int × Int) × (Int × Int × Int) × (Int × Int × Int) × (Int × Int × Int) × (Int × Int)) f10n5 p10n5 s10n5 h10n5 q10n5
noncomputable def o10n1 : (List (Int × Int × Int)) × (Int × Int) → Option ((List Int) × Bool) := fun x => optE (s10n0 x) some (s10n1 x)
theorem io10n1 : ItemOk Tryd.prog (.fn 10 [.d (.slice (.agg (.pair zI zP))), .d (.agg zP)] [.d (.slice zI), .d .bool] o10n1) := item_or i10n0 i10n1
noncomputable def o10n2 : (List (Int × Int × Int)) × (Int × Int) → Option ((List Int) × Bool) := fun x => optE (o10n1 x) some (s10n2 x)
theorem io10n2 : ItemOk Tryd.prog (.fn 10 [.d (.slice (.agg (.pair zI zP))), .d (.agg zP)] [.d (.slice zI), .d .bool] o10n2) := item_or io10n1 i10n2
noncomputable def o10n3 : (List (Int × Int × Int)) × (Int × Int) → Option ((List Int) × Bool) := fun x => optE (o10n2 x) some (s10n3 x)
theorem io10n3 : ItemOk Tryd.prog (.fn 10 [.d (.slice (.agg (.pair zI zP))), .d (.agg zP)] [.d (.slice zI), .d .bool] o10n3) := item_or io10n2 i10n3
noncomputable def o10n4 : (List (Int × Int × Int)) × (Int × Int) → Option ((List Int) × Bool) := fun x => optE (o10n3 x) some (s10n4 x)
theorem io10n4 : ItemOk Tryd.prog (.fn 10 [.d (.slice (.agg (.pair zI zP))), .d (.agg zP)] [.d (.slice zI), .d .bool] o10n4) := item_or io10n3 i10n4
noncomputable def o10n5 : (List (Int × Int × Int)) × (Int × Int) → Option ((List Int) × Bool) := fun x => optE (o10n4 x) some (s10n5 x)
theorem io10n5 : ItemOk Tryd.prog (.fn 10 [.d (.slice (.agg (.pair zI zP))), .d (.agg zP)] [.d (.slice zI), .d .bool] o10n5) := item_or io10n4 i10n5
end Go.Proofs.YtdoehknomnhlkaaDoor
