/- Operations, and regions that stand in one order. -/
import Derived.Test.YtinkhmfciealkaaExec2
import Derived.Tactics
set_option linter.unusedSimpArgs false
namespace Go.Ev
open Go.RowKit

def CallOk (P : Program) (R : Type) (call : CallK R) : Prop := ∀ g vs k r, call g vs k = some r → ∃ rv, k rv = some r ∧ Meets P g vs rv

section
variable {P : Program} {R : Type} {call : CallK R} {s s' : PS} {o : Oper}

theorem evL_fn {B0 : Nat} {w0 : Base} {β : Nat → Option Value} {p : Nat → Prop} {a : Act} {w : World} (inv : Inv B0 w0 β p s a w) {x : Operand} {g : FuncId} (h : evL s x = .fn g) : a.eval x = .func (.func g) #[] #[] := by
  have := evL_ok inv x (by rw [h]; intro e; cases e)
  rwa [h] at this

theorem callable_iff {g : FuncId} (h : callable P g = true) : ∃ fn c, P.funcs[g]? = some fn ∧ fn.body = some c := by
  unfold callable at h
  split at h
  · rename_i fn hf
    cases hb : fn.body with
    | none => rw [hb] at h; cases h
    | some c => exact ⟨fn, c, hf, hb⟩
  · cases h

theorem run_enter (hns : NoSpecial P) {f : Operand} {args : Array Operand} {ts : Array TypeId} (ho : o.op = .call { callee := .value f, args := args, argTypes := ts }) {a : Act} {g : FuncId} (hf : a.eval f = .func (.func g) #[] #[])
    (hc : callable P g = true) (w : World) : (execOp a.eval o).run P w = .ok (.enter g (args.map a.eval)) w := by
  obtain ⟨fn, c, h1, h2⟩ := callable_iff hc
  have h3 : fn.name ≠ "runtime.NumGoroutine" := by simpa using hns g fn h1
  simp [execOp, ho, resolve, Deferred.ofValue, hf, invoke, callFunc, h1, h2, h3]

/-- A call, whatever is made of its result. -/
theorem wp_call (hns : NoSpecial P) {B0 : Nat} {w0 : Base} {β : Nat → Option Value} {p : Nat → Prop} {a : Act} {w : World} (inv : Inv B0 w0 β p s a w) {f : Operand} {args : Array Operand} {ts : Array TypeId}
    (ho : o.op = .call { callee := .value f, args := args, argTypes := ts }) {g : FuncId} (hf : evL s f = .fn g) (hc : callable P g = true) {vs : List CV} {rv : RV} (hm : Meets P g vs rv) (hs : snapCs s (evCs s args.toList) = some vs)
    (hcl : (anyRef (evCs s args.toList) && (!(rv.v.all fun v => !v.behind) || rv.b.behind)) = false) {next : Act → World → Prop} {Q : Exit → Act → World → Prop}
    (h : ∀ v w', Below w.heap.size w w' → RepRV w.heap.size w' p rv v → next (a.put o.dst v) w') : o.wp P a w next Q := by
  unfold Oper.wp
  rw [run_enter hns ho (evL_fn inv hf) hc w, Oper.upon_enter]
  refine (call_ok inv hm hs hcl).mono fun e w' ⟨v, he, hb, hr⟩ => ?_
  subst he
  exact h v w' hb hr

theorem step_pick {c x y : Operand} (ho : o.op = .pick c x y) {q : Bool} (hc : evL s c = .bool q) : StepOk P s o (s.put o.dst (ev s (if q then x else y))) :=
  StepOk.value fun B0 w0 β p a w inv => by
    have := evL_bool inv hc
    refine ⟨a.eval (if q then x else y), ?_, ev_ok inv _⟩
    cases q <;> simp [execOp, ho, this, asBool]

theorem callOp_ok (hns : NoSpecial P) (hcall : CallOk P R call) {f : Operand} {args : Array Operand} {ts : Array TypeId} (ho : o.op = .call { callee := .value f, args := args, argTypes := ts }) {k : PS → Option R} {r : R} (h : callOp P R call s o f args.toList k = some r) : ∃ s', k s' = some r ∧ StepOk P s o s' := by
  unfold callOp at h
  split at h
  · rename_i g d hf hd
    split at h
    · rename_i hc
      split at h
      · rename_i vs hs
        obtain ⟨rv, hk, hm⟩ := hcall _ _ _ _ h
        split at hk
        · cases hk
        rename_i hcl
        have hcl := Bool.eq_false_iff.2 hcl
        split at hk
        · rename_i s' ht
          refine ⟨s', hk, ?_⟩
          intro B0 w0 a w ⟨β, p, inv⟩ next Q hn
          refine wp_call hns inv ho hf hc hm hs hcl fun v w' hb hr => hn _ _ ?_
          rw [hd]
          exact take_result_ok inv hb hr ht
        · cases hk
      · cases h
    · cases h
  · cases h

/-- One operation: from the evaluator to the model. -/
theorem runOp_ok (hns : NoSpecial P) (hcall : CallOk P R call) {k : PS → Option R} {r : R} (h : runOp P R call s o k = some r) : ∃ s', k s' = some r ∧ StepOk P s o s' := by
  unfold runOp at h
  split at h
  · rename_i c x y ho
    split at h
    · rename_i q hc
      have := step_pick (P := P) ho hc
      cases q
      · exact ⟨_, h, this⟩
      · exact ⟨_, h, this⟩
    · cases h
  · rename_i f args ts ho
    split at h
    · rename_i g hf
      obtain ⟨s', h1, h2⟩ := callOp_ok hns hcall ho h
      exact ⟨s', h1, fun B0 w0 a w hr next Q hn => h2 B0 w0 a w (aheadOf_rel hr) next Q hn⟩
    · cases h
  · rename_i T x lo hi m ho
    have he : ({ o with op := .slice T x lo hi m } : Oper) = o := by rw [← ho]
    rw [he] at h
    split at h
    · rename_i c s' hs
      cases c with
      | false => cases h
      | true => exact ⟨s', h, fun B0 w0 a w hr next Q hn => step_ok hs B0 w0 a w (aheadSlice_rel hr) next Q hn⟩
    · cases h
  · split at h
    · rename_i c s' hs
      cases c with
      | false => cases h
      | true => exact ⟨s', h, step_ok hs⟩
    · cases h

/-- A truth value that a slot is known to bear. -/
theorem put_same {a : Act} {t : Tmp} {v : Value} (h : a.eval (.tmp t) = v) : a.put (some t) v = a := by
  have : a.tmps.setIfInBounds t v = a.tmps := by
    apply Array.ext
    · exact Array.size_setIfInBounds
    · intro i h1 h2
      rw [Array.getElem_setIfInBounds]
      split
      · rename_i e
        subst e
        rw [← h]
        simp [Act.eval, h2]
      · rfl
  show ({ a with tmps := a.tmps.setIfInBounds t v } : Act) = a
  rw [this]

theorem ev_bool {B0 : Nat} {w0 : Base} {β : Nat → Option Value} {p : Nat → Prop} {a : Act} {w : World} (inv : Inv B0 w0 β p s a w) {x : Operand} {b : Bool} (h : ev s x = .c (.l (.bool b))) : a.eval x = .bool b := by
  have := ev_ok inv x
  rw [h] at this
  exact this

theorem rel_setBool {B0 : Nat} {w0 : Base} {a : Act} {w : World} (h : Rel B0 w0 s a w) {t : Tmp} {b : Bool} (hb : ev s (.tmp t) = .c (.l (.bool b))) : Rel B0 w0 (setBool s t b) a w := by
  obtain ⟨β, p, inv⟩ := h
  have e := ev_bool inv hb
  have := inv.put (some t) (x := .c (.l (.bool b))) (v := .bool b) (by rfl)
  rw [put_same e] at this
  exact ⟨β, p, this⟩

theorem rel_skip {B0 : Nat} {w0 : Base} {a : Act} {w : World} (h : Rel B0 w0 s a w) (d : Option Tmp) : Rel B0 w0 (s.put d skipped) (a.put d undef) w := by
  obtain ⟨β, p, inv⟩ := h
  exact ⟨β, p, inv.put d ⟨#[], rfl, repCs_nil⟩⟩

/-- What a guard says, where it is known. -/
theorem yielded_bool {B0 : Nat} {w0 : Base} {β : Nat → Option Value} {p : Nat → Prop} {a : Act} {w : World} (inv : Inv B0 w0 β p s a w) {ops : Array Oper} {j : Nat} {oj : Oper} (hj : ops[j]? = some oj) {g : Tmp} (hd : oj.dst = some g)
    {b : Bool} (hb : ev s (.tmp g) = .c (.l (.bool b))) : yielded ops a.tmps j = some b := by
  have e := ev_bool inv hb
  unfold yielded
  rw [hj, Option.bind_some, hd, Option.bind_some]
  simp only [Act.eval] at e
  cases hg : a.tmps[g]? with
  | none =>
    rw [Array.getD_eq_getD_getElem?, hg] at e
    cases e
  | some v =>
    rw [Array.getD_eq_getD_getElem?, hg] at e
    obtain rfl : v = .bool b := e
    rfl

theorem yielded_none {B0 : Nat} {w0 : Base} {β : Nat → Option Value} {p : Nat → Prop} {a : Act} {w : World} (inv : Inv B0 w0 β p s a w) {ops : Array Oper} {j : Nat} {oj : Oper} (hj : ops[j]? = some oj) {g : Tmp} (hd : oj.dst = some g)
    (hb : ev s (.tmp g) = .tup []) : yielded ops a.tmps j = none := by
  have e := ev_ok inv (.tmp g)
  rw [hb] at e
  obtain ⟨vs, e, _⟩ := e
  unfold yielded
  rw [hj, Option.bind_some, hd, Option.bind_some]
  simp only [Act.eval] at e
  cases hg : a.tmps[g]? with
  | none => rfl
  | some v =>
    rw [Array.getD_eq_getD_getElem?, hg] at e
    obtain rfl : v = .tuple vs := e
    rfl

/-- One operation of a region, with its guard. -/
def OpTo (P : Program) (ops : Array Oper) (s : PS) (o : Oper) (s' : PS) : Prop :=
  ∀ B0 w0 a w, Rel B0 w0 s a w → ∀ (next : Act → World → Prop) (Q : Exit → Act → World → Prop), (∀ a' w', Rel B0 w0 s' a' w' → next a' w') →
    if Region.wanted o (yielded ops a.tmps) then o.wp P a w next Q else next (a.put o.dst undef) w

theorem opTo_free {ops : Array Oper} (hg : o.guard = none) (h : StepOk P s o s') : OpTo P ops s o s' := fun B0 w0 a w hr next Q hn => by
  rw [if_pos (by simp [Region.wanted, hg])]
  exact h B0 w0 a w hr next Q hn

theorem opTo_on {ops : Array Oper} {j : Nat} {want : Bool} (hg : o.guard = some (j, want)) {oj : Oper} (hj : ops[j]? = some oj) {g : Tmp} (hd : oj.dst = some g) (hb : ev s (.tmp g) = .c (.l (.bool want)))
    (h : StepOk P s o s') : OpTo P ops s o s' := fun B0 w0 a w hr next Q hn => by
  obtain ⟨β, p, inv⟩ := hr
  rw [if_pos (by simp [Region.wanted, hg, yielded_bool inv hj hd hb])]
  exact h B0 w0 a w ⟨β, p, inv⟩ next Q hn

theorem stepOk_setBool {g : Tmp} {b : Bool} (hb : ev s (.tmp g) = .c (.l (.bool b))) (h : StepOk P (setBool s g b) o s') : StepOk P s o s' :=
  fun B0 w0 a w hr next Q hn => h B0 w0 a w (rel_setBool hr hb) next Q hn

theorem opTo_off {ops : Array Oper} {j : Nat} {want : Bool} (hg : o.guard = some (j, want)) {oj : Oper} (hj : ops[j]? = some oj) {g : Tmp} (hd : oj.dst = some g) {b : Bool} (hb : ev s (.tmp g) = .c (.l (.bool b))) (hne : b ≠ want) :
    OpTo P ops s o ((setBool s g b).put o.dst skipped) := fun B0 w0 a w hr next Q hn => by
  obtain ⟨β, p, inv⟩ := hr
  rw [if_neg (by simp [Region.wanted, hg, yielded_bool inv hj hd hb, hne])]
  exact hn _ _ (rel_skip (rel_setBool ⟨β, p, inv⟩ hb) _)

theorem opTo_none {ops : Array Oper} {j : Nat} {want : Bool} (hg : o.guard = some (j, want)) {oj : Oper} (hj : ops[j]? = some oj) {g : Tmp} (hd : oj.dst = some g) (hb : ev s (.tmp g) = .tup []) :
    OpTo P ops s o (s.put o.dst skipped) := fun B0 w0 a w hr next Q hn => by
  obtain ⟨β, p, inv⟩ := hr
  rw [if_neg (by simp [Region.wanted, hg, yielded_none inv hj hd hb])]
  exact hn _ _ (rel_skip ⟨β, p, inv⟩ _)

def OpsTo (P : Program) (ops : Array Oper) (l : List Oper) (s s' : PS) : Prop :=
  ∀ B0 w0 a w, Rel B0 w0 s a w → ∀ Q : Exit → Act → World → Prop, (∀ a' w', Rel B0 w0 s' a' w' → Q .normal a' w') → wpList P ops Q l a w

theorem OpTo.cons {ops : Array Oper} {l : List Oper} {s1 s2 : PS} (h1 : OpTo P ops s o s1) (h2 : OpsTo P ops l s1 s2) : OpsTo P ops (o :: l) s s2 := fun B0 w0 a w hr Q hq => by
  have := h1 B0 w0 a w hr (wpList P ops Q l) Q fun a' w' hr' => h2 B0 w0 a' w' hr' Q hq
  unfold wpList
  split
  · rename_i hw; rw [if_pos hw] at this; exact .inl this
  · rename_i hw; rw [if_neg hw] at this; exact this

theorem runOps_ok (hns : NoSpecial P) (hcall : CallOk P R call) {ops : Array Oper} : ∀ {l : List Oper} {s : PS} {k : PS → Option R} {r : R}, runOps P R call ops.toList l s k = some r → ∃ s', k s' = some r ∧ OpsTo P ops l s s'
  | [], s, k, r, h => ⟨s, h, fun _ _ a w hr Q hq => wpList_nil (hq a w hr)⟩
  | o :: l, s, k, r, h => by
    unfold runOps at h
    split at h
    · rename_i hg
      obtain ⟨s1, h1, h2⟩ := runOp_ok hns hcall h
      obtain ⟨s2, h3, h4⟩ := runOps_ok hns hcall h1
      exact ⟨s2, h3, (opTo_free hg h2).cons h4⟩
    · rename_i j want hg
      split at h
      · rename_i oj hj
        rw [Array.getElem?_toList] at hj
        split at h
        · rename_i g hd
          split at h
          · rename_i b hb
            cases b with
            | true =>
              simp only [cond_true] at h
              cases want with
              | true =>
                simp only [cond_true, cond_false] at h
                obtain ⟨s1, h1, h2⟩ := runOp_ok hns hcall h
                obtain ⟨s2, h3, h4⟩ := runOps_ok hns hcall h1
                exact ⟨s2, h3, (opTo_on hg hj hd hb (stepOk_setBool hb h2)).cons h4⟩
              | false =>
                obtain ⟨s2, h3, h4⟩ := runOps_ok hns hcall h
                exact ⟨s2, h3, (opTo_off hg hj hd hb (by simp)).cons h4⟩
            | false =>
              simp only [cond_false] at h
              cases want with
              | true =>
                obtain ⟨s2, h3, h4⟩ := runOps_ok hns hcall h
                exact ⟨s2, h3, (opTo_off hg hj hd hb (by simp)).cons h4⟩
              | false =>
                simp only [cond_true, cond_false] at h
                obtain ⟨s1, h1, h2⟩ := runOp_ok hns hcall h
                obtain ⟨s2, h3, h4⟩ := runOps_ok hns hcall h1
                exact ⟨s2, h3, (opTo_on hg hj hd hb (stepOk_setBool hb h2)).cons h4⟩
          · rename_i hb
            obtain ⟨s2, h3, h4⟩ := runOps_ok hns hcall h
            exact ⟨s2, h3, (opTo_none hg hj hd hb).cons h4⟩
          · cases h
        · cases h
      · cases h
end
end Go.Ev
