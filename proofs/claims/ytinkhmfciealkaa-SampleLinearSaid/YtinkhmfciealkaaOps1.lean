/- The operations that only compute: what the evaluator says of them is what the model does. -/
import Derived.Test.YtinkhmfciealkaaInv
import Derived.Test.YtinkhmfciealkaaFlt
import Derived.Laws.Entries
set_option linter.unusedSimpArgs false
namespace Go.Ev
open Go.RowKit

/-- From the state s the operation comes to the state s'. -/
def StepOk (P : Program) (s : PS) (o : Oper) (s' : PS) : Prop :=
  ∀ B0 w0 a w, Rel B0 w0 s a w → ∀ (next : Act → World → Prop) (Q : Exit → Act → World → Prop), (∀ a' w', Rel B0 w0 s' a' w' → next a' w') → o.wp P a w next Q

section
variable {P : Program} {s s' : PS} {o : Oper}

theorem StepOk.value {x : SV} (h : ∀ B0 w0 β p a w, Inv B0 w0 β p s a w → ∃ v, (execOp a.eval o).run P w = .ok (.value v) w ∧ RepS w p β s.blk x v) : StepOk P s o (s.put o.dst x) := by
  intro B0 w0 a w ⟨β, p, hi⟩ next Q hn
  obtain ⟨v, hr, hx⟩ := h B0 w0 β p a w hi
  unfold Oper.wp
  rw [hr]
  exact hn _ _ ⟨β, p, hi.put o.dst hx⟩

theorem f32Int_ok {b : Nat} {n : Int} (h : f32Int b = some n) : IsF b n := by
  unfold f32Int at h
  split at h
  · rename_i e; subst e; obtain rfl := Option.some.inj h; exact isF_consts.1
  · split at h
    · rename_i e; subst e; obtain rfl := Option.some.inj h; exact isF_consts.2.1
    · split at h
      · rename_i e; subst e; obtain rfl := Option.some.inj h; exact isF_consts.2.2
      · cases h

section
variable {w : World} {p : Nat → Prop} {β : Nat → Option Value} {H : Nat → Blk}
theorem leafOf_ok {v : Value} {c : LV} (h : leafOf v = some c) : RepL w p β H c v := by
  unfold leafOf at h
  split at h
  case h_1 => obtain rfl := Option.some.inj h; rfl
  case h_2 => obtain rfl := Option.some.inj h; rfl
  case h_3 => obtain rfl := Option.some.inj h; rfl
  case h_4 =>
    split at h
    · rename_i n hn; obtain rfl := Option.some.inj h; exact ⟨_, rfl, f32Int_ok hn⟩
    · cases h
  case h_5 =>
    split at h
    · rename_i m n hm hn; obtain rfl := Option.some.inj h; exact ⟨_, _, rfl, f32Int_ok hm, f32Int_ok hn⟩
    · cases h
  case h_6 => obtain rfl := Option.some.inj h; rfl
  case h_7 => obtain rfl := Option.some.inj h; rfl
  case h_8 =>
    split at h
    · rename_i f a b he
      obtain rfl := Option.some.inj h
      obtain rfl : a = #[] := Array.size_eq_zero_iff.1 he.1
      obtain rfl : b = #[] := Array.size_eq_zero_iff.1 he.2
      rfl
    · cases h
  case h_9 => cases h
theorem leavesOf_ok : ∀ {vs : List Value} {cs : List LV}, leavesOf vs = some cs → RepLs w p β H cs vs
  | [], cs, h => by
    simp only [leavesOf] at h; obtain rfl := Option.some.inj h
    exact ⟨rfl, fun i c v hc => by simp at hc⟩
  | v :: vs, cs, h => by
    simp only [leavesOf] at h
    cases h1 : leafOf v with
    | none => rw [h1] at h; cases h
    | some x =>
      cases h2 : leavesOf vs with
      | none => rw [h1, h2] at h; cases h
      | some xs =>
        rw [h1, h2] at h
        obtain rfl := Option.some.inj h
        have ih := leavesOf_ok h2
        refine ⟨by simp [ih.1], fun i c u hc hu => ?_⟩
        cases i with
        | zero => simp at hc hu; subst hc; subst hu; exact leafOf_ok h1
        | succ i => simp at hc hu; exact ih.2 i c u hc hu
theorem cvOf_ok {v : Value} {c : CV} (h : cvOf v = some c) : RepC w p β H c v := by
  unfold cvOf at h
  split at h
  case h_1 =>
    split at h
    · rename_i cs xs hx; obtain rfl := Option.some.inj h; exact ⟨_, rfl, leavesOf_ok hx⟩
    · cases h
  case h_2 => obtain rfl := Option.some.inj h; trivial
  case h_3 => obtain rfl := Option.some.inj h; trivial
  case h_4 =>
    split at h
    · rename_i x hx; obtain rfl := Option.some.inj h; exact repC_l (leafOf_ok hx)
    · cases h
end

section
variable {B0 : Nat} {w0 : Base} {β : Nat → Option Value} {p : Nat → Prop} {a : Act} {w : World}
theorem ev_ok (h : Inv B0 w0 β p s a w) (x : Operand) : RepS w p β s.blk (ev s x) (a.eval x) := by
  cases x with
  | tmp t =>
    by_cases ht : t < s.n
    · have e : ev s (.tmp t) = s.get t := by
        have : Nat.blt t s.n = true := by rw [Nat.blt_eq]; exact ht
        simp only [ev, this, cond_true]
      rw [e]
      exact (h.get t).resolve_right (Nat.not_le.2 ht)
    · have e : ev s (.tmp t) = undefS := by
        have : Nat.blt t s.n = false := by
          cases hq : Nat.blt t s.n with
          | false => rfl
          | true => exact absurd (Nat.blt_eq ▸ hq) ht
        simp only [ev, this, cond_false]
      rw [e]; trivial
  | const v =>
    simp only [ev]
    cases hc : cvOf v with
    | none => trivial
    | some c => exact cvOf_ok hc
  | global g => trivial
  | func f => exact rfl
theorem evC_ok (h : Inv B0 w0 β p s a w) (x : Operand) : RepC w p β s.blk (evC s x) (a.eval x) := by
  have := ev_ok h x
  unfold evC
  cases hx : ev s x with
  | c v => rw [hx] at this; exact this
  | tup vs => trivial
theorem evL_ok (h : Inv B0 w0 β p s a w) (x : Operand) (hu : evL s x ≠ .undef) : RepL w p β s.blk (evL s x) (a.eval x) := by
  have := ev_ok h x
  unfold evL at hu ⊢
  cases hx : ev s x with
  | c v =>
    rw [hx] at this hu
    cases v with
    | l v => exact repL_of hu this
    | agg cs => exact absurd rfl hu
  | tup vs => rw [hx] at hu; exact absurd rfl hu
end

theorem okL_eq {v : LV} {r : Bool × PS} (h : okL s o v = some r) : r = (true, s.put o.dst (.c (.l v))) := (Option.some.inj h).symm

theorem step_move {x : Operand} (ho : o.op = .move x ∨ o.op = .assign x) : StepOk P s o (s.put o.dst (ev s x)) :=
  StepOk.value fun B0 w0 β p a w hi => ⟨a.eval x, by rcases ho with ho | ho <;> simp [execOp, ho], ev_ok hi x⟩

theorem step_extract {x : Operand} {i : Nat} (ho : o.op = .extract x i) {vs : List CV} {v : CV} (hx : ev s x = .tup vs) (hv : vs[i]? = some v) : StepOk P s o (s.put o.dst (.c v)) :=
  StepOk.value fun B0 w0 β p a w hi => by
    have h := ev_ok hi x
    rw [hx] at h
    obtain ⟨us, hu, hl, hr⟩ := h
    have hi' : i < us.toList.length := by rw [← hl]; exact (List.getElem?_eq_some_iff.1 hv).1
    have hu' : us[i]? = some us.toList[i] := by
      simp at hi'
      simp [hi']
    exact ⟨us.toList[i], by simp [execOp, ho, Instr.extract, hu, hu'], hr i v _ hv (List.getElem?_eq_getElem hi')⟩

theorem evL_int {B0 : Nat} {w0 : Base} {β : Nat → Option Value} {p : Nat → Prop} {a : Act} {w : World} (h : Inv B0 w0 β p s a w) {x : Operand} {k : IntKind} {n : Int} (hx : evL s x = .int k n) : a.eval x = .int k n := by
  have := evL_ok h x (by rw [hx]; intro e; cases e)
  rw [hx] at this; exact this
theorem evL_bool {B0 : Nat} {w0 : Base} {β : Nat → Option Value} {p : Nat → Prop} {a : Act} {w : World} (h : Inv B0 w0 β p s a w) {x : Operand} {b : Bool} (hx : evL s x = .bool b) : a.eval x = .bool b := by
  have := evL_ok h x (by rw [hx]; intro e; cases e)
  rw [hx] at this; exact this

theorem step_unOp {op : UnOp} {T : TypeId} {x : Operand} (ho : o.op = .unOp op T x) (h : unOpS s o op (evL s x) = some (true, s')) : StepOk P s o s' := by
  unfold unOpS at h
  split at h
  · rename_i b hb
    obtain rfl := congrArg Prod.snd (okL_eq h)
    exact StepOk.value fun B0 w0 β p a w hi => ⟨.bool (!b), by simp [execOp, ho, evL_bool hi hb, Op.unary], rfl⟩
  · rename_i k n hn
    obtain rfl := congrArg Prod.snd (okL_eq h)
    exact StepOk.value fun B0 w0 β p a w hi => ⟨.int k (k.wrap (-n)), by simp [execOp, ho, evL_int hi hn, Op.unary, Op.intArith], rfl⟩
  · cases h

theorem evC_l {B0 : Nat} {w0 : Base} {β : Nat → Option Value} {p : Nat → Prop} {a : Act} {w : World} (h : Inv B0 w0 β p s a w) {x : Operand} {c : LV} (hx : evC s x = .l c) (hc : c ≠ .undef) : RepL w p β s.blk c (a.eval x) := by
  have := evC_ok h x
  rw [hx] at this
  exact repL_of hc this

theorem intOp_run {op : BinOp} {k : IntKind} {m n : Int} {T : TypeId} {v : LV} (h : intOp op k m n = some (true, v)) (w : World) :
    ∃ u, (binOp op T (.int k m) (.int k n)).run P w = .ok u w ∧ ∀ p β H, RepL w p β H v u := by
  cases op <;> simp only [intOp, Option.some.injEq, Prod.mk.injEq, reduceCtorEq, true_and] at h
  case quo =>
    obtain ⟨h1, rfl⟩ := h
    have hn : n ≠ 0 := by simpa using h1
    exact ⟨_, by simp [binOp, Op.intDiv, hn], fun _ _ _ => rfl⟩
  case rem =>
    obtain ⟨h1, rfl⟩ := h
    have hn : n ≠ 0 := by simpa using h1
    exact ⟨_, by simp [binOp, Op.intDiv, hn], fun _ _ _ => rfl⟩
  all_goals (subst h; exact ⟨_, by simp [binOp, Op.intArith, Op.intCmp], fun _ _ _ => rfl⟩)
end
end Go.Ev
