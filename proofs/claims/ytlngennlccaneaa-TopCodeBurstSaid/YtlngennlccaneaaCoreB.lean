/- The verified evaluator: operations: numbers, values, reading, slices. -/
import Derived.Test.YtlngennlccaneaaCoreA
import Derived.Laws.Entries
import Derived.CallsIn
set_option linter.unusedSimpArgs false
noncomputable section
namespace Go.Ev
open Go.RowKit
def FR (ro : Option Nat) : Fence := { Fence.wide with round := ro }
theorem not_defer {P : Program} {o : Oper} {ρ : Operand → Value} {w w' : World} {x : Next} (h : (execOp ρ o).run P w = .ok x w') (hx : ∀ d, x ≠ .defer d) : ∀ c, o.op ≠ .defer c := by
 intro c ho
 unfold execOp at h
 rw [ho] at h
 simp only [Sem.run_bind] at h
 cases hr : (resolve ρ c o.type).run P w with
 | ok d w1 => rw [hr] at h; simp [Result.andThen] at h; exact hx _ h.1.symm
 | halt _ _ => rw [hr] at h; simp [Result.andThen] at h
theorem wpIn_of_run {P : Program} {o : Oper} {a : Act} {w w' : World} {next : Act → World → Prop} {Q : Exit → Act → World → Prop} {ro : Option Nat} {x : Next} (h : (execOp a.eval o).run P w = .ok x w')
 (hx : ∀ d, x ≠ .defer d) (hq : o.uponIn (FR ro) 0 P a next Q (.ok x w')) : o.wpIn (FR ro) 0 P a w next Q :=
 ⟨fun _ _ => trivial, by rw [Oper.semAt_eq _ _ _ (not_defer h hx), h]; exact hq⟩
theorem wpIn_of_enter {P : Program} {o : Oper} {a : Act} {w w' : World} {next : Act → World → Prop} {Q : Exit → Act → World → Prop} {ro : Option Nat} {f : FuncId} {args : Array Value}
 (h : (execOp a.eval o).run P w = .ok (.enter f args) w') (hq : Calls P f args w' fun
   | .returned v, w'' => next (a.put o.dst v) w''
   | .panicked chain, w'' => Q (.panic chain) a w''
   | .outgrown, _ => LetsOut Q) : o.wpIn (FR ro) 0 P a w next Q :=
 wpIn_of_run h (fun _ e => by cases e) (by
  rw [Oper.uponIn_enter]
  exact ⟨fun e => (by cases e), ⟨trivial, fun cs hr => ((callsIn_wide (n := 0)).2 hq).2 cs (fun _ e => by cases e)⟩⟩)
def StepOk (P : Program) (s : PS) (o : Oper) (s' : PS) : Prop :=
 ∀ B0 w0 a w, Rel B0 w0 s a w → ∀ (next : Act → World → Prop) (Q : Exit → Act → World → Prop), (∀ a' w', Rel B0 w0 s' a' w' → next a' w') → o.wpIn (FR w0.ro) 0 P a w next Q
section
variable {P : Program} {s s' : PS} {o : Oper}
theorem StepOk.value {x : SV} (h : ∀ B0 w0 β p a w, Inv B0 w0 β p s a w → ∃ v, (execOp a.eval o).run P w = .ok (.value v) w ∧ RepS w p β s.blk x v) : StepOk P s o (s.put o.dst x) := by
 intro B0 w0 a w ⟨β, p, hi⟩ next Q hn
 obtain ⟨v, hr, hx⟩ := h B0 w0 β p a w hi
 exact wpIn_of_run hr (fun _ e => by cases e) (hn _ _ ⟨β, p, hi.put o.dst hx⟩)
theorem f32Int_ok {b : Nat} {n : Int} (h : f32Int b = some n) : IsF b n := by
 unfold f32Int at h
 split at h
 ·rename_i e; subst e; obtain rfl := Option.some.inj h; exact isF_consts.1
 ·split at h
  ·rename_i e; subst e; obtain rfl := Option.some.inj h; exact isF_consts.2.1
  ·split at h
   ·rename_i e; subst e; obtain rfl := Option.some.inj h; exact isF_consts.2.2
   ·cases h
section
variable {w : World} {p : Nat → Prop} {β : Nat → Option Value} {H : Nat → Blk}
theorem leafOf_ok {v : Value} {c : LV} (h : leafOf v = some c) : RepL w p β H c v := by
 unfold leafOf at h
 split at h
 case h_1 => obtain rfl := Option.some.inj h; rfl
 case h_2 => obtain rfl := Option.some.inj h; rfl
 case h_3 => obtain rfl := Option.some.inj h; rfl
 case h_4 =>
  split at h
  ·rename_i n hn; obtain rfl := Option.some.inj h; exact ⟨_, rfl, f32Int_ok hn⟩
  ·cases h
 case h_5 =>
  split at h
  ·rename_i m n hm hn; obtain rfl := Option.some.inj h; exact ⟨_, _, rfl, f32Int_ok hm, f32Int_ok hn⟩
  ·cases h
 case h_6 => obtain rfl := Option.some.inj h; rfl
 case h_7 => obtain rfl := Option.some.inj h; rfl
 case h_8 => obtain rfl := Option.some.inj h; rfl
 case h_9 =>
  split at h
  ·rename_i f a b he
   obtain rfl := Option.some.inj h
   obtain rfl : a = #[] := Array.size_eq_zero_iff.1 he.1
   obtain rfl : b = #[] := Array.size_eq_zero_iff.1 he.2
   rfl
  ·cases h
 case h_10 => cases h
theorem leavesOf_ok : ∀ {vs : List Value} {cs : List LV}, leavesOf vs = some cs → RepLs w p β H cs vs
 | [], cs, h => by
   simp only [leavesOf] at h; obtain rfl := Option.some.inj h
   exact ⟨rfl, fun i c v hc => by simp at hc⟩
 | v :: vs, cs, h => by
   simp only [leavesOf] at h
   cases h1 : leafOf v with
   | none => rw [h1] at h; cases h
   | some x =>
     cases h2 : leavesOf vs with
     | none => rw [h1, h2] at h; cases h
     | some xs =>
       rw [h1, h2] at h
       obtain rfl := Option.some.inj h
       have ih := leavesOf_ok h2
       refine ⟨by simp [ih.1], fun i c u hc hu => ?_⟩
       cases i with
       | zero => simp at hc hu; subst hc; subst hu; exact leafOf_ok h1
       | succ i => simp at hc hu; exact ih.2 i c u hc hu
theorem cvOf_ok {v : Value} {c : CV} (h : cvOf v = some c) : RepC w p β H c v := by
 unfold cvOf at h
 split at h
 case h_1 =>
  split at h
  ·rename_i cs xs hx; obtain rfl := Option.some.inj h; exact ⟨_, rfl, leavesOf_ok hx⟩
  ·cases h
 case h_2 => obtain rfl := Option.some.inj h; trivial
 case h_3 =>
  split at h
  ·rename_i x hx; obtain rfl := Option.some.inj h; exact repC_l (leafOf_ok hx)
  ·cases h
end
section
variable {B0 : Nat} {w0 : Base} {β : Nat → Option Value} {p : Nat → Prop} {a : Act} {w : World}
theorem ev_ok (h : Inv B0 w0 β p s a w) (x : Operand) : RepS w p β s.blk (ev s x) (a.eval x) := by
 cases x with
 | tmp t =>
   by_cases ht : t < s.n
   ·have e : ev s (.tmp t) = s.get t := by
     have : Nat.blt t s.n = true := by rw [Nat.blt_eq]; exact ht
     simp only [ev, this, cond_true]
    rw [e]
    exact (h.get t).resolve_right (Nat.not_le.2 ht)
   ·have e : ev s (.tmp t) = undefS := by
     have : Nat.blt t s.n = false := by
      cases hq : Nat.blt t s.n with
      | false => rfl
      | true => exact absurd (Nat.blt_eq ▸ hq) ht
     simp only [ev, this, cond_false]
    rw [e]; trivial
 | const v =>
   simp only [ev]
   cases hc : cvOf v with
   | none => trivial
   | some c => exact cvOf_ok hc
 | global g =>
   simp only [ev]
   split
   ·rename_i sh x hg
    exact RepL.keep (p := p) (β' := β) (H' := s.blk) ⟨fun b hb => ⟨hb, rfl⟩, fun _ _ h => (by cases h), fun _ h => (by cases h)⟩ (h.defers.1.1 g sh x hg).1
   ·trivial
 | func f => exact rfl
theorem evC_ok (h : Inv B0 w0 β p s a w) (x : Operand) : RepC w p β s.blk (evC s x) (a.eval x) := by
 have := ev_ok h x
 unfold evC
 cases hx : ev s x with
 | c v => rw [hx] at this; exact this
 | tup vs => trivial
theorem evL_ok (h : Inv B0 w0 β p s a w) (x : Operand) (hu : evL s x ≠ .undef) : RepL w p β s.blk (evL s x) (a.eval x) := by
 have := ev_ok h x
 unfold evL at hu ⊢
 cases hx : ev s x with
 | c v =>
   rw [hx] at this hu
   cases v with
   | l v => exact repL_of hu this
   | agg cs => exact absurd rfl hu
 | tup vs => rw [hx] at hu; exact absurd rfl hu
end
theorem okL_eq {v : LV} {r : Bool × PS} (h : okL s o v = some r) : r = (true, s.put o.dst (.c (.l v))) := (Option.some.inj h).symm
theorem step_move {x : Operand} (ho : o.op = .move x ∨ o.op = .assign x) : StepOk P s o (s.put o.dst (ev s x)) :=
 StepOk.value fun B0 w0 β p a w hi => ⟨a.eval x, by rcases ho with ho | ho <;> simp [execOp, ho], ev_ok hi x⟩
theorem step_extract {x : Operand} {i : Nat} (ho : o.op = .extract x i) {vs : List CV} {v : CV} (hx : ev s x = .tup vs) (hv : vs[i]? = some v) : StepOk P s o (s.put o.dst (.c v)) :=
 StepOk.value fun B0 w0 β p a w hi => by
  have h := ev_ok hi x
  rw [hx] at h
  obtain ⟨us, hu, hl, hr⟩ := h
  have hi' : i < us.toList.length := by rw [← hl]; exact (List.getElem?_eq_some_iff.1 hv).1
  have hu' : us[i]? = some us.toList[i] := by
   simp at hi'
   simp [hi']
  exact ⟨us.toList[i], by simp [execOp, ho, Instr.extract, hu, hu'], hr i v _ hv (List.getElem?_eq_getElem hi')⟩
theorem evL_int {B0 : Nat} {w0 : Base} {β : Nat → Option Value} {p : Nat → Prop} {a : Act} {w : World} (h : Inv B0 w0 β p s a w) {x : Operand} {k : IntKind} {n : Int} (hx : evL s x = .int k n) : a.eval x = .int k n := by
 have := evL_ok h x (by rw [hx]; intro e; cases e)
 rw [hx] at this; exact this
theorem evL_bool {B0 : Nat} {w0 : Base} {β : Nat → Option Value} {p : Nat → Prop} {a : Act} {w : World} (h : Inv B0 w0 β p s a w) {x : Operand} {b : Bool} (hx : evL s x = .bool b) : a.eval x = .bool b := by
 have := evL_ok h x (by rw [hx]; intro e; cases e)
 rw [hx] at this; exact this
theorem step_unOp {op : UnOp} {T : TypeId} {x : Operand} (ho : o.op = .unOp op T x) (h : unOpS s o op (evL s x) = some (true, s')) : StepOk P s o s' := by
 unfold unOpS at h
 split at h
 ·rename_i b hb
  obtain rfl := congrArg Prod.snd (okL_eq h)
  exact StepOk.value fun B0 w0 β p a w hi => ⟨.bool (!b), by simp [execOp, ho, evL_bool hi hb, Op.unary], rfl⟩
 ·rename_i k n hn
  obtain rfl := congrArg Prod.snd (okL_eq h)
  exact StepOk.value fun B0 w0 β p a w hi => ⟨.int k (k.wrap (-n)), by simp [execOp, ho, evL_int hi hn, Op.unary, Op.intArith], rfl⟩
 ·cases h
theorem evC_l {B0 : Nat} {w0 : Base} {β : Nat → Option Value} {p : Nat → Prop} {a : Act} {w : World} (h : Inv B0 w0 β p s a w) {x : Operand} {c : LV} (hx : evC s x = .l c) (hc : c ≠ .undef) : RepL w p β s.blk c (a.eval x) := by
 have := evC_ok h x
 rw [hx] at this
 exact repL_of hc this
theorem intOp_run {op : BinOp} {k k' : IntKind} {m n : Int} {T : TypeId} {v : LV} (hk : k = k' ∨ isShift op = true) (h : intOp op k m n = some (true, v)) (w : World) :
 ∃ u, (binOp op T (.int k m) (.int k' n)).run P w = .ok u w ∧ ∀ p β H, RepL w p β H v u := by
 cases op <;> simp only [intOp, Option.some.injEq, Prod.mk.injEq, reduceCtorEq, true_and] at h
 case shl =>
  obtain ⟨h1, rfl⟩ := h
  have hn : ¬ n < 0 := by have := of_decide_eq_true h1; omega
  exact ⟨_, by simp [binOp, Op.shift, hn], fun _ _ _ => rfl⟩
 case shr =>
  obtain ⟨h1, rfl⟩ := h
  have hn : ¬ n < 0 := by have := of_decide_eq_true h1; omega
  exact ⟨_, by simp [binOp, Op.shift, hn], fun _ _ _ => rfl⟩
 all_goals obtain rfl := hk.resolve_right (by simp [isShift])
 case quo =>
  obtain ⟨h1, rfl⟩ := h
  have hn : n ≠ 0 := by simpa using h1
  exact ⟨_, by simp [binOp, Op.intDiv, hn], fun _ _ _ => rfl⟩
 case rem =>
  obtain ⟨h1, rfl⟩ := h
  have hn : n ≠ 0 := by simpa using h1
  exact ⟨_, by simp [binOp, Op.intDiv, hn], fun _ _ _ => rfl⟩
 all_goals (subst h; exact ⟨_, by simp [binOp, Op.intArith, Op.intCmp, Op.intBits], fun _ _ _ => rfl⟩)
end
end Go.Ev
namespace Go.Ev
open Go.RowKit
theorem info_of_underlying {P : Program} {t : TypeId} {d : TypeDesc} (h : P.underlying t = some d) : ∃ i, P.info? t = some i := by
 unfold Program.underlying at h
 cases hi : P.info? t with
 | none => rw [hi] at h; cases h
 | some i => exact ⟨i, rfl⟩
theorem run_sizeOf' {P : Program} {t : TypeId} (h : (P.info? t).isSome = true) (w : World) : (sizeOf t).run P w = .ok (P.cellsOf t) w := by
 obtain ⟨i, hi⟩ := Option.isSome_iff_exists.1 h
 simp [sizeOf, typeInfo, hi, Program.cellsOf]
theorem run_isAgg' {P : Program} {t : TypeId} {d : TypeDesc} (h : P.underlying t = some d) (w : World) : (isAgg t).run P w = .ok (isAggT P t) w := by
 unfold isAgg isAggT
 rw [Sem.run_bind, run_underlying h w, h]
 cases d <;> rfl
section
variable {P : Program} {s s' : PS} {o : Oper}
section
variable {w : World} {p : Nat → Prop} {β : Nat → Option Value} {H : Nat → Blk}
theorem RepLs.part {cs : List LV} {vs : List Value} (h : RepLs w p β H cs vs) (off n : Nat) : RepLs w p β H ((cs.drop off).take n) ((vs.drop off).take n) := by
 refine ⟨by simp [h.1], fun i c v hc hv => ?_⟩
 rw [List.getElem?_take] at hc hv
 split at hc
 ·rename_i hi
  rw [if_pos hi] at hv
  rw [List.getElem?_drop] at hc hv
  exact h.2 _ c v hc hv
 ·cases hc
theorem part_ok {T : TypeId} {cs : List LV} {vs : Array Value} (h : RepLs w p β H cs vs.toList) {off : Nat} {c : CV} (hp : partOf P T cs off = some c) :
 ∃ v, (part T vs off).run P w = .ok v w ∧ RepC w p β H c v := by
 unfold partOf at hp
 cases hu : P.underlying T with
 | none => rw [hu] at hp; cases hp
 | some d =>
   rw [hu] at hp
   simp only [] at hp
   have hi : (P.info? T).isSome = true := by obtain ⟨i, hi⟩ := info_of_underlying hu; simp [hi]
   unfold part
   rw [Sem.run_bind, run_isAgg' hu]
   simp only [Result.andThen_ok]
   split at hp
   ·rename_i ha
    split at hp
    ·obtain rfl := Option.some.inj hp
     rw [if_pos ha]
     refine ⟨.agg (vs.extract off (off + P.cellsOf T)), by rw [Sem.run_bind, run_sizeOf' hi]; rfl, _, rfl, ?_⟩
     have e : (vs.extract off (off + P.cellsOf T)).toList = (vs.toList.drop off).take (P.cellsOf T) := by
      simp [Array.toList_extract, List.extract_eq_take_drop]
     rw [e]
     exact h.part off _
    ·cases hp
   ·rename_i ha
    rw [if_neg ha]
    cases hc : cs[off]? with
    | none => rw [hc] at hp; cases hp
    | some x =>
      rw [hc] at hp
      obtain rfl := Option.some.inj hp
      have hlt : off < vs.toList.length := by rw [← h.1]; exact (List.getElem?_eq_some_iff.1 hc).1
      have hv : vs[off]? = some vs.toList[off] := by
       simp at hlt
       simp [hlt]
      rw [hv]
      exact ⟨_, rfl, repC_l (h.2 off x _ hc (List.getElem?_eq_getElem hlt))⟩
theorem eqParts_fields {d : Nat} {f : TypeId → CV → CV → Option Bool} (hf : ∀ t x y r vx vy, f t x y = some r → RepC w p β H x vx → RepC w p β H y vy → (Op.equalIn d t vx vy).run P w = .ok r w)
 {xs ys : List LV} {us vs : Array Value} (hx : RepLs w p β H xs us.toList) (hy : RepLs w p β H ys vs.toList) :
 ∀ (fs : List Field) {r : Bool}, eqParts P f xs ys (fieldParts fs) = some r → (Op.eqFields d us vs fs).run P w = .ok r w
 | [], r, h => by simp only [fieldParts, eqParts] at h; obtain rfl := Option.some.inj h; rfl
 | fd :: fs, r, h => by
   simp only [fieldParts] at h
   simp only [Op.eqFields]
   by_cases hn : fd.name ≠ "_"
   ·rw [if_pos hn] at h ⊢
    simp only [eqParts] at h
    cases ha : partOf P fd.type xs fd.offset with
    | none => rw [ha] at h; cases h
    | some a =>
      cases hb : partOf P fd.type ys fd.offset with
      | none => rw [ha, hb] at h; cases h
      | some b =>
        rw [ha, hb] at h
        simp only [] at h
        cases hr : f fd.type a b with
        | none => rw [hr] at h; cases h
        | some q =>
          cases hq : eqParts P f xs ys (fieldParts fs) with
          | none => rw [hr, hq] at h; cases h
          | some q' =>
            rw [hr, hq] at h
            obtain rfl := Option.some.inj h
            obtain ⟨va, ra, ca⟩ := part_ok hx ha
            obtain ⟨vb, rb, cb⟩ := part_ok hy hb
            have ih := eqParts_fields hf hx hy fs hq
            simp only [Sem.run_bind, ra, rb, Result.andThen_ok, hf _ _ _ _ _ _ hr ca cb]
            cases q <;> simp [ih]
   ·rw [if_neg hn] at h ⊢
    exact eqParts_fields hf hx hy fs h
theorem eqParts_array {d : Nat} {f : TypeId → CV → CV → Option Bool} (hf : ∀ t x y r vx vy, f t x y = some r → RepC w p β H x vx → RepC w p β H y vy → (Op.equalIn d t vx vy).run P w = .ok r w)
 {xs ys : List LV} {us vs : Array Value} (hx : RepLs w p β H xs us.toList) (hy : RepLs w p β H ys vs.toList) (e : TypeId) (n : Nat) :
 ∀ (l : List Nat) {r : Bool}, eqParts P f xs ys (l.map fun i => (e, i * n)) = some r →
  (do
    let r ← forIn l ((none, ()) : Option Bool × Unit) fun i _ => do
     if (!(← Op.equalIn d e (← part e us (i * n)) (← part e vs (i * n)))) = true then pure (ForInStep.done (some false, ())) else pure (ForInStep.yield (none, ()))
    match r.1 with
    | some a => pure a
    | none => pure true : Sem Bool).run P w = .ok r w
 | [], r, h => by simp only [List.map_nil, eqParts] at h; obtain rfl := Option.some.inj h; rfl
 | i :: l, r, h => by
   simp only [List.map_cons, eqParts] at h
   cases ha : partOf P e xs (i * n) with
   | none => rw [ha] at h; cases h
   | some a =>
     cases hb : partOf P e ys (i * n) with
     | none => rw [ha, hb] at h; cases h
     | some b =>
       rw [ha, hb] at h
       simp only [] at h
       cases hr : f e a b with
       | none => rw [hr] at h; cases h
       | some q =>
         cases hq : eqParts P f xs ys (l.map fun i => (e, i * n)) with
         | none => rw [hr, hq] at h; cases h
         | some q' =>
           rw [hr, hq] at h
           obtain rfl := Option.some.inj h
           obtain ⟨va, ra, ca⟩ := part_ok hx ha
           obtain ⟨vb, rb, cb⟩ := part_ok hy hb
           have ih := eqParts_array hf hx hy e n l hq
           simp only [Sem.run_bind] at ih
           simp only [List.forIn_cons, Sem.run_bind, ra, rb, Result.andThen_ok, hf _ _ _ _ _ _ hr ca cb]
           cases q
           ·simp
           ·simp only [Bool.not_true, Bool.false_eq_true, if_false, Sem.run_pure, Result.andThen_ok, Bool.true_and]
            exact ih
theorem eqT_ok : ∀ (d d' : Nat), d ≤ d' → ∀ (t : TypeId) (x y : CV) (r : Bool) (vx vy : Value), eqT P d t x y = some r → RepC w p β H x vx → RepC w p β H y vy → (Op.equalIn d' t vx vy).run P w = .ok r w
 | 0, _, _, t, x, y, r, vx, vy, h, _, _ => by simp only [eqT] at h; cases h
 | d + 1, 0, hd, t, x, y, r, vx, vy, h, _, _ => by omega
 | d + 1, d' + 1, hd, t, x, y, r, vx, vy, h, hx, hy => by
   simp only [eqT] at h
   split at h
   ·rename_i k0 k a k' b hu
    split at h
    ·rename_i e; subst e
     obtain rfl := Option.some.inj h
     obtain rfl : vx = .int k a := repL_of (by intro e; cases e) hx
     obtain rfl : vy = .int k b := repL_of (by intro e; cases e) hy
     exact run_equalIn_int w d' t k _ a b hu
    ·cases h
   ·rename_i a b hu
    obtain rfl := Option.some.inj h
    obtain rfl : vx = .bool a := repL_of (by intro e; cases e) hx
    obtain rfl : vy = .bool b := repL_of (by intro e; cases e) hy
    exact run_equalIn_bool' w d' t a b hu
   ·rename_i a b hu
    obtain rfl := Option.some.inj h
    obtain rfl : vx = .string a := repL_of (by intro e; cases e) hx
    obtain rfl : vy = .string b := repL_of (by intro e; cases e) hy
    rw [beq_toListBytes]
    exact run_equalIn_string w d' t a b hu
   ·rename_i fs xs ys hu
    split at h
    ·cases h
    ·rename_i hs
     obtain ⟨us, rfl, hx⟩ := hx
     obtain ⟨vs, rfl, hy⟩ := hy
     have hf : P.fieldsOf t = fs := by simp [Program.fieldsOf, hu]
     rw [run_equalIn_struct w d' t us vs (by rw [hf]; exact hu) (by simpa using hs), hf]
     exact eqParts_fields (fun t x y r vx vy h1 h2 h3 => eqT_ok d d' (by omega) t x y r vx vy h1 h2 h3) hx hy fs.toList h
   ·rename_i n e xs ys hu
    split at h
    ·rename_i hi
     obtain ⟨us, rfl, hx⟩ := hx
     obtain ⟨vs, rfl, hy⟩ := hy
     have key := eqParts_array (fun t x y r vx vy h1 h2 h3 => eqT_ok d d' (by omega) t x y r vx vy h1 h2 h3) hx hy e (P.cellsOf e) (List.range n) h
     simp only [Op.equalIn, Sem.run_bind, run_underlying hu, Result.andThen_ok, run_sizeOf' hi, Std.Legacy.Range.forIn_eq_forIn_range', Std.Legacy.Range.size, Nat.sub_zero, Nat.add_sub_cancel, Nat.div_one, ← List.range_eq_range']
     simp only [Sem.run_bind] at key
     refine Eq.trans ?_ key
     congr 1
     funext a w'
     obtain ⟨a, u⟩ := a
     cases a <;> rfl
    ·cases h
   ·cases h
end
theorem run_equalIn_slice_none {P : Program} (w : World) (d : Nat) (t e : TypeId) (a : Option Addr) (l c : Nat) (h : P.underlying t = some (.slice e)) : (Op.equalIn (d + 1) t (.slice a l c) (.slice none 0 0)).run P w = .ok a.isNone w := by
 cases a <;> simp [Op.equalIn, run_underlying h]
theorem run_equal_slice_none {P : Program} (w : World) (t e : TypeId) (a : Option Addr) (l c : Nat) (h : P.underlying t = some (.slice e)) : (Op.equal t (.slice a l c) (.slice none 0 0)).run P w = .ok a.isNone w := run_equalIn_slice_none w 9999 t e a l c h
theorem run_eql_slice_none {P : Program} (w : World) (t e : TypeId) (a : Option Addr) (l c : Nat) (h : P.underlying t = some (.slice e)) : (binOp .eql t (.slice a l c) (.slice none 0 0)).run P w = .ok (.bool a.isNone) w := by
 simp [binOp, run_equal_slice_none w t e a l c h]
theorem run_neq_slice_none {P : Program} (w : World) (t e : TypeId) (a : Option Addr) (l c : Nat) (h : P.underlying t = some (.slice e)) : (binOp .neq t (.slice a l c) (.slice none 0 0)).run P w = .ok (.bool (!a.isNone)) w := by
 simp [binOp, run_equal_slice_none w t e a l c h]
theorem run_eql_func_nil {P : Program} (w : World) (t : TypeId) {ps rs : Array TypeId} {vd : Bool} (h : P.underlying t = some (.func ps rs vd)) (v : Value) (q : Bool) (hv : (v = .nilFunc ∧ q = true) ∨ ∃ f, v = .func (.func f) #[] #[] ∧ q = false) : (Op.equal t v .nilFunc).run P w = .ok q w := by
 have key : ∀ d, (Op.equalIn (d + 1) t v .nilFunc).run P w = .ok q w := fun d => by
  rcases hv with ⟨rfl, rfl⟩ | ⟨f, rfl, rfl⟩ <;> simp [Op.equalIn, run_underlying h]
 exact key 9999
theorem strOp_run {P : Program} {op : BinOp} {T : TypeId} {a b : ByteArray} {v : LV} (h : strOp op a b = some (true, v)) (w : World) : ∃ u, (binOp op T (.string a) (.string b)).run P w = .ok u w ∧ ∀ p β H, RepL w p β H v u := by
 have e : (a.toList == b.toList) = decide (a.data.toList = b.data.toList) := by
  rw [ByteArray.toList_eq, ByteArray.toList_eq, Bool.eq_iff_iff, beq_iff_eq, decide_eq_true_iff]
 cases op <;> simp only [strOp, reduceCtorEq, Option.some.injEq, Prod.mk.injEq] at h
 case eql =>
  obtain ⟨_, rfl⟩ := h
  exact ⟨.bool _, by simp [binOp, Op.stringOp, e], fun _ _ _ => rfl⟩
 case neq =>
  obtain ⟨_, rfl⟩ := h
  exact ⟨.bool _, by simp [binOp, Op.stringOp, e], fun _ _ _ => rfl⟩
 case add =>
  obtain ⟨hl, rfl⟩ := h
  have hl : a.size + b.size ≤ 9223372036854775807 := by simpa using hl
  refine ⟨.string (a ++ b), ?_, fun _ _ _ => rfl⟩
  have : ¬ (((a.size + b.size : Nat) : Int) > IntKind.i64.max) := by
   have : IntKind.i64.max = 9223372036854775807 := by decide
   omega
  simp only [binOp, Op.stringOp]
  rw [if_neg this]
  rfl
theorem step_binOp {op : BinOp} {T U : TypeId} {x y : Operand} (ho : o.op = .binOp op T x y U) (h : binOpS P s o op T (evC s x) (evC s y) = some (true, s')) : StepOk P s o s' := by
 unfold binOpS at h
 split at h
 ·rename_i a b hx hy
  cases hi : strOp op a b with
  | none => rw [hi] at h; cases h
  | some cv =>
    obtain ⟨c, v⟩ := cv
    rw [hi] at h
    obtain ⟨rfl, rfl⟩ := Prod.mk.inj (Option.some.inj h)
    refine StepOk.value fun B0 w0 β p a' w inv => ?_
    have ex : a'.eval x = .string a := evC_l inv hx (by intro e; cases e)
    have ey : a'.eval y = .string b := evC_l inv hy (by intro e; cases e)
    obtain ⟨u, r1, r2⟩ := strOp_run (P := P) (T := T) hi w
    exact ⟨u, by simp [execOp, ho, ex, ey, eqGuard, r1], repC_l (r2 p β s.blk)⟩
 ·rename_i k a k' b hx hy
  split at h
  ·rename_i e
   cases hi : intOp op k a b with
   | none => rw [hi] at h; cases h
   | some cv =>
     obtain ⟨c, v⟩ := cv
     rw [hi] at h
     obtain ⟨rfl, rfl⟩ := Prod.mk.inj (Option.some.inj h)
     refine StepOk.value fun B0 w0 β p a' w inv => ?_
     have ex : a'.eval x = .int k a := evC_l inv hx (by intro e; cases e)
     have ey : a'.eval y = .int k' b := evC_l inv hy (by intro e; cases e)
     obtain ⟨u, r1, r2⟩ := intOp_run (P := P) (T := T) e hi w
     exact ⟨u, by simp [execOp, ho, ex, ey, eqGuard, r1], repC_l (r2 p β s.blk)⟩
  ·cases h
 ·rename_i a b c d hx hy
  cases hi : zcOp op a b c d with
  | none => rw [hi] at h; cases h
  | some cv =>
    obtain ⟨q, v⟩ := cv
    rw [hi] at h
    obtain ⟨rfl, rfl⟩ := Prod.mk.inj (Option.some.inj h)
    refine StepOk.value fun B0 w0 β p a' w inv => ?_
    obtain ⟨xa, xb, e1, ha, hb⟩ := evC_l inv hx (by intro e; cases e)
    obtain ⟨xc, xd, e2, hc, hd⟩ := evC_l inv hy (by intro e; cases e)
    obtain ⟨u, r1, r2⟩ := zcOp_run (P := P) w (T := T) hi ha hb hc hd
    have ex : a'.eval x = .complex .f32 xa xb := by simpa using e1
    have ey : a'.eval y = .complex .f32 xc xd := by simpa using e2
    exact ⟨u, by simp [execOp, ho, ex, ey, eqGuard, r1], repC_l (r2 w p β s.blk)⟩
 ·rename_i a b hx hy
  split at h
  ·rename_i hu
   obtain rfl := congrArg Prod.snd (okL_eq h)
   refine StepOk.value fun B0 w0 β p a' w inv => ?_
   have ex : a'.eval x = .bool a := evC_l inv hx (by intro e; cases e)
   have ey : a'.eval y = .bool b := evC_l inv hy (by intro e; cases e)
   exact ⟨.bool (a == b), by simp [execOp, ho, ex, ey, eqGuard, binOp, Op.equal, Op.maxDepth, run_equalIn_bool' w 9999 T a b hu], rfl⟩
  ·rename_i hu
   obtain rfl := congrArg Prod.snd (okL_eq h)
   refine StepOk.value fun B0 w0 β p a' w inv => ?_
   have ex : a'.eval x = .bool a := evC_l inv hx (by intro e; cases e)
   have ey : a'.eval y = .bool b := evC_l inv hy (by intro e; cases e)
   exact ⟨.bool (!(a == b)), by simp [execOp, ho, ex, ey, eqGuard, binOp, Op.equal, Op.maxDepth, run_equalIn_bool' w 9999 T a b hu], rfl⟩
  ·cases h
 ·rename_i c hx hy
  have ptr : ∀ q, nilOf c = some q → ∀ B0 w0 β p a' w, Inv B0 w0 β p s a' w → ∃ ad : Option Addr, a'.eval x = .pointer ad ∧ a'.eval y = .pointer none ∧ ad.isNone = q := by
   intro q hq B0 w0 β p a' w inv
   have ey : a'.eval y = .pointer none := evC_l inv hy (by intro e; cases e)
   have ex := evC_l inv hx (by intro e; subst e; cases hq)
   cases c <;> simp only [nilOf, reduceCtorEq, Option.some.injEq] at hq
   case nilptr => subst hq; exact ⟨none, ex, ey, rfl⟩
   case iptr => subst hq; obtain ⟨b, q', us, e, _⟩ := ex; exact ⟨_, e, ey, rfl⟩
   case ref => subst hq; obtain ⟨r, b, _, _, e, _⟩ := ex; exact ⟨_, e, ey, rfl⟩
   case optr sh v =>
    subst hq
    have ex : RepT w p (.optr sh) v [a'.eval x] := ex
    simp only [RepT] at ex
    rcases ex with ⟨e, rfl⟩ | ⟨b, q', us, y', e, rfl, _⟩
    ·exact ⟨none, by simpa using e, ey, rfl⟩
    ·exact ⟨_, by simpa using e, ey, rfl⟩
  split at h
  ·rename_i q el hq hu
   obtain rfl := congrArg Prod.snd (okL_eq h)
   refine StepOk.value fun B0 w0 β p a' w inv => ?_
   obtain ⟨ad, ex, ey, e⟩ := ptr q hq B0 w0 β p a' w inv
   exact ⟨.bool q, by simp [execOp, ho, ex, ey, eqGuard, run_eql_pointer_nil (P := P) w T ad (by simp [Program.pointee, hu]), e], rfl⟩
  ·rename_i q el hq hu
   obtain rfl := congrArg Prod.snd (okL_eq h)
   refine StepOk.value fun B0 w0 β p a' w inv => ?_
   obtain ⟨ad, ex, ey, e⟩ := ptr q hq B0 w0 β p a' w inv
   exact ⟨.bool (!q), by simp [execOp, ho, ex, ey, eqGuard, run_neq_pointer_nil (P := P) w T ad (by simp [Program.pointee, hu]), e], rfl⟩
  ·cases h
 ·rename_i c hx hy
  have fnv : ∀ q, nilFnOf c = some q → ∀ B0 w0 β p a' w, Inv B0 w0 β p s a' w → a'.eval y = .nilFunc ∧ ((a'.eval x = .nilFunc ∧ q = true) ∨ ∃ f, a'.eval x = .func (.func f) #[] #[] ∧ q = false) := by
   intro q hq B0 w0 β p a' w inv
   have ey : a'.eval y = .nilFunc := evC_l inv hy (by intro e; cases e)
   have ex := evC_l inv hx (by intro e; subst e; cases hq)
   cases c <;> simp only [nilFnOf, reduceCtorEq, Option.some.injEq] at hq
   case nilfn => exact ⟨ey, .inl ⟨ex, hq.symm⟩⟩
   case fn f => exact ⟨ey, .inr ⟨f, ex, hq.symm⟩⟩
  split at h
  ·rename_i q _ _ _ hq hu
   obtain rfl := congrArg Prod.snd (okL_eq h)
   refine StepOk.value fun B0 w0 β p a' w inv => ?_
   obtain ⟨ey, ex⟩ := fnv q hq B0 w0 β p a' w inv
   exact ⟨.bool q, by simp [execOp, ho, ey, eqGuard, binOp, run_eql_func_nil w T hu _ q ex], rfl⟩
  ·rename_i q _ _ _ hq hu
   obtain rfl := congrArg Prod.snd (okL_eq h)
   refine StepOk.value fun B0 w0 β p a' w inv => ?_
   obtain ⟨ey, ex⟩ := fnv q hq B0 w0 β p a' w inv
   exact ⟨.bool (!q), by simp [execOp, ho, ey, eqGuard, binOp, run_eql_func_nil w T hu _ q ex], rfl⟩
  ·cases h
 ·rename_i e xs hx hy
  have sl : decide (0 < xs.length) = true → ∀ B0 w0 β p a' w, Inv B0 w0 β p s a' w → ∃ (ad : Addr) (n c : Nat), a'.eval x = .slice (some ad) n c ∧ a'.eval y = .slice none 0 0 := by
   intro hpos B0 w0 β p a' w inv
   have ey : a'.eval y = .slice none 0 0 := evC_l inv hy (by intro e; cases e)
   have ex : RepT w p (.slice e) xs [a'.eval x] := evC_l inv hx (by intro e; cases e)
   simp only [RepT] at ex
   obtain ⟨ad, cap, e1, _, h2⟩ := ex
   rcases h2 with h2 | ⟨b, q, rfl, _⟩
   ·rw [h2] at hpos; simp at hpos
   ·exact ⟨_, _, _, (List.cons.inj e1).1, ey⟩
  split at h
  ·rename_i el hu
   obtain ⟨h1, rfl⟩ := Prod.mk.inj (Option.some.inj h)
   refine StepOk.value fun B0 w0 β p a' w inv => ?_
   obtain ⟨ad, n, c, ex, ey⟩ := sl h1 B0 w0 β p a' w inv
   exact ⟨.bool false, by simp [execOp, ho, ex, ey, eqGuard, run_eql_slice_none w T _ _ _ _ hu], rfl⟩
  ·rename_i el hu
   obtain ⟨h1, rfl⟩ := Prod.mk.inj (Option.some.inj h)
   refine StepOk.value fun B0 w0 β p a' w inv => ?_
   obtain ⟨ad, n, c, ex, ey⟩ := sl h1 B0 w0 β p a' w inv
   exact ⟨.bool true, by simp [execOp, ho, ex, ey, eqGuard, run_neq_slice_none w T _ _ _ _ hu], rfl⟩
  ·cases h
 ·rename_i cs ds hx hy
  split at h
  ·cases h
  ·rename_i hg
   cases he : eqT P 8 T (.agg cs) (.agg ds) with
   | none => rw [he] at h; cases op <;> cases h
   | some r =>
     rw [he] at h
     cases op <;> simp only [reduceCtorEq] at h
     all_goals
      (obtain rfl := congrArg Prod.snd (okL_eq h)
       refine StepOk.value fun B0 w0 β p a' w inv => ?_
       have cx := evC_ok inv x
       have cy := evC_ok inv y
       rw [hx] at cx
       rw [hy] at cy
       have he' := eqT_ok (w := w) 8 10000 (by omega) T _ _ r _ _ he cx cy
       obtain ⟨us, ex, _⟩ := cx
       obtain ⟨vs, ey, _⟩ := cy
       rw [ex, ey] at he'
       refine ⟨_, ?_, rfl⟩
       have hg' : P.eqGuardType P.depth T = false := by simpa using hg
       simp only [execOp, ho, ex, ey, Sem.run_bind, run_eqGuard_agg _ _ _ _ _ _ _ hg', Result.andThen_ok, run_eql_struct, run_neq_struct, he', Sem.run_pure])
 ·cases h
theorem run_equalIn_ifc {P : Program} (w : World) (d : Nat) {t : TypeId} {ms : Array (String × TypeId)} {b : Bool} {v : Value} (h : P.underlying t = some (.interface ms)) (hv : IsErr b v) : (Op.equalIn (d + 1) t v .nilIface).run P w = .ok (!b) w := by
 cases b with
 | false => obtain rfl := hv; simp [Op.equalIn, run_underlying h]
 | true => obtain ⟨_, _, rfl⟩ := hv; simp [Op.equalIn, run_underlying h]
theorem run_equal_ifc {P : Program} (w : World) {t : TypeId} {ms : Array (String × TypeId)} {b : Bool} {v : Value} (h : P.underlying t = some (.interface ms)) (hv : IsErr b v) : (Op.equal t v .nilIface).run P w = .ok (!b) w := run_equalIn_ifc w 9999 h hv
theorem run_eql_ifc {P : Program} (w : World) {t : TypeId} {ms : Array (String × TypeId)} {b : Bool} {v : Value} (h : P.underlying t = some (.interface ms)) (hv : IsErr b v) : (binOp .eql t v .nilIface).run P w = .ok (.bool (!b)) w := by
 have hr := run_equal_ifc w h hv
 cases b with
 | false => obtain rfl := hv; simp [binOp, hr]
 | true => obtain ⟨_, _, rfl⟩ := hv; simp [binOp, hr]
theorem run_neq_ifc {P : Program} (w : World) {t : TypeId} {ms : Array (String × TypeId)} {b : Bool} {v : Value} (h : P.underlying t = some (.interface ms)) (hv : IsErr b v) : (binOp .neq t v .nilIface).run P w = .ok (.bool b) w := by
 have hr := run_equal_ifc w h hv
 cases b with
 | false => obtain rfl := hv; simp [binOp, hr]
 | true => obtain ⟨_, _, rfl⟩ := hv; simp [binOp, hr]
theorem eqGuard_ifc {op : BinOp} {t : TypeId} {x : Operand} {b : Bool} {v : Value} (hv : IsErr b v) : eqGuard op t x (.const .nilIface) v .nilIface = pure () := by
 cases b with
 | false => obtain rfl := hv; exact eqGuard_nil_constR ..
 | true => obtain ⟨_, _, rfl⟩ := hv; cases op <;> rfl
theorem step_ifc {op : BinOp} {T U : TypeId} {x y : Operand} (ho : o.op = .binOp op T x y U) (hy : isNilIf y = true) (h : ifcOp P s o op T (evL s x) = some (true, s')) : StepOk P s o s' := by
 obtain rfl : y = .const .nilIface := by
  unfold isNilIf at hy
  split at hy
  ·rfl
  ·cases hy
 unfold ifcOp at h
 have key : ∀ b, evL s x = .ifc b → ∀ B0 w0 β p a' w, Inv B0 w0 β p s a' w → IsErr b (a'.eval x) := by
  intro b hb B0 w0 β p a' w inv
  have cx := evL_ok inv x (by rw [hb]; intro e; cases e)
  rw [hb] at cx
  exact cx
 have ey : ∀ a' : Act, a'.eval (.const .nilIface) = .nilIface := fun _ => rfl
 split at h
 ·rename_i ms b hT hx
  obtain rfl := congrArg Prod.snd (okL_eq h)
  refine StepOk.value fun B0 w0 β p a' w inv => ?_
  have hv := key b hx B0 w0 β p a' w inv
  exact ⟨.bool (!b), by simp only [execOp, ho, ey, Sem.run_bind, eqGuard_ifc hv, run_eql_ifc w hT hv, Sem.run_pure, Result.andThen_ok], rfl⟩
 ·rename_i ms b hT hx
  obtain rfl := congrArg Prod.snd (okL_eq h)
  refine StepOk.value fun B0 w0 β p a' w inv => ?_
  have hv := key b hx B0 w0 β p a' w inv
  exact ⟨.bool b, by simp only [execOp, ho, ey, Sem.run_bind, eqGuard_ifc hv, run_neq_ifc w hT hv, Sem.run_pure, Result.andThen_ok], rfl⟩
 ·cases h
theorem okStep {x : SV} {r : Bool × PS} (h : ok s o x = some r) : r = (true, s.put o.dst x) := (Option.some.inj h).symm
theorem step_convert {T U : TypeId} {x : Operand} (ho : o.op = .convert T U x) (h : convertOp P s o T U (evL s x) = some (true, s')) : StepOk P s o s' := by
 unfold convertOp at h
 split at h
 ·rename_i k0 k k1 n hT hU hx
  obtain rfl := congrArg Prod.snd (okL_eq h)
  refine StepOk.value fun B0 w0 β p a w inv => ?_
  have ex := evL_int inv hx
  exact ⟨.int k (k.wrap n), by simp [execOp, ho, ex, convert, run_underlying hT, run_underlying hU, Conv.intToInt], rfl⟩
 ·rename_i k0 k1 n hT hU hx
  obtain ⟨h1, rfl⟩ := Prod.mk.inj (Option.some.inj h)
  refine StepOk.value fun B0 w0 β p a w inv => ?_
  have ex := evL_int inv hx
  simp only [small24, Bool.and_eq_true, decide_eq_true_eq] at h1
  obtain ⟨b, r, i⟩ := run_intToFloat (P := P) w h1.1 h1.2
  exact ⟨.float .f32 b, by simp [execOp, ho, ex, convert, run_underlying hT, run_underlying hU, r], ⟨b, rfl, i⟩⟩
 ·rename_i n hT hU hx
  obtain rfl := congrArg Prod.snd (okL_eq h)
  refine StepOk.value fun B0 w0 β p a w inv => ?_
  have cx := evL_ok inv x (by rw [hx]; intro e; cases e)
  rw [hx] at cx
  obtain ⟨b, e, i⟩ := cx
  have ex : a.eval x = .float .f32 b := by simpa using e
  exact ⟨.int .i64 n, by simp [execOp, ho, ex, convert, run_underlying hT, run_underlying hU, run_floatToInt (P := P) w i], rfl⟩
 ·cases h
theorem optr_some {w : World} {p : Nat → Prop} {β : Nat → Option Value} {H : Nat → Blk} {sh : Sh} {x : Option sh.T} {v : Value} (hx : x.isSome = true) (h : RepL w p β H (.optr sh x) v) : RepL w p β H (.iptr sh (x.getD sh.dflt) 0) v := by
 have h : RepT w p (.optr sh) x [v] := h
 simp only [RepT] at h
 rcases h with ⟨_, rfl⟩ | ⟨b, q, us, y, e, rfl, h1, h2, h3⟩
 ·cases hx
 ·exact ⟨b, q, us, by simpa using e, h1, h2, h3⟩
theorem step_nilCheck {x : Operand} (ho : o.op = .nilCheck x) (h : (match evL s x with
 | .ref t sz i off => okL s o (.ref t sz i off)
 | .iptr sh y off => okL s o (.iptr sh y off)
 | .optr sh y => some (y.isSome, s.put o.dst (.c (.l (.iptr sh (y.getD sh.dflt) 0))))
 | _ => none) = some (true, s')) : StepOk P s o s' := by
 split at h
 ·rename_i t sz i off hx
  obtain rfl := congrArg Prod.snd (okL_eq h)
  refine StepOk.value fun B0 w0 β p a w inv => ?_
  have cx := evL_ok inv x (by rw [hx]; intro e; cases e)
  rw [hx] at cx
  have cx' := cx
  obtain ⟨r, b, _, _, e, _⟩ := cx
  exact ⟨a.eval x, by simp [execOp, ho, e], repC_l cx'⟩
 ·rename_i sh y off hx
  obtain rfl := congrArg Prod.snd (okL_eq h)
  refine StepOk.value fun B0 w0 β p a w inv => ?_
  have cx := evL_ok inv x (by rw [hx]; intro e; cases e)
  rw [hx] at cx
  have cx' := cx
  obtain ⟨b, q, us, e, _⟩ := cx
  exact ⟨a.eval x, by simp [execOp, ho, e], repC_l cx'⟩
 ·rename_i sh y hx
  obtain ⟨h1, rfl⟩ := Prod.mk.inj (Option.some.inj h)
  refine StepOk.value fun B0 w0 β p a w inv => ?_
  have cx := evL_ok inv x (by rw [hx]; intro e; cases e)
  rw [hx] at cx
  have cx' := optr_some h1 cx
  have cx'' := cx'
  obtain ⟨b, q, us, e, _⟩ := cx'
  exact ⟨a.eval x, by simp [execOp, ho, e], repC_l cx''⟩
 ·cases h
end
end Go.Ev
namespace Go.Ev
open Go.RowKit
section
variable {w : World} {p : Nat → Prop} {β : Nat → Option Value} {H : Nat → Blk}
theorem repLs_nil : RepLs w p β H [] [] := ⟨rfl, fun i c v h => by simp at h⟩
theorem repLs_one {c : LV} {v : Value} (h : RepL w p β H c v) : RepLs w p β H [c] [v] := by
 refine ⟨rfl, fun i c' v' hc hv => ?_⟩
 cases i with
 | zero => simp at hc hv; subst hc; subst hv; exact h
 | succ i => simp at hc
theorem RepLs.append {cs ds : List LV} {us vs : List Value} (h1 : RepLs w p β H cs us) (h2 : RepLs w p β H ds vs) : RepLs w p β H (cs ++ ds) (us ++ vs) := by
 refine ⟨by simp [h1.1, h2.1], fun i c v hc hv => ?_⟩
 rw [List.getElem?_append] at hc hv
 by_cases hi : i < cs.length
 ·rw [if_pos hi] at hc; rw [if_pos (by rw [← h1.1]; exact hi)] at hv; exact h1.2 i c v hc hv
 ·rw [if_neg hi] at hc; rw [if_neg (by rw [← h1.1]; exact hi), ← h1.1] at hv; exact h2.2 _ c v hc hv
theorem cells_ok : ∀ {s : Sh} {x : s.T} {us : List Value}, RepT w p s x us → RepLs w p β H (s.cells x) us
 | .int _, _, _, h => by simp only [RepT] at h; subst h; exact repLs_one rfl
 | .bool, _, _, h => by simp only [RepT] at h; subst h; exact repLs_one rfl
 | .str, _, _, h => by simp only [RepT] at h; subst h; exact repLs_one rfl
 | .err, _, _, h => by simp only [RepT] at h; obtain ⟨v, rfl, h⟩ := h; exact repLs_one h
 | .zf, _, _, h => by
   have h' := h
   simp only [RepT] at h; obtain ⟨b, rfl, _⟩ := h; exact repLs_one h'
 | .zc, _, _, h => by
   have h' := h
   simp only [RepT] at h; obtain ⟨a, b, rfl, _⟩ := h; exact repLs_one h'
 | .slice _, _, _, h => by
   have h' := h
   simp only [RepT] at h; obtain ⟨a, c, rfl, _⟩ := h; exact repLs_one h'
 | .map _ _, _, _, h => by
   have h' := h
   simp only [RepT] at h; obtain ⟨r, rfl, _⟩ := h; exact repLs_one h'
 | .pair a b, x, us, h => by
   simp only [RepT] at h
   obtain ⟨us, ts, rfl, h1, h2⟩ := h
   exact (cells_ok h1).append (cells_ok h2)
 | .agg s, x, us, h => by simp only [RepT] at h; simp only [Sh.cells]; exact cells_ok h
 | .unit, _, _, h => by simp only [RepT] at h; subst h; exact repLs_nil
 | .ptr _, _, _, h => by
   simp only [RepT] at h; obtain ⟨b, q, us, rfl, h1, h2, h3⟩ := h; exact repLs_one ⟨b, q, us, rfl, h1, h2, h3⟩
 | .optr _, _, _, h => by
   have h' := h
   simp only [RepT] at h; rcases h with ⟨rfl, _⟩ | ⟨b, q, us, y, rfl, _⟩ <;> exact repLs_one h'
 | .clo _ _, _, _, h => by
   have h' := h
   simp only [RepT] at h; obtain ⟨cv, rfl, _⟩ := h; exact repLs_one h'
theorem cv_ok {s : Sh} {x : s.T} {us : List Value} {v : Value} (h : RepT w p s x us) (hv : VOf s.isAgg us v) : RepC w p β H (s.cv x) v := by
 have hc := cells_ok (β := β) (H := H) h
 cases s <;> simp only [Sh.isAgg, VOf, Bool.false_eq_true, if_false, if_true] at hv
 case agg s => subst hv; exact ⟨_, rfl, by simpa [Sh.cells] using hc⟩
 case pair => trivial
 case unit => trivial
 all_goals (subst hv; exact repC_l (hc.2 0 _ _ rfl rfl))
theorem RepLs.uncons {c : LV} {r : List LV} {us : List Value} (h : RepLs w p β H (c :: r) us) : ∃ v vs, us = v :: vs ∧ RepL w p β H c v ∧ RepLs w p β H r vs := by
 cases us with
 | nil => have := h.1; simp at this
 | cons v vs =>
   refine ⟨v, vs, rfl, h.2 0 c v rfl rfl, by have := h.1; simpa using this, fun i c' v' hc hv => h.2 (i + 1) c' v' (by simpa using hc) (by simpa using hv)⟩
theorem take_ok {s : Sh} : ∀ {l : List LV} {x : s.T} {r : List LV}, s.take l = some (x, r) → ∀ {us : List Value}, RepLs w p β H l us →
 RepT w p s x (us.take s.size) ∧ RepLs w p β H r (us.drop s.size) := by
 induction s with
 | pair a b iha ihb =>
   intro l x r h us hl
   simp only [Sh.take] at h
   cases h1 : a.take l with
   | none => rw [h1] at h; cases h
   | some xr =>
     obtain ⟨x1, r1⟩ := xr
     rw [h1] at h
     simp only [] at h
     cases h2 : b.take r1 with
     | none => rw [h2] at h; cases h
     | some yr =>
       obtain ⟨y, r2⟩ := yr
       rw [h2] at h
       obtain ⟨rfl, rfl⟩ := Prod.mk.inj (Option.some.inj h)
       obtain ⟨a1, a2⟩ := iha h1 hl
       obtain ⟨b1, b2⟩ := ihb h2 a2
       refine ⟨⟨us.take a.size, (us.drop a.size).take b.size, ?_, a1, b1⟩, ?_⟩
       ·simp only [Sh.size]; rw [List.take_add]
       ·simp only [Sh.size]; rw [List.drop_drop] at b2; exact b2
 | agg s ih =>
   intro l x r h us hl
   simp only [Sh.take] at h
   cases h1 : s.take l with
   | none => rw [h1] at h; cases h
   | some xr =>
     obtain ⟨x1, r1⟩ := xr
     rw [h1] at h
     obtain ⟨rfl, rfl⟩ := Prod.mk.inj (Option.some.inj h)
     exact ih h1 hl
 | unit =>
   intro l x r h us hl
   simp only [Sh.take] at h
   obtain ⟨rfl, rfl⟩ := Prod.mk.inj (Option.some.inj h)
   exact ⟨rfl, by simpa [Sh.size] using hl⟩
 | int k =>
   intro l x r h us hl
   cases l with
   | nil => simp [Sh.take] at h
   | cons c l =>
     obtain ⟨v, vs, rfl, h1, h2⟩ := hl.uncons
     cases c <;> simp only [Sh.take, reduceCtorEq] at h
     split at h
     ·rename_i e; subst e
      obtain ⟨rfl, rfl⟩ := Prod.mk.inj (Option.some.inj h)
      exact ⟨by simp only [RepL] at h1; subst h1; rfl, h2⟩
     ·cases h
 | bool =>
   intro l x r h us hl
   cases l with
   | nil => simp [Sh.take] at h
   | cons c l =>
     obtain ⟨v, vs, rfl, h1, h2⟩ := hl.uncons
     cases c <;> simp only [Sh.take, reduceCtorEq] at h
     obtain ⟨rfl, rfl⟩ := Prod.mk.inj (Option.some.inj h)
     exact ⟨by simp only [RepL] at h1; subst h1; rfl, h2⟩
 | str =>
   intro l x r h us hl
   cases l with
   | nil => simp [Sh.take] at h
   | cons c l =>
     obtain ⟨v, vs, rfl, h1, h2⟩ := hl.uncons
     cases c <;> simp only [Sh.take, reduceCtorEq] at h
     obtain ⟨rfl, rfl⟩ := Prod.mk.inj (Option.some.inj h)
     exact ⟨by simp only [RepL] at h1; subst h1; rfl, h2⟩
 | err =>
   intro l x r h us hl
   cases l with
   | nil => simp [Sh.take] at h
   | cons c l =>
     obtain ⟨v, vs, rfl, h1, h2⟩ := hl.uncons
     cases c <;> simp only [Sh.take, reduceCtorEq] at h
     obtain ⟨rfl, rfl⟩ := Prod.mk.inj (Option.some.inj h)
     exact ⟨⟨v, rfl, h1⟩, h2⟩
 | zf =>
   intro l x r h us hl
   cases l with
   | nil => simp [Sh.take] at h
   | cons c l =>
     obtain ⟨v, vs, rfl, h1, h2⟩ := hl.uncons
     cases c <;> simp only [Sh.take, reduceCtorEq] at h
     obtain ⟨rfl, rfl⟩ := Prod.mk.inj (Option.some.inj h)
     exact ⟨h1, h2⟩
 | zc =>
   intro l x r h us hl
   cases l with
   | nil => simp [Sh.take] at h
   | cons c l =>
     obtain ⟨v, vs, rfl, h1, h2⟩ := hl.uncons
     cases c <;> simp only [Sh.take, reduceCtorEq] at h
     obtain ⟨rfl, rfl⟩ := Prod.mk.inj (Option.some.inj h)
     exact ⟨h1, h2⟩
 | slice e ih =>
   intro l x r h us hl
   cases l with
   | nil => simp [Sh.take] at h
   | cons c l =>
     obtain ⟨v, vs, rfl, h1, h2⟩ := hl.uncons
     cases c <;> simp only [Sh.take, reduceCtorEq] at h
     ·split at h
      ·rename_i e; subst e
       obtain ⟨rfl, rfl⟩ := Prod.mk.inj (Option.some.inj h)
       exact ⟨h1, h2⟩
      ·cases h
     ·obtain ⟨rfl, rfl⟩ := Prod.mk.inj (Option.some.inj h)
      simp only [RepL] at h1
      subst h1
      exact ⟨⟨none, 0, rfl, ⟨Nat.le_refl _, fun _ => rfl⟩, .inl rfl⟩, h2⟩
     ·obtain ⟨rfl, rfl⟩ := Prod.mk.inj (Option.some.inj h)
      simp only [RepL] at h1
      obtain ⟨b, q, rfl⟩ := h1
      exact ⟨⟨_, 0, rfl, ⟨Nat.le_refl _, fun _ => rfl⟩, .inl rfl⟩, h2⟩
 | map k v ihk ihv =>
   intro l x r h us hl
   cases l with
   | nil => simp [Sh.take] at h
   | cons c l =>
     obtain ⟨u, vs, rfl, h1, h2⟩ := hl.uncons
     cases c <;> simp only [Sh.take, reduceCtorEq] at h
     split at h
     ·rename_i e; obtain ⟨e1, e2⟩ := e; subst e1; subst e2
      obtain ⟨rfl, rfl⟩ := Prod.mk.inj (Option.some.inj h)
      exact ⟨h1, h2⟩
     ·cases h
 | ptr s _ =>
   intro l x r h us hl
   cases l with
   | nil => simp [Sh.take] at h
   | cons c l =>
     obtain ⟨v, vs, rfl, h1, h2⟩ := hl.uncons
     cases c <;> simp only [Sh.take, reduceCtorEq] at h
     split at h
     ·rename_i e; obtain ⟨rfl, rfl⟩ := e
      obtain ⟨rfl, rfl⟩ := Prod.mk.inj (Option.some.inj h)
      obtain ⟨b, q, us, rfl, g1, g2, g3⟩ := h1
      exact ⟨⟨b, q, us, rfl, g1, g2, g3⟩, h2⟩
     ·cases h
 | optr s _ =>
   intro l x r h us hl
   cases l with
   | nil => simp [Sh.take] at h
   | cons c l =>
     obtain ⟨v, vs, rfl, h1, h2⟩ := hl.uncons
     cases c <;> simp only [Sh.take, reduceCtorEq] at h
     case optr s' y =>
      split at h
      ·rename_i e; subst e
       obtain ⟨rfl, rfl⟩ := Prod.mk.inj (Option.some.inj h)
       exact ⟨h1, h2⟩
      ·cases h
     case nilptr =>
      obtain ⟨rfl, rfl⟩ := Prod.mk.inj (Option.some.inj h)
      simp only [RepL] at h1; subst h1
      exact ⟨.inl ⟨rfl, rfl⟩, h2⟩
     case iptr s' y o =>
      split at h
      ·rename_i e; obtain ⟨rfl, rfl⟩ := e
       obtain ⟨rfl, rfl⟩ := Prod.mk.inj (Option.some.inj h)
       obtain ⟨b, q, us, rfl, g1, g2, g3⟩ := h1
       exact ⟨.inr ⟨b, q, us, _, rfl, rfl, g1, g2, g3⟩, h2⟩
      ·cases h
 | clo f s _ =>
   intro l x r h us hl
   cases l with
   | nil => simp [Sh.take] at h
   | cons c l =>
     obtain ⟨v, vs, rfl, h1, h2⟩ := hl.uncons
     cases c <;> simp only [Sh.take, reduceCtorEq] at h
     split at h
     ·rename_i e; obtain ⟨rfl, rfl⟩ := e
      obtain ⟨rfl, rfl⟩ := Prod.mk.inj (Option.some.inj h)
      exact ⟨h1, h2⟩
     ·cases h
theorem build_ok {s : Sh} {l : List LV} {x : s.T} (h : s.build l = some x) {us : List Value} (hl : RepLs w p β H l us) : RepT w p s x us := by
 unfold Sh.build at h
 split at h
 ·rename_i y hy
  obtain rfl := Option.some.inj h
  obtain ⟨h1, h2⟩ := take_ok hy hl
  have : us.drop s.size = [] := List.eq_nil_of_length_eq_zero (by rw [← h2.1]; rfl)
  rw [List.drop_eq_nil_iff] at this
  rwa [List.take_of_length_le this] at h1
 ·cases h
theorem rows_ok {s : Sh} : ∀ {n : Nat} {l : List LV} {xs : List s.T}, s.rows n l = some xs → ∀ {us : List Value}, RepLs w p β H l us → xs.length = n ∧ Rows' s.size (RepT w p s) xs us
 | 0, [], xs, h, us, hl => by
   simp only [Sh.rows] at h
   obtain rfl := Option.some.inj h
   have : us = [] := List.eq_nil_of_length_eq_zero hl.1.symm
   subst this
   exact ⟨rfl, by simp [Rows']⟩
 | 0, _ :: _, xs, h, us, hl => by simp only [Sh.rows] at h; cases h
 | n + 1, l, xs, h, us, hl => by
   simp only [Sh.rows] at h
   cases h1 : s.take l with
   | none => rw [h1] at h; cases h
   | some xr =>
     obtain ⟨x, r⟩ := xr
     rw [h1] at h
     simp only [] at h
     cases h2 : s.rows n r with
     | none => rw [h2] at h; cases h
     | some ys =>
       rw [h2] at h
       obtain rfl := Option.some.inj h
       obtain ⟨a1, a2⟩ := take_ok h1 hl
       obtain ⟨b1, b2, b3⟩ := rows_ok h2 a2
       have hlen := a1.length
       have hle : s.size ≤ us.length := by rw [List.length_take] at hlen; omega
       refine ⟨by simp [b1], ?_, fun i y hy => ?_⟩
       ·rw [List.length_drop] at b2
        rw [List.length_cons, Nat.add_mul, Nat.one_mul]
        omega
       ·cases i with
        | zero => simp at hy; subst hy; simpa using a1
        | succ i =>
          have := b3 i y (by simpa using hy)
          rw [List.drop_drop] at this
          rw [Nat.add_mul, Nat.one_mul, Nat.add_comm]
          exact this
theorem rows_cells {s : Sh} : ∀ {xs : List s.T} {us : List Value}, Rows' s.size (RepT w p s) xs us → RepLs w p β H (xs.flatMap s.cells) us
 | [], us, h => by
   have : us = [] := List.eq_nil_of_length_eq_zero (by simpa using h.1)
   subst this
   exact repLs_nil
 | x :: xs, us, h => by
   have h0 := h.2 0 x rfl
   simp only [Nat.zero_mul, List.drop_zero] at h0
   have hr : Rows' s.size (RepT w p s) xs (us.drop s.size) := by
    refine ⟨by rw [List.length_drop, h.1, List.length_cons, Nat.add_mul]; omega, fun i y hy => ?_⟩
    have := h.2 (i + 1) y (by simpa using hy)
    rw [List.drop_drop]
    rwa [Nat.add_mul, Nat.one_mul, Nat.add_comm] at this
   have h2 := (cells_ok (β := β) (H := H) h0).append (rows_cells hr)
   rw [List.take_append_drop] at h2
   exact h2
theorem isAgg_iff {P : Program} {T : TypeId} {d : TypeDesc} (h : P.underlying T = some d) : (P.info? T).isSome = true := by
 obtain ⟨i, hi⟩ := info_of_underlying h; simp [hi]
theorem load_ok {P : Program} {T : TypeId} {cs : List LV} {us : List Value} {b base off : Nat} {c : CV} (hr : RepLs w p β H cs us)
 (hc : ∀ j, j < us.length → w.cell? ⟨b, base + j, none⟩ = us[j]?) (hp : partOf P T cs off = some c) :
 ∃ v, (loadVar T ⟨b, base + off, none⟩).run P w = .ok v w ∧ RepC w p β H c v := by
 unfold partOf at hp
 cases hu : P.underlying T with
 | none => rw [hu] at hp; cases hp
 | some d =>
   rw [hu] at hp
   simp only [] at hp
   unfold loadVar
   rw [Sem.run_bind, run_isAgg' hu]
   simp only [Result.andThen_ok]
   split at hp
   ·rename_i ha
    split at hp
    ·rename_i hle
     obtain rfl := Option.some.inj hp
     rw [if_pos ha]
     have hlen : ((us.drop off).take (P.cellsOf T)).length = P.cellsOf T := by
      rw [List.length_take, List.length_drop, ← hr.1]; omega
     have hl := run_loadCells_list (P := P) w ⟨b, base + off, none⟩ ((us.drop off).take (P.cellsOf T)) (fun j v hj => by
      rw [Addr.add_lit]
      rw [List.getElem?_take] at hj
      split at hj
      ·rename_i hjl
       rw [List.getElem?_drop] at hj
       have hlt : off + j < us.length := (List.getElem?_eq_some_iff.1 hj).1
       have := hc (off + j) hlt
       rw [show base + off + j = base + (off + j) from by omega, this, hj]
      ·cases hj)
     rw [hlen] at hl
     exact ⟨_, by rw [Sem.run_bind, run_sizeOf' (isAgg_iff hu)]; simp only [Result.andThen_ok, Sem.run_bind, hl, Sem.run_pure], _, rfl, hr.part off _⟩
    ·cases hp
   ·rename_i ha
    rw [if_neg ha]
    cases hcs : cs[off]? with
    | none => rw [hcs] at hp; cases hp
    | some x =>
      rw [hcs] at hp
      obtain rfl := Option.some.inj hp
      have hlt : off < us.length := by rw [← hr.1]; exact (List.getElem?_eq_some_iff.1 hcs).1
      have hv := hc off hlt
      rw [List.getElem?_eq_getElem hlt] at hv
      exact ⟨_, by simp [hv], repC_l (hr.2 off x _ hcs (List.getElem?_eq_getElem hlt))⟩
end
section
variable {B0 : Nat} {w0 : Base} {β : Nat → Option Value} {p : Nat → Prop} {s : PS} {a : Act} {w : World}
theorem Inv.cellsAt (h : Inv B0 w0 β p s a w) {t : Nat} {r : Value} {b : Nat} (hr : β t = some r) (hb : rootBlock r = some b) {cs : List LV} (hs : s.blk t = .cells cs) :
 ∃ us, (∀ j, j < us.length → w.cell? ⟨b, j, none⟩ = us[j]?) ∧ RepLs w p β s.blk cs us := by
 have := h.blk hr
 rw [hs] at this
 obtain ⟨b', vs, T, h0, h1, h2, h3⟩ := this
 rw [h0.block] at hb
 obtain rfl := Option.some.inj hb
 refine ⟨_, fun j hj => ?_, h3⟩
 rw [List.length_take] at hj
 rw [cell_of_row w b' j vs T (0, 0) h2, List.getElem?_take, if_pos (by omega), Array.getElem?_toList]
theorem Inv.cellsIn (h : Inv B0 w0 β p s a w) {t : Nat} {r : Value} {b : Nat} (hr : β t = some r) (hb : rootBlock r = some b) {cs : List LV} (hs : s.blk t = .cells cs) :
 ∃ vs T, RootOf r b cs.length vs.size ∧ B0 ≤ b ∧ w.heap[b]? = some (.cells vs T (0, 0)) ∧ RepLs w p β s.blk cs (vs.toList.take cs.length) := by
 have := h.blk hr
 rw [hs] at this
 obtain ⟨b', vs, T, h0, h1, h2, h3⟩ := this
 rw [h0.block] at hb
 obtain rfl := Option.some.inj hb
 exact ⟨vs, T, h0, h1, h2, h3⟩
theorem Inv.arrAt (h : Inv B0 w0 β p s a w) {t : Nat} {r : Value} {b : Nat} (hr : β t = some r) (hb : rootBlock r = some b) {e : Sh} {xs : List e.T} (hs : s.blk t = .arr e xs) :
 ∃ vs T, r = .pointer (some ⟨b, 0, none⟩) ∧ B0 ≤ b ∧ w.heap[b]? = some (.cells vs T (0, 0)) ∧ 0 < e.size ∧ Rows' e.size (RepT w p e) xs vs.toList := by
 have := h.blk hr
 rw [hs] at this
 obtain ⟨b', vs, T, rfl, h1, h2, h3, h4⟩ := this
 obtain rfl := Option.some.inj hb
 exact ⟨vs, T, rfl, h1, h2, h3, h4⟩
theorem Inv.bufAt (h : Inv B0 w0 β p s a w) {t : Nat} {r : Value} {b : Nat} (hr : β t = some r) (hb : rootBlock r = some b) {T : TypeId} {e : Sh} {xs : List e.T} (hs : s.blk t = .buf T e xs) :
 ∃ q cap cur us, r = .slice (some ⟨b, q, none⟩) xs.length cap ∧ B0 ≤ b ∧ w.heap[b]? = some (.cells cur T (0, 0)) ∧ xs.length ≤ cap ∧ cap ≤ maxLen ∧ q + cap * e.size ≤ cur.size ∧ us = (cur.toList.drop q).take (xs.length * e.size) ∧ 0 < e.size ∧ Rows' e.size (RepT w p e) xs us := by
 have := h.blk hr
 rw [hs] at this
 obtain ⟨us, h1, h2, h3⟩ := this
 obtain ⟨h4, h5⟩ := h1
 rcases h5 with ⟨rfl, _⟩ | ⟨g, q, cap, cur, rfl, h6, h7, h8, h9, h10, h11⟩
 ·cases hb
 ·obtain rfl := Option.some.inj hb
  exact ⟨q, cap, cur, us, rfl, h6, h7, h8, h9, h10, h11.symm, h2, h3⟩
theorem Inv.idsAt (h : Inv B0 w0 β p s a w) {t : Nat} {r : Value} {b : Nat} (hr : β t = some r) (hb : rootBlock r = some b) {T : TypeId} {l : List Nat} (hs : s.blk t = .ids T l) :
 ∃ q cap cur us, r = .slice (some ⟨b, q, none⟩) l.length cap ∧ B0 ≤ b ∧ w.heap[b]? = some (.cells cur T (0, 0)) ∧ l.length ≤ cap ∧ cap ≤ maxLen ∧ q + cap ≤ cur.size ∧ us = (cur.toList.drop q).take l.length ∧ RepLs w p β s.blk (l.map LV.row) us := by
 have := h.blk hr
 rw [hs] at this
 obtain ⟨us, h1, h2⟩ := this
 obtain ⟨h4, h5⟩ := h1
 rcases h5 with ⟨rfl, _⟩ | ⟨g, q, cap, cur, rfl, h6, h7, h8, h9, h10, h11⟩
 ·cases hb
 ·obtain rfl := Option.some.inj hb
  rw [Nat.mul_one] at h10 h11
  exact ⟨q, cap, cur, us, rfl, h6, h7, h8, h9, h10, h11.symm, h2⟩
theorem Inv.idsCells (h : Inv B0 w0 β p s a w) {t : Nat} {r : Value} {b : Nat} (hr : β t = some r) (hb : rootBlock r = some b) {T : TypeId} {l : List Nat} (hs : s.blk t = .ids T l) :
 ∃ us, RepLs w p β s.blk (l.map LV.row) us ∧ ∀ j, j < us.length → w.cell? ⟨b, rootOff r + j, none⟩ = us[j]? := by
 obtain ⟨q, cap, cur, us, rfl, _, hh, h1, _, h2, hu, hl⟩ := h.idsAt hr hb hs
 refine ⟨us, hl, fun j hj => ?_⟩
 rw [cell_of_row w b _ cur T (0, 0) hh]
 subst hu
 rw [List.length_take, List.length_drop] at hj
 rw [List.getElem?_take, if_pos (by omega), List.getElem?_drop, Array.getElem?_toList]
 rfl
theorem PS.rowB_of {j : Nat} (h : (s.blk (16000 + j)).isRow) : ∃ T rows, s.pl = some (T, rows) ∧ j < rows.length ∧ s.blk (16000 + j) = .rowb T (rowAt rows j) := by
 rw [PS.blk_high (Nat.le_add_right _ _), Nat.add_sub_cancel_left, PS.rowB] at h ⊢
 cases hp : s.pl with
 | none => rw [hp] at h; exact h.elim
 | some x =>
   rw [hp] at h
   dsimp only at h ⊢
   cases hx : x.2[j]? with
   | none => rw [hx] at h; exact h.elim
   | some l =>
     refine ⟨x.1, x.2, rfl, (List.getElem?_eq_some_iff.1 hx).1, ?_⟩
     show Blk.rowb x.1 l = .rowb x.1 (x.2.getD j [])
     rw [List.getD_eq_getElem?_getD, hx]; rfl
theorem Inv.rowMem (h : Inv B0 w0 β p s a w) {j : Nat} {r : Value} (hr : β (16000 + j) = some r) (hi : (s.blk (16000 + j)).isRow) :
 ∃ T rows us, s.pl = some (T, rows) ∧ j < rows.length ∧ s.blk (16000 + j) = .rowb T (rowAt rows j) ∧ ownsAt w B0 T 1 r (rowAt rows j).length us ∧ Rows' 1 (RepT w p (.int .i64)) (rowAt rows j) us := by
 obtain ⟨T, rows, h1, h2, h3⟩ := PS.rowB_of hi
 have := h.blk hr
 rw [h3] at this
 obtain ⟨us, h4, h5⟩ := this
 exact ⟨T, rows, us, h1, h2, h3, h4, h5⟩
theorem Inv.off0 (h : Inv B0 w0 β p s a w) {t : Nat} {r : Value} (hr : β t = some r) (hs : (∃ cs, s.blk t = .cells cs) ∨ ∃ e, ∃ xs : List e.T, s.blk t = .arr e xs) : rootOff r = 0 := by
 have := h.blk hr
 rcases hs with ⟨cs, hs⟩ | ⟨e, xs, hs⟩ <;> rw [hs] at this
 ·obtain ⟨b, vs, T, h0, _⟩ := this; exact h0.off
 ·obtain ⟨b, vs, T, rfl, _⟩ := this; rfl
theorem crefOk_exact {B : Nat} {H : Nat → Blk} {w : World} {p : Nat → Prop} {β : Nat → Option Value} {k : Nat} {r : Value} {cs : List LV} {o n : Nat} {e : Sh} (h : o + n * e.size ≤ cs.length) (hm : n ≤ maxLen) (hb : RepB w p β H B (H k) r) (hs : H k = .cells cs) : crefOk r n (.cells cs) o n e := by
 refine ⟨h, hm, ?_⟩
 rw [hs] at hb
 obtain ⟨b, vs, T, h0, _⟩ := hb
 rcases h0 with ⟨rfl, _⟩ | ⟨c, rfl, h1, _⟩
 ·exact h
 ·show o + n * e.size ≤ c; omega
theorem cell_of {g j : Nat} {cs : Array Value} {t : TypeId} {fr : Nat × Nat} (hg : w.heap[g]? = some (.cells cs t fr)) : w.cell? ⟨g, j, none⟩ = cs.toList[j]? := by
 rw [cell_of_row w g j cs t fr hg, Array.getElem?_toList]
theorem Inv.rowsAt (h : Inv B0 w0 β p s a w) {t : Nat} {r : Value} {b : Nat} (hr : β t = some r) (hb : rootBlock r = some b) {e : Sh} {xs : List e.T} (hs : (∃ T, s.blk t = .buf T e xs) ∨ s.blk t = .arr e xs) :
 ∃ us, 0 < e.size ∧ Rows' e.size (RepT w p e) xs us ∧ ∀ j, j < us.length → w.cell? ⟨b, rootOff r + j, none⟩ = us[j]? := by
 rcases hs with ⟨T, hs⟩ | hs
 ·obtain ⟨q, cap, cur, us, rfl, _, hh, _, _, _, hu, he, hrow⟩ := h.bufAt hr hb hs
  refine ⟨us, he, hrow, fun j hj => ?_⟩
  rw [cell_of hh, hu, List.getElem?_take, List.getElem?_drop]
  rw [hrow.1] at hj
  rw [if_pos hj]
  rfl
 ·obtain ⟨vs, T, hr', _, hh, he, hrow⟩ := h.arrAt hr hb hs
  refine ⟨vs.toList, he, hrow, fun j _ => ?_⟩
  rw [h.off0 hr (.inr ⟨e, xs, hs⟩), Nat.zero_add]
  exact cell_of hh
theorem elem_at {e : Sh} {xs : List e.T} {us : List Value} {b q i : Nat} {x : e.T} (hrow : Rows' e.size (RepT w p e) xs us) (hc : ∀ j, j < us.length → w.cell? ⟨b, q + j, none⟩ = us[j]?) (hx : xs[i]? = some x) :
 RepT w p e x ((us.drop (i * e.size)).take e.size) ∧ ((us.drop (i * e.size)).take e.size).length = e.size ∧ ∀ j, j < e.size → w.cell? ⟨b, q + i * e.size + j, none⟩ = ((us.drop (i * e.size)).take e.size)[j]? := by
 have hr := hrow.2 i x hx
 have hi : i < xs.length := (List.getElem?_eq_some_iff.1 hx).1
 have hle : (i + 1) * e.size ≤ us.length := by rw [hrow.1]; exact Nat.mul_le_mul_right _ hi
 rw [Nat.add_mul, Nat.one_mul] at hle
 refine ⟨hr, hr.length, fun j hj => ?_⟩
 rw [List.getElem?_take, if_pos hj, List.getElem?_drop, Nat.add_assoc]
 exact hc _ (by omega)
end
section
variable {P : Program} {s s' : PS} {o : Oper}
theorem getD_get {α : Type} {xs : List α} {i : Nat} (d : α) (h : i < xs.length) : xs[i]? = some (xs.getD i d) := by
 rw [List.getD_eq_getElem?_getD, List.getElem?_eq_getElem h]; rfl
theorem step_load {T : TypeId} {x : Operand} (ho : o.op = .load T x) (h : loadOp P s o T (evL s x) = some (true, s')) : StepOk P s o s' := by
 unfold loadOp at h
 split at h
 ·rename_i t sz i off hx
  have hne : evL s x ≠ .undef := by rw [hx]; intro e; cases e
  have elem : ∀ (e : Sh) (xs : List e.T), ((∃ U, s.blk t = .buf U e xs) ∨ s.blk t = .arr e xs) → sz = e.size → ∀ v, partOf P T (e.cells (xs.getD i e.dflt)) off = some v → ok s o (.c v) = some (true, s') → StepOk P s o s' := by
   intro e xs hs hsz v hv hok
   obtain rfl := congrArg Prod.snd (okStep hok)
   refine StepOk.value fun B0 w0 β p a w inv => ?_
   have cx := evL_ok inv x hne
   rw [hx] at cx
   obtain ⟨r, b, hr, hb, ex, hok⟩ := cx
   obtain ⟨us, he, hrow, hc⟩ := inv.rowsAt hr hb hs
   have hi : i < xs.length := by
    rcases hs with ⟨U, hs⟩ | hs
    ·rw [hs] at hok; exact hok.2
    ·rw [hs] at hok; rcases hok with ⟨h0, _⟩ | h; · omega
     ·exact h.2
   obtain ⟨r1, r2, r3⟩ := elem_at hrow hc (getD_get e.dflt hi)
   obtain ⟨u, hu, cu⟩ := load_ok (P := P) (T := T) (β := β) (H := s.blk) (cells_ok r1) (fun j hj => r3 j (by rwa [r2] at hj)) hv
   refine ⟨u, ?_, cu⟩
   rw [hsz, ← Nat.add_assoc] at ex
   simp [execOp, ho, ex, Instr.loadAt, Instr.sureAddr, hu]
  split at h
  ·rename_i cs hs
   split at h
   ·rename_i v hv
    obtain rfl := congrArg Prod.snd (okStep h)
    refine StepOk.value fun B0 w0 β p a w inv => ?_
    have cx := evL_ok inv x hne
    rw [hx] at cx
    obtain ⟨r, b, hr, hb, ex, hok⟩ := cx
    rw [hs] at hok
    obtain ⟨us, hh, hl⟩ := inv.cellsAt hr hb hs
    obtain ⟨u, hu, cu⟩ := load_ok (P := P) (T := T) (b := b) (base := 0) hl (fun j hj => by rw [Nat.zero_add]; exact hh j hj) hv
    refine ⟨u, ?_, cu⟩
    have hz : rootOff r + (i * sz + off) = 0 + off := by rw [inv.off0 hr (.inl ⟨cs, hs⟩), show sz = 0 from hok, Nat.mul_zero, Nat.zero_add]
    rw [hz] at ex
    simp [execOp, ho, ex, Instr.loadAt, Instr.sureAddr] at hu ⊢
    rw [hu]; rfl
   ·cases h
  ·rename_i e xs hs
   split at h
   ·rename_i hsz
    split at h
    ·rename_i v hv
     exact elem e xs (.inr hs) hsz v hv h
    ·cases h
   ·split at h
    ·rename_i hsz0 hsz
     obtain ⟨hsz, hi, hoff, ha, hu⟩ := hsz
     obtain ⟨d, hu⟩ := Option.isSome_iff_exists.1 hu
     obtain ⟨h1, rfl⟩ := Prod.mk.inj (Option.some.inj h)
     have h1 : xs.length * e.size = P.cellsOf T := of_decide_eq_true h1
     refine StepOk.value fun B0 w0 β p a w inv => ?_
     have cx := evL_ok inv x hne
     rw [hx] at cx
     obtain ⟨r, b, hr, hb, ex, hok⟩ := cx
     obtain ⟨us, he, hrow, hc⟩ := inv.rowsAt hr hb (.inr hs)
     rw [padV_self (e := e) (xs := xs) (by rw [← h1, Nat.mul_div_cancel _ he])]
     have hcs := rows_cells (β := β) (H := s.blk) hrow
     have hv : partOf P T (xs.flatMap e.cells) 0 = some (.agg (((xs.flatMap e.cells).drop 0).take (P.cellsOf T))) := by
      unfold partOf
      rw [hu]
      simp only []
      rw [if_pos ha, if_pos (by rw [hcs.1, hrow.1, h1]; omega)]
     have hfull : ((xs.flatMap e.cells).drop 0).take (P.cellsOf T) = xs.flatMap e.cells := by
      rw [List.drop_zero, List.take_of_length_le (by rw [hcs.1, hrow.1, h1]; omega)]
     rw [hfull] at hv
     rw [inv.off0 hr (.inr ⟨e, xs, hs⟩)] at hc ex
     obtain ⟨u, hru, cu⟩ := load_ok (P := P) (T := T) (b := b) (base := 0) hcs (fun j hj => hc j hj) hv
     refine ⟨u, ?_, cu⟩
     have hz : 0 + (i * sz + off) = 0 + 0 := by rw [hsz, hoff, Nat.mul_zero]
     rw [hz] at ex
     simp [execOp, ho, ex, Instr.loadAt, Instr.sureAddr] at hru ⊢
     rw [hru]; rfl
    ·cases h
  ·rename_i U e xs hs
   split at h
   ·rename_i hsz
    split at h
    ·rename_i v hv
     exact elem e xs (.inl ⟨U, hs⟩) hsz v hv h
    ·cases h
   ·cases h
  ·rename_i U l hs
   split at h
   ·rename_i v hv
    obtain rfl := congrArg Prod.snd (okStep h)
    refine StepOk.value fun B0 w0 β p a w inv => ?_
    have cx := evL_ok inv x hne
    rw [hx] at cx
    obtain ⟨r, b, hr, hb, ex, hok⟩ := cx
    rw [hs] at hok
    obtain ⟨rfl, hi⟩ := hok
    obtain ⟨us, hl, hc⟩ := inv.idsCells hr hb hs
    have hlen : us.length = l.length := by have := hl.1; rw [List.length_map] at this; exact this.symm
    have hiu : i < us.length := by omega
    have hrow := hl.2 i (.row (l.getD i 0)) us[i] (by rw [List.getElem?_map, getD_get 0 hi]; rfl) (List.getElem?_eq_getElem hiu)
    obtain ⟨u, hu, cu⟩ := load_ok (P := P) (T := T) (b := b) (base := rootOff r + i) (repLs_one hrow) (fun j hj => by
     obtain rfl : j = 0 := by simp only [List.length_singleton] at hj; omega
     rw [Nat.add_zero, hc i hiu, List.getElem?_eq_getElem hiu]; rfl) hv
    refine ⟨u, ?_, cu⟩
    rw [Nat.mul_one, ← Nat.add_assoc] at ex
    simp [execOp, ho, ex, Instr.loadAt, Instr.sureAddr, hu]
   ·cases h
  ·cases h
 ·rename_i j k hx
  have hne : evL s x ≠ .undef := by rw [hx]; intro e; cases e
  split at h
  ·rename_i y hpl
   split at h
   ·rename_i v hv
    obtain rfl := congrArg Prod.snd (okStep h)
    refine StepOk.value fun B0 w0 β p a w inv => ?_
    have cx := evL_ok inv x hne
    rw [hx] at cx
    obtain ⟨r, b, hr, hb, ex, hok⟩ := cx
    obtain ⟨T0, rows, us, h1, h2, h3, h4, h5⟩ := inv.rowMem hr hok.is
    rw [hpl] at h1
    obtain rfl := Option.some.inj h1
    rw [h3] at hok
    have hk : k < (rowAt rows j).length := hok
    rcases h4.2 with ⟨rfl, _⟩ | ⟨g, q, cap, cur, rfl, _, hh, hcap, _, hsz, hus⟩
    ·cases hb
    obtain rfl := Option.some.inj hb
    rw [Nat.mul_one] at hsz hus
    have hlen : us.length = (rowAt rows j).length := by have := h5.1; rwa [Nat.mul_one] at this
    have hku : k < us.length := by omega
    have hrow := h5.2 k _ (getD_get 0 hk)
    rw [Nat.mul_one] at hrow
    have h1u : (us.drop k).take 1 = [us[k]] := by
     rw [List.drop_eq_getElem_cons hku]; rfl
    rw [h1u] at hrow
    obtain ⟨u, hu, cu⟩ := load_ok (P := P) (T := T) (b := g) (base := q + k) (β := β) (H := s.blk) (cells_ok (s := .int .i64) hrow) (fun i hi => by
     obtain rfl : i = 0 := by simp only [List.length_singleton] at hi; omega
     have : us[k]? = some us[k] := List.getElem?_eq_getElem hku
     rw [Nat.add_zero, cell_of hh]
     show cur.toList[q + k]? = some us[k]
     rw [← this, ← hus, List.getElem?_take, if_pos hk, List.getElem?_drop]) hv
    refine ⟨u, ?_, cu⟩
    have ex : a.eval x = .pointer (some ⟨g, q + k, none⟩) := ex
    rw [Nat.add_zero] at hu
    simp [execOp, ho, ex, Instr.loadAt, Instr.sureAddr, hu]
   ·cases h
  ·cases h
 ·rename_i sh y off hx
  have hne : evL s x ≠ .undef := by rw [hx]; intro e; cases e
  split at h
  ·rename_i v hv
   obtain rfl := congrArg Prod.snd (okStep h)
   refine StepOk.value fun B0 w0 β p a w inv => ?_
   have cx := evL_ok inv x hne
   rw [hx] at cx
   obtain ⟨b, q, us, ex, hb, hr, hc⟩ := cx
   obtain ⟨u, hu, cu⟩ := load_ok (P := P) (T := T) (b := b) (base := q) (β := β) (H := s.blk) (cells_ok hr) hc hv
   exact ⟨u, by simp [execOp, ho, ex, Instr.loadAt, Instr.sureAddr, hu], cu⟩
  ·cases h
 ·rename_i sh y hx
  have hne : evL s x ≠ .undef := by rw [hx]; intro e; cases e
  split at h
  ·rename_i v hv
   obtain ⟨h1, rfl⟩ := Prod.mk.inj (Option.some.inj h)
   refine StepOk.value fun B0 w0 β p a w inv => ?_
   have cx := evL_ok inv x hne
   rw [hx] at cx
   obtain ⟨b, q, us, ex, hb, hr, hc⟩ := optr_some h1 cx
   obtain ⟨u, hu, cu⟩ := load_ok (P := P) (T := T) (b := b) (base := q) (β := β) (H := s.blk) (cells_ok hr) hc hv
   rw [Nat.add_zero] at hu ex
   exact ⟨u, by simp [execOp, ho, ex, Instr.loadAt, Instr.sureAddr, hu], cu⟩
  ·cases h
 ·cases h
theorem step_fieldAddr {T : TypeId} {x : Operand} {f : Nat} (ho : o.op = .fieldAddr T x f) (h : fieldAddrOp P s o T f (evL s x) = some (true, s')) : StepOk P s o s' := by
 unfold fieldAddrOp at h
 split at h
 ·rename_i fs hu
  split at h
  ·rename_i fd hf
   split at h
   ·cases h
   ·rename_i hsz
    have hinfo : (P.info? fd.type).isSome = true := by
     cases hi : P.info? fd.type with
     | none => exact absurd (by simp [Program.cellsOf, hi]) hsz
     | some i => rfl
    have hplace : ∀ (w : World) (b q : Nat), (fieldPlace ⟨b, q, none⟩ fd).run P w = .ok ⟨b, q + fd.offset, none⟩ w := by
     intro w b q
     unfold fieldPlace
     rw [Sem.run_bind, run_sizeOf' hinfo]
     simp only [Result.andThen_ok, hsz, if_false, Sem.run_pure, Addr.add_lit]
    split at h
    ·rename_i t sz i off hx
     obtain rfl := congrArg Prod.snd (okL_eq h)
     refine StepOk.value fun B0 w0 β p a w inv => ?_
     have cx := evL_ok inv x (by rw [hx]; intro e; cases e)
     rw [hx] at cx
     obtain ⟨r, b, hr, hb, ex, hok⟩ := cx
     refine ⟨.pointer (some ⟨b, rootOff r + (i * sz + off) + fd.offset, none⟩), ?_, repC_l (w := w) (p := p) (β := β) (H := s.blk) (c := .ref t sz i (off + fd.offset)) ⟨r, b, hr, hb, by simp only [Nat.add_assoc], hok⟩⟩
     simp [execOp, ho, ex, Instr.fieldAt, run_underlying hu, hf, Instr.sureAddr, hplace]
    ·rename_i sh y off hx
     obtain rfl := congrArg Prod.snd (okL_eq h)
     refine StepOk.value fun B0 w0 β p a w inv => ?_
     have cx := evL_ok inv x (by rw [hx]; intro e; cases e)
     rw [hx] at cx
     obtain ⟨b, q, us, ex, hb, hr, hc⟩ := cx
     refine ⟨.pointer (some ⟨b, q + off + fd.offset, none⟩), ?_, repC_l (w := w) (p := p) (β := β) (H := s.blk) (c := .iptr sh y (off + fd.offset)) ⟨b, q, us, by rw [Nat.add_assoc], hb, hr, hc⟩⟩
     simp [execOp, ho, ex, Instr.fieldAt, run_underlying hu, hf, Instr.sureAddr, hplace]
    ·rename_i sh y hx
     obtain ⟨h1, rfl⟩ := Prod.mk.inj (Option.some.inj h)
     refine StepOk.value fun B0 w0 β p a w inv => ?_
     have cx := evL_ok inv x (by rw [hx]; intro e; cases e)
     rw [hx] at cx
     obtain ⟨b, q, us, ex, hb, hr, hc⟩ := optr_some h1 cx
     refine ⟨.pointer (some ⟨b, q + 0 + fd.offset, none⟩), ?_, repC_l (w := w) (p := p) (β := β) (H := s.blk) (c := .iptr sh (y.getD sh.dflt) (0 + fd.offset)) ⟨b, q, us, by rw [Nat.add_assoc], hb, hr, hc⟩⟩
     simp [execOp, ho, ex, Instr.fieldAt, run_underlying hu, hf, Instr.sureAddr, hplace]
    ·cases h
  ·cases h
 ·cases h
theorem inBounds_iff {i : Int} {n : Nat} (h : inBounds i n = true) : 0 ≤ i ∧ i < n ∧ i.toNat < n := by
 simp only [inBounds, Bool.and_eq_true, decide_eq_true_eq] at h
 omega
theorem info_size {P : Program} {E : TypeId} {n : Nat} (hn : 0 < n) (hE : n = P.cellsOf E) : (P.info? E).isSome = true := by
 cases hi : P.info? E with
 | none => simp [Program.cellsOf, hi] at hE; omega
 | some i => rfl
theorem run_index_slice {T E : TypeId} {x y : Operand} {k : IntKind} {i : Int} (ho : o.op = .indexAddr T x y) (hu : P.underlying T = some (.slice E)) (a : Act) (w : World) (b q len cap : Nat) (hi : (P.info? E).isSome = true)
 (ex : a.eval x = .slice (some ⟨b, q, none⟩) len cap) (ey : a.eval y = .int k i) (h0 : 0 ≤ i) (h1 : i < len) :
 (execOp a.eval o).run P w = .ok (.value (.pointer (some ⟨b, q + i.toNat * P.cellsOf E, none⟩))) w := by
 simp [execOp, ho, ex, ey, Instr.indexAt, asIntOf, run_underlying hu, h0, h1, run_sizeOf' hi, Addr.add_lit]
theorem run_index_array {T E : TypeId} {n : Nat} {x y : Operand} {k : IntKind} {i : Int} (ho : o.op = .indexAddr T x y) (hu : P.underlying T = some (.array n E)) (a : Act) (w : World) (b q : Nat) (hi : (P.info? E).isSome = true)
 (ex : a.eval x = .pointer (some ⟨b, q, none⟩)) (ey : a.eval y = .int k i) (h0 : 0 ≤ i) (h1 : i < n) :
 (execOp a.eval o).run P w = .ok (.value (.pointer (some ⟨b, q + i.toNat * P.cellsOf E, none⟩))) w := by
 simp [execOp, ho, ex, ey, Instr.indexAt, asIntOf, run_underlying hu, Instr.sureAddr, h0, h1, run_sizeOf' hi, Addr.add_lit]
theorem step_indexAddr_slice {T E : TypeId} (hu : P.underlying T = some (.slice E)) {x y : Operand} {k : IntKind} {i : Int} (ho : o.op = .indexAddr T x y) (hy : evL s y = .int k i) (h : indexAddrOp P s o T (evL s x) i = some (true, s')) : StepOk P s o s' := by
 unfold indexAddrOp at h
 rw [hu] at h
 simp only [] at h
 split at h
 ·rename_i e xs hx
  split at h
  ·rename_i hsz
   obtain ⟨h1, rfl⟩ := Prod.mk.inj (Option.some.inj h)
   obtain ⟨hb0, hb1, hb2⟩ := inBounds_iff h1
   refine StepOk.value fun B0 w0 β p a w inv => ?_
   have cx := evL_ok inv x (by rw [hx]; intro e; cases e)
   rw [hx] at cx
   have ey := evL_int inv hy
   simp only [RepL, RepT] at cx
   obtain ⟨ad, cap, ex, hcap, hcx⟩ := cx
   have ex : a.eval x = .slice ad xs.length cap := by simpa using ex
   rcases hcx with rfl | ⟨b, q, rfl, hb, hel⟩
   ·simp at hb2
   obtain ⟨us, r1, r2, r3⟩ := hel i.toNat _ (getD_get e.dflt hb2)
   have hinfo : (P.info? E).isSome = true := hsz.2
   refine ⟨.pointer (some ⟨b, q + i.toNat * P.cellsOf E, none⟩), run_index_slice ho hu a w b q _ cap hinfo ex ey hb0 hb1, repC_l (w := w) (p := p) (β := β) (H := s.blk) (c := .iptr e (xs.getD i.toNat e.dflt) 0) ⟨b, q + i.toNat * e.size, us, ?_, hb, r1, fun j hj => ?_⟩⟩
   ·rw [hsz.1, Nat.add_zero]
   ·exact r3 j (by rwa [r2] at hj)
  ·cases h
 ·rename_i t hx
  split at h
  ·rename_i U e xs hs
   split at h
   ·rename_i hsz
    obtain ⟨h1, rfl⟩ := Prod.mk.inj (Option.some.inj h)
    obtain ⟨hb0, hb1, hb2⟩ := inBounds_iff h1
    refine StepOk.value fun B0 w0 β p a w inv => ?_
    have cx := evL_ok inv x (by rw [hx]; intro e; cases e)
    rw [hx] at cx
    have ey := evL_int inv hy
    obtain ⟨hr, _, _⟩ := cx
    have hrep := inv.blk hr
    rw [hs] at hrep
    obtain ⟨us, ⟨hl, hown⟩, he, _⟩ := hrep
    rcases hown with ⟨_, hn⟩ | ⟨g, q, cap, cur, ex, _⟩
    ·omega
    refine ⟨.pointer (some ⟨g, q + i.toNat * P.cellsOf E, none⟩), run_index_slice ho hu a w g q _ cap (info_size he hsz) ex ey hb0 hb1, repC_l (w := w) (p := p) (β := β) (H := s.blk) (c := .ref t e.size i.toNat 0) ⟨_, g, hr, by rw [ex]; rfl, by rw [ex, hsz, Nat.add_zero]; rfl, ?_⟩⟩
    rw [hs]; exact ⟨rfl, hb2⟩
   ·cases h
  ·rename_i U l hs
   split at h
   ·rename_i hsz
    obtain ⟨h1, rfl⟩ := Prod.mk.inj (Option.some.inj h)
    obtain ⟨hb0, hb1, hb2⟩ := inBounds_iff h1
    refine StepOk.value fun B0 w0 β p a w inv => ?_
    have cx := evL_ok inv x (by rw [hx]; intro e; cases e)
    rw [hx] at cx
    have ey := evL_int inv hy
    obtain ⟨hr, _, _⟩ := cx
    have hrep := inv.blk hr
    rw [hs] at hrep
    obtain ⟨us, ⟨hl, hown⟩, _⟩ := hrep
    rcases hown with ⟨_, hn⟩ | ⟨g, q, cap, cur, ex, _⟩
    ·omega
    refine ⟨.pointer (some ⟨g, q + i.toNat * P.cellsOf E, none⟩), run_index_slice ho hu a w g q _ cap (info_size Nat.one_pos hsz) ex ey hb0 hb1, repC_l (w := w) (p := p) (β := β) (H := s.blk) (c := .ref t 1 i.toNat 0) ⟨_, g, hr, by rw [ex]; rfl, by rw [ex, ← hsz, Nat.add_zero]; rfl, ?_⟩⟩
    rw [hs]; exact ⟨rfl, hb2⟩
   ·cases h
  ·cases h
 ·rename_i j hx
  split at h
  ·rename_i y hpl
   split at h
   ·rename_i hsz
    obtain ⟨h1, rfl⟩ := Prod.mk.inj (Option.some.inj h)
    obtain ⟨hb0, hb1, hb2⟩ := inBounds_iff h1
    refine StepOk.value fun B0 w0 β p a w inv => ?_
    have cx := evL_ok inv x (by rw [hx]; intro e; cases e)
    rw [hx] at cx
    have ey := evL_int inv hy
    obtain ⟨hr, hrow, _⟩ := cx
    obtain ⟨T0, rows, us, e1, e2, e3, e4, e5⟩ := inv.rowMem hr hrow
    rw [hpl] at e1
    obtain rfl := Option.some.inj e1
    have hb2 : i.toNat < (rowAt rows j).length := hb2
    rcases e4.2 with ⟨_, hn⟩ | ⟨g, q, cap, cur, ex, _⟩
    ·omega
    refine ⟨.pointer (some ⟨g, q + i.toNat * P.cellsOf E, none⟩), run_index_slice ho hu a w g q _ cap (info_size Nat.one_pos hsz) ex ey hb0 hb1, repC_l (w := w) (p := p) (β := β) (H := s.blk) (c := .rel j i.toNat) ⟨_, g, hr, by rw [ex]; rfl, by rw [ex, ← hsz, Nat.mul_one]; rfl, ?_⟩⟩
    rw [e3]; exact hb2
   ·cases h
  ·cases h
 ·rename_i t sz off len hx
  split at h
  ·rename_i hsz
   obtain ⟨h1, rfl⟩ := Prod.mk.inj (Option.some.inj h)
   obtain ⟨hb0, hb1, hb2⟩ := inBounds_iff h1
   refine StepOk.value fun B0 w0 β p a w inv => ?_
   have cx := evL_ok inv x (by rw [hx]; intro e; cases e)
   rw [hx] at cx
   have ey := evL_int inv hy
   obtain ⟨ad, cap, r, ex, hcap, hr, hok, hrest, _⟩ := cx
   obtain ⟨b, q, hb, rfl, hq⟩ := hrest
   have hq : q = rootOff r + off * sz := hq.resolve_right (fun h => by omega)
   subst hq
   have hrep := inv.blk hr
   have hpos : 0 < sz ∧ refOk (s.blk t) sz (off + i.toNat) := by
    cases hs : s.blk t with
    | arr e xs =>
      rw [hs] at hok hrep
      obtain ⟨rfl, hle⟩ := hok
      obtain ⟨_, _, _, _, _, _, he, _⟩ := hrep
      exact ⟨he, .inr ⟨rfl, by omega⟩⟩
    | buf U e xs =>
      rw [hs] at hok hrep
      obtain ⟨rfl, hle⟩ := hok
      obtain ⟨_, _, he, _⟩ := hrep
      exact ⟨he, rfl, by omega⟩
    | free => rw [hs] at hok; exact hok.elim
    | cells cs => rw [hs] at hok; exact hok.elim
    | map k v es => rw [hs] at hok; exact hok.elim
    | lp _ _ _ => rw [hs] at hok; exact hok.elim
    | rowb _ _ => rw [hs] at hok; exact hok.elim
    | ids U l =>
      rw [hs] at hok
      obtain ⟨rfl, hle⟩ := hok
      exact ⟨Nat.one_pos, rfl, by omega⟩
   refine ⟨.pointer (some ⟨b, rootOff r + off * sz + i.toNat * P.cellsOf E, none⟩), run_index_slice ho hu a w b (rootOff r + off * sz) _ cap (info_size hpos.1 hsz) ex ey hb0 hb1, repC_l (w := w) (p := p) (β := β) (H := s.blk) (c := .ref t sz (off + i.toNat) 0) ⟨r, b, hr, hb, ?_, hpos.2⟩⟩
   rw [Nat.add_mul, hsz, Nat.add_zero, Nat.add_assoc]
  ·cases h
 ·rename_i t q len e hx
  split at h
  ·rename_i hsz
   obtain ⟨h1, rfl⟩ := Prod.mk.inj (Option.some.inj h)
   obtain ⟨hb0, hb1, hb2⟩ := inBounds_iff h1
   refine StepOk.value fun B0 w0 β p a w inv => ?_
   have cx := evL_ok inv x (by rw [hx]; intro e; cases e)
   rw [hx] at cx
   have ey := evL_int inv hy
   obtain ⟨ad, cap, r, ex, hcap, hr, hok, b, hb, rfl⟩ := cx
   refine ⟨.pointer (some ⟨b, rootOff r + q + i.toNat * P.cellsOf E, none⟩), run_index_slice ho hu a w b _ _ cap hsz.2 ex ey hb0 hb1, repC_l (w := w) (p := p) (β := β) (H := s.blk) (c := .ref t 0 0 (q + i.toNat * P.cellsOf E)) ⟨r, b, hr, hb, by rw [Nat.zero_mul, Nat.zero_add, Nat.add_assoc], ?_⟩⟩
   cases hs : s.blk t <;> rw [hs] at hok <;> first | exact hok.elim | rfl
  ·cases h
 ·cases h
theorem step_indexAddr_array {T E : TypeId} {n : Nat} (hu : P.underlying T = some (.array n E)) {x y : Operand} {k : IntKind} {i : Int} (ho : o.op = .indexAddr T x y) (hy : evL s y = .int k i) (h : indexAddrOp P s o T (evL s x) i = some (true, s')) : StepOk P s o s' := by
 unfold indexAddrOp at h
 rw [hu] at h
 simp only [] at h
 split at h
 ·cases h
 ·rename_i hinf
  have hinfo : (P.info? E).isSome = true := by
   cases hi : P.info? E with
   | none => simp [hi] at hinf
   | some i => rfl
  split at h
  ·rename_i t sz j off hx
   split at h
   ·rename_i e xs hs
    split at h
    ·rename_i hc
     obtain ⟨hsz, rfl, rfl, rfl, hn⟩ := hc
     obtain ⟨h1, rfl⟩ := Prod.mk.inj (Option.some.inj h)
     simp only [Bool.and_eq_true, decide_eq_true_eq] at h1
     obtain ⟨h1, hnl⟩ := h1
     obtain ⟨hb0, hb1, hb2⟩ := inBounds_iff h1
     refine StepOk.value fun B0 w0 β p a w inv => ?_
     have cx := evL_ok inv x (by rw [hx]; intro e; cases e)
     rw [hx] at cx
     have ey := evL_int inv hy
     obtain ⟨r, b, hr, hb, ex, hok⟩ := cx
     simp only [Nat.mul_zero, Nat.add_zero] at ex
     refine ⟨.pointer (some ⟨b, rootOff r + i.toNat * P.cellsOf E, none⟩), run_index_array ho hu a w b _ hinfo ex ey hb0 hb1, repC_l (w := w) (p := p) (β := β) (H := s.blk) (c := .ref t e.size i.toNat 0) ⟨r, b, hr, hb, by rw [hsz, Nat.add_zero], ?_⟩⟩
     rw [hs]; exact .inr ⟨rfl, by omega⟩
    ·cases h
   ·rename_i cs hs
    split at h
    ·obtain ⟨h1, rfl⟩ := Prod.mk.inj (Option.some.inj h)
     obtain ⟨hb0, hb1, hb2⟩ := inBounds_iff h1
     refine StepOk.value fun B0 w0 β p a w inv => ?_
     have cx := evL_ok inv x (by rw [hx]; intro e; cases e)
     rw [hx] at cx
     have ey := evL_int inv hy
     obtain ⟨r, b, hr, hb, ex, hok⟩ := cx
     have hok0 := hok
     rw [hs] at hok0
     obtain rfl : sz = 0 := hok0
     exact ⟨.pointer (some ⟨b, rootOff r + (j * 0 + off) + i.toNat * P.cellsOf E, none⟩), run_index_array ho hu a w b _ hinfo ex ey hb0 hb1, repC_l (w := w) (p := p) (β := β) (H := s.blk) (c := .ref t 0 (if 64 ≤ n then off + 1 else j) (off + i.toNat * P.cellsOf E)) ⟨r, b, hr, hb, by simp only [Nat.mul_zero, Nat.add_assoc], by rw [hs]; exact (rfl : (0 : Nat) = 0)⟩⟩
    ·cases h
   ·cases h
  ·rename_i sh y' off hx
   split at h
   ·obtain ⟨h1, rfl⟩ := Prod.mk.inj (Option.some.inj h)
    obtain ⟨hb0, hb1, hb2⟩ := inBounds_iff h1
    refine StepOk.value fun B0 w0 β p a w inv => ?_
    have cx := evL_ok inv x (by rw [hx]; intro e; cases e)
    rw [hx] at cx
    have ey := evL_int inv hy
    obtain ⟨b, q, us, ex, hb, hr, hc⟩ := cx
    refine ⟨.pointer (some ⟨b, q + off + i.toNat * P.cellsOf E, none⟩), run_index_array ho hu a w b _ hinfo ex ey hb0 hb1, ?_⟩
    unfold ixPtr
    cases hsr : strRows P E n sh y' off with
    | none => exact repC_l (w := w) (p := p) (β := β) (H := s.blk) (c := .iptr sh y' (off + i.toNat * P.cellsOf E)) ⟨b, q, us, by rw [Nat.add_assoc], hb, hr, hc⟩
    | some xs =>
      unfold strRows at hsr
      split at hsr
      ·split at hsr
       ·rename_i h1c
        have hcs := (cells_ok (β := β) (H := s.blk) hr).part off n
        obtain ⟨hlen, hrow⟩ := rows_ok hsr hcs
        have hix : i.toNat < xs.length := by omega
        have hri := hrow.2 i.toNat _ (getD_get ByteArray.empty hix)
        have hl2 := hrow.1
        have hs1 : Sh.str.size = 1 := rfl
        rw [hlen, List.length_take, List.length_drop, hs1] at hl2
        refine repC_l (w := w) (p := p) (β := β) (H := s.blk) (c := .iptr .str (xs.getD i.toNat ByteArray.empty) 0) ⟨b, q + off + i.toNat, _, by rw [h1c, Nat.mul_one, Nat.add_zero], hb, hri, fun j hj => ?_⟩
        rw [hs1, List.length_take, List.length_drop, List.length_take, List.length_drop] at hj
        obtain rfl : j = 0 := by omega
        rw [hs1, List.getElem?_take, if_pos (by omega), List.getElem?_drop, List.getElem?_take, if_pos (by omega), List.getElem?_drop, Nat.add_zero, ← hc _ (by omega)]
        congr 2
        omega
       ·cases hsr
      ·cases hsr
   ·cases h
  ·cases h
theorem step_indexAddr {T : TypeId} {x y : Operand} {k : IntKind} {i : Int} (ho : o.op = .indexAddr T x y) (hy : evL s y = .int k i) (h : indexAddrOp P s o T (evL s x) i = some (true, s')) : StepOk P s o s' := by
 cases hu : P.underlying T with
 | none => unfold indexAddrOp at h; rw [hu] at h; cases h
 | some d =>
   cases d
   case slice E => exact step_indexAddr_slice hu ho hy h
   case array n E => exact step_indexAddr_array hu ho hy h
   all_goals (unfold indexAddrOp at h; rw [hu] at h; cases h)
theorem step_field {T : TypeId} {x : Operand} {f : Nat} (ho : o.op = .field T x f) (h : fieldOp P s o T f (evC s x) = some (true, s')) : StepOk P s o s' := by
 unfold fieldOp at h
 split at h
 ·rename_i fs cs hu hx
  split at h
  ·rename_i fd hf
   split at h
   ·rename_i v hv
    obtain rfl := congrArg Prod.snd (okStep h)
    refine StepOk.value fun B0 w0 β p a w inv => ?_
    have cx := evC_ok inv x
    rw [hx] at cx
    obtain ⟨vs, ex, hl⟩ := cx
    obtain ⟨u, hu', cu⟩ := part_ok (P := P) hl hv
    exact ⟨u, by simp [execOp, ho, ex, Instr.field, run_underlying hu, hf, asAgg, hu'], cu⟩
   ·cases h
  ·cases h
 ·cases h
theorem VOf_of_part {P : Program} {E : TypeId} {d : TypeDesc} {vs : Array Value} {off : Nat} {w : World} (hu : P.underlying E = some d) (hle : off + P.cellsOf E ≤ vs.size) (h1 : isAggT P E = false → P.cellsOf E = 1) :
 ∃ u, (part E vs off).run P w = .ok u w ∧ VOf (isAggT P E) ((vs.toList.drop off).take (P.cellsOf E)) u := by
 unfold part
 rw [Sem.run_bind, run_isAgg' hu]
 simp only [Result.andThen_ok]
 by_cases ha : isAggT P E = true
 ·rw [if_pos ha, ha]
  refine ⟨_, by rw [Sem.run_bind, run_sizeOf' (isAgg_iff hu)]; rfl, ?_⟩
  simp only [VOf, if_true]
  congr 1
  apply Array.ext'
  simp [Array.toList_extract, List.extract_eq_take_drop]
 ·have ha' : isAggT P E = false := by simpa using ha
  rw [if_neg ha, ha']
  have hs := h1 ha'
  have hlt : off < vs.size := by omega
  rw [Array.getElem?_eq_getElem hlt]
  refine ⟨_, rfl, ?_⟩
  simp only [VOf, Bool.false_eq_true, if_false, hs]
  rw [List.take_one, List.head?_drop]
  simp [hlt]
theorem step_index {T : TypeId} {x y : Operand} {k : IntKind} {i : Int} (ho : o.op = .index T x y) (hy : evL s y = .int k i) (h : indexOp P s o T (evC s x) i = some (true, s')) : StepOk P s o s' := by
 unfold indexOp at h
 split at h
 ·rename_i n E cs hu hx
  split at h
  ·rename_i e he
   split at h
   ·rename_i xs hrows
    split at h
    ·rename_i hc
     obtain ⟨hagg, hsz, hone⟩ := hc
     obtain ⟨h1, rfl⟩ := Prod.mk.inj (Option.some.inj h)
     obtain ⟨hb0, hb1, hb2⟩ := inBounds_iff h1
     refine StepOk.value fun B0 w0 β p a w inv => ?_
     have cx := evC_ok inv x
     rw [hx] at cx
     obtain ⟨vs, ex, hl⟩ := cx
     have ey := evL_int inv hy
     obtain ⟨hlen, hrow⟩ := rows_ok hrows hl
     have hi : i.toNat < xs.length := by rw [hlen]; exact hb2
     have hr := hrow.2 i.toNat _ (getD_get e.dflt hi)
     have hle : i.toNat * P.cellsOf E + P.cellsOf E ≤ vs.size := by
      have h3 : (i.toNat + 1) * e.size ≤ xs.length * e.size := Nat.mul_le_mul_right _ hi
      rw [← hrow.1, Nat.add_mul, Nat.one_mul, hsz] at h3
      simpa using h3
     obtain ⟨d, hd⟩ : ∃ d, P.underlying E = some d := by
      cases hd : P.underlying E with
      | none => simp [hd] at hone
      | some d => exact ⟨d, rfl⟩
     have hone' : isAggT P E = false → P.cellsOf E = 1 := by
      intro hf
      rw [hf] at hone
      simpa [hd] using hone
     obtain ⟨u, hru, hvu⟩ := VOf_of_part (w := w) hd hle hone'
     rw [← hagg, ← hsz] at hvu
     refine ⟨u, ?_, cv_ok hr hvu⟩
     simp [execOp, ho, ex, ey, Instr.index, asIntOf, run_underlying hu, hb0, hb1, run_sizeOf' (isAgg_iff hd), hru]
    ·cases h
   ·cases h
  ·split at h
   ·rename_i v hv
    split at h
    ·rename_i hd'
     obtain ⟨h1, rfl⟩ := Prod.mk.inj (Option.some.inj h)
     obtain ⟨hb0, hb1, hb2⟩ := inBounds_iff h1
     refine StepOk.value fun B0 w0 β p a w inv => ?_
     have cx := evC_ok inv x
     rw [hx] at cx
     obtain ⟨vs, ex, hl⟩ := cx
     have ey := evL_int inv hy
     obtain ⟨u, hu', cu⟩ := part_ok (P := P) hl hv
     obtain ⟨d, hd⟩ := Option.isSome_iff_exists.1 hd'
     exact ⟨u, by simp [execOp, ho, ex, ey, Instr.index, asIntOf, run_underlying hu, hb0, hb1, run_sizeOf' (isAgg_iff hd), hu'], cu⟩
    ·cases h
   ·cases h
 ·rename_i b hu hx
  obtain ⟨h1, rfl⟩ := Prod.mk.inj (Option.some.inj h)
  obtain ⟨hb0, hb1, hb2⟩ := inBounds_iff h1
  refine StepOk.value fun B0 w0 β p a w inv => ?_
  have ex : a.eval x = .string b := evC_l inv hx (by intro e; cases e)
  have ey := evL_int inv hy
  refine ⟨.int .u8 (b.data.toList.getD i.toNat 0).toNat, ?_, rfl⟩
  have hg : b[i.toNat]? = some (b.data.toList.getD i.toNat 0) := by
   have hlt : i.toNat < b.data.size := hb2
   rw [getElem?_pos b i.toNat hb2, List.getD_eq_getElem?_getD, Array.getElem?_toList, Array.getElem?_eq_getElem hlt]
   rfl
  simp [execOp, ho, ex, ey, Instr.index, asIntOf, run_underlying hu, hb0, hg]
 ·cases h
end
end Go.Ev
namespace Go.Ev
open Go.RowKit
section
variable {P : Program} {s s' : PS} {o : Oper}
section
variable {w : World} {p : Nat → Prop} {β : Nat → Option Value} {H : Nat → Blk}
theorem repT_take {e : Sh} {xs : List e.T} {v : Value} (h : RepT w p (.slice e) xs [v]) (n : Nat) {a : Option Addr} {len cap : Nat} (hv : v = .slice a len cap) :
 RepT w p (.slice e) (xs.take n) [.slice a (min n len) cap] := by
 simp only [RepT] at h ⊢
 obtain ⟨a', cap', e1, hc, hx⟩ := h
 obtain rfl : v = .slice a' xs.length cap' := by simpa using e1
 cases hv
 refine ⟨a, cap, by rw [List.length_take], ⟨by rw [List.length_take]; omega, hc.2⟩, ?_⟩
 rcases hx with rfl | ⟨b, q, rfl, hb, hel⟩
 ·left; simp
 ·right
  refine ⟨b, q, rfl, hb, fun i x hi => ?_⟩
  rw [List.getElem?_take] at hi
  split at hi
  ·exact hel i x hi
  ·cases hi
theorem repT_drop {e : Sh} {xs : List e.T} {v : Value} (h : RepT w p (.slice e) xs [v]) (n : Nat) (hn : n ≤ xs.length) {a : Option Addr} {len cap : Nat} (hv : v = .slice a len cap) {a' : Option Addr}
 (ha : n < len → a' = a.map (·.add (n * e.size))) (hnn : a' = none → a = none) :
 RepT w p (.slice e) (xs.drop n) [.slice a' (len - n) (cap - n)] := by
 simp only [RepT] at h ⊢
 obtain ⟨a0, cap', e1, hc, hx⟩ := h
 obtain rfl : v = .slice a0 xs.length cap' := by simpa using e1
 cases hv
 refine ⟨a', cap - n, by rw [List.length_drop], ⟨by rw [List.length_drop]; omega, fun h => by have := hc.2 (hnn h); omega⟩, ?_⟩
 by_cases hlt : n < xs.length
 ·rcases hx with rfl | ⟨b, q, rfl, hb, hel⟩
  ·simp at hlt
  ·right
   refine ⟨b, q + n * e.size, by rw [ha hlt]; simp [Addr.add_lit], hb, fun i x hi => ?_⟩
   rw [List.getElem?_drop] at hi
   obtain ⟨us, r1, r2, r3⟩ := hel (n + i) x hi
   refine ⟨us, r1, r2, fun j hj => ?_⟩
   have := r3 j hj
   rwa [show q + (n + i) * e.size + j = q + n * e.size + i * e.size + j from by rw [Nat.add_mul]; omega] at this
 ·left
  exact List.drop_eq_nil_of_le (by omega)
end
theorem run_sliceAt' {T E : TypeId} (hu : P.underlying T = some (.slice E)) (w : World) (x : Value) (lo hi' mx : Option Value) : (Instr.sliceAt T x lo hi' mx).run P w = (Instr.slice T x lo hi' mx).run P w := by
 simp [Instr.sliceAt, run_underlying hu]
theorem sl_bound (w : World) (k : IntKind) (n : Int) (m : Nat) (c : BoundsCode) (h0 : 0 ≤ n) (h1 : n ≤ m) : (Instr.sliceBound (.int k n) m c).run P w = .ok n.toNat w := by
 simp [Instr.sliceBound, asIntOf, h0, h1]
theorem evL_slice {B0 : Nat} {w0 : Base} {β : Nat → Option Value} {p : Nat → Prop} {a : Act} {w : World} (inv : Inv B0 w0 β p s a w) {x : Operand} {e : Sh} {xs : List e.T} (hx : evL s x = .slice e xs) :
 RepT w p (.slice e) xs [a.eval x] ∧ ∃ ad cap, a.eval x = .slice ad xs.length cap ∧ xs.length ≤ cap := by
 have cx := evL_ok inv x (by rw [hx]; intro e; cases e)
 rw [hx] at cx
 refine ⟨cx, ?_⟩
 simp only [RepL, RepT] at cx
 obtain ⟨ad, cap, ex, hc, _⟩ := cx
 exact ⟨ad, cap, by simpa using ex, hc.1⟩
theorem map_ev {a : Act} {B0 : Nat} {w0 : Base} {β : Nat → Option Value} {p : Nat → Prop} {w : World} (inv : Inv B0 w0 β p s a w) {l : Option Operand} {k : IntKind} {n : Int} (h : l.map (evL s) = some (.int k n)) : l.map a.eval = some (.int k n) := by
 cases l with
 | none => cases h
 | some x => exact congrArg some (evL_int inv (Option.some.inj h))
theorem map_none' {a : Act} {l : Option Operand} (h : l.map (evL s) = none) : l.map a.eval = none := by
 cases l with
 | none => rfl
 | some x => cases h
theorem bnd_ev {a : Act} {B0 : Nat} {w0 : Base} {β : Nat → Option Value} {p : Nat → Prop} {w : World} (inv : Inv B0 w0 β p s a w) {l : Option Operand} {d n : Int} (h : bnd d (l.map (evL s)) = some n) :
 (l.map a.eval = none ∧ n = d) ∨ ∃ k, l.map a.eval = some (.int k n) := by
 cases l with
 | none => exact .inl ⟨rfl, (Option.some.inj h).symm⟩
 | some x =>
   right
   simp only [Option.map_some, bnd] at h
   split at h
   ·rename_i hx; cases hx
   ·rename_i k n' hx
    obtain rfl := Option.some.inj h
    exact ⟨k, congrArg some (evL_int inv (Option.some.inj hx))⟩
   ·cases h
theorem run_cut {T E : TypeId} (hu : P.underlying T = some (.slice E)) {x : Operand} {lo hi : Option Operand} (ho : o.op = .slice T x lo hi none) {a : Act} {B0 : Nat} {w0 : Base} {β : Nat → Option Value} {p : Nat → Prop} {w : World} (inv : Inv B0 w0 β p s a w)
 (hinf : (P.info? E).isSome = true) {b q len cap : Nat} (ex : a.eval x = .slice (some ⟨b, q, none⟩) len cap) {l h : Int} (hl : bnd 0 (lo.map (evL s)) = some l) (hh : bnd len (hi.map (evL s)) = some h) (h0 : 0 ≤ l) (h1 : l ≤ h) (h2 : h ≤ (cap : Int)) :
 ∃ q', (execOp a.eval o).run P w = .ok (.value (.slice (some ⟨b, q', none⟩) (h.toNat - l.toNat) (cap - l.toNat))) w ∧ (q' = q + l.toNat * P.cellsOf E ∨ (cap = l.toNat ∧ q' = q)) := by
 have hlh : l ≤ (h.toNat : Int) := by omega
 have hsh : (some (if cap = l.toNat then (⟨b, q, none⟩ : Addr) else ⟨b, q + l.toNat * P.cellsOf E, none⟩) : Option Addr) = (if cap = l.toNat then some ⟨b, q, none⟩ else (some ⟨b, q, none⟩ : Option Addr).map (·.add (l.toNat * P.cellsOf E))) := by
  split
  ·rfl
  ·simp [Addr.add_lit]
 refine ⟨if cap = l.toNat then q else q + l.toNat * P.cellsOf E, ?_, by by_cases hc : cap = l.toNat <;> simp [hc]⟩
 rcases bnd_ev inv hl with ⟨e1, rfl⟩ | ⟨k1, e1⟩ <;> rcases bnd_ev inv hh with ⟨e2, rfl⟩ | ⟨k2, e2⟩
 ·simp [execOp, ho, ex, e1, e2, run_sliceAt' hu, Instr.slice, Instr.sliceBounds, run_underlying hu, run_sizeOf' hinf, Addr.add_lit]
 ·simp [execOp, ho, ex, e1, e2, run_sliceAt' hu, Instr.slice, Instr.sliceBounds, run_underlying hu, sl_bound w k2 h cap _ (by omega) h2, run_sizeOf' hinf, Addr.add_lit]
 ·have hlen : l ≤ (len : Int) := h1
  simp [execOp, ho, ex, e1, e2, run_sliceAt' hu, Instr.slice, Instr.sliceBounds, run_underlying hu, sl_bound w k1 l len _ h0 hlen, run_sizeOf' hinf, Addr.add_lit]
  split <;> rfl
 ·simp [execOp, ho, ex, e1, e2, run_sliceAt' hu, Instr.slice, Instr.sliceBounds, run_underlying hu, sl_bound w k2 h cap _ (by omega) h2, sl_bound w k1 l h.toNat _ h0 hlh, run_sizeOf' hinf, Addr.add_lit]
  split <;> rfl
theorem step_slice {T : TypeId} {x : Operand} {lo hi : Option Operand} (ho : o.op = .slice T x lo hi none) (h : sliceOp P s o T (evL s x) (lo.map (evL s)) (hi.map (evL s)) = some (true, s')) : StepOk P s o s' := by
 unfold sliceOp at h
 split at h
 ·rename_i E hu
  split at h
  ·rename_i e xs k hh hx hlo hhi
   split at h
   ·rename_i hsz
    obtain ⟨h1, rfl⟩ := Prod.mk.inj (Option.some.inj h)
    simp only [Bool.and_eq_true, decide_eq_true_eq] at h1
    refine StepOk.value fun B0 w0 β p a w inv => ?_
    obtain ⟨cx, ad, cap, ex, hc⟩ := evL_slice inv hx
    have e1 := map_none' (a := a) hlo
    have e2 := map_ev inv hhi
    have hle : hh ≤ (cap : Int) := by omega
    refine ⟨.slice ad hh.toNat cap, ?_, repC_l (w := w) (p := p) (β := β) (H := s.blk) (c := .slice e (xs.take hh.toNat)) ?_⟩
    ·simp [execOp, ho, ex, e1, e2, run_sliceAt' hu, Instr.slice, Instr.sliceBounds, run_underlying hu, sl_bound w k hh cap _ h1.1 hle, run_sizeOf' hsz.2, Addr.add]
    ·have := repT_take cx hh.toNat ex
     rwa [Nat.min_eq_left (by omega)] at this
   ·cases h
  ·rename_i e xs k l hx hlo hhi
   split at h
   ·rename_i hsz
    obtain ⟨h1, rfl⟩ := Prod.mk.inj (Option.some.inj h)
    simp only [Bool.and_eq_true, decide_eq_true_eq] at h1
    refine StepOk.value fun B0 w0 β p a w inv => ?_
    obtain ⟨cx, ad, cap, ex, hc⟩ := evL_slice inv hx
    have e1 := map_ev inv hlo
    have e2 := map_none' (a := a) hhi
    refine ⟨.slice (if cap = l.toNat then ad else ad.map (·.add (l.toNat * P.cellsOf E))) (xs.length - l.toNat) (cap - l.toNat), ?_, repC_l (w := w) (p := p) (β := β) (H := s.blk) (c := .slice e (xs.drop l.toNat)) ?_⟩
    ·simp [execOp, ho, ex, e1, e2, run_sliceAt' hu, Instr.slice, Instr.sliceBounds, run_underlying hu, sl_bound w k l xs.length _ h1.1 h1.2, run_sizeOf' hsz.2]
    ·exact repT_drop cx l.toNat (by omega) ex (fun hlt => by rw [if_neg (by omega), hsz.1]) (fun h => by split at h <;> first | exact h | simpa using h)
   ·cases h
  ·rename_i e xs k l k' hh hx hlo hhi
   split at h
   ·rename_i hsz
    obtain ⟨h1, rfl⟩ := Prod.mk.inj (Option.some.inj h)
    simp only [Bool.and_eq_true, decide_eq_true_eq] at h1
    refine StepOk.value fun B0 w0 β p a w inv => ?_
    obtain ⟨cx, ad, cap, ex, hc⟩ := evL_slice inv hx
    have e1 := map_ev inv hlo
    have e2 := map_ev inv hhi
    have hle : hh ≤ (cap : Int) := by omega
    have hlh : l ≤ (hh.toNat : Int) := by omega
    refine ⟨.slice (if cap = l.toNat then ad else ad.map (·.add (l.toNat * P.cellsOf E))) (hh.toNat - l.toNat) (cap - l.toNat), ?_, repC_l (w := w) (p := p) (β := β) (H := s.blk) (c := .slice e ((xs.take hh.toNat).drop l.toNat)) ?_⟩
    ·simp [execOp, ho, ex, e1, e2, run_sliceAt' hu, Instr.slice, Instr.sliceBounds, run_underlying hu, sl_bound w k' hh cap _ (by omega) hle, sl_bound w k l hh.toNat _ h1.1 hlh, run_sizeOf' hsz.2]
    ·have h2 := repT_take cx hh.toNat ex
     rw [Nat.min_eq_left (by omega)] at h2
     exact repT_drop h2 l.toNat (by rw [List.length_take]; omega) rfl (fun hlt => by rw [if_neg (by omega), hsz.1]) (fun h => by split at h <;> first | exact h | simpa using h)
   ·cases h
  ·rename_i e xs hx hlo hhi
   split at h
   ·rename_i hsz
    obtain ⟨h1, rfl⟩ := Prod.mk.inj (Option.some.inj h)
    refine StepOk.value fun B0 w0 β p a w inv => ?_
    obtain ⟨cx, ad, cap, ex, hc⟩ := evL_slice inv hx
    have e1 := map_none' (a := a) hlo
    have e2 := map_none' (a := a) hhi
    refine ⟨a.eval x, ?_, repC_l (w := w) (p := p) (β := β) (H := s.blk) (c := .slice e xs) cx⟩
    simp [execOp, ho, ex, e1, e2, run_sliceAt' hu, Instr.slice, Instr.sliceBounds, run_underlying hu, run_sizeOf' hsz.2, Addr.add]
   ·cases h
  ·rename_i lo' hi' t hx
   split at h
   ·rename_i U e xs hs
    split at h
    ·rename_i l hh e1 e2
     split at h
     ·rename_i hsz
      obtain ⟨h1, rfl⟩ := Prod.mk.inj (Option.some.inj h)
      simp only [Bool.and_eq_true, decide_eq_true_eq] at h1
      refine StepOk.value fun B0 w0 β p a w inv => ?_
      have cx := evL_ok inv x (by rw [hx]; intro e; cases e)
      rw [hx] at cx
      obtain ⟨hr, _, _⟩ := cx
      have hrep := inv.blk hr
      rw [hs] at hrep
      obtain ⟨us, ⟨hl, hown⟩, he, _⟩ := hrep
      rcases hown with ⟨_, hn⟩ | ⟨g, q, cap, cur, ex, _, _, hcap, _⟩
      ·omega
      obtain ⟨q', hrun, hq⟩ := run_cut hu ho inv hsz.2 ex e1 e2 (by omega) (by omega) (by omega)
      refine ⟨_, hrun, repC_l (w := w) (p := p) (β := β) (H := s.blk) (c := .sref t e.size l.toNat (hh.toNat - l.toNat)) ⟨_, cap - l.toNat, _, rfl, by omega, hr, ?_, ⟨g, q', by rw [ex]; rfl, rfl, ?_⟩, ?_⟩⟩
      ·rw [hs]; exact ⟨rfl, by omega⟩
      ·rw [ex, hsz.1]
       show q' = q + l.toNat * P.cellsOf E ∨ (_ ∧ q' ≤ q + l.toNat * P.cellsOf E)
       rcases hq with h | ⟨h, h'⟩
       ·exact .inl h
       ·exact .inr ⟨by omega, by rw [h']; exact Nat.le_add_right _ _⟩
      ·rw [ex]
       show l.toNat + (cap - l.toNat) ≤ cap
       omega
     ·cases h
    ·cases h
   ·rename_i U xs hs
    split at h
    ·rename_i l hh e1 e2
     split at h
     ·rename_i hsz
      obtain ⟨h1, rfl⟩ := Prod.mk.inj (Option.some.inj h)
      simp only [Bool.and_eq_true, decide_eq_true_eq] at h1
      refine StepOk.value fun B0 w0 β p a w inv => ?_
      have cx := evL_ok inv x (by rw [hx]; intro e; cases e)
      rw [hx] at cx
      obtain ⟨hr, _, _⟩ := cx
      have hrep := inv.blk hr
      rw [hs] at hrep
      obtain ⟨us, ⟨hl, hown⟩, _⟩ := hrep
      rcases hown with ⟨_, hn⟩ | ⟨g, q, cap, cur, ex, _, _, hcap, _⟩
      ·omega
      obtain ⟨q', hrun, hq⟩ := run_cut hu ho inv hsz.2 ex e1 e2 (by omega) (by omega) (by omega)
      refine ⟨_, hrun, repC_l (w := w) (p := p) (β := β) (H := s.blk) (c := .sref t 1 l.toNat (hh.toNat - l.toNat)) ⟨_, cap - l.toNat, _, rfl, by omega, hr, ?_, ⟨g, q', by rw [ex]; rfl, rfl, ?_⟩, ?_⟩⟩
      ·rw [hs]; exact ⟨rfl, by omega⟩
      ·rw [ex, hsz.1]
       show q' = q + l.toNat * P.cellsOf E ∨ (_ ∧ q' ≤ q + l.toNat * P.cellsOf E)
       rcases hq with h | ⟨h, h'⟩
       ·exact .inl h
       ·exact .inr ⟨by omega, by rw [h']; exact Nat.le_add_right _ _⟩
      ·rw [ex]
       show l.toNat + (cap - l.toNat) ≤ cap
       omega
     ·cases h
    ·cases h
   ·cases h
  ·rename_i lo' hi' t sz off len hx
   split at h
   ·rename_i l hh e1 e2
    split at h
    ·rename_i hsz
     obtain ⟨h1, rfl⟩ := Prod.mk.inj (Option.some.inj h)
     simp only [Bool.and_eq_true, decide_eq_true_eq] at h1
     refine StepOk.value fun B0 w0 β p a w inv => ?_
     have cx := evL_ok inv x (by rw [hx]; intro e; cases e)
     rw [hx] at cx
     obtain ⟨ad, cap, r, ex, hcap, hr, hok, ⟨b, q, hb, rfl, hq⟩, hco⟩ := cx
     obtain ⟨q', hrun, hq'⟩ := run_cut hu ho inv hsz.2 ex e1 e2 (by omega) (by omega) (by omega)
     refine ⟨_, hrun, repC_l (w := w) (p := p) (β := β) (H := s.blk) (c := .sref t sz (off + l.toNat) (hh.toNat - l.toNat)) ⟨_, cap - l.toNat, r, rfl, by omega, hr, ?_, ⟨b, q', hb, rfl, ?_⟩, ?_⟩⟩
     ·cases hs : s.blk t with
      | arr e xs => rw [hs] at hok; exact ⟨hok.1, by have := hok.2; omega⟩
      | buf U e xs => rw [hs] at hok; exact ⟨hok.1, by have := hok.2; omega⟩
      | free => rw [hs] at hok; exact hok.elim
      | cells cs => rw [hs] at hok; exact hok.elim
      | map k v es => rw [hs] at hok; exact hok.elim
      | lp _ _ _ => rw [hs] at hok; exact hok.elim
      | rowb _ _ => rw [hs] at hok; exact hok.elim
      | ids _ _ => rw [hs] at hok; exact ⟨hok.1, by have := hok.2; omega⟩
     ·rw [← hsz.1] at hq'
      rw [Nat.add_mul]
      have hle := Nat.zero_le (l.toNat * sz)
      rcases hq with h | ⟨h, h2⟩
      ·rcases hq' with g | ⟨g, g'⟩
       ·left; omega
       ·right; omega
      ·rcases hq' with g | ⟨g, g'⟩
       ·right
        have : l.toNat = 0 := by omega
        rw [this, Nat.zero_mul] at g ⊢
        omega
       ·right; omega
     ·cases r with
      | slice a n c => have : off + cap ≤ c := hco; show off + l.toNat + (cap - l.toNat) ≤ c; omega
      | _ => trivial
    ·cases h
   ·cases h
  ·rename_i lo' hi' t q len e hx
   split at h
   ·rename_i l hh e1 e2
    split at h
    ·rename_i hsz
     obtain ⟨h1, rfl⟩ := Prod.mk.inj (Option.some.inj h)
     simp only [Bool.and_eq_true, decide_eq_true_eq] at h1
     refine StepOk.value fun B0 w0 β p a w inv => ?_
     have cx := evL_ok inv x (by rw [hx]; intro e; cases e)
     rw [hx] at cx
     obtain ⟨ad, cap, r, ex, hcap, hr, hok, b, hb, rfl⟩ := cx
     obtain ⟨q', hrun, hq'⟩ := run_cut hu ho inv hsz.2 ex e1 e2 (by omega) (by omega) (by omega)
     have hq' : q' = rootOff r + q + l.toNat * P.cellsOf E := by
      rcases hq' with h | ⟨h, _⟩
      ·exact h
      ·omega
     refine ⟨_, hrun, repC_l (w := w) (p := p) (β := β) (H := s.blk) (c := .cref t (q + l.toNat * e.size) (hh.toNat - l.toNat) e) ⟨_, cap - l.toNat, r, rfl, by omega, hr, ?_, b, hb, by rw [hq', hsz.1, Nat.add_assoc]⟩⟩
     cases hs : s.blk t <;> rw [hs] at hok <;> first | exact hok.elim | skip
     obtain ⟨hok, hcm, hcr⟩ := hok
     have : l.toNat * e.size + (hh.toNat - l.toNat) * e.size ≤ len * e.size := by rw [← Nat.add_mul]; exact Nat.mul_le_mul_right _ (by omega)
     have h2 : l.toNat * e.size + (cap - l.toNat) * e.size ≤ cap * e.size := by rw [← Nat.add_mul]; exact Nat.mul_le_mul_right _ (by omega)
     refine ⟨by omega, by omega, ?_⟩
     split at hcr <;> omega
    ·cases h
   ·cases h
  ·cases h
 ·rename_i hu
  have str : ∀ {b : ByteArray}, evL s x = .str b → ∀ {B0 w0 β p a w}, Inv B0 w0 β p s a w → a.eval x = .string b := by
   intro b hx B0 w0 β p a w inv
   have cx := evL_ok inv x (by rw [hx]; intro e; cases e)
   rwa [hx] at cx
  split at h
  ·rename_i b k hh hx hlo hhi
   obtain ⟨h1, rfl⟩ := Prod.mk.inj (Option.some.inj h)
   simp only [Bool.and_eq_true, decide_eq_true_eq] at h1
   refine StepOk.value fun B0 w0 β p a w inv => ?_
   have e1 := map_none' (a := a) hlo
   have e2 := map_ev inv hhi
   exact ⟨.string (b.extract 0 hh.toNat), by simp [execOp, ho, str hx inv, e1, e2, run_sliceAt_string (P := P) w T _ _ _ _ hu, run_slice_string_h w T b hu k hh h1.1 h1.2], rfl⟩
  ·rename_i b k l hx hlo hhi
   obtain ⟨h1, rfl⟩ := Prod.mk.inj (Option.some.inj h)
   simp only [Bool.and_eq_true, decide_eq_true_eq] at h1
   refine StepOk.value fun B0 w0 β p a w inv => ?_
   have e1 := map_ev inv hlo
   have e2 := map_none' (a := a) hhi
   exact ⟨.string (b.extract l.toNat b.size), by simp [execOp, ho, str hx inv, e1, e2, run_sliceAt_string (P := P) w T _ _ _ _ hu, run_slice_string_l w T b hu k l h1.1 h1.2], rfl⟩
  ·rename_i b k l k' hh hx hlo hhi
   obtain ⟨h1, rfl⟩ := Prod.mk.inj (Option.some.inj h)
   simp only [Bool.and_eq_true, decide_eq_true_eq] at h1
   refine StepOk.value fun B0 w0 β p a w inv => ?_
   have e1 := map_ev inv hlo
   have e2 := map_ev inv hhi
   exact ⟨.string (b.extract l.toNat hh.toNat), by simp [execOp, ho, str hx inv, e1, e2, run_sliceAt_string (P := P) w T _ _ _ _ hu, run_slice_string w T b k k' l hh hu h1.1 h1.2.1 h1.2.2], rfl⟩
  ·cases h
 ·rename_i n E hu
  split at h
  ·cases h
  rename_i hinf
  have hinfo : (P.info? E).isSome = true := by
   cases hi : P.info? E with
   | none => simp [hi] at hinf
   | some i => rfl
  have run : ∀ (a : Act) (w : World) (b q : Nat), lo.map (evL s) = none → hi.map (evL s) = none → a.eval x = .pointer (some ⟨b, q, none⟩) →
   (execOp a.eval o).run P w = .ok (.value (.slice (some ⟨b, q, none⟩) n n)) w := by
   intro a w b q hlo hhi ex
   have e1 := map_none' (a := a) hlo
   have e2 := map_none' (a := a) hhi
   simp [execOp, ho, ex, e1, e2, Instr.sliceAt, Instr.sliceBounds, Instr.sureAddr, run_underlying hu, run_sizeOf' hinfo, Addr.add_lit]
  split at h
  ·rename_i sh y off hx hlo hhi
   split at h
   ·rename_i e he
    split at h
    ·rename_i xs hrows
     obtain rfl := congrArg Prod.snd (okL_eq h)
     refine StepOk.value fun B0 w0 β p a w inv => ?_
     have cx := evL_ok inv x (by rw [hx]; intro e; cases e)
     rw [hx] at cx
     obtain ⟨b, q, us, ex, hb, hr, hc⟩ := cx
     have hcs := (cells_ok (β := β) (H := s.blk) hr).part off (n * e.size)
     obtain ⟨hlen, hrow⟩ := rows_ok hrows hcs
     refine ⟨_, run a w b (q + off) hlo hhi ex, repC_l (w := w) (p := p) (β := β) (H := s.blk) (c := .slice e xs) ?_⟩
     simp only [RepL, RepT]
     refine ⟨_, n, by rw [hlen], ⟨by omega, fun h => by cases h⟩, .inr ⟨b, q + off, rfl, hb, fun i x hi => ?_⟩⟩
     have hri := hrow.2 i x hi
     have hil : i < xs.length := (List.getElem?_eq_some_iff.1 hi).1
     refine ⟨_, hri, hri.length, fun j hj => ?_⟩
     have hbig : (i + 1) * e.size ≤ n * e.size := Nat.mul_le_mul_right _ (by omega)
     rw [Nat.add_mul, Nat.one_mul] at hbig
     have hl2 := hrow.1
     rw [hlen, List.length_take, List.length_drop] at hl2
     rw [List.getElem?_take, if_pos hj, List.getElem?_drop, List.getElem?_take, if_pos (by omega), List.getElem?_drop]
     have := hc (off + (i * e.size + j)) (by omega)
     rw [← this]
     congr 2
     omega
    ·cases h
   ·cases h
  ·rename_i t sz i off hx hlo hhi
   split at h
   ·rename_i cs hs
    split at h
    ·rename_i e he
     split at h
     ·rename_i xs hrows
      split at h
      case isFalse => cases h
      rename_i hoff
      obtain rfl := congrArg Prod.snd (okL_eq h)
      refine StepOk.value fun B0 w0 β p a w inv => ?_
      have cx := evL_ok inv x (by rw [hx]; intro e; cases e)
      rw [hx] at cx
      obtain ⟨r, b, hr, hb, ex, hok⟩ := cx
      rw [hs] at hok
      have hz : rootOff r + (i * sz + off) = off := by rw [inv.off0 hr (.inl ⟨cs, hs⟩), show sz = 0 from hok]; omega
      rw [hz] at ex
      obtain ⟨us, hh, hl⟩ := inv.cellsAt hr hb hs
      obtain ⟨hlen, hrow⟩ := rows_ok hrows (hl.part off (n * e.size))
      have hl2 := hrow.1
      rw [hlen, List.length_take, List.length_drop, ← hl.1] at hl2
      refine ⟨_, run a w b off hlo hhi ex, repC_l (w := w) (p := p) (β := β) (H := s.blk) (c := .cref t off n e) ⟨_, n, r, rfl, Nat.le_refl _, hr, ?_, b, hb, by rw [inv.off0 hr (.inl ⟨cs, hs⟩), Nat.zero_add]⟩⟩
      rw [hs]
      exact crefOk_exact (by omega) (by simp only [maxLen]; omega) (inv.blk hr) hs
     ·cases h
    ·cases h
   ·rename_i e xs hs
    split at h
    ·rename_i hz
     obtain ⟨rfl, rfl, rfl⟩ := hz
     obtain ⟨h1, rfl⟩ := Prod.mk.inj (Option.some.inj h)
     have h1 : xs.length = n := of_decide_eq_true h1
     refine StepOk.value fun B0 w0 β p a w inv => ?_
     have cx := evL_ok inv x (by rw [hx]; intro e; cases e)
     rw [hx] at cx
     obtain ⟨r, b, hr, hb, ex, hok⟩ := cx
     have h0 := inv.off0 hr (.inr ⟨e, xs, hs⟩)
     refine ⟨_, run a w b 0 hlo hhi (by simpa [h0] using ex), repC_l (w := w) (p := p) (β := β) (H := s.blk) (c := .sref t e.size 0 n) ⟨_, n, r, rfl, Nat.le_refl _, hr, ?_, ⟨b, _, hb, rfl, .inl (by rw [h0, Nat.zero_mul])⟩, ?_⟩⟩
     ·rw [hs]
      exact ⟨rfl, by omega⟩
     ·obtain ⟨vs, U, rfl, _⟩ := inv.arrAt hr hb hs
      trivial
    ·cases h
   ·cases h
  ·cases h
 ·cases h
theorem lenOf_ok {B0 : Nat} {w0 : Base} {β : Nat → Option Value} {p : Nat → Prop} {a : Act} {w : World} (inv : Inv B0 w0 β p s a w) {x : Operand} {n : Nat} (h : lenOf s (evL s x) = some n) :
 ∃ ad cap, a.eval x = .slice ad n cap := by
 have hne : evL s x ≠ .undef := by intro e; rw [e] at h; cases h
 have cx := evL_ok inv x hne
 unfold lenOf at h
 split at h
 ·rename_i hx
  rw [hx] at cx
  obtain rfl := Option.some.inj h
  exact ⟨none, 0, cx⟩
 ·rename_i e xs hx
  obtain rfl := Option.some.inj h
  obtain ⟨_, ad, cap, ex, _⟩ := evL_slice inv hx
  exact ⟨ad, cap, ex⟩
 ·rename_i t hx
  rw [hx] at cx
  obtain ⟨hr, _, _⟩ := cx
  split at h
  ·rename_i U e xs hs
   obtain rfl := Option.some.inj h
   have hrep := inv.blk hr
   rw [hs] at hrep
   obtain ⟨us, ⟨_, hown⟩, _, _⟩ := hrep
   rcases hown with ⟨e1, e2⟩ | ⟨g, q, cap, cur, e1, _⟩
   ·exact ⟨none, 0, by rw [e1, e2]⟩
   ·exact ⟨_, cap, e1⟩
  ·rename_i U l hs
   obtain rfl := Option.some.inj h
   have hrep := inv.blk hr
   rw [hs] at hrep
   obtain ⟨us, ⟨_, hown⟩, _⟩ := hrep
   rcases hown with ⟨e1, e2⟩ | ⟨g, q, cap, cur, e1, _⟩
   ·exact ⟨none, 0, by rw [e1, e2]⟩
   ·exact ⟨_, cap, e1⟩
  ·cases h
 ·rename_i j hx
  rw [hx] at cx
  obtain ⟨hr, hrow, _⟩ := cx
  split at h
  ·rename_i y hpl
   obtain rfl := Option.some.inj h
   obtain ⟨T0, rows, us, e1, e2, e3, e4, e5⟩ := inv.rowMem hr hrow
   rw [hpl] at e1
   obtain rfl := Option.some.inj e1
   rcases e4.2 with ⟨e6, e7⟩ | ⟨g, q, cap, cur, e6, _⟩
   ·exact ⟨none, 0, by rw [e6, e7]⟩
   ·exact ⟨_, cap, e6⟩
  ·cases h
 ·rename_i t sz off len hx
  rw [hx] at cx
  obtain rfl := Option.some.inj h
  obtain ⟨ad, cap, r, ex, _⟩ := cx
  exact ⟨ad, cap, ex⟩
 ·rename_i t o' len e hx
  rw [hx] at cx
  obtain rfl := Option.some.inj h
  obtain ⟨ad, cap, r, ex, _⟩ := cx
  exact ⟨ad, cap, ex⟩
 ·cases h
theorem lenMap_ok {B0 : Nat} {w0 : Base} {β : Nat → Option Value} {p : Nat → Prop} {a : Act} {w : World} (inv : Inv B0 w0 β p s a w) {x : Operand} {n : Nat} (h : lenMap s (evL s x) = some n) :
 (a.eval x = .map none ∧ n = 0) ∨ (∃ r ms clock, a.eval x = .map (some r) ∧ w.heap[r]? = some (.map ms clock) ∧ ms.size = n) := by
 have hne : evL s x ≠ .undef := by intro e; rw [e] at h; cases h
 have cx := evL_ok inv x hne
 unfold lenMap at h
 split at h
 ·rename_i k v es hx
  rw [hx] at cx
  obtain rfl := Option.some.inj h
  simp only [RepL, RepT] at cx
  obtain ⟨r, e1, hx⟩ := cx
  have ex : a.eval x = .map r := by simpa using e1
  rcases hx with ⟨rfl, rfl⟩ | ⟨b, ms, clock, rfl, _, hh, hs, _⟩
  ·exact .inl ⟨ex, rfl⟩
  ·exact .inr ⟨b, ms, clock, ex, hh, hs⟩
 ·rename_i t hx
  rw [hx] at cx
  obtain ⟨hr, _, _⟩ := cx
  split at h
  ·rename_i k v es hs
   obtain rfl := Option.some.inj h
   have hrep := inv.blk hr
   rw [hs] at hrep
   obtain ⟨b, ms, clock, e1, _, hh, _, hl, _⟩ := hrep
   exact .inr ⟨b, ms, clock, e1, hh, hl⟩
  ·cases h
 ·cases h
theorem map_evL {B0 : Nat} {w0 : Base} {β : Nat → Option Value} {p : Nat → Prop} {a : Act} {w : World} (inv : Inv B0 w0 β p s a w) : ∀ {xs : List Operand} {ks : List (IntKind × Int)}, xs.map (evL s) = ks.map (fun k => .int k.1 k.2) → xs.map a.eval = ks.map (fun k => .int k.1 k.2)
 | [], [], _ => rfl
 | [], _ :: _, h => by cases h
 | _ :: _, [], h => by cases h
 | x :: xs, k :: ks, h => by
   simp only [List.map_cons, List.cons.injEq] at h ⊢
   exact ⟨evL_int inv h.1, map_evL inv h.2⟩
theorem step_minmax {isMax : Bool} {xs : List Operand} {args : Array Operand} {ts : Array TypeId} (ha : args.toList = xs) (ho : o.op = .call { callee := .builtin (if isMax then .max else .min), args := args, argTypes := ts }) (h : minmax isMax s o (xs.map (evL s)) = some (true, s')) : StepOk P s o s' := by
 obtain ⟨l⟩ := args
 obtain rfl : l = xs := ha
 unfold minmax at h
 split at h
 ·rename_i k a k' b hx
  split at h
  ·rename_i e; subst e
   obtain rfl := congrArg Prod.snd (okL_eq h)
   refine StepOk.value fun B0 w0 β p ac w inv => ?_
   have e := map_evL inv (ks := [(k, a), (k, b)]) hx
   refine ⟨_, ?_, repC_l (w := w) (p := p) (β := β) (H := s.blk) (c := .int k _) rfl⟩
   simp only [List.map_cons, List.map_nil] at e
   cases isMax <;> simp [execOp, ho, resolve, invoke, builtin, Builtin.max_, Builtin.min_, e, Builtin.max2, Builtin.min2]
  ·cases h
 ·rename_i k a k' b k'' c hx
  split at h
  ·rename_i e; obtain ⟨e1, e2⟩ := e; subst e1; subst e2
   obtain rfl := congrArg Prod.snd (okL_eq h)
   refine StepOk.value fun B0 w0 β p ac w inv => ?_
   have e := map_evL inv (ks := [(k, a), (k, b), (k, c)]) hx
   refine ⟨_, ?_, repC_l (w := w) (p := p) (β := β) (H := s.blk) (c := .int k _) rfl⟩
   simp only [List.map_cons, List.map_nil] at e
   cases isMax <;> simp [execOp, ho, resolve, invoke, builtin, Builtin.max_, Builtin.min_, e, Builtin.max2, Builtin.min2]
  ·cases h
 ·cases h
end
end Go.Ev
end
