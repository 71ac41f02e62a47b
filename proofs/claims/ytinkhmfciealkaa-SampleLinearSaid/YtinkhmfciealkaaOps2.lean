/- Comparison, arithmetic, conversions, and the builtin functions that only compute. -/
import Derived.Test.YtinkhmfciealkaaOps1
set_option linter.unusedSimpArgs false
namespace Go.Ev
open Go.RowKit

theorem info_of_underlying {P : Program} {t : TypeId} {d : TypeDesc} (h : P.underlying t = some d) : ∃ i, P.info? t = some i := by
  unfold Program.underlying at h
  cases hi : P.info? t with
  | none => rw [hi] at h; cases h
  | some i => exact ⟨i, rfl⟩
theorem run_sizeOf' {P : Program} {t : TypeId} (h : (P.info? t).isSome = true) (w : World) : (sizeOf t).run P w = .ok (P.cellsOf t) w := by
  obtain ⟨i, hi⟩ := Option.isSome_iff_exists.1 h
  simp [sizeOf, typeInfo, hi, Program.cellsOf]
theorem run_isAgg' {P : Program} {t : TypeId} {d : TypeDesc} (h : P.underlying t = some d) (w : World) : (isAgg t).run P w = .ok (isAggT P t) w := by
  unfold isAgg isAggT
  rw [Sem.run_bind, run_underlying h w, h]
  cases d <;> rfl

section
variable {P : Program} {s s' : PS} {o : Oper}
section
variable {w : World} {p : Nat → Prop} {β : Nat → Option Value} {H : Nat → Blk}

theorem RepLs.part {cs : List LV} {vs : List Value} (h : RepLs w p β H cs vs) (off n : Nat) : RepLs w p β H ((cs.drop off).take n) ((vs.drop off).take n) := by
  refine ⟨by simp [h.1], fun i c v hc hv => ?_⟩
  rw [List.getElem?_take] at hc hv
  split at hc
  · rename_i hi
    rw [if_pos hi] at hv
    rw [List.getElem?_drop] at hc hv
    exact h.2 _ c v hc hv
  · cases hc

theorem part_ok {T : TypeId} {cs : List LV} {vs : Array Value} (h : RepLs w p β H cs vs.toList) {off : Nat} {c : CV} (hp : partOf P T cs off = some c) :
    ∃ v, (part T vs off).run P w = .ok v w ∧ RepC w p β H c v := by
  unfold partOf at hp
  cases hu : P.underlying T with
  | none => rw [hu] at hp; cases hp
  | some d =>
    rw [hu] at hp
    simp only [] at hp
    have hi : (P.info? T).isSome = true := by obtain ⟨i, hi⟩ := info_of_underlying hu; simp [hi]
    unfold part
    rw [Sem.run_bind, run_isAgg' hu]
    simp only [Result.andThen_ok]
    split at hp
    · rename_i ha
      split at hp
      · obtain rfl := Option.some.inj hp
        rw [if_pos ha]
        refine ⟨.agg (vs.extract off (off + P.cellsOf T)), by rw [Sem.run_bind, run_sizeOf' hi]; rfl, _, rfl, ?_⟩
        have e : (vs.extract off (off + P.cellsOf T)).toList = (vs.toList.drop off).take (P.cellsOf T) := by
          simp [Array.toList_extract, List.extract_eq_take_drop]
        rw [e]
        exact h.part off _
      · cases hp
    · rename_i ha
      rw [if_neg ha]
      cases hc : cs[off]? with
      | none => rw [hc] at hp; cases hp
      | some x =>
        rw [hc] at hp
        obtain rfl := Option.some.inj hp
        have hlt : off < vs.toList.length := by rw [← h.1]; exact (List.getElem?_eq_some_iff.1 hc).1
        have hv : vs[off]? = some vs.toList[off] := by
          simp at hlt
          simp [hlt]
        rw [hv]
        exact ⟨_, rfl, repC_l (h.2 off x _ hc (List.getElem?_eq_getElem hlt))⟩

theorem eqParts_fields {d : Nat} {f : TypeId → CV → CV → Option Bool} (hf : ∀ t x y r vx vy, f t x y = some r → RepC w p β H x vx → RepC w p β H y vy → (Op.equalIn d t vx vy).run P w = .ok r w)
    {xs ys : List LV} {us vs : Array Value} (hx : RepLs w p β H xs us.toList) (hy : RepLs w p β H ys vs.toList) :
    ∀ (fs : List Field) {r : Bool}, eqParts P f xs ys (fieldParts fs) = some r → (Op.eqFields d us vs fs).run P w = .ok r w
  | [], r, h => by simp only [fieldParts, eqParts] at h; obtain rfl := Option.some.inj h; rfl
  | fd :: fs, r, h => by
    simp only [fieldParts] at h
    simp only [Op.eqFields]
    by_cases hn : fd.name ≠ "_"
    · rw [if_pos hn] at h ⊢
      simp only [eqParts] at h
      cases ha : partOf P fd.type xs fd.offset with
      | none => rw [ha] at h; cases h
      | some a =>
        cases hb : partOf P fd.type ys fd.offset with
        | none => rw [ha, hb] at h; cases h
        | some b =>
          rw [ha, hb] at h
          simp only [] at h
          cases hr : f fd.type a b with
          | none => rw [hr] at h; cases h
          | some q =>
            cases hq : eqParts P f xs ys (fieldParts fs) with
            | none => rw [hr, hq] at h; cases h
            | some q' =>
              rw [hr, hq] at h
              obtain rfl := Option.some.inj h
              obtain ⟨va, ra, ca⟩ := part_ok hx ha
              obtain ⟨vb, rb, cb⟩ := part_ok hy hb
              have ih := eqParts_fields hf hx hy fs hq
              simp only [Sem.run_bind, ra, rb, Result.andThen_ok, hf _ _ _ _ _ _ hr ca cb]
              cases q <;> simp [ih]
    · rw [if_neg hn] at h ⊢
      exact eqParts_fields hf hx hy fs h

theorem eqParts_array {d : Nat} {f : TypeId → CV → CV → Option Bool} (hf : ∀ t x y r vx vy, f t x y = some r → RepC w p β H x vx → RepC w p β H y vy → (Op.equalIn d t vx vy).run P w = .ok r w)
    {xs ys : List LV} {us vs : Array Value} (hx : RepLs w p β H xs us.toList) (hy : RepLs w p β H ys vs.toList) (e : TypeId) (n : Nat) :
    ∀ (l : List Nat) {r : Bool}, eqParts P f xs ys (l.map fun i => (e, i * n)) = some r →
      (do
        let r ← forIn l ((none, ()) : Option Bool × Unit) fun i _ => do
          if (!(← Op.equalIn d e (← part e us (i * n)) (← part e vs (i * n)))) = true then pure (ForInStep.done (some false, ())) else pure (ForInStep.yield (none, ()))
        match r.1 with
        | some a => pure a
        | none => pure true : Sem Bool).run P w = .ok r w
  | [], r, h => by simp only [List.map_nil, eqParts] at h; obtain rfl := Option.some.inj h; rfl
  | i :: l, r, h => by
    simp only [List.map_cons, eqParts] at h
    cases ha : partOf P e xs (i * n) with
    | none => rw [ha] at h; cases h
    | some a =>
      cases hb : partOf P e ys (i * n) with
      | none => rw [ha, hb] at h; cases h
      | some b =>
        rw [ha, hb] at h
        simp only [] at h
        cases hr : f e a b with
        | none => rw [hr] at h; cases h
        | some q =>
          cases hq : eqParts P f xs ys (l.map fun i => (e, i * n)) with
          | none => rw [hr, hq] at h; cases h
          | some q' =>
            rw [hr, hq] at h
            obtain rfl := Option.some.inj h
            obtain ⟨va, ra, ca⟩ := part_ok hx ha
            obtain ⟨vb, rb, cb⟩ := part_ok hy hb
            have ih := eqParts_array hf hx hy e n l hq
            simp only [Sem.run_bind] at ih
            simp only [List.forIn_cons, Sem.run_bind, ra, rb, Result.andThen_ok, hf _ _ _ _ _ _ hr ca cb]
            cases q
            · simp
            · simp only [Bool.not_true, Bool.false_eq_true, if_false, Sem.run_pure, Result.andThen_ok, Bool.true_and]
              exact ih

theorem eqT_ok : ∀ (d d' : Nat), d ≤ d' → ∀ (t : TypeId) (x y : CV) (r : Bool) (vx vy : Value), eqT P d t x y = some r → RepC w p β H x vx → RepC w p β H y vy → (Op.equalIn d' t vx vy).run P w = .ok r w
  | 0, _, _, t, x, y, r, vx, vy, h, _, _ => by simp only [eqT] at h; cases h
  | d + 1, 0, hd, t, x, y, r, vx, vy, h, _, _ => by omega
  | d + 1, d' + 1, hd, t, x, y, r, vx, vy, h, hx, hy => by
    simp only [eqT] at h
    split at h
    · rename_i k0 k a k' b hu
      split at h
      · rename_i e; subst e
        obtain rfl := Option.some.inj h
        obtain rfl : vx = .int k a := repL_of (by intro e; cases e) hx
        obtain rfl : vy = .int k b := repL_of (by intro e; cases e) hy
        exact run_equalIn_int w d' t k _ a b hu
      · cases h
    · rename_i a b hu
      obtain rfl := Option.some.inj h
      obtain rfl : vx = .bool a := repL_of (by intro e; cases e) hx
      obtain rfl : vy = .bool b := repL_of (by intro e; cases e) hy
      exact run_equalIn_bool' w d' t a b hu
    · rename_i a b hu
      obtain rfl := Option.some.inj h
      obtain rfl : vx = .string a := repL_of (by intro e; cases e) hx
      obtain rfl : vy = .string b := repL_of (by intro e; cases e) hy
      rw [beq_toListBytes]
      exact run_equalIn_string w d' t a b hu
    · rename_i fs xs ys hu
      split at h
      · cases h
      · rename_i hs
        obtain ⟨us, rfl, hx⟩ := hx
        obtain ⟨vs, rfl, hy⟩ := hy
        have hf : P.fieldsOf t = fs := by simp [Program.fieldsOf, hu]
        rw [run_equalIn_struct w d' t us vs (by rw [hf]; exact hu) (by simpa using hs), hf]
        exact eqParts_fields (fun t x y r vx vy h1 h2 h3 => eqT_ok d d' (by omega) t x y r vx vy h1 h2 h3) hx hy fs.toList h
    · rename_i n e xs ys hu
      split at h
      · rename_i hi
        obtain ⟨us, rfl, hx⟩ := hx
        obtain ⟨vs, rfl, hy⟩ := hy
        have key := eqParts_array (fun t x y r vx vy h1 h2 h3 => eqT_ok d d' (by omega) t x y r vx vy h1 h2 h3) hx hy e (P.cellsOf e) (List.range n) h
        simp only [Op.equalIn, Sem.run_bind, run_underlying hu, Result.andThen_ok, run_sizeOf' hi, Std.Legacy.Range.forIn_eq_forIn_range', Std.Legacy.Range.size, Nat.sub_zero, Nat.add_sub_cancel, Nat.div_one, ← List.range_eq_range']
        simp only [Sem.run_bind] at key
        refine Eq.trans ?_ key
        congr 1
        funext a w'
        obtain ⟨a, u⟩ := a
        cases a <;> rfl
      · cases h
    · cases h
end

theorem step_binOp {op : BinOp} {T U : TypeId} {x y : Operand} (ho : o.op = .binOp op T x y U) (h : binOpS P s o op T (evC s x) (evC s y) = some (true, s')) : StepOk P s o s' := by
  unfold binOpS at h
  split at h
  · rename_i k a k' b hx hy
    split at h
    · rename_i e; subst e
      cases hi : intOp op k a b with
      | none => rw [hi] at h; cases h
      | some cv =>
        obtain ⟨c, v⟩ := cv
        rw [hi] at h
        obtain ⟨rfl, rfl⟩ := Prod.mk.inj (Option.some.inj h)
        refine StepOk.value fun B0 w0 β p a' w inv => ?_
        have ex : a'.eval x = .int k a := evC_l inv hx (by intro e; cases e)
        have ey : a'.eval y = .int k b := evC_l inv hy (by intro e; cases e)
        obtain ⟨u, r1, r2⟩ := intOp_run (P := P) (T := T) hi w
        exact ⟨u, by simp [execOp, ho, ex, ey, eqGuard, r1], repC_l (r2 p β s.blk)⟩
    · cases h
  · rename_i a b c d hx hy
    cases hi : zcOp op a b c d with
    | none => rw [hi] at h; cases h
    | some cv =>
      obtain ⟨q, v⟩ := cv
      rw [hi] at h
      obtain ⟨rfl, rfl⟩ := Prod.mk.inj (Option.some.inj h)
      refine StepOk.value fun B0 w0 β p a' w inv => ?_
      obtain ⟨xa, xb, e1, ha, hb⟩ := evC_l inv hx (by intro e; cases e)
      obtain ⟨xc, xd, e2, hc, hd⟩ := evC_l inv hy (by intro e; cases e)
      obtain ⟨u, r1, r2⟩ := zcOp_run (P := P) w (T := T) hi ha hb hc hd
      have ex : a'.eval x = .complex .f32 xa xb := by simpa using e1
      have ey : a'.eval y = .complex .f32 xc xd := by simpa using e2
      exact ⟨u, by simp [execOp, ho, ex, ey, eqGuard, r1], repC_l (r2 w p β s.blk)⟩
  · rename_i a b hx hy
    split at h
    · rename_i hu
      obtain rfl := congrArg Prod.snd (okL_eq h)
      refine StepOk.value fun B0 w0 β p a' w inv => ?_
      have ex : a'.eval x = .bool a := evC_l inv hx (by intro e; cases e)
      have ey : a'.eval y = .bool b := evC_l inv hy (by intro e; cases e)
      exact ⟨.bool (a == b), by simp [execOp, ho, ex, ey, eqGuard, binOp, Op.equal, Op.maxDepth, run_equalIn_bool' w 9999 T a b hu], rfl⟩
    · rename_i hu
      obtain rfl := congrArg Prod.snd (okL_eq h)
      refine StepOk.value fun B0 w0 β p a' w inv => ?_
      have ex : a'.eval x = .bool a := evC_l inv hx (by intro e; cases e)
      have ey : a'.eval y = .bool b := evC_l inv hy (by intro e; cases e)
      exact ⟨.bool (!(a == b)), by simp [execOp, ho, ex, ey, eqGuard, binOp, Op.equal, Op.maxDepth, run_equalIn_bool' w 9999 T a b hu], rfl⟩
    · cases h
  · rename_i cs ds hx hy
    split at h
    · cases h
    · rename_i hg
      cases he : eqT P 8 T (.agg cs) (.agg ds) with
      | none => rw [he] at h; cases op <;> cases h
      | some r =>
        rw [he] at h
        cases op <;> simp only [reduceCtorEq] at h
        all_goals
          (obtain rfl := congrArg Prod.snd (okL_eq h)
           refine StepOk.value fun B0 w0 β p a' w inv => ?_
           have cx := evC_ok inv x
           have cy := evC_ok inv y
           rw [hx] at cx
           rw [hy] at cy
           have he' := eqT_ok (w := w) 8 10000 (by omega) T _ _ r _ _ he cx cy
           obtain ⟨us, ex, _⟩ := cx
           obtain ⟨vs, ey, _⟩ := cy
           rw [ex, ey] at he'
           refine ⟨_, ?_, rfl⟩
           have hg' : P.eqGuardType P.depth T = false := by simpa using hg
           simp only [execOp, ho, ex, ey, Sem.run_bind, run_eqGuard_agg _ _ _ _ _ _ _ hg', Result.andThen_ok, run_eql_struct, run_neq_struct, he', Sem.run_pure])
  · cases h

theorem okStep {x : SV} {r : Bool × PS} (h : ok s o x = some r) : r = (true, s.put o.dst x) := (Option.some.inj h).symm

theorem step_convert {T U : TypeId} {x : Operand} (ho : o.op = .convert T U x) (h : convertOp P s o T U (evL s x) = some (true, s')) : StepOk P s o s' := by
  unfold convertOp at h
  split at h
  · rename_i k0 k k1 n hT hU hx
    obtain rfl := congrArg Prod.snd (okL_eq h)
    refine StepOk.value fun B0 w0 β p a w inv => ?_
    have ex := evL_int inv hx
    exact ⟨.int k (k.wrap n), by simp [execOp, ho, ex, convert, run_underlying hT, run_underlying hU, Conv.intToInt], rfl⟩
  · rename_i k0 k1 n hT hU hx
    obtain ⟨h1, rfl⟩ := Prod.mk.inj (Option.some.inj h)
    refine StepOk.value fun B0 w0 β p a w inv => ?_
    have ex := evL_int inv hx
    simp only [small24, Bool.and_eq_true, decide_eq_true_eq] at h1
    obtain ⟨b, r, i⟩ := run_intToFloat (P := P) w h1.1 h1.2
    exact ⟨.float .f32 b, by simp [execOp, ho, ex, convert, run_underlying hT, run_underlying hU, r], ⟨b, rfl, i⟩⟩
  · rename_i n hT hU hx
    obtain rfl := congrArg Prod.snd (okL_eq h)
    refine StepOk.value fun B0 w0 β p a w inv => ?_
    have cx := evL_ok inv x (by rw [hx]; intro e; cases e)
    rw [hx] at cx
    obtain ⟨b, e, i⟩ := cx
    have ex : a.eval x = .float .f32 b := by simpa using e
    exact ⟨.int .i64 n, by simp [execOp, ho, ex, convert, run_underlying hT, run_underlying hU, run_floatToInt (P := P) w i], rfl⟩
  · cases h

theorem step_nilCheck {x : Operand} (ho : o.op = .nilCheck x) (h : (match evL s x with
    | .ref t sz i off => okL s o (.ref t sz i off)
    | .iptr sh y off => okL s o (.iptr sh y off)
    | _ => none) = some (true, s')) : StepOk P s o s' := by
  split at h
  · rename_i t sz i off hx
    obtain rfl := congrArg Prod.snd (okL_eq h)
    refine StepOk.value fun B0 w0 β p a w inv => ?_
    have cx := evL_ok inv x (by rw [hx]; intro e; cases e)
    rw [hx] at cx
    have cx' := cx
    obtain ⟨r, b, _, _, e, _⟩ := cx
    exact ⟨a.eval x, by simp [execOp, ho, e], repC_l cx'⟩
  · rename_i sh y off hx
    obtain rfl := congrArg Prod.snd (okL_eq h)
    refine StepOk.value fun B0 w0 β p a w inv => ?_
    have cx := evL_ok inv x (by rw [hx]; intro e; cases e)
    rw [hx] at cx
    have cx' := cx
    obtain ⟨b, q, us, e, _⟩ := cx
    exact ⟨a.eval x, by simp [execOp, ho, e], repC_l cx'⟩
  · cases h
end
end Go.Ev
