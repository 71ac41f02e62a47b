/- New blocks: variables, composite values, slices. -/
import Derived.Test.YtinkhmfciealkaaOps5
set_option linter.unusedSimpArgs false
namespace Go.Ev
open Go.RowKit

section
variable {B0 : Nat} {w0 : Base} {β : Nat → Option Value} {p : Nat → Prop} {s s' : PS} {a : Act} {w w' : World}

/-- A new block of the store at a slot, which gives up what it had. -/
theorem Inv.newAt (inv : Inv B0 w0 β p s a w) {d : Nat} {b0 : Blk} {x : SV} (hs : s.new d b0 x = some s') {r0 v : Value} (hbel : Below B0 w w') (hdata : ∀ b, p b → w'.heap[b]? = w.heap[b]?)
    (hown : ∀ t r b, t ≠ d → β t = some r → rootBlock r = some b → w'.heap[b]? = w.heap[b]?)
    (hr0 : ∀ b, rootBlock r0 = some b → ¬ p b ∧ ∀ t r, t ≠ d → β t = some r → rootBlock r ≠ some b)
    (hbx : ∀ (β' : Nat → Option Value) (H' : Nat → Blk), (∀ c u, RepL w p β s.blk c u → RepL w' p β' H' (c.kill d) u) → β' d = some r0 → H' d = b0 → RepB w' p β' H' B0 b0 r0 ∧ RepS w' p β' H' x v) :
    ∃ β', Inv B0 w0 β' p s' (a.put (some d) v) w' := by
  unfold PS.new at hs
  cases hlt : Nat.blt d s.n with
  | false => rw [hlt] at hs; cases hs
  | true =>
    rw [hlt] at hs
    obtain rfl := Option.some.inj hs
    have hd : d < s.n := by rw [Nat.blt_eq] at hlt; exact hlt
    obtain ⟨h1, hk1⟩ := inv.drop d hd
    refine ⟨_, h1.fresh (t0 := d) (by rw [PS.n_drop]; exact hd) (by simp) hbel hdata (fun t r b hr hb => ?_) (r0 := r0) (fun b hb => ⟨(hr0 b hb).1, fun t r hr => ?_⟩) (fun hk => ?_)⟩
    · by_cases htd : t = d
      · simp [htd] at hr
      · simp [htd] at hr; exact hown t r b htd hr hb
    · by_cases htd : t = d
      · simp [htd] at hr
      · simp [htd] at hr; exact (hr0 b hb).2 t r htd hr
    · have hdep := lt_depth (t := d) (n := (s.drop d).n) (by rw [PS.n_drop]; exact hd) h1.deep
      obtain ⟨hb, hx⟩ := hbx _ ((s.drop d).setB d b0).blk (fun c u hc => RepL.keep hk (hk1 c u hc)) (by simp) (by rw [PS.blk_setB _ hdep, if_pos rfl])
      exact ⟨hb, fun _ _ => hx⟩

theorem Inv.allocAt (inv : Inv B0 w0 β p s a w) {d : Nat} {b0 : Blk} {x : SV} (hs : s.new d b0 x = some s') {r0 v : Value} (hbel : Below w.heap.size w w')
    (hr0 : ∀ b, rootBlock r0 = some b → w.heap.size ≤ b)
    (hbx : ∀ (β' : Nat → Option Value) (H' : Nat → Blk), (∀ c u, RepL w p β s.blk c u → RepL w' p β' H' (c.kill d) u) → β' d = some r0 → H' d = b0 → RepB w' p β' H' B0 b0 r0 ∧ RepS w' p β' H' x v) :
    ∃ β', Inv B0 w0 β' p s' (a.put (some d) v) w' :=
  inv.newAt hs (hbel.mono inv.base) (fun b hb => hbel.block b (inv.shared b hb).1) (fun t r b _ hr hb => hbel.block b ((inv.blk hr).root b hb).2)
    (fun b hb => ⟨fun hp => by have := hr0 b hb; have := (inv.shared b hp).1; omega, fun t r _ hr e => by have := hr0 b hb; have := ((inv.blk hr).root b e).2; omega⟩) hbx
end

section
variable {P : Program} {s s' : PS} {o : Oper}

theorem StepOk.made {d : Nat} (hd : o.dst = some d) (h : ∀ B0 w0 β p a w, Inv B0 w0 β p s a w → ∃ v w', (execOp a.eval o).run P w = .ok (.value v) w' ∧ ∃ β' p', Inv B0 w0 β' p' s' (a.put (some d) v) w') : StepOk P s o s' := by
  intro B0 w0 a w ⟨β, p, hi⟩ next Q hn
  obtain ⟨v, w', hr, β', p', h'⟩ := h B0 w0 β p a w hi
  unfold Oper.wp
  rw [hr]
  show next (a.put o.dst v) w'
  rw [hd]
  exact hn _ _ ⟨β', p', h'⟩

theorem below_alloc (w : World) (x : Obj) : Below w.heap.size w (w.alloc x) := (Below.refl _ _).alloc (Nat.le_refl _) x

section
variable {w : World} {p : Nat → Prop} {β : Nat → Option Value} {H : Nat → Blk}
theorem oneCellB_eq {v : Value} (h : oneCellB v = true) : v.oneCell' = true := by cases v <;> first | rfl | simp [oneCellB] at h
theorem zeroLeaf_ok {v : Value} (h : oneCellB v = true) : RepL w p β H ((leafOf v).getD .undef) v := by
  cases hl : leafOf v with
  | none => exact oneCellB_eq h
  | some c => exact leafOf_ok hl
theorem zeroLeaves_ok : ∀ {vs : List Value} {cs : List LV}, zeroLeaves vs = some cs → RepLs w p β H cs vs
  | [], cs, h => by simp only [zeroLeaves] at h; obtain rfl := Option.some.inj h; exact repLs_nil
  | v :: vs, cs, h => by
    simp only [zeroLeaves] at h
    split at h
    · rename_i h1
      split at h
      · rename_i xs hx
        obtain rfl := Option.some.inj h
        exact (repLs_one (zeroLeaf_ok h1)).append (zeroLeaves_ok hx)
      · cases h
    · cases h
theorem zero_ok {t : TypeId} {z : CV} (h : zeroOf P t = some z) : ∃ i zv, P.info? t = some i ∧ i.zero = some zv ∧ RepLs w p β H z.cells zv.cells.toList := by
  unfold zeroOf at h
  split at h
  · rename_i i hi
    split at h
    · rename_i cs hz
      split at h
      · rename_i xs hx
        obtain rfl := Option.some.inj h
        exact ⟨i, _, hi, hz, zeroLeaves_ok hx⟩
      · cases h
    · rename_i v _ hz
      split at h
      · rename_i h1
        obtain rfl := Option.some.inj h
        exact ⟨i, v, hi, (by assumption), by rw [cells_one (oneCellB_eq h1)]; exact repLs_one (zeroLeaf_ok h1)⟩
      · cases h
    · cases h
  · cases h
end

theorem zero_vof {t : TypeId} {z : CV} (h : zeroOf P t = some z) {i : TypeInfo} {zv : Value} (hi : P.info? t = some i) (hz : i.zero = some zv) : VOf z.isAggC zv.cells.toList zv := by
  unfold zeroOf at h
  rw [hi] at h
  simp only [hz] at h
  split at h
  · rename_i cs hc
    obtain rfl := Option.some.inj hc
    split at h
    · obtain rfl := Option.some.inj h
      simp [VOf, CV.isAggC, Value.cells]
    · cases h
  · rename_i v _ hc
    split at h
    · rename_i h1
      have hv : zv.oneCell' = true := by
        have e : some zv = some v := by assumption
        obtain rfl := Option.some.inj e
        exact oneCellB_eq h1
      obtain rfl := Option.some.inj h
      simp only [VOf, CV.isAggC, Bool.false_eq_true, if_false]
      rw [cells_one hv]
    · cases h
  · cases h

theorem blkOf_ok {w : World} {p : Nat → Prop} {β : Nat → Option Value} {H : Nat → Blk} {B0 : Nat} {T : TypeId} {cs : List LV} {vs : Array Value} {b : Nat} {U : TypeId} (hB : B0 ≤ b) (hh : w.heap[b]? = some (.cells vs U (0, 0))) (hl : RepLs w p β H cs vs.toList) :
    RepB w p β H B0 (blkOf P T cs) (.pointer (some ⟨b, 0, none⟩)) ∧ refOk (blkOf P T cs) 0 0 := by
  have plain : RepB w p β H B0 (.cells cs) (.pointer (some ⟨b, 0, none⟩)) ∧ refOk (.cells cs) 0 0 := ⟨⟨b, vs, U, rfl, hB, hh, hl⟩, rfl⟩
  unfold blkOf
  split
  · split
    · split
      · rename_i xs hrows
        split
        · exact plain
        · rename_i hs
          exact ⟨⟨b, vs, U, rfl, hB, hh, by omega, (rows_ok hrows hl).2⟩, .inl ⟨rfl, rfl⟩⟩
      · exact plain
    · exact plain
  · exact plain

theorem newVar_ok {T : TypeId} {cs : List LV} (h : newVar P s o T cs = some (true, s')) (hrun : ∀ B0 w0 β p a w, Inv B0 w0 β p s a w → ∃ vs : Array Value, (execOp a.eval o).run P w = .ok (.value (.pointer (some ⟨w.heap.size, 0, none⟩))) (w.alloc (.cells vs T)) ∧ RepLs w p β s.blk cs vs.toList) : StepOk P s o s' := by
  unfold newVar at h
  split at h
  · rename_i d hd
    split at h
    · split at h
      · rename_i s1 hs1
        obtain rfl := (Prod.mk.inj (Option.some.inj h)).2
        refine StepOk.made hd fun B0 w0 β p a w inv => ?_
        obtain ⟨vs, hr, hl⟩ := hrun B0 w0 β p a w inv
        obtain ⟨β', hi⟩ := inv.allocAt hs1 (r0 := .pointer (some ⟨w.heap.size, 0, none⟩)) (v := .pointer (some ⟨w.heap.size, 0, none⟩)) (below_alloc w (.cells vs T)) (fun b hb => by obtain rfl := Option.some.inj hb; exact Nat.le_refl _) (fun β' H' hk hβ hH => by
          have hl' := RepLs.of (f := LV.kill d) (fun c u hc => hk c u hc) hl
          obtain ⟨h1, h2⟩ := blkOf_ok (P := P) (T := T) (β := β') (H := H') (B0 := B0) inv.base (heap_alloc_new w _) hl'
          refine ⟨h1, repC_l (w := w.alloc (.cells vs T)) (p := p) (c := .ref d 0 0 0) ⟨_, w.heap.size, hβ, rfl, rfl, ?_⟩⟩
          rw [hH]; exact h2)
        exact ⟨_, _, hr, β', p, hi⟩
      · cases h
    · cases h
  · cases h

theorem step_alloc {T : TypeId} (ho : o.op = .alloc T) {z : CV} (hz : zeroOf P T = some z) (h : newVar P s o T z.cells = some (true, s')) : StepOk P s o s' :=
  newVar_ok h fun B0 w0 β p a w inv => by
    obtain ⟨i, zv, hi, hzv, hl⟩ := zero_ok (P := P) (w := w) (p := p) (β := β) (H := s.blk) hz
    refine ⟨zv.cells, ?_, hl⟩
    simp [execOp, ho, Instr.alloc, zeroValue, typeInfo, hi, hzv, newVar, newRow, Go.newVar]

theorem step_box {T : TypeId} {x : Operand} (ho : o.op = .box T x) (hk : (evC s x).known = true) (h : newVar P s o T (evC s x).cells = some (true, s')) : StepOk P s o s' :=
  newVar_ok h fun B0 w0 β p a w inv => by
    refine ⟨(a.eval x).cells, ?_, cells_known (evC_ok inv x) hk⟩
    simp [execOp, ho, Instr.box, newVar, newRow, Go.newVar]

/-! ### Composite values -/

theorem fold_set (off : Nat) : ∀ (vs : List Value) (j : Nat) (cells : Array Value), off + j + vs.length ≤ cells.size →
    ((vs.zipIdx j).foldl (fun cs x => cs.setIfInBounds (off + x.2) x.1) cells).toList = cells.toList.take (off + j) ++ vs ++ cells.toList.drop (off + j + vs.length)
  | [], j, cells, h => by simp
  | v :: vs, j, cells, h => by
    simp only [List.zipIdx_cons, List.foldl_cons]
    rw [fold_set off vs (j + 1) _ (by simp at h ⊢; omega)]
    have e := list_seg_step cells.toList (off + j) v vs (by simp at h ⊢; omega)
    simpa [Array.toList_setIfInBounds, Nat.add_assoc] using e

section
variable {w : World} {p : Nat → Prop} {β : Nat → Option Value} {H : Nat → Blk}
theorem fill_ok {place : Nat → Option (Nat × Nat)} : ∀ {parts : List (Nat × CV)} {vparts : List (Nat × Value)} {cells cs' : List LV} {vcells : Array Value},
    parts.length = vparts.length → (∀ (i : Nat) (x : Nat × CV) (y : Nat × Value), parts[i]? = some x → vparts[i]? = some y → x.1 = y.1 ∧ RepC w p β H x.2 y.2) → RepLs w p β H cells vcells.toList → fillL place cells parts = some cs' →
    ∃ vs', Instr.fill place vcells vparts = some vs' ∧ RepLs w p β H cs' vs'.toList
  | [], [], cells, cs', vcells, _, _, hl, h => by
    simp only [fillL] at h
    obtain rfl := Option.some.inj h
    exact ⟨vcells, rfl, hl⟩
  | [], _ :: _, _, _, _, hlen, _, _, _ => by cases hlen
  | _ :: _, [], _, _, _, hlen, _, _, _ => by cases hlen
  | (i, c) :: parts, (j, v) :: vparts, cells, cs', vcells, hlen, hp, hl, h => by
    obtain ⟨e1, hc⟩ := hp 0 _ _ rfl rfl
    simp only at e1; subst e1
    simp only [fillL] at h
    simp only [Instr.fill]
    cases hpl : place i with
    | none => rw [hpl] at h; cases h
    | some os =>
      obtain ⟨off, size⟩ := os
      rw [hpl] at h
      simp only [] at h ⊢
      split at h
      · rename_i hcond
        obtain ⟨hsz, hkn⟩ := hcond
        have hcc := cells_known hc hkn
        split at h
        · rename_i cs1 hw
          obtain ⟨w1, w2, w3⟩ := hl.write hcc hw
          have hvs : v.cells.size = size := by rw [← hsz, hcc.1]; simp
          have hle : ¬ (v.cells.size ≠ size ∨ off + v.cells.size > vcells.size) := by
            intro h
            rcases h with h | h
            · exact h hvs
            · simp at w1; omega
          have hcond2 : (decide (v.cells.size ≠ size) || decide (off + v.cells.size > vcells.size)) = false := by
            simp only [Bool.or_eq_false_iff, decide_eq_false_iff_not]
            exact ⟨fun h => hle (.inl h), fun h => hle (.inr h)⟩
          rw [if_neg (by simpa using hle)]
          have hfold : (v.cells.zipIdx.foldl (fun cs (c, j) => cs.setIfInBounds (off + j) c) vcells).toList = vcells.toList.take off ++ v.cells.toList ++ vcells.toList.drop (off + v.cells.toList.length) := by
            have := fold_set off v.cells.toList 0 vcells (by simpa using w1)
            simp only [Nat.add_zero] at this
            rw [← this, ← Array.foldl_toList, Array.toList_zipIdx]
          exact fill_ok (by simpa using hlen) (fun i x y hx hy => hp (i + 1) x y (by simpa using hx) (by simpa using hy)) (by rw [hfold]; exact w3) h
        · cases h
      · cases h
end

theorem evParts_ok {B0 : Nat} {w0 : Base} {β : Nat → Option Value} {p : Nat → Prop} {a : Act} {w : World} (inv : Inv B0 w0 β p s a w) : ∀ (l : List (Nat × Operand)),
    (evParts s l).length = (l.map fun x => (x.1, a.eval x.2)).length ∧ ∀ (i : Nat) (x : Nat × CV) (y : Nat × Value), (evParts s l)[i]? = some x → (l.map fun x => (x.1, a.eval x.2))[i]? = some y → x.1 = y.1 ∧ RepC w p β s.blk x.2 y.2
  | [] => ⟨rfl, fun i x y hx => by simp [evParts] at hx⟩
  | (j, q) :: l => by
    obtain ⟨h1, h2⟩ := evParts_ok inv l
    refine ⟨by simp [evParts, h1], fun i x y hx hy => ?_⟩
    cases i with
    | zero => simp [evParts] at hx hy; subst hx; subst hy; exact ⟨rfl, evC_ok inv q⟩
    | succ i => simp only [evParts, List.getElem?_cons_succ, List.map_cons] at hx hy; exact h2 i x y hx hy

theorem mapM_places {w : World} : ∀ (fs : List Field), fs.all (fun f => (P.info? f.type).isSome) = true →
    (fs.mapM (m := Sem) fun f => do pure (f.offset, ← sizeOf f.type)).run P w = .ok (fs.map fun f => (f.offset, P.cellsOf f.type)) w
  | [], _ => rfl
  | f :: fs, h => by
    simp only [List.all_cons, Bool.and_eq_true] at h
    rw [List.mapM_cons, Sem.run_bind, Sem.run_bind, run_sizeOf' h.1]
    simp only [Result.andThen_ok, Sem.run_pure, Sem.run_bind, mapM_places fs h.2]
    rfl

theorem step_build {T : TypeId} {parts : Array (Nat × Operand)} (ho : o.op = .build T parts) (h : buildOp P s o T parts.toList = some (true, s')) : StepOk P s o s' := by
  unfold buildOp at h
  split at h
  · rename_i z hz
    split at h
    · rename_i fs hu
      split at h
      · rename_i cs hf
        split at h
        · rename_i hall
          obtain rfl := congrArg Prod.snd (okStep h)
          refine StepOk.value fun B0 w0 β p a w inv => ?_
          obtain ⟨i, zv, hi, hzv, hl⟩ := zero_ok (P := P) (w := w) (p := p) (β := β) (H := s.blk) hz
          obtain ⟨e1, e2⟩ := evParts_ok inv parts.toList
          obtain ⟨vs, r1, r2⟩ := fill_ok e1 e2 hl hf
          refine ⟨.agg vs, ?_, vs, rfl, r2⟩
          have hm := mapM_places (P := P) (w := w) fs.toList hall
          have hplace : (fun (i : Nat) => ((fs.toList.map fun (f : Field) => (f.offset, P.cellsOf f.type)).toArray)[i]?) = (fun (i : Nat) => (fs[i]?).map fun (f : Field) => (f.offset, P.cellsOf f.type)) := by
            funext i
            rw [List.getElem?_toArray, List.getElem?_map, Array.getElem?_toList]
          have hmA : (fs.mapM (m := Sem) fun (f : Field) => do pure (f.offset, ← sizeOf f.type)).run P w = .ok ((fs.toList.map fun (f : Field) => (f.offset, P.cellsOf f.type)).toArray) w := by
            rw [Array.mapM_eq_mapM_toList, Sem.run_map, hm]
            rfl
          simp only [execOp, ho, Instr.build, zeroValue, typeInfo, Sem.run_bind, run_program, Result.andThen_ok, hi, hzv, Sem.run_pure, run_underlying hu]
          rw [hmA]
          simp only [Result.andThen_ok, hplace, Array.toList_map]
          rw [r1]
          rfl
        · cases h
      · cases h
    · rename_i n E hu
      split at h
      · rename_i cs hf
        split at h
        · rename_i hinf
          obtain rfl := congrArg Prod.snd (okStep h)
          refine StepOk.value fun B0 w0 β p a w inv => ?_
          obtain ⟨i, zv, hi, hzv, hl⟩ := zero_ok (P := P) (w := w) (p := p) (β := β) (H := s.blk) hz
          obtain ⟨e1, e2⟩ := evParts_ok inv parts.toList
          obtain ⟨vs, r1, r2⟩ := fill_ok e1 e2 hl hf
          refine ⟨.agg vs, ?_, vs, rfl, r2⟩
          simp [execOp, ho, Instr.build, zeroValue, typeInfo, hi, hzv, run_underlying hu, run_sizeOf' hinf, r1]
        · cases h
      · cases h
    · cases h
  · cases h
end
end Go.Ev
