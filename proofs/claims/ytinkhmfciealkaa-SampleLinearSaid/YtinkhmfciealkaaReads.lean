/- An argument that reads stands for typed data. -/
import Derived.Test.YtinkhmfciealkaaBridge
set_option linter.unusedSimpArgs false
namespace Go.Ev
open Go.RowKit Go.ChangeShapes Go.WideShapes Go.ChangeAt

/-- What is known of data that came in: numbers are in their kind's range, lengths are Go's. -/
def Sh.ok : (s : Sh) → s.T → Prop
  | .int k, n => (Lit.int k n).wf = true
  | .bool, _ => True
  | .str, b => b.size ≤ maxLen
  | .zf, _ => True
  | .zc, _ => True
  | .slice e, xs => xs.length ≤ maxLen ∧ ∀ (i : Nat) (x : e.T), xs[i]? = some x → e.ok x
  | .map _ _, _ => True
  | .pair a b, x => a.ok x.1 ∧ b.ok x.2
  | .agg s, x => s.ok x
  | .unit, _ => True

def Sh.plain : Sh → Bool
  | .int _ | .bool | .str | .unit => true
  | .slice e => e.plain && Nat.blt 0 e.size
  | .pair a b => a.plain && b.plain
  | .agg s => s.plain
  | _ => false

section
variable {w : World} {p : Nat → Prop} {P : Program}

theorem join_rep {f : TypeId → Option Sh} {cellsOf : TypeId → Nat} : ∀ (ts : List TypeId) {s : Sh}, joinSh f ts = some s → s.plain = true → ∀ (cs : List Value), cs.length = (ts.map cellsOf).sum →
    (∀ j t, ts[j]? = some t → ∀ s', f t = some s' → s'.plain = true → ∃ y : s'.T, RepT w p s' y ((cs.drop ((ts.take j).map cellsOf).sum).take (cellsOf t)) ∧ s'.ok y) → ∃ y : s.T, RepT w p s y cs ∧ s.ok y
  | [], s, h, _, cs, hlen, _ => by
    obtain rfl := Option.some.inj h
    have : cs = [] := List.eq_nil_of_length_eq_zero (by simpa using hlen)
    subst this
    exact ⟨(), rfl, trivial⟩
  | t :: ts, s, h, hpl, cs, hlen, hseg => by
    have hlen' : (cs.drop (cellsOf t)).length = (ts.map cellsOf).sum := by
      rw [List.length_drop, hlen]; simp
    have hsplit : cs.take (cellsOf t) ++ cs.drop (cellsOf t) = cs := List.take_append_drop _ _
    have htail : ∀ j t', ts[j]? = some t' → ∀ s', f t' = some s' → s'.plain = true → ∃ y : s'.T, RepT w p s' y (((cs.drop (cellsOf t)).drop ((ts.take j).map cellsOf).sum).take (cellsOf t')) ∧ s'.ok y := by
      intro j t' hj s' hs' hp'
      have := hseg (j + 1) t' (by simpa using hj) s' hs' hp'
      rw [List.drop_drop]
      simpa using this
    have hhead : ∀ s', f t = some s' → s'.plain = true → ∃ y : s'.T, RepT w p s' y (cs.take (cellsOf t)) ∧ s'.ok y := by
      intro s' hs' hp'
      simpa using hseg 0 t rfl s' hs' hp'
    unfold joinSh at h
    have pairup : ∀ (s1 r : Sh), joinSh f ts = some r → (∃ y : s1.T, RepT w p s1 y (cs.take (cellsOf t)) ∧ s1.ok y) → r.plain = true → ∃ y : (Sh.pair s1 r).T, RepT w p (.pair s1 r) y cs ∧ (Sh.pair s1 r).ok y := by
      intro s1 r hr ⟨y, hy, hyo⟩ hrp
      obtain ⟨z, hz, hzo⟩ := join_rep ts hr hrp _ hlen' htail
      refine ⟨(y, z), ?_, hyo, hzo⟩
      simp only [RepT]
      exact ⟨_, _, hsplit.symm, hy, hz⟩
    have single : ∀ s1 : Sh, joinSh f ts = some .unit → (∃ y : s1.T, RepT w p s1 y (cs.take (cellsOf t)) ∧ s1.ok y) → ∃ y : s1.T, RepT w p s1 y cs ∧ s1.ok y := by
      intro s1 hr ⟨y, hy, hyo⟩
      obtain ⟨z, hz, _⟩ := join_rep ts hr rfl _ hlen' htail
      have hz : cs.drop (cellsOf t) = [] := by simpa only [RepT] using hz
      rw [← hsplit, hz, List.append_nil]
      exact ⟨y, hy, hyo⟩
    split at h
    · rename_i s0 e1 e2
      obtain rfl := Option.some.inj h
      obtain ⟨y, hy, hyo⟩ := hhead _ e1 (by simpa [Sh.plain] using hpl)
      exact single _ e2 ⟨y, by simpa only [RepT] using hy, hyo⟩
    · rename_i s0 r _ e1 e2
      obtain rfl := Option.some.inj h
      simp only [Sh.plain, Bool.and_eq_true] at hpl
      obtain ⟨y, hy, hyo⟩ := hhead _ e1 (by simpa [Sh.plain] using hpl.1)
      exact pairup _ _ e2 ⟨y, by simpa only [RepT] using hy, hyo⟩ hpl.2
    · rename_i s0 _ e1 e2
      obtain rfl := Option.some.inj h
      exact single _ e2 (hhead _ e1 hpl)
    · rename_i s0 r _ _ e1 e2
      obtain rfl := Option.some.inj h
      simp only [Sh.plain, Bool.and_eq_true] at hpl
      exact pairup _ _ e2 (hhead _ e1 hpl.1) hpl.2
    · cases h

theorem row_fine (hl : laidOutB P = true) {t : TypeId} (ht : t < P.types.size) : rowFine P t = true := by
  simp only [laidOutB, Bool.and_eq_true] at hl
  exact List.all_eq_true.1 hl.1.1 t (by simpa using ht)

theorem struct_fine (hl : laidOutB P = true) {t : TypeId} (ht : t < P.types.size) {fs : Array Field} (hu : P.underlying t = some (.struct fs)) :
    (∀ f ∈ fs.toList, f.type < P.types.size) ∧ P.cellsOf t = (fs.toList.map fun f => P.cellsOf f.type).sum ∧ ∀ j f, fs.toList[j]? = some f → f.offset = ((fs.toList.take j).map fun f => P.cellsOf f.type).sum := by
  have h := row_fine hl ht
  simp only [rowFine, isVar, hu, kindOk, Bool.and_true, Bool.or_eq_true, Bool.not_eq_true', decide_eq_false_iff_not, Bool.and_eq_true, List.all_eq_true, decide_eq_true_eq, beq_iff_eq] at h
  obtain ⟨⟨h1, h2⟩, h3⟩ := h.resolve_left (fun h => h ht)
  refine ⟨fun f hf => (h1 f hf).1, h2, fun j f hj => ?_⟩
  have hlt : j < fs.toList.length := (List.getElem?_eq_some_iff.1 hj).1
  have := h3 j (by simpa using hlt)
  rw [hj] at this
  simpa using this

theorem array_fine (hl : laidOutB P = true) {t e : TypeId} {n : Nat} (ht : t < P.types.size) (hu : P.underlying t = some (.array n e)) : e < P.types.size ∧ P.cellsOf t = n * P.cellsOf e := by
  have h := row_fine hl ht
  simp only [rowFine, isVar, hu, kindOk, Bool.and_true, Bool.or_eq_true, Bool.not_eq_true', decide_eq_false_iff_not, Bool.and_eq_true, decide_eq_true_eq, beq_iff_eq] at h
  have := h.resolve_left (fun h => h ht)
  exact ⟨this.1.1, this.2⟩

theorem slice_fine (hl : laidOutB P = true) {t e : TypeId} (ht : t < P.types.size) (hu : P.underlying t = some (.slice e)) : e < P.types.size := by
  have h := row_fine hl ht
  simp only [rowFine, isVar, hu, kindOk, Bool.and_true, Bool.or_eq_true, Bool.not_eq_true', decide_eq_false_iff_not, Bool.and_eq_true, decide_eq_true_eq, beq_iff_eq] at h
  exact (h.resolve_left (fun h => h ht)).1.1

theorem sum_replicate' (n k : Nat) : (List.replicate n k).sum = n * k := by
  induction n with
  | zero => simp
  | succ n ih => rw [List.replicate_succ, List.sum_cons, ih, Nat.succ_mul, Nat.add_comm]

theorem list_of_each {α : Type} {Q : Nat → α → Prop} : ∀ n, (∀ i, i < n → ∃ y, Q i y) → ∃ l : List α, l.length = n ∧ ∀ i y, l[i]? = some y → Q i y
  | 0, _ => ⟨[], rfl, fun i y h => by simp at h⟩
  | n + 1, h => by
    obtain ⟨l, hl, hq⟩ := list_of_each n fun i hi => h i (by omega)
    obtain ⟨y, hy⟩ := h n (by omega)
    refine ⟨l ++ [y], by simp [hl], fun i z hz => ?_⟩
    rw [List.getElem?_append] at hz
    split at hz
    · exact hq i z hz
    · rename_i hge
      have hi : i - l.length = 0 := by
        have := (List.getElem?_eq_some_iff.1 hz).1
        simp at this; omega
      rw [hi] at hz
      obtain rfl : y = z := by simpa using hz
      have : i = n := by omega
      rw [this]; exact hy

theorem addr_add {b o i : Nat} : (Addr.mk b o none).add i = ⟨b, o + i, none⟩ := by
  unfold Addr.add
  split
  · rename_i h; simp [h]
  · rfl

/-- WHAT READS STANDS FOR TYPED DATA. -/
theorem trod_rep {H : Type} {enc : TypeId × Value → H} {sp : Nat → Bool} {held : Bool} (hl : laidOutB P = true) : ∀ (fuel : Nat) (t : TypeId) (cs : List Value) (x : DataW H × List MemPlace), DataW.trod enc P w 0 sp held fuel t cs = some x →
    ∀ d s, shOf P d t = some s → s.plain = true → t < P.types.size → ∃ y : s.T, RepT w (fun b => b < w.heap.size) s y cs ∧ s.ok y := by
  intro fuel
  induction fuel using Nat.strongRecOn with
  | _ fuel ih =>
    intro t cs x h d s hs hpl ht
    cases d with
    | zero => cases hs
    | succ d =>
    unfold shOf at hs
    split at hs
    · rename_i k hu
      obtain rfl := Option.some.inj hs
      obtain ⟨n, rfl, _, hw⟩ := DataW.trod_int hu h
      exact ⟨(n : Int), rfl, hw⟩
    · rename_i hu
      obtain rfl := Option.some.inj hs
      obtain ⟨b, rfl, _⟩ := DataW.trod_bool hu h
      exact ⟨(b : Bool), rfl, trivial⟩
    · rename_i hu
      obtain rfl := Option.some.inj hs
      obtain ⟨b, rfl, _, hw⟩ := DataW.trod_string hu h
      exact ⟨(b : ByteArray), rfl, hw⟩
    · obtain rfl := Option.some.inj hs; cases hpl
    · obtain rfl := Option.some.inj hs; cases hpl
    · rename_i e hu
      split at hs
      · rename_i s0 hs0
        obtain rfl := Option.some.inj hs
        simp only [Sh.plain, Bool.and_eq_true] at hpl
        have hpos : 0 < s0.size := by have := hpl.2; rw [Nat.blt_eq] at this; exact this
        have he := slice_fine hl ht hu
        rcases DataW.trod_slice hu h with ⟨rfl, _⟩ | ⟨a, len, cap, elems, rest, n, hf, rfl, _, _, hlc, hcm, hel, hget, _⟩
        · exact ⟨([] : List s0.T), ⟨none, 0, rfl, ⟨Nat.le_refl _, fun _ => rfl⟩, .inl rfl⟩, by simp, fun i x h => by simp at h⟩
        · have each : ∀ i, i < len → ∃ y : s0.T, (∃ us, RepT w (fun b => b < w.heap.size) s0 y us ∧ us.length = P.cellsOf e ∧ a.block < w.heap.size ∧ ∀ j, j < P.cellsOf e → w.cell? ((a.add (i * P.cellsOf e)).add j) = us[j]?) ∧ s0.ok y := by
            intro i hi
            have h1 := hget i hi
            rw [List.getElem?_eq_getElem (by omega)] at h1
            cases hc : w.cells? 0 (a.add (i * P.cellsOf e)) (P.cellsOf e) with
            | none => rw [hc] at h1; cases h1
            | some us =>
              rw [hc] at h1
              obtain ⟨y, hy, hyo⟩ := ih n (by omega) e us _ h1 d s0 hs0 hpl.1 he
              obtain ⟨_, g2, g3⟩ := World.cells?_some hc
              have hlen := hy.length
              have hb := World.cells?_block hc (by omega)
              have hbb : (a.add (i * P.cellsOf e)).block = a.block := by unfold Addr.add; split <;> rfl
              exact ⟨y, ⟨us, hy, g2, by rw [← hbb]; exact hb, g3⟩, hyo⟩
          obtain ⟨xs, hxl, hxq⟩ := list_of_each len each
          refine ⟨xs, ⟨some a, cap, by rw [hxl], ⟨by rw [hxl]; exact hlc, fun h => by cases h⟩, ?_⟩, by omega, fun i y hy => (hxq i y hy).2⟩
          by_cases h0 : len = 0
          · left; exact List.eq_nil_of_length_eq_zero (by omega)
          · right
            have hx0 : xs[0]? = some (xs[0]'(by omega)) := List.getElem?_eq_getElem (by omega)
            obtain ⟨⟨us0, q1, q2, q3, q4⟩, _⟩ := hxq 0 _ hx0
            have hl0 := q1.length
            have hc0 := q4 0 (by omega)
            have hspot : a.spot = none := by
              rw [Nat.zero_mul] at hc0
              have e1 : (a.add 0).add 0 = a := by simp [Addr.add]
              rw [e1, List.getElem?_eq_getElem (by omega)] at hc0
              unfold World.cell? at hc0
              split at hc0
              · split at hc0
                · cases hc0
                · rename_i hsn; simpa using hsn
              · cases hc0
            obtain ⟨b, o, spot⟩ := a
            obtain rfl : spot = none := hspot
            refine ⟨b, o, rfl, q3, fun i y hy => ?_⟩
            obtain ⟨⟨us, r1, r2, r3, r4⟩, _⟩ := hxq i y hy
            have hsz := r1.length
            refine ⟨us, r1, hsz, fun j hj => ?_⟩
            have := r4 j (by omega)
            rw [addr_add, addr_add, ← r2, hsz] at this
            exact this
      · cases hs
    · split at hs
      · obtain rfl := Option.some.inj hs; cases hpl
      · cases hs
    · rename_i fs hu
      split at hs
      · rename_i s0 hs0
        obtain rfl := Option.some.inj hs
        obtain ⟨xs, n, hf, _, hlen, hxl, hget⟩ := DataW.trod_struct hu h
        obtain ⟨g1, g2, g3⟩ := struct_fine hl ht hu
        have := join_rep (w := w) (p := fun b => b < w.heap.size) (cellsOf := P.cellsOf) (fs.toList.map (·.type)) hs0 (by simpa [Sh.plain] using hpl) cs (by rw [hlen, g2, List.map_map]; rfl) fun j t' hj s' hs' hp' => ?_
        · obtain ⟨y, hy, hyo⟩ := this
          exact ⟨y, by simpa only [RepT] using hy, hyo⟩
        · rw [List.getElem?_map] at hj
          cases hfj : fs.toList[j]? with
          | none => rw [hfj] at hj; cases hj
          | some f =>
            rw [hfj] at hj
            obtain rfl : f.type = t' := by simpa using hj
            have hfa : fs[j]? = some f := by rw [← Array.getElem?_toList]; exact hfj
            have hjlt : j < xs.length := by rw [hxl]; exact (Array.getElem?_eq_some_iff.1 hfa).1
            have h1 := hget j f hfa
            rw [List.getElem?_eq_getElem hjlt] at h1
            have hoff := g3 j f hfj
            have e1 : (((fs.toList.map (·.type)).take j).map P.cellsOf).sum = f.offset := by
              rw [hoff, ← List.map_take, List.map_map]; rfl
            rw [e1]
            exact ih n (by omega) f.type _ _ h1 d s' hs' hp' (g1 f (List.mem_of_getElem? hfj))
      · cases hs
    · rename_i n e hu
      split at hs
      · rename_i s0 hs0
        obtain rfl := Option.some.inj hs
        obtain ⟨he, hsz⟩ := array_fine hl ht hu
        have hcl : cs.length = P.cellsOf t ∧ ∀ i, i < n → ∃ m y, m < fuel ∧ DataW.trod enc P w 0 sp held m e ((cs.drop (i * P.cellsOf e)).take (P.cellsOf e)) = some y := by
          obtain ⟨xs, m, hf, _, hlen, hxl, hget⟩ := DataW.trod_array hu h
          refine ⟨hlen, fun i hi => ⟨m, xs[i]'(by omega), by omega, ?_⟩⟩
          rw [hget i hi, List.getElem?_eq_getElem (by omega)]
        have := join_rep (w := w) (p := fun b => b < w.heap.size) (cellsOf := P.cellsOf) (List.replicate n e) hs0 (by simpa [Sh.plain] using hpl) cs (by rw [hcl.1, hsz, List.map_replicate, sum_replicate']) fun j t' hj s' hs' hp' => ?_
        · obtain ⟨y, hy, hyo⟩ := this
          exact ⟨y, by simpa only [RepT] using hy, hyo⟩
        · have hjn : j < n := by have := (List.getElem?_eq_some_iff.1 hj).1; simpa using this
          obtain rfl : e = t' := by simpa [List.getElem?_replicate, hjn] using hj
          obtain ⟨m, y, hm, h1⟩ := hcl.2 j hjn
          rw [List.take_replicate, List.map_replicate, sum_replicate', Nat.min_eq_left (by omega)]
          exact ih m hm e _ _ h1 d s' hs' hp' he
      · cases hs
    · cases hs

/-- The value of a type, as data. -/
theorem value_rep {H : Type} {enc : TypeId × Value → H} {sp : Nat → Bool} {held : Bool} (hl : laidOutB P = true) {t : TypeId} {v : Value} {d : DataW H} {ps : List MemPlace} (h : DataW.Trod enc P w 0 sp held t v d ps) {r : Reach} {base : Nat} (hv : Value.okWide P w r base t v)
    {s : Sh} (hs : shapeOf P t = some s) (hpl : s.plain = true) (ht : t < P.types.size) : ∃ y : s.T, RepC w (fun b => b < w.heap.size) (fun _ => none) (fun _ => .free) (s.cv y) v ∧ s.ok y := by
  obtain ⟨fuel, hf⟩ := h
  unfold shapeOf at hs
  split at hs
  · rename_i s0 hs0
    split at hs
    · obtain rfl := Option.some.inj hs
      obtain ⟨y, hy, hyo⟩ := trod_rep hl fuel t _ _ hf 8 s0 hs0 hpl ht
      refine ⟨y, cv_ok (us := v.cells.toList) hy ?_, hyo⟩
      have hone : s0.isAgg = false → v.cells.toList = [v] := by
        intro hna
        unfold Value.okWide at hv
        split at hv
        · rename_i fs hu
          unfold shOf at hs0
          rw [hu] at hs0
          simp only [] at hs0
          split at hs0
          · obtain rfl := Option.some.inj hs0; cases hna
          · cases hs0
        · rename_i n e hu
          unfold shOf at hs0
          rw [hu] at hs0
          simp only [] at hs0
          split at hs0
          · obtain rfl := Option.some.inj hs0; cases hna
          · cases hs0
        · cases v <;> first | rfl | (simp [Cell.okWide, Cell.ok] at hv)
          all_goals (revert hv; split <;> simp [Cell.ok] <;> (try (split <;> simp)))
      unfold VOf
      split
      · rename_i hag
        have : ∃ cs, v = .agg cs := by
          unfold Value.okWide at hv
          split at hv
          · obtain ⟨cs, rfl, _⟩ := hv; exact ⟨cs, rfl⟩
          · obtain ⟨cs, rfl, _⟩ := hv; exact ⟨cs, rfl⟩
          · rename_i h1 h2
            exfalso
            unfold shOf at hs0
            split at hs0 <;> simp_all <;> (try (split at hs0 <;> simp_all)) <;> (try (subst hs0; cases hag))
        obtain ⟨cs, rfl⟩ := this
        simp [Value.cells]
      · rename_i hag
        exact hone (by simpa using hag)
    · cases hs
  · cases hs
end
end Go.Ev
