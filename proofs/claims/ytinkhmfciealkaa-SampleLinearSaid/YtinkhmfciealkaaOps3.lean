/- Reading memory: loads, addresses, elements, slices. -/
import Derived.Test.YtinkhmfciealkaaOps2
set_option linter.unusedSimpArgs false
namespace Go.Ev
open Go.RowKit

section
variable {w : World} {p : Nat → Prop} {β : Nat → Option Value} {H : Nat → Blk}

theorem repLs_nil : RepLs w p β H [] [] := ⟨rfl, fun i c v h => by simp at h⟩
theorem repLs_one {c : LV} {v : Value} (h : RepL w p β H c v) : RepLs w p β H [c] [v] := by
  refine ⟨rfl, fun i c' v' hc hv => ?_⟩
  cases i with
  | zero => simp at hc hv; subst hc; subst hv; exact h
  | succ i => simp at hc
theorem RepLs.append {cs ds : List LV} {us vs : List Value} (h1 : RepLs w p β H cs us) (h2 : RepLs w p β H ds vs) : RepLs w p β H (cs ++ ds) (us ++ vs) := by
  refine ⟨by simp [h1.1, h2.1], fun i c v hc hv => ?_⟩
  rw [List.getElem?_append] at hc hv
  by_cases hi : i < cs.length
  · rw [if_pos hi] at hc; rw [if_pos (by rw [← h1.1]; exact hi)] at hv; exact h1.2 i c v hc hv
  · rw [if_neg hi] at hc; rw [if_neg (by rw [← h1.1]; exact hi), ← h1.1] at hv; exact h2.2 _ c v hc hv

/-- A typed datum's cells. -/
theorem cells_ok : ∀ {s : Sh} {x : s.T} {us : List Value}, RepT w p s x us → RepLs w p β H (s.cells x) us
  | .int _, _, _, h => by simp only [RepT] at h; subst h; exact repLs_one rfl
  | .bool, _, _, h => by simp only [RepT] at h; subst h; exact repLs_one rfl
  | .str, _, _, h => by simp only [RepT] at h; subst h; exact repLs_one rfl
  | .zf, _, _, h => by
    have h' := h
    simp only [RepT] at h; obtain ⟨b, rfl, _⟩ := h; exact repLs_one h'
  | .zc, _, _, h => by
    have h' := h
    simp only [RepT] at h; obtain ⟨a, b, rfl, _⟩ := h; exact repLs_one h'
  | .slice _, _, _, h => by
    have h' := h
    simp only [RepT] at h; obtain ⟨a, c, rfl, _⟩ := h; exact repLs_one h'
  | .map _ _, _, _, h => by
    have h' := h
    simp only [RepT] at h; obtain ⟨r, rfl, _⟩ := h; exact repLs_one h'
  | .pair a b, x, us, h => by
    simp only [RepT] at h
    obtain ⟨us, ts, rfl, h1, h2⟩ := h
    exact (cells_ok h1).append (cells_ok h2)
  | .agg s, x, us, h => by simp only [RepT] at h; simp only [Sh.cells]; exact cells_ok h
  | .unit, _, _, h => by simp only [RepT] at h; subst h; exact repLs_nil

theorem cv_ok {s : Sh} {x : s.T} {us : List Value} {v : Value} (h : RepT w p s x us) (hv : VOf s.isAgg us v) : RepC w p β H (s.cv x) v := by
  have hc := cells_ok (β := β) (H := H) h
  cases s <;> simp only [Sh.isAgg, VOf, Bool.false_eq_true, if_false, if_true] at hv
  case agg s => subst hv; exact ⟨_, rfl, by simpa [Sh.cells] using hc⟩
  case pair => trivial
  case unit => trivial
  all_goals (subst hv; exact repC_l (hc.2 0 _ _ rfl rfl))

theorem RepLs.uncons {c : LV} {r : List LV} {us : List Value} (h : RepLs w p β H (c :: r) us) : ∃ v vs, us = v :: vs ∧ RepL w p β H c v ∧ RepLs w p β H r vs := by
  cases us with
  | nil => have := h.1; simp at this
  | cons v vs =>
    refine ⟨v, vs, rfl, h.2 0 c v rfl rfl, by have := h.1; simpa using this, fun i c' v' hc hv => h.2 (i + 1) c' v' (by simpa using hc) (by simpa using hv)⟩

/-- What is taken off cells stands for what their values are. -/
theorem take_ok {s : Sh} : ∀ {l : List LV} {x : s.T} {r : List LV}, s.take l = some (x, r) → ∀ {us : List Value}, RepLs w p β H l us →
    RepT w p s x (us.take s.size) ∧ RepLs w p β H r (us.drop s.size) := by
  induction s with
  | pair a b iha ihb =>
    intro l x r h us hl
    simp only [Sh.take] at h
    cases h1 : a.take l with
    | none => rw [h1] at h; cases h
    | some xr =>
      obtain ⟨x1, r1⟩ := xr
      rw [h1] at h
      simp only [] at h
      cases h2 : b.take r1 with
      | none => rw [h2] at h; cases h
      | some yr =>
        obtain ⟨y, r2⟩ := yr
        rw [h2] at h
        obtain ⟨rfl, rfl⟩ := Prod.mk.inj (Option.some.inj h)
        obtain ⟨a1, a2⟩ := iha h1 hl
        obtain ⟨b1, b2⟩ := ihb h2 a2
        refine ⟨⟨us.take a.size, (us.drop a.size).take b.size, ?_, a1, b1⟩, ?_⟩
        · simp only [Sh.size]; rw [List.take_add]
        · simp only [Sh.size]; rw [List.drop_drop] at b2; exact b2
  | agg s ih =>
    intro l x r h us hl
    simp only [Sh.take] at h
    cases h1 : s.take l with
    | none => rw [h1] at h; cases h
    | some xr =>
      obtain ⟨x1, r1⟩ := xr
      rw [h1] at h
      obtain ⟨rfl, rfl⟩ := Prod.mk.inj (Option.some.inj h)
      exact ih h1 hl
  | unit =>
    intro l x r h us hl
    simp only [Sh.take] at h
    obtain ⟨rfl, rfl⟩ := Prod.mk.inj (Option.some.inj h)
    exact ⟨rfl, by simpa [Sh.size] using hl⟩
  | int k =>
    intro l x r h us hl
    cases l with
    | nil => simp [Sh.take] at h
    | cons c l =>
      obtain ⟨v, vs, rfl, h1, h2⟩ := hl.uncons
      cases c <;> simp only [Sh.take, reduceCtorEq] at h
      split at h
      · rename_i e; subst e
        obtain ⟨rfl, rfl⟩ := Prod.mk.inj (Option.some.inj h)
        exact ⟨by simp only [RepL] at h1; subst h1; rfl, h2⟩
      · cases h
  | bool =>
    intro l x r h us hl
    cases l with
    | nil => simp [Sh.take] at h
    | cons c l =>
      obtain ⟨v, vs, rfl, h1, h2⟩ := hl.uncons
      cases c <;> simp only [Sh.take, reduceCtorEq] at h
      obtain ⟨rfl, rfl⟩ := Prod.mk.inj (Option.some.inj h)
      exact ⟨by simp only [RepL] at h1; subst h1; rfl, h2⟩
  | str =>
    intro l x r h us hl
    cases l with
    | nil => simp [Sh.take] at h
    | cons c l =>
      obtain ⟨v, vs, rfl, h1, h2⟩ := hl.uncons
      cases c <;> simp only [Sh.take, reduceCtorEq] at h
      obtain ⟨rfl, rfl⟩ := Prod.mk.inj (Option.some.inj h)
      exact ⟨by simp only [RepL] at h1; subst h1; rfl, h2⟩
  | zf =>
    intro l x r h us hl
    cases l with
    | nil => simp [Sh.take] at h
    | cons c l =>
      obtain ⟨v, vs, rfl, h1, h2⟩ := hl.uncons
      cases c <;> simp only [Sh.take, reduceCtorEq] at h
      obtain ⟨rfl, rfl⟩ := Prod.mk.inj (Option.some.inj h)
      exact ⟨h1, h2⟩
  | zc =>
    intro l x r h us hl
    cases l with
    | nil => simp [Sh.take] at h
    | cons c l =>
      obtain ⟨v, vs, rfl, h1, h2⟩ := hl.uncons
      cases c <;> simp only [Sh.take, reduceCtorEq] at h
      obtain ⟨rfl, rfl⟩ := Prod.mk.inj (Option.some.inj h)
      exact ⟨h1, h2⟩
  | slice e ih =>
    intro l x r h us hl
    cases l with
    | nil => simp [Sh.take] at h
    | cons c l =>
      obtain ⟨v, vs, rfl, h1, h2⟩ := hl.uncons
      cases c <;> simp only [Sh.take, reduceCtorEq] at h
      · split at h
        · rename_i e; subst e
          obtain ⟨rfl, rfl⟩ := Prod.mk.inj (Option.some.inj h)
          exact ⟨h1, h2⟩
        · cases h
      · obtain ⟨rfl, rfl⟩ := Prod.mk.inj (Option.some.inj h)
        simp only [RepL] at h1
        subst h1
        exact ⟨⟨none, 0, rfl, ⟨Nat.le_refl _, fun _ => rfl⟩, .inl rfl⟩, h2⟩
  | map k v ihk ihv =>
    intro l x r h us hl
    cases l with
    | nil => simp [Sh.take] at h
    | cons c l =>
      obtain ⟨u, vs, rfl, h1, h2⟩ := hl.uncons
      cases c <;> simp only [Sh.take, reduceCtorEq] at h
      split at h
      · rename_i e; obtain ⟨e1, e2⟩ := e; subst e1; subst e2
        obtain ⟨rfl, rfl⟩ := Prod.mk.inj (Option.some.inj h)
        exact ⟨h1, h2⟩
      · cases h

theorem build_ok {s : Sh} {l : List LV} {x : s.T} (h : s.build l = some x) {us : List Value} (hl : RepLs w p β H l us) : RepT w p s x us := by
  unfold Sh.build at h
  split at h
  · rename_i y hy
    obtain rfl := Option.some.inj h
    obtain ⟨h1, h2⟩ := take_ok hy hl
    have : us.drop s.size = [] := List.eq_nil_of_length_eq_zero (by rw [← h2.1]; rfl)
    rw [List.drop_eq_nil_iff] at this
    rwa [List.take_of_length_le this] at h1
  · cases h

theorem rows_ok {s : Sh} : ∀ {n : Nat} {l : List LV} {xs : List s.T}, s.rows n l = some xs → ∀ {us : List Value}, RepLs w p β H l us → xs.length = n ∧ Rows' s.size (RepT w p s) xs us
  | 0, [], xs, h, us, hl => by
    simp only [Sh.rows] at h
    obtain rfl := Option.some.inj h
    have : us = [] := List.eq_nil_of_length_eq_zero hl.1.symm
    subst this
    exact ⟨rfl, by simp [Rows']⟩
  | 0, _ :: _, xs, h, us, hl => by simp only [Sh.rows] at h; cases h
  | n + 1, l, xs, h, us, hl => by
    simp only [Sh.rows] at h
    cases h1 : s.take l with
    | none => rw [h1] at h; cases h
    | some xr =>
      obtain ⟨x, r⟩ := xr
      rw [h1] at h
      simp only [] at h
      cases h2 : s.rows n r with
      | none => rw [h2] at h; cases h
      | some ys =>
        rw [h2] at h
        obtain rfl := Option.some.inj h
        obtain ⟨a1, a2⟩ := take_ok h1 hl
        obtain ⟨b1, b2, b3⟩ := rows_ok h2 a2
        have hlen := a1.length
        have hle : s.size ≤ us.length := by rw [List.length_take] at hlen; omega
        refine ⟨by simp [b1], ?_, fun i y hy => ?_⟩
        · rw [List.length_drop] at b2
          rw [List.length_cons, Nat.add_mul, Nat.one_mul]
          omega
        · cases i with
          | zero => simp at hy; subst hy; simpa using a1
          | succ i =>
            have := b3 i y (by simpa using hy)
            rw [List.drop_drop] at this
            rw [Nat.add_mul, Nat.one_mul, Nat.add_comm]
            exact this

/-- The cells of rows. -/
theorem rows_cells {s : Sh} : ∀ {xs : List s.T} {us : List Value}, Rows' s.size (RepT w p s) xs us → RepLs w p β H (xs.flatMap s.cells) us
  | [], us, h => by
    have : us = [] := List.eq_nil_of_length_eq_zero (by simpa using h.1)
    subst this
    exact repLs_nil
  | x :: xs, us, h => by
    have h0 := h.2 0 x rfl
    simp only [Nat.zero_mul, List.drop_zero] at h0
    have hr : Rows' s.size (RepT w p s) xs (us.drop s.size) := by
      refine ⟨by rw [List.length_drop, h.1, List.length_cons, Nat.add_mul]; omega, fun i y hy => ?_⟩
      have := h.2 (i + 1) y (by simpa using hy)
      rw [List.drop_drop]
      rwa [Nat.add_mul, Nat.one_mul, Nat.add_comm] at this
    have h2 := (cells_ok (β := β) (H := H) h0).append (rows_cells hr)
    rw [List.take_append_drop] at h2
    exact h2

/-! ### Loads -/

theorem isAgg_iff {P : Program} {T : TypeId} {d : TypeDesc} (h : P.underlying T = some d) : (P.info? T).isSome = true := by
  obtain ⟨i, hi⟩ := info_of_underlying h; simp [hi]

theorem load_ok {P : Program} {T : TypeId} {cs : List LV} {us : List Value} {b base off : Nat} {c : CV} (hr : RepLs w p β H cs us)
    (hc : ∀ j, j < us.length → w.cell? ⟨b, base + j, none⟩ = us[j]?) (hp : partOf P T cs off = some c) :
    ∃ v, (loadVar T ⟨b, base + off, none⟩).run P w = .ok v w ∧ RepC w p β H c v := by
  unfold partOf at hp
  cases hu : P.underlying T with
  | none => rw [hu] at hp; cases hp
  | some d =>
    rw [hu] at hp
    simp only [] at hp
    unfold loadVar
    rw [Sem.run_bind, run_isAgg' hu]
    simp only [Result.andThen_ok]
    split at hp
    · rename_i ha
      split at hp
      · rename_i hle
        obtain rfl := Option.some.inj hp
        rw [if_pos ha]
        have hlen : ((us.drop off).take (P.cellsOf T)).length = P.cellsOf T := by
          rw [List.length_take, List.length_drop, ← hr.1]; omega
        have hl := run_loadCells_list (P := P) w ⟨b, base + off, none⟩ ((us.drop off).take (P.cellsOf T)) (fun j v hj => by
          rw [Addr.add_lit]
          rw [List.getElem?_take] at hj
          split at hj
          · rename_i hjl
            rw [List.getElem?_drop] at hj
            have hlt : off + j < us.length := (List.getElem?_eq_some_iff.1 hj).1
            have := hc (off + j) hlt
            rw [show base + off + j = base + (off + j) from by omega, this, hj]
          · cases hj)
        rw [hlen] at hl
        exact ⟨_, by rw [Sem.run_bind, run_sizeOf' (isAgg_iff hu)]; simp only [Result.andThen_ok, Sem.run_bind, hl, Sem.run_pure], _, rfl, hr.part off _⟩
      · cases hp
    · rename_i ha
      rw [if_neg ha]
      cases hcs : cs[off]? with
      | none => rw [hcs] at hp; cases hp
      | some x =>
        rw [hcs] at hp
        obtain rfl := Option.some.inj hp
        have hlt : off < us.length := by rw [← hr.1]; exact (List.getElem?_eq_some_iff.1 hcs).1
        have hv := hc off hlt
        rw [List.getElem?_eq_getElem hlt] at hv
        exact ⟨_, by simp [hv], repC_l (hr.2 off x _ hcs (List.getElem?_eq_getElem hlt))⟩
end

section
variable {B0 : Nat} {w0 : Base} {β : Nat → Option Value} {p : Nat → Prop} {s : PS} {a : Act} {w : World}

/-- The cells of a block of the store, in memory. -/
theorem Inv.cellsAt (h : Inv B0 w0 β p s a w) {t : Nat} {r : Value} {b : Nat} (hr : β t = some r) (hb : rootBlock r = some b) {cs : List LV} (hs : s.blk t = .cells cs) :
    ∃ vs T, r = .pointer (some ⟨b, 0, none⟩) ∧ B0 ≤ b ∧ w.heap[b]? = some (.cells vs T (0, 0)) ∧ RepLs w p β s.blk cs vs.toList := by
  have := h.blk hr
  rw [hs] at this
  obtain ⟨b', vs, T, rfl, h1, h2, h3⟩ := this
  obtain rfl := Option.some.inj hb
  exact ⟨vs, T, rfl, h1, h2, h3⟩
theorem Inv.arrAt (h : Inv B0 w0 β p s a w) {t : Nat} {r : Value} {b : Nat} (hr : β t = some r) (hb : rootBlock r = some b) {e : Sh} {xs : List e.T} (hs : s.blk t = .arr e xs) :
    ∃ vs T, r = .pointer (some ⟨b, 0, none⟩) ∧ B0 ≤ b ∧ w.heap[b]? = some (.cells vs T (0, 0)) ∧ 0 < e.size ∧ Rows' e.size (RepT w p e) xs vs.toList := by
  have := h.blk hr
  rw [hs] at this
  obtain ⟨b', vs, T, rfl, h1, h2, h3, h4⟩ := this
  obtain rfl := Option.some.inj hb
  exact ⟨vs, T, rfl, h1, h2, h3, h4⟩
theorem Inv.bufAt (h : Inv B0 w0 β p s a w) {t : Nat} {r : Value} {b : Nat} (hr : β t = some r) (hb : rootBlock r = some b) {T : TypeId} {e : Sh} {xs : List e.T} (hs : s.blk t = .buf T e xs) :
    ∃ cap cur us, r = .slice (some ⟨b, 0, none⟩) xs.length cap ∧ B0 ≤ b ∧ w.heap[b]? = some (.cells cur T (0, 0)) ∧ xs.length ≤ cap ∧ cap ≤ maxLen ∧ cur.size = cap * e.size ∧ us = cur.toList.take (xs.length * e.size) ∧ 0 < e.size ∧ Rows' e.size (RepT w p e) xs us := by
  have := h.blk hr
  rw [hs] at this
  obtain ⟨us, h1, h2, h3⟩ := this
  obtain ⟨h4, h5⟩ := h1
  rcases h5 with ⟨rfl, _⟩ | ⟨g, cap, cur, rfl, h6, h7, h8, h9, h10, h11⟩
  · cases hb
  · obtain rfl := Option.some.inj hb
    exact ⟨cap, cur, us, rfl, h6, h7, h8, h9, h10, h11.symm, h2, h3⟩

theorem cell_of {g j : Nat} {cs : Array Value} {t : TypeId} {fr : Nat × Nat} (hg : w.heap[g]? = some (.cells cs t fr)) : w.cell? ⟨g, j, none⟩ = cs.toList[j]? := by
  rw [cell_of_row w g j cs t fr hg, Array.getElem?_toList]

/-- The rows of a block of the store, in memory. -/
theorem Inv.rowsAt (h : Inv B0 w0 β p s a w) {t : Nat} {r : Value} {b : Nat} (hr : β t = some r) (hb : rootBlock r = some b) {e : Sh} {xs : List e.T} (hs : (∃ T, s.blk t = .buf T e xs) ∨ s.blk t = .arr e xs) :
    ∃ us, 0 < e.size ∧ Rows' e.size (RepT w p e) xs us ∧ ∀ j, j < us.length → w.cell? ⟨b, j, none⟩ = us[j]? := by
  rcases hs with ⟨T, hs⟩ | hs
  · obtain ⟨cap, cur, us, _, _, hh, _, _, _, hu, he, hrow⟩ := h.bufAt hr hb hs
    refine ⟨us, he, hrow, fun j hj => ?_⟩
    rw [cell_of hh, hu, List.getElem?_take]
    rw [hrow.1] at hj
    rw [if_pos hj]
  · obtain ⟨vs, T, _, _, hh, he, hrow⟩ := h.arrAt hr hb hs
    exact ⟨vs.toList, he, hrow, fun j _ => cell_of hh⟩

theorem elem_at {e : Sh} {xs : List e.T} {us : List Value} {b i : Nat} {x : e.T} (hrow : Rows' e.size (RepT w p e) xs us) (hc : ∀ j, j < us.length → w.cell? ⟨b, j, none⟩ = us[j]?) (hx : xs[i]? = some x) :
    RepT w p e x ((us.drop (i * e.size)).take e.size) ∧ ((us.drop (i * e.size)).take e.size).length = e.size ∧ ∀ j, j < e.size → w.cell? ⟨b, i * e.size + j, none⟩ = ((us.drop (i * e.size)).take e.size)[j]? := by
  have hr := hrow.2 i x hx
  have hi : i < xs.length := (List.getElem?_eq_some_iff.1 hx).1
  have hle : (i + 1) * e.size ≤ us.length := by rw [hrow.1]; exact Nat.mul_le_mul_right _ hi
  rw [Nat.add_mul, Nat.one_mul] at hle
  refine ⟨hr, hr.length, fun j hj => ?_⟩
  rw [List.getElem?_take, if_pos hj, List.getElem?_drop]
  exact hc _ (by omega)
end

section
variable {P : Program} {s s' : PS} {o : Oper}

theorem getD_get {α : Type} {xs : List α} {i : Nat} (d : α) (h : i < xs.length) : xs[i]? = some (xs.getD i d) := by
  rw [List.getD_eq_getElem?_getD, List.getElem?_eq_getElem h]; rfl

theorem step_load {T : TypeId} {x : Operand} (ho : o.op = .load T x) (h : loadOp P s o T (evL s x) = some (true, s')) : StepOk P s o s' := by
  unfold loadOp at h
  split at h
  · rename_i t sz i off hx
    have hne : evL s x ≠ .undef := by rw [hx]; intro e; cases e
    -- what is loaded, in each of the kinds of blocks
    have elem : ∀ (e : Sh) (xs : List e.T), ((∃ U, s.blk t = .buf U e xs) ∨ s.blk t = .arr e xs) → sz = e.size → ∀ v, partOf P T (e.cells (xs.getD i e.dflt)) off = some v → ok s o (.c v) = some (true, s') → StepOk P s o s' := by
      intro e xs hs hsz v hv hok
      obtain rfl := congrArg Prod.snd (okStep hok)
      refine StepOk.value fun B0 w0 β p a w inv => ?_
      have cx := evL_ok inv x hne
      rw [hx] at cx
      obtain ⟨r, b, hr, hb, ex, hok⟩ := cx
      obtain ⟨us, he, hrow, hc⟩ := inv.rowsAt hr hb hs
      have hi : i < xs.length := by
        rcases hs with ⟨U, hs⟩ | hs
        · rw [hs] at hok; exact hok.2
        · rw [hs] at hok; rcases hok with ⟨h0, _⟩ | h; · omega
          · exact h.2
      obtain ⟨r1, r2, r3⟩ := elem_at hrow hc (getD_get e.dflt hi)
      obtain ⟨u, hu, cu⟩ := load_ok (P := P) (T := T) (β := β) (H := s.blk) (cells_ok r1) (fun j hj => r3 j (by rwa [r2] at hj)) hv
      refine ⟨u, ?_, cu⟩
      rw [hsz] at ex
      simp [execOp, ho, ex, Instr.loadAt, Instr.sureAddr, hu]
    split at h
    · rename_i cs hs
      split at h
      · rename_i v hv
        obtain rfl := congrArg Prod.snd (okStep h)
        refine StepOk.value fun B0 w0 β p a w inv => ?_
        have cx := evL_ok inv x hne
        rw [hx] at cx
        obtain ⟨r, b, hr, hb, ex, hok⟩ := cx
        rw [hs] at hok
        obtain ⟨vs, U, _, _, hh, hl⟩ := inv.cellsAt hr hb hs
        obtain ⟨u, hu, cu⟩ := load_ok (P := P) (T := T) (b := b) (base := 0) hl (fun j _ => by rw [Nat.zero_add]; exact cell_of hh) hv
        refine ⟨u, ?_, cu⟩
        have hz : i * sz + off = 0 + off := by rw [show sz = 0 from hok, Nat.mul_zero]
        rw [hz] at ex
        simp [execOp, ho, ex, Instr.loadAt, Instr.sureAddr] at hu ⊢
        rw [hu]; rfl
      · cases h
    · rename_i e xs hs
      split at h
      · rename_i hsz
        split at h
        · rename_i v hv
          exact elem e xs (.inr hs) hsz v hv h
        · cases h
      · split at h
        · rename_i hsz0 hsz
          obtain ⟨hsz, hi, hoff, ha, hu⟩ := hsz
          obtain ⟨d, hu⟩ := Option.isSome_iff_exists.1 hu
          obtain ⟨h1, rfl⟩ := Prod.mk.inj (Option.some.inj h)
          have h1 : xs.length * e.size = P.cellsOf T := of_decide_eq_true h1
          refine StepOk.value fun B0 w0 β p a w inv => ?_
          have cx := evL_ok inv x hne
          rw [hx] at cx
          obtain ⟨r, b, hr, hb, ex, hok⟩ := cx
          obtain ⟨us, he, hrow, hc⟩ := inv.rowsAt hr hb (.inr hs)
          have hcs := rows_cells (β := β) (H := s.blk) hrow
          have hv : partOf P T (xs.flatMap e.cells) 0 = some (.agg (((xs.flatMap e.cells).drop 0).take (P.cellsOf T))) := by
            unfold partOf
            rw [hu]
            simp only []
            rw [if_pos ha, if_pos (by rw [hcs.1, hrow.1, h1]; omega)]
          have hfull : ((xs.flatMap e.cells).drop 0).take (P.cellsOf T) = xs.flatMap e.cells := by
            rw [List.drop_zero, List.take_of_length_le (by rw [hcs.1, hrow.1, h1]; omega)]
          rw [hfull] at hv
          obtain ⟨u, hru, cu⟩ := load_ok (P := P) (T := T) (b := b) (base := 0) hcs (fun j hj => by rw [Nat.zero_add]; exact hc j hj) hv
          refine ⟨u, ?_, cu⟩
          have hz : i * sz + off = 0 + 0 := by rw [hsz, hoff, Nat.mul_zero]
          rw [hz] at ex
          simp [execOp, ho, ex, Instr.loadAt, Instr.sureAddr] at hru ⊢
          rw [hru]; rfl
        · cases h
    · rename_i U e xs hs
      split at h
      · rename_i hsz
        split at h
        · rename_i v hv
          exact elem e xs (.inl ⟨U, hs⟩) hsz v hv h
        · cases h
      · cases h
    · cases h
  · rename_i sh y off hx
    have hne : evL s x ≠ .undef := by rw [hx]; intro e; cases e
    split at h
    · rename_i v hv
      obtain rfl := congrArg Prod.snd (okStep h)
      refine StepOk.value fun B0 w0 β p a w inv => ?_
      have cx := evL_ok inv x hne
      rw [hx] at cx
      obtain ⟨b, q, us, ex, hb, hr, hc⟩ := cx
      obtain ⟨u, hu, cu⟩ := load_ok (P := P) (T := T) (b := b) (base := q) (β := β) (H := s.blk) (cells_ok hr) hc hv
      exact ⟨u, by simp [execOp, ho, ex, Instr.loadAt, Instr.sureAddr, hu], cu⟩
    · cases h
  · cases h

theorem step_fieldAddr {T : TypeId} {x : Operand} {f : Nat} (ho : o.op = .fieldAddr T x f) (h : fieldAddrOp P s o T f (evL s x) = some (true, s')) : StepOk P s o s' := by
  unfold fieldAddrOp at h
  split at h
  · rename_i fs hu
    split at h
    · rename_i fd hf
      split at h
      · cases h
      · rename_i hsz
        have hinfo : (P.info? fd.type).isSome = true := by
          cases hi : P.info? fd.type with
          | none => exact absurd (by simp [Program.cellsOf, hi]) hsz
          | some i => rfl
        have hplace : ∀ (w : World) (b q : Nat), (fieldPlace ⟨b, q, none⟩ fd).run P w = .ok ⟨b, q + fd.offset, none⟩ w := by
          intro w b q
          unfold fieldPlace
          rw [Sem.run_bind, run_sizeOf' hinfo]
          simp only [Result.andThen_ok, hsz, if_false, Sem.run_pure, Addr.add_lit]
        split at h
        · rename_i t sz i off hx
          obtain rfl := congrArg Prod.snd (okL_eq h)
          refine StepOk.value fun B0 w0 β p a w inv => ?_
          have cx := evL_ok inv x (by rw [hx]; intro e; cases e)
          rw [hx] at cx
          obtain ⟨r, b, hr, hb, ex, hok⟩ := cx
          refine ⟨.pointer (some ⟨b, i * sz + off + fd.offset, none⟩), ?_, repC_l (w := w) (p := p) (β := β) (H := s.blk) (c := .ref t sz i (off + fd.offset)) ⟨r, b, hr, hb, by rw [Nat.add_assoc], hok⟩⟩
          simp [execOp, ho, ex, Instr.fieldAt, run_underlying hu, hf, Instr.sureAddr, hplace]
        · rename_i sh y off hx
          obtain rfl := congrArg Prod.snd (okL_eq h)
          refine StepOk.value fun B0 w0 β p a w inv => ?_
          have cx := evL_ok inv x (by rw [hx]; intro e; cases e)
          rw [hx] at cx
          obtain ⟨b, q, us, ex, hb, hr, hc⟩ := cx
          refine ⟨.pointer (some ⟨b, q + off + fd.offset, none⟩), ?_, repC_l (w := w) (p := p) (β := β) (H := s.blk) (c := .iptr sh y (off + fd.offset)) ⟨b, q, us, by rw [Nat.add_assoc], hb, hr, hc⟩⟩
          simp [execOp, ho, ex, Instr.fieldAt, run_underlying hu, hf, Instr.sureAddr, hplace]
        · cases h
    · cases h
  · cases h

theorem inBounds_iff {i : Int} {n : Nat} (h : inBounds i n = true) : 0 ≤ i ∧ i < n ∧ i.toNat < n := by
  simp only [inBounds, Bool.and_eq_true, decide_eq_true_eq] at h
  omega

theorem info_size {P : Program} {E : TypeId} {n : Nat} (hn : 0 < n) (hE : n = P.cellsOf E) : (P.info? E).isSome = true := by
  cases hi : P.info? E with
  | none => simp [Program.cellsOf, hi] at hE; omega
  | some i => rfl

theorem run_index_slice {T E : TypeId} {x y : Operand} {k : IntKind} {i : Int} (ho : o.op = .indexAddr T x y) (hu : P.underlying T = some (.slice E)) (a : Act) (w : World) (b q len cap : Nat) (hi : (P.info? E).isSome = true)
    (ex : a.eval x = .slice (some ⟨b, q, none⟩) len cap) (ey : a.eval y = .int k i) (h0 : 0 ≤ i) (h1 : i < len) :
    (execOp a.eval o).run P w = .ok (.value (.pointer (some ⟨b, q + i.toNat * P.cellsOf E, none⟩))) w := by
  simp [execOp, ho, ex, ey, Instr.indexAt, asIntOf, run_underlying hu, h0, h1, run_sizeOf' hi, Addr.add_lit]

theorem run_index_array {T E : TypeId} {n : Nat} {x y : Operand} {k : IntKind} {i : Int} (ho : o.op = .indexAddr T x y) (hu : P.underlying T = some (.array n E)) (a : Act) (w : World) (b q : Nat) (hi : (P.info? E).isSome = true)
    (ex : a.eval x = .pointer (some ⟨b, q, none⟩)) (ey : a.eval y = .int k i) (h0 : 0 ≤ i) (h1 : i < n) :
    (execOp a.eval o).run P w = .ok (.value (.pointer (some ⟨b, q + i.toNat * P.cellsOf E, none⟩))) w := by
  simp [execOp, ho, ex, ey, Instr.indexAt, asIntOf, run_underlying hu, Instr.sureAddr, h0, h1, run_sizeOf' hi, Addr.add_lit]

theorem step_indexAddr_slice {T E : TypeId} (hu : P.underlying T = some (.slice E)) {x y : Operand} {k : IntKind} {i : Int} (ho : o.op = .indexAddr T x y) (hy : evL s y = .int k i) (h : indexAddrOp P s o T (evL s x) i = some (true, s')) : StepOk P s o s' := by
  unfold indexAddrOp at h
  rw [hu] at h
  simp only [] at h
  split at h
  · rename_i e xs hx
    split at h
    · rename_i hsz
      obtain ⟨h1, rfl⟩ := Prod.mk.inj (Option.some.inj h)
      obtain ⟨hb0, hb1, hb2⟩ := inBounds_iff h1
      refine StepOk.value fun B0 w0 β p a w inv => ?_
      have cx := evL_ok inv x (by rw [hx]; intro e; cases e)
      rw [hx] at cx
      have ey := evL_int inv hy
      simp only [RepL, RepT] at cx
      obtain ⟨ad, cap, ex, hcap, hcx⟩ := cx
      have ex : a.eval x = .slice ad xs.length cap := by simpa using ex
      rcases hcx with rfl | ⟨b, q, rfl, hb, hel⟩
      · simp at hb2
      obtain ⟨us, r1, r2, r3⟩ := hel i.toNat _ (getD_get e.dflt hb2)
      have hinfo : (P.info? E).isSome = true := hsz.2
      refine ⟨.pointer (some ⟨b, q + i.toNat * P.cellsOf E, none⟩), run_index_slice ho hu a w b q _ cap hinfo ex ey hb0 hb1, repC_l (w := w) (p := p) (β := β) (H := s.blk) (c := .iptr e (xs.getD i.toNat e.dflt) 0) ⟨b, q + i.toNat * e.size, us, ?_, hb, r1, fun j hj => ?_⟩⟩
      · rw [hsz.1, Nat.add_zero]
      · exact r3 j (by rwa [r2] at hj)
    · cases h
  · rename_i t hx
    split at h
    · rename_i U e xs hs
      split at h
      · rename_i hsz
        obtain ⟨h1, rfl⟩ := Prod.mk.inj (Option.some.inj h)
        obtain ⟨hb0, hb1, hb2⟩ := inBounds_iff h1
        refine StepOk.value fun B0 w0 β p a w inv => ?_
        have cx := evL_ok inv x (by rw [hx]; intro e; cases e)
        rw [hx] at cx
        have ey := evL_int inv hy
        obtain ⟨hr, _, _⟩ := cx
        have hrep := inv.blk hr
        rw [hs] at hrep
        obtain ⟨us, ⟨hl, hown⟩, he, _⟩ := hrep
        rcases hown with ⟨_, hn⟩ | ⟨g, cap, cur, ex, _⟩
        · omega
        refine ⟨.pointer (some ⟨g, 0 + i.toNat * P.cellsOf E, none⟩), run_index_slice ho hu a w g 0 _ cap (info_size he hsz) ex ey hb0 hb1, repC_l (w := w) (p := p) (β := β) (H := s.blk) (c := .ref t e.size i.toNat 0) ⟨_, g, hr, by rw [ex]; rfl, by rw [hsz, Nat.zero_add, Nat.add_zero], ?_⟩⟩
        rw [hs]; exact ⟨rfl, hb2⟩
      · cases h
    · cases h
  · rename_i t sz off len hx
    split at h
    · rename_i hsz
      obtain ⟨h1, rfl⟩ := Prod.mk.inj (Option.some.inj h)
      obtain ⟨hb0, hb1, hb2⟩ := inBounds_iff h1
      refine StepOk.value fun B0 w0 β p a w inv => ?_
      have cx := evL_ok inv x (by rw [hx]; intro e; cases e)
      rw [hx] at cx
      have ey := evL_int inv hy
      obtain ⟨ad, cap, r, ex, hcap, hr, hok, hrest⟩ := cx
      obtain ⟨b, hb, rfl⟩ := hrest
      have hrep := inv.blk hr
      have hpos : 0 < sz ∧ refOk (s.blk t) sz (off + i.toNat) := by
        cases hs : s.blk t with
        | arr e xs =>
          rw [hs] at hok hrep
          obtain ⟨rfl, hle⟩ := hok
          obtain ⟨_, _, _, _, _, _, he, _⟩ := hrep
          exact ⟨he, .inr ⟨rfl, by omega⟩⟩
        | buf U e xs =>
          rw [hs] at hok hrep
          obtain ⟨rfl, hle⟩ := hok
          obtain ⟨_, _, he, _⟩ := hrep
          exact ⟨he, rfl, by omega⟩
        | free => rw [hs] at hok; exact hok.elim
        | cells cs => rw [hs] at hok; exact hok.elim
        | map k v es => rw [hs] at hok; exact hok.elim
      refine ⟨.pointer (some ⟨b, off * sz + i.toNat * P.cellsOf E, none⟩), run_index_slice ho hu a w b (off * sz) _ cap (info_size hpos.1 hsz) ex ey hb0 hb1, repC_l (w := w) (p := p) (β := β) (H := s.blk) (c := .ref t sz (off + i.toNat) 0) ⟨r, b, hr, hb, ?_, hpos.2⟩⟩
      rw [Nat.add_mul, hsz, Nat.add_zero]
    · cases h
  · cases h

theorem step_indexAddr_array {T E : TypeId} {n : Nat} (hu : P.underlying T = some (.array n E)) {x y : Operand} {k : IntKind} {i : Int} (ho : o.op = .indexAddr T x y) (hy : evL s y = .int k i) (h : indexAddrOp P s o T (evL s x) i = some (true, s')) : StepOk P s o s' := by
  unfold indexAddrOp at h
  rw [hu] at h
  simp only [] at h
  split at h
  · cases h
  · rename_i hinf
    have hinfo : (P.info? E).isSome = true := by
      cases hi : P.info? E with
      | none => simp [hi] at hinf
      | some i => rfl
    split at h
    · rename_i t sz j off hx
      split at h
      · rename_i e xs hs
        split at h
        · rename_i hc
          obtain ⟨hsz, rfl, rfl, rfl, hn⟩ := hc
          obtain ⟨h1, rfl⟩ := Prod.mk.inj (Option.some.inj h)
          simp only [Bool.and_eq_true, decide_eq_true_eq] at h1
          obtain ⟨h1, hnl⟩ := h1
          obtain ⟨hb0, hb1, hb2⟩ := inBounds_iff h1
          refine StepOk.value fun B0 w0 β p a w inv => ?_
          have cx := evL_ok inv x (by rw [hx]; intro e; cases e)
          rw [hx] at cx
          have ey := evL_int inv hy
          obtain ⟨r, b, hr, hb, ex, hok⟩ := cx
          simp only [Nat.mul_zero, Nat.add_zero] at ex
          refine ⟨.pointer (some ⟨b, 0 + i.toNat * P.cellsOf E, none⟩), run_index_array ho hu a w b 0 hinfo ex ey hb0 hb1, repC_l (w := w) (p := p) (β := β) (H := s.blk) (c := .ref t e.size i.toNat 0) ⟨r, b, hr, hb, by rw [hsz, Nat.zero_add, Nat.add_zero], ?_⟩⟩
          rw [hs]; exact .inr ⟨rfl, by omega⟩
        · cases h
      · rename_i cs hs
        split at h
        · obtain ⟨h1, rfl⟩ := Prod.mk.inj (Option.some.inj h)
          obtain ⟨hb0, hb1, hb2⟩ := inBounds_iff h1
          refine StepOk.value fun B0 w0 β p a w inv => ?_
          have cx := evL_ok inv x (by rw [hx]; intro e; cases e)
          rw [hx] at cx
          have ey := evL_int inv hy
          obtain ⟨r, b, hr, hb, ex, hok⟩ := cx
          exact ⟨.pointer (some ⟨b, j * sz + off + i.toNat * P.cellsOf E, none⟩), run_index_array ho hu a w b _ hinfo ex ey hb0 hb1, repC_l (w := w) (p := p) (β := β) (H := s.blk) (c := .ref t sz j (off + i.toNat * P.cellsOf E)) ⟨r, b, hr, hb, by rw [Nat.add_assoc], hok⟩⟩
        · cases h
      · cases h
    · rename_i sh y' off hx
      split at h
      · obtain ⟨h1, rfl⟩ := Prod.mk.inj (Option.some.inj h)
        obtain ⟨hb0, hb1, hb2⟩ := inBounds_iff h1
        refine StepOk.value fun B0 w0 β p a w inv => ?_
        have cx := evL_ok inv x (by rw [hx]; intro e; cases e)
        rw [hx] at cx
        have ey := evL_int inv hy
        obtain ⟨b, q, us, ex, hb, hr, hc⟩ := cx
        exact ⟨.pointer (some ⟨b, q + off + i.toNat * P.cellsOf E, none⟩), run_index_array ho hu a w b _ hinfo ex ey hb0 hb1, repC_l (w := w) (p := p) (β := β) (H := s.blk) (c := .iptr sh y' (off + i.toNat * P.cellsOf E)) ⟨b, q, us, by rw [Nat.add_assoc], hb, hr, hc⟩⟩
      · cases h
    · cases h

theorem step_indexAddr {T : TypeId} {x y : Operand} {k : IntKind} {i : Int} (ho : o.op = .indexAddr T x y) (hy : evL s y = .int k i) (h : indexAddrOp P s o T (evL s x) i = some (true, s')) : StepOk P s o s' := by
  cases hu : P.underlying T with
  | none => unfold indexAddrOp at h; rw [hu] at h; cases h
  | some d =>
    cases d
    case slice E => exact step_indexAddr_slice hu ho hy h
    case array n E => exact step_indexAddr_array hu ho hy h
    all_goals (unfold indexAddrOp at h; rw [hu] at h; cases h)

theorem step_field {T : TypeId} {x : Operand} {f : Nat} (ho : o.op = .field T x f) (h : fieldOp P s o T f (evC s x) = some (true, s')) : StepOk P s o s' := by
  unfold fieldOp at h
  split at h
  · rename_i fs cs hu hx
    split at h
    · rename_i fd hf
      split at h
      · rename_i v hv
        obtain rfl := congrArg Prod.snd (okStep h)
        refine StepOk.value fun B0 w0 β p a w inv => ?_
        have cx := evC_ok inv x
        rw [hx] at cx
        obtain ⟨vs, ex, hl⟩ := cx
        obtain ⟨u, hu', cu⟩ := part_ok (P := P) hl hv
        exact ⟨u, by simp [execOp, ho, ex, Instr.field, run_underlying hu, hf, asAgg, hu'], cu⟩
      · cases h
    · cases h
  · cases h

theorem VOf_of_part {P : Program} {E : TypeId} {d : TypeDesc} {vs : Array Value} {off : Nat} {w : World} (hu : P.underlying E = some d) (hle : off + P.cellsOf E ≤ vs.size) (h1 : isAggT P E = false → P.cellsOf E = 1) :
    ∃ u, (part E vs off).run P w = .ok u w ∧ VOf (isAggT P E) ((vs.toList.drop off).take (P.cellsOf E)) u := by
  unfold part
  rw [Sem.run_bind, run_isAgg' hu]
  simp only [Result.andThen_ok]
  by_cases ha : isAggT P E = true
  · rw [if_pos ha, ha]
    refine ⟨_, by rw [Sem.run_bind, run_sizeOf' (isAgg_iff hu)]; rfl, ?_⟩
    simp only [VOf, if_true]
    congr 1
    apply Array.ext'
    simp [Array.toList_extract, List.extract_eq_take_drop]
  · have ha' : isAggT P E = false := by simpa using ha
    rw [if_neg ha, ha']
    have hs := h1 ha'
    have hlt : off < vs.size := by omega
    rw [Array.getElem?_eq_getElem hlt]
    refine ⟨_, rfl, ?_⟩
    simp only [VOf, Bool.false_eq_true, if_false, hs]
    rw [List.take_one, List.head?_drop]
    simp [hlt]

theorem step_index {T : TypeId} {x y : Operand} {k : IntKind} {i : Int} (ho : o.op = .index T x y) (hy : evL s y = .int k i) (h : indexOp P s o T (evC s x) i = some (true, s')) : StepOk P s o s' := by
  unfold indexOp at h
  split at h
  · rename_i n E cs hu hx
    split at h
    · rename_i e he
      split at h
      · rename_i xs hrows
        split at h
        · rename_i hc
          obtain ⟨hagg, hsz, hone⟩ := hc
          obtain ⟨h1, rfl⟩ := Prod.mk.inj (Option.some.inj h)
          obtain ⟨hb0, hb1, hb2⟩ := inBounds_iff h1
          refine StepOk.value fun B0 w0 β p a w inv => ?_
          have cx := evC_ok inv x
          rw [hx] at cx
          obtain ⟨vs, ex, hl⟩ := cx
          have ey := evL_int inv hy
          obtain ⟨hlen, hrow⟩ := rows_ok hrows hl
          have hi : i.toNat < xs.length := by rw [hlen]; exact hb2
          have hr := hrow.2 i.toNat _ (getD_get e.dflt hi)
          have hle : i.toNat * P.cellsOf E + P.cellsOf E ≤ vs.size := by
            have h3 : (i.toNat + 1) * e.size ≤ xs.length * e.size := Nat.mul_le_mul_right _ hi
            rw [← hrow.1, Nat.add_mul, Nat.one_mul, hsz] at h3
            simpa using h3
          obtain ⟨d, hd⟩ : ∃ d, P.underlying E = some d := by
            cases hd : P.underlying E with
            | none => simp [hd] at hone
            | some d => exact ⟨d, rfl⟩
          have hone' : isAggT P E = false → P.cellsOf E = 1 := by
            intro hf
            rw [hf] at hone
            simpa [hd] using hone
          obtain ⟨u, hru, hvu⟩ := VOf_of_part (w := w) hd hle hone'
          rw [← hagg, ← hsz] at hvu
          refine ⟨u, ?_, cv_ok hr hvu⟩
          simp [execOp, ho, ex, ey, Instr.index, asIntOf, run_underlying hu, hb0, hb1, run_sizeOf' (isAgg_iff hd), hru]
        · cases h
      · cases h
    · cases h
  · rename_i b hu hx
    obtain ⟨h1, rfl⟩ := Prod.mk.inj (Option.some.inj h)
    obtain ⟨hb0, hb1, hb2⟩ := inBounds_iff h1
    refine StepOk.value fun B0 w0 β p a w inv => ?_
    have ex : a.eval x = .string b := evC_l inv hx (by intro e; cases e)
    have ey := evL_int inv hy
    refine ⟨.int .u8 (b.data.toList.getD i.toNat 0).toNat, ?_, rfl⟩
    have hg : b[i.toNat]? = some (b.data.toList.getD i.toNat 0) := by
      have hlt : i.toNat < b.data.size := hb2
      rw [getElem?_pos b i.toNat hb2, List.getD_eq_getElem?_getD, Array.getElem?_toList, Array.getElem?_eq_getElem hlt]
      rfl
    simp [execOp, ho, ex, ey, Instr.index, asIntOf, run_underlying hu, hb0, hg]
  · cases h
end
end Go.Ev
