/- Calls, results, regions: what the evaluator says of code is what the model does. -/
import Derived.Test.YtinkhmfciealkaaOps8
set_option linter.unusedSimpArgs false
namespace Go.Ev
open Go.RowKit

/-- No function of the program is the one that the model answers by itself. -/
def NoSpecial (P : Program) : Prop := ∀ (f : FuncId) (fn : Func), P.funcs[f]? = some fn → (fn.name == "runtime.NumGoroutine") = false

/-- What a call gives back: data, and at most one block that is the caller's from now on. -/
def RepRV (B : Nat) (w : World) (p : Nat → Prop) (rv : RV) (v : Value) : Prop :=
  ∃ (p' : Nat → Prop) (β : Nat → Option Value), (∀ b, p' b → (p b ∨ B ≤ b) ∧ b < w.heap.size) ∧ (∀ t, t ≠ 0 → β t = none) ∧
    (match β 0 with
      | some r => RepB w p' β (fun t => if t = 0 then rv.b else .free) B rv.b r ∧ ∀ b, rootBlock r = some b → ¬ p' b
      | none => rv.b = .free) ∧
    RepS w p' β (fun t => if t = 0 then rv.b else .free) rv.v v

/-- Called with these data the function returns, and gives back this. -/
def Meets (P : Program) (f : FuncId) (args : List CV) (rv : RV) : Prop :=
  ∀ (w : World) (p : Nat → Prop) (vs : Array Value), (∀ b, p b → b < w.heap.size) → RepCs w p (fun _ => none) (fun _ => .free) args vs.toList →
    Calls P f vs w fun e w' => ∃ v, e = .returned v ∧ Below w.heap.size w w' ∧ RepRV w.heap.size w' p rv v

section
variable {w w' : World} {p p' : Nat → Prop} {β β' : Nat → Option Value} {H H' : Nat → Blk}

theorem RepL.pure {c : LV} {v : Value} (hc : c.pure = true) (h : RepL w p β H c v) : RepL w p β' H' c v := by
  cases c <;> first | exact h | simp [LV.pure] at hc
theorem RepL.nb {c : LV} {v : Value} (hc : c.behind = false) (h : RepL w p β H c v) : RepL w p' β H c v := by
  cases c <;> first | exact h | simp [LV.behind] at hc
theorem RepLs.imp (f : LV → Bool) (hf : ∀ c v, f c = true → RepL w p β H c v → RepL w' p' β' H' c v) {cs : List LV} {vs : List Value} (hc : cs.all f = true) (h : RepLs w p β H cs vs) : RepLs w' p' β' H' cs vs :=
  ⟨h.1, fun i c v h1 h2 => hf c v (List.all_eq_true.1 hc c (List.mem_of_getElem? h1)) (h.2 i c v h1 h2)⟩
theorem RepC.imp (f : LV → Bool) (hf : ∀ c v, f c = true → RepL w p β H c v → RepL w' p' β' H' c v) {c : CV} {v : Value} (hc : c.all f = true) (h : RepC w p β H c v) : RepC w' p' β' H' c v := by
  cases c with
  | l c =>
    by_cases hu : c = .undef
    · subst hu; trivial
    · exact repC_l (hf c v hc (repL_of hu h))
  | agg cs => obtain ⟨vs, rfl, h⟩ := h; exact ⟨vs, rfl, RepLs.imp f hf hc h⟩
theorem RepCs.imp (f : LV → Bool) (hf : ∀ c v, f c = true → RepL w p β H c v → RepL w' p' β' H' c v) {cs : List CV} {vs : List Value} (hc : cs.all (CV.all f) = true) (h : RepCs w p β H cs vs) : RepCs w' p' β' H' cs vs :=
  ⟨h.1, fun i c v h1 h2 => RepC.imp f hf (List.all_eq_true.1 hc c (List.mem_of_getElem? h1)) (h.2 i c v h1 h2)⟩
theorem RepS.imp (f : LV → Bool) (hf : ∀ c v, f c = true → RepL w p β H c v → RepL w' p' β' H' c v) {c : SV} {v : Value} (hc : c.all f = true) (h : RepS w p β H c v) : RepS w' p' β' H' c v := by
  cases c with
  | c c => exact RepC.imp f hf hc h
  | tup cs => obtain ⟨vs, rfl, h⟩ := h; exact ⟨vs, rfl, RepCs.imp f hf hc h⟩

theorem snapL_pure {s : PS} {c c' : LV} (hp : c.pure = true) (h : snapL s c = some c') : c' = c := by
  cases c <;> simp [LV.pure] at hp <;> exact (Option.some.inj h).symm
end

section
variable {P : Program} {s s' : PS} {o : Oper} {B0 : Nat} {w0 : Base} {β : Nat → Option Value} {p : Nat → Prop} {a : Act} {w : World}

/-- All blocks that are read, be they data or the store's. -/
structure Covers (β : Nat → Option Value) (p q : Nat → Prop) : Prop where
  data : ∀ b, p b → q b
  root : ∀ t r b, β t = some r → rootBlock r = some b → q b

theorem Covers.heap (inv : Inv B0 w0 β p s a w) : Covers β p (fun b => b < w.heap.size) := ⟨fun b hb => (inv.shared b hb).1, fun _ _ b hr hb => ((inv.blk hr).root b hb).2⟩

theorem Covers.more {q : Nat → Prop} (cov : Covers β p q) : ∀ b, p b → q b ∧ w.heap[b]? = w.heap[b]? := fun b hb => ⟨cov.data b hb, rfl⟩

variable {q : Nat → Prop}

theorem snapLeaf_ok (inv : Inv B0 w0 β p s a w) (cov : Covers β p q) {c : LV} {v : Value} {x : Σ sh : Sh, sh.T} (hc : RepL w p β s.blk c v) (h : snapL.snapLeaf s c = some x) : RepT w q x.1 x.2 [v] := by
  have hm := cov.more (w := w)
  have rows : ∀ {U : TypeId} {e : Sh} {xs : List e.T} {t : Nat}, s.blk t = .buf U e xs → β t = some v → RepT w q (.slice e) xs [v] := by
    intro U e xs t hs hr0
    have hrep := inv.blk hr0
    rw [hs] at hrep
    obtain ⟨us, hown, he, hrow⟩ := hrep
    simp only [RepT]
    rcases hown.2 with ⟨e1, e2⟩ | ⟨g, cap, cur, e1, h1, h2, h3, _, h5, h6⟩
    · exact ⟨none, 0, by rw [e1, e2], ⟨by omega, fun _ => rfl⟩, .inl (List.eq_nil_of_length_eq_zero e2)⟩
    · refine ⟨_, cap, by rw [e1], ⟨h3, fun h => by cases h⟩, .inr ⟨g, 0, rfl, cov.root t v g hr0 (by rw [e1]; rfl), fun i y hi => ?_⟩⟩
      have hil : i < xs.length := (List.getElem?_eq_some_iff.1 hi).1
      have hr := hrow.2 i y hi
      refine ⟨_, RepT.mono hm hr, hr.length, fun j hj => ?_⟩
      have hbig : (i + 1) * e.size ≤ us.length := by rw [hrow.1]; exact Nat.mul_le_mul_right _ hil
      rw [Nat.add_mul, Nat.one_mul] at hbig
      rw [Nat.zero_add, cell_of h2, List.getElem?_take, if_pos hj, List.getElem?_drop, ← h6, List.getElem?_take, if_pos (by rw [← hrow.1]; omega)]
  cases c <;> simp only [snapL.snapLeaf, reduceCtorEq] at h
  case int => obtain rfl := Option.some.inj h; simp only [RepL] at hc; subst hc; rfl
  case bool => obtain rfl := Option.some.inj h; simp only [RepL] at hc; subst hc; rfl
  case str => obtain rfl := Option.some.inj h; simp only [RepL] at hc; subst hc; rfl
  case zf => obtain rfl := Option.some.inj h; exact RepT.mono hm hc
  case zc => obtain rfl := Option.some.inj h; exact RepT.mono hm hc
  case slice => obtain rfl := Option.some.inj h; exact RepT.mono hm hc
  case imap => obtain rfl := Option.some.inj h; exact RepT.mono hm hc
  case full t =>
    split at h
    · rename_i U e xs hs
      obtain rfl := Option.some.inj h
      exact rows hs hc.1
    · cases h
  case mref t =>
    split at h
    · rename_i k v' es hs
      obtain rfl := Option.some.inj h
      have hrep := inv.blk hc.1
      rw [hs] at hrep
      obtain ⟨b, ms, clock, e1, _, hh, hsz, hm'⟩ := hrep
      simp only [RepT]
      refine ⟨some b, by rw [e1], .inr ⟨b, ms, clock, rfl, cov.root t v b hc.1 (by rw [e1]; rfl), hh, hsz, fun i x m hx hmm => ?_⟩⟩
      obtain ⟨⟨us, a1, a2, a3⟩, ts, a4, a5, a6⟩ := hm' i x m hx hmm
      exact ⟨⟨us, RepT.mono hm a1, a2, a3⟩, ts, RepT.mono hm a4, a5, a6⟩
    · cases h

theorem snapLeaves_ok (inv : Inv B0 w0 β p s a w) (cov : Covers β p q) : ∀ {cs : List LV} {vs : List Value} {x : Σ sh : Sh, sh.T}, RepLs w p β s.blk cs vs → snapL.snapLeaves s cs = some x → RepT w q x.1 x.2 vs
  | [], vs, x, hc, h => by
    simp only [snapL.snapLeaves] at h
    obtain rfl := Option.some.inj h
    have : vs = [] := List.eq_nil_of_length_eq_zero hc.1.symm
    subst this; rfl
  | [c], vs, x, hc, h => by
    simp only [snapL.snapLeaves] at h
    obtain ⟨v, vs', rfl, h1, h2⟩ := hc.uncons
    have : vs' = [] := List.eq_nil_of_length_eq_zero h2.1.symm
    subst this
    exact snapLeaf_ok inv cov h1 h
  | c :: d :: cs, vs, x, hc, h => by
    simp only [snapL.snapLeaves] at h
    obtain ⟨v, vs', rfl, h1, h2⟩ := hc.uncons
    split at h
    · rename_i a1 x1 b1 y1 e1 e2
      obtain rfl := Option.some.inj h
      exact ⟨[v], vs', rfl, snapLeaf_ok inv cov h1 e1, snapLeaves_ok inv cov h2 e2⟩
    · cases h

theorem slice_of_rows {e : Sh} {ys : List e.T} {us : List Value} {b q cap len : Nat} {p' : Nat → Prop} (hrow : Rows' e.size (RepT w p' e) ys us) (hb : p' b) (hl : len = ys.length) (hcap : len ≤ cap)
    (hc : ∀ j, j < us.length → w.cell? ⟨b, q + j, none⟩ = us[j]?) : RepT w p' (.slice e) ys [.slice (some ⟨b, q, none⟩) len cap] := by
  subst hl
  simp only [RepT]
  refine ⟨_, cap, rfl, ⟨hcap, fun h => by cases h⟩, .inr ⟨b, q, rfl, hb, fun i x hx => ?_⟩⟩
  have hr := hrow.2 i x hx
  have hi : i < ys.length := (List.getElem?_eq_some_iff.1 hx).1
  have hle : (i + 1) * e.size ≤ us.length := by rw [hrow.1]; exact Nat.mul_le_mul_right _ hi
  rw [Nat.add_mul, Nat.one_mul] at hle
  refine ⟨_, hr, hr.length, fun j hj => ?_⟩
  rw [List.getElem?_take, if_pos hj, List.getElem?_drop, Nat.add_assoc]
  exact hc _ (by omega)

/-- What a callee is handed stands for the same values. -/
theorem snapL_ok (inv : Inv B0 w0 β p s a w) (cov : Covers β p q) {c c' : LV} {v : Value} (hc : RepL w p β s.blk c v) (h : snapL s c = some c') : RepL w q (fun _ => none) (fun _ => .free) c' v := by
  have hm := cov.more (w := w)
  cases c <;> simp only [snapL] at h
  case ref t sz i qo =>
    split at h
    · rename_i cs hs
      split at h
      · rename_i sh x hx
        obtain rfl := Option.some.inj h
        obtain ⟨r, b, hr, hb, ex, hok⟩ := hc
        rw [hs] at hok
        obtain ⟨vs, U, _, _, hh, hl⟩ := inv.cellsAt hr hb hs
        have ht := snapLeaves_ok inv cov hl hx
        refine ⟨b, 0, vs.toList, ?_, cov.root t r b hr hb, ht, fun j _ => by rw [Nat.zero_add]; exact cell_of hh⟩
        rw [ex, show sz = 0 from hok, Nat.mul_zero]
      · cases h
    · cases h
  case full t =>
    split at h
    · rename_i U e xs hs
      obtain rfl := Option.some.inj h
      exact snapLeaf_ok inv cov (c := .full t) (x := ⟨.slice e, xs⟩) hc (by simp only [snapL.snapLeaf, hs])
    · cases h
  case sref t sz off len =>
    obtain ⟨ad, cap, r, ex, hcap, hr, hok, b, hb, rfl⟩ := hc
    have hlt := cov.root t r b hr hb
    have fin : ∀ (e' : Sh) (xs : List e'.T), ((∃ U, s.blk t = .buf U e' xs) ∨ s.blk t = .arr e' xs) → sz = e'.size → off + len ≤ xs.length →
        RepL w q (fun _ => none) (fun _ => .free) (.slice e' ((xs.drop off).take len)) v := by
      intro e' xs hs hsz hle
      obtain ⟨us, he, hrow, hcl⟩ := inv.rowsAt hr hb hs
      have hrow := rows_imp (p' := q) hm hrow
      have hp := rows_part hrow off len hle
      rw [ex]
      refine slice_of_rows hp hlt (by rw [List.length_take, List.length_drop, Nat.min_eq_left (by omega)]) hcap fun j hj => ?_
      rw [List.length_take, List.length_drop] at hj
      rw [hsz, hcl _ (by omega), List.getElem?_take, if_pos (by omega), List.getElem?_drop]
    simp only [srcOf] at h
    split at h
    · rename_i e' xs' hs'
      obtain rfl := Option.some.inj h
      split at hs'
      · rename_i U e xs hs
        rw [hs] at hok
        obtain ⟨rfl, hh⟩ := Sigma.mk.inj (Option.some.inj hs')
        obtain rfl := eq_of_heq hh
        exact fin e xs (.inl ⟨U, hs⟩) hok.1 hok.2
      · rename_i e xs hs
        rw [hs] at hok
        obtain ⟨rfl, hh⟩ := Sigma.mk.inj (Option.some.inj hs')
        obtain rfl := eq_of_heq hh
        exact fin e xs (.inr hs) hok.1 hok.2
      · cases hs'
    · cases h
  case cref t qo len e =>
    obtain ⟨ad, cap, r, ex, hcap, hr, hok, b, hb, rfl⟩ := hc
    have hlt := cov.root t r b hr hb
    simp only [srcOf] at h
    split at h
    · rename_i e' xs' hs'
      obtain rfl := Option.some.inj h
      split at hs'
      · rename_i cs hs
        split at hs'
        · rename_i xs hrows
          obtain ⟨rfl, hh⟩ := Sigma.mk.inj (Option.some.inj hs')
          obtain rfl := eq_of_heq hh
          obtain ⟨vs, U, _, _, hh, hl⟩ := inv.cellsAt hr hb hs
          obtain ⟨hlen, hrow⟩ := rows_ok hrows (hl.part qo (len * e.size))
          have hrow := rows_imp (p' := q) hm hrow
          rw [ex]
          refine slice_of_rows hrow hlt hlen.symm hcap fun j hj => ?_
          rw [List.length_take, List.length_drop] at hj
          rw [cell_of hh, List.getElem?_take, if_pos (by omega), List.getElem?_drop]
        · cases hs'
      · cases hs'
    · cases h
  case mref t =>
    split at h
    · rename_i k v' es hs
      obtain rfl := Option.some.inj h
      exact snapLeaf_ok inv cov (c := .mref t) (x := ⟨.map k v', es⟩) hc (by simp only [snapL.snapLeaf, hs])
    · cases h
  case undef => obtain rfl := Option.some.inj h; exact hc
  case int => obtain rfl := Option.some.inj h; exact hc
  case bool => obtain rfl := Option.some.inj h; exact hc
  case str => obtain rfl := Option.some.inj h; exact hc
  case zf => obtain rfl := Option.some.inj h; exact RepT.mono hm hc
  case zc => obtain rfl := Option.some.inj h; exact RepT.mono hm hc
  case slice => obtain rfl := Option.some.inj h; exact RepT.mono hm hc
  case nilslice => obtain rfl := Option.some.inj h; exact hc
  case fn => obtain rfl := Option.some.inj h; exact hc
  case nilptr => obtain rfl := Option.some.inj h; exact hc
  case imap => obtain rfl := Option.some.inj h; exact RepT.mono hm hc
  case iptr =>
    obtain rfl := Option.some.inj h
    obtain ⟨b, q', us, e1, hb, hx, hj⟩ := hc
    exact ⟨b, q', us, e1, cov.data b hb, RepT.mono hm hx, hj⟩
end
end Go.Ev
