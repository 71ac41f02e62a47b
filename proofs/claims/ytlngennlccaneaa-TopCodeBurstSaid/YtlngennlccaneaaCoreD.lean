/- The verified evaluator: calls; operations in one order; locality. -/
import Derived.Test.YtlngennlccaneaaCoreC
import Derived.TacticsIn
import Derived.RangeFuncRecord
set_option linter.unusedSimpArgs false
noncomputable section
namespace Go.Ev
open Go.RowKit
def NoSpecial (P : Program) : Prop := ∀ (f : FuncId) (fn : Func), P.funcs[f]? = some fn → (fn.name == "runtime.NumGoroutine") = false
def RepRV (B : Nat) (w : World) (p : Nat → Prop) (rv : RV) (v : Value) : Prop :=
 ∃ (p' : Nat → Prop) (β : Nat → Option Value), (∀ b, p' b → (p b ∨ B ≤ b) ∧ b < w.heap.size) ∧ (∀ t, t ≠ 0 → β t = none) ∧
  (match β 0 with
    | some r => RepB w p' β (fun t => if t = 0 then rv.b else .free) B rv.b r ∧ ∀ b, rootBlock r = some b → ¬ p' b
    | none => rv.b = .free) ∧
  RepS w p' β (fun t => if t = 0 then rv.b else .free) rv.v v
def Meets (P : Program) (f : FuncId) (args : List CV) (rv : RV) : Prop :=
 ∀ (w : World) (p : Nat → Prop) (vs : Array Value), (∀ b, p b → b < w.heap.size) → GlobsOk w p → RepCs w p (fun _ => none) (fun _ => .free) args vs.toList →
  Calls P f vs w fun e w' => ∃ v, e = .returned v ∧ Below w.heap.size w w' ∧ RepRV w.heap.size w' p rv v
section
variable {w w' : World} {p p' : Nat → Prop} {β β' : Nat → Option Value} {H H' : Nat → Blk}
theorem RepL.pure {c : LV} {v : Value} (hc : c.pure = true) (h : RepL w p β H c v) : RepL w p β' H' c v := by
 cases c <;> first | exact h | simp [LV.pure] at hc
theorem RepL.nb {c : LV} {v : Value} (hc : c.behind = false) (h : RepL w p β H c v) : RepL w p' β H c v := by
 cases c <;> first | exact h | simp [LV.behind] at hc
theorem RepLs.imp (f : LV → Bool) (hf : ∀ c v, f c = true → RepL w p β H c v → RepL w' p' β' H' c v) {cs : List LV} {vs : List Value} (hc : cs.all f = true) (h : RepLs w p β H cs vs) : RepLs w' p' β' H' cs vs :=
 ⟨h.1, fun i c v h1 h2 => hf c v (List.all_eq_true.1 hc c (List.mem_of_getElem? h1)) (h.2 i c v h1 h2)⟩
theorem RepC.imp (f : LV → Bool) (hf : ∀ c v, f c = true → RepL w p β H c v → RepL w' p' β' H' c v) {c : CV} {v : Value} (hc : c.all f = true) (h : RepC w p β H c v) : RepC w' p' β' H' c v := by
 cases c with
 | l c =>
   by_cases hu : c = .undef
   ·subst hu; trivial
   ·exact repC_l (hf c v hc (repL_of hu h))
 | agg cs => obtain ⟨vs, rfl, h⟩ := h; exact ⟨vs, rfl, RepLs.imp f hf hc h⟩
theorem RepCs.imp (f : LV → Bool) (hf : ∀ c v, f c = true → RepL w p β H c v → RepL w' p' β' H' c v) {cs : List CV} {vs : List Value} (hc : cs.all (CV.all f) = true) (h : RepCs w p β H cs vs) : RepCs w' p' β' H' cs vs :=
 ⟨h.1, fun i c v h1 h2 => RepC.imp f hf (List.all_eq_true.1 hc c (List.mem_of_getElem? h1)) (h.2 i c v h1 h2)⟩
theorem RepS.imp (f : LV → Bool) (hf : ∀ c v, f c = true → RepL w p β H c v → RepL w' p' β' H' c v) {c : SV} {v : Value} (hc : c.all f = true) (h : RepS w p β H c v) : RepS w' p' β' H' c v := by
 cases c with
 | c c => exact RepC.imp f hf hc h
 | tup cs => obtain ⟨vs, rfl, h⟩ := h; exact ⟨vs, rfl, RepCs.imp f hf hc h⟩
theorem snapL_pure {s : PS} {c c' : LV} (hp : c.pure = true) (h : snapL s c = some c') : c' = c := by
 cases c <;> simp [LV.pure] at hp <;> exact (Option.some.inj h).symm
end
section
variable {P : Program} {s s' : PS} {o : Oper} {B0 : Nat} {w0 : Base} {β : Nat → Option Value} {p : Nat → Prop} {a : Act} {w : World}
structure Covers (β : Nat → Option Value) (p q : Nat → Prop) : Prop where
 data : ∀ b, p b → q b
 root : ∀ t r b, β t = some r → rootBlock r = some b → q b
theorem Covers.heap (inv : Inv B0 w0 β p s a w) : Covers β p (fun b => b < w.heap.size) := ⟨fun b hb => (inv.shared b hb).1, fun _ _ b hr hb => ((inv.blk hr).root b hb).2⟩
theorem Covers.more {q : Nat → Prop} (cov : Covers β p q) : ∀ b, p b → q b ∧ w.heap[b]? = w.heap[b]? := fun b hb => ⟨cov.data b hb, rfl⟩
variable {q : Nat → Prop}
theorem snapLeaf_ok (inv : Inv B0 w0 β p s a w) (cov : Covers β p q) {c : LV} {v : Value} {x : Σ sh : Sh, sh.T} (hc : RepL w p β s.blk c v) (h : snapL.snapLeaf s c = some x) : RepT w q x.1 x.2 [v] := by
 have hm := cov.more (w := w)
 have rows : ∀ {U : TypeId} {e : Sh} {xs : List e.T} {t : Nat}, s.blk t = .buf U e xs → β t = some v → RepT w q (.slice e) xs [v] := by
  intro U e xs t hs hr0
  have hrep := inv.blk hr0
  rw [hs] at hrep
  obtain ⟨us, hown, he, hrow⟩ := hrep
  simp only [RepT]
  rcases hown.2 with ⟨e1, e2⟩ | ⟨g, q0, cap, cur, e1, h1, h2, h3, _, h5, h6⟩
  ·exact ⟨none, 0, by rw [e1, e2], ⟨by omega, fun _ => rfl⟩, .inl (List.eq_nil_of_length_eq_zero e2)⟩
  ·refine ⟨_, cap, by rw [e1], ⟨h3, fun h => by cases h⟩, .inr ⟨g, q0, rfl, cov.root t v g hr0 (by rw [e1]; rfl), fun i y hi => ?_⟩⟩
   have hil : i < xs.length := (List.getElem?_eq_some_iff.1 hi).1
   have hr := hrow.2 i y hi
   refine ⟨_, RepT.mono hm hr, hr.length, fun j hj => ?_⟩
   have hbig : (i + 1) * e.size ≤ us.length := by rw [hrow.1]; exact Nat.mul_le_mul_right _ hil
   rw [Nat.add_mul, Nat.one_mul] at hbig
   rw [Nat.add_assoc, cell_of h2, List.getElem?_take, if_pos hj, List.getElem?_drop, ← h6, List.getElem?_take, if_pos (by rw [← hrow.1]; omega), List.getElem?_drop]
 cases c <;> simp only [snapL.snapLeaf, reduceCtorEq] at h
 case int => obtain rfl := Option.some.inj h; simp only [RepL] at hc; subst hc; rfl
 case bool => obtain rfl := Option.some.inj h; simp only [RepL] at hc; subst hc; rfl
 case str => obtain rfl := Option.some.inj h; simp only [RepL] at hc; subst hc; rfl
 case ifc => obtain rfl := Option.some.inj h; exact ⟨v, rfl, hc⟩
 case zf => obtain rfl := Option.some.inj h; exact RepT.mono hm hc
 case zc => obtain rfl := Option.some.inj h; exact RepT.mono hm hc
 case slice => obtain rfl := Option.some.inj h; exact RepT.mono hm hc
 case imap => obtain rfl := Option.some.inj h; exact RepT.mono hm hc
 case optr => obtain rfl := Option.some.inj h; exact RepT.mono hm hc
 case clo => obtain rfl := Option.some.inj h; exact RepT.mono hm hc
 case fn => obtain rfl := Option.some.inj h; simp only [RepL] at hc; subst hc; exact ⟨#[], rfl, rfl⟩
 case iptr sh y i =>
  cases i with
  | zero =>
    obtain rfl := Option.some.inj h
    obtain ⟨b, q', us, rfl, h1, h2, h3⟩ := hc
    exact ⟨b, q', us, rfl, cov.data b h1, RepT.mono hm h2, h3⟩
  | succ i => cases h
 case full t =>
  split at h
  ·rename_i U e xs hs
   obtain rfl := Option.some.inj h
   exact rows hs hc.1
  ·cases h
 case mref t =>
  split at h
  ·rename_i k v' es hs
   obtain rfl := Option.some.inj h
   have hrep := inv.blk hc.1
   rw [hs] at hrep
   obtain ⟨b, ms, clock, e1, _, hh, _, hsz, hm'⟩ := hrep
   simp only [RepT]
   refine ⟨some b, by rw [e1], .inr ⟨b, ms, clock, rfl, cov.root t v b hc.1 (by rw [e1]; rfl), hh, hsz, fun i x m hx hmm => ?_⟩⟩
   obtain ⟨⟨us, a1, a2, a3⟩, ts, a4, a5, a6⟩ := hm' i x m hx hmm
   exact ⟨⟨us, RepT.mono hm a1, a2, a3⟩, ts, RepT.mono hm a4, a5, a6⟩
  ·cases h
theorem snapLeaves_ok (inv : Inv B0 w0 β p s a w) (cov : Covers β p q) : ∀ {cs : List LV} {vs : List Value} {x : Σ sh : Sh, sh.T}, RepLs w p β s.blk cs vs → snapL.snapLeaves s cs = some x → RepT w q x.1 x.2 vs
 | [], vs, x, hc, h => by
   simp only [snapL.snapLeaves] at h
   obtain rfl := Option.some.inj h
   have : vs = [] := List.eq_nil_of_length_eq_zero hc.1.symm
   subst this; rfl
 | [c], vs, x, hc, h => by
   simp only [snapL.snapLeaves] at h
   obtain ⟨v, vs', rfl, h1, h2⟩ := hc.uncons
   have : vs' = [] := List.eq_nil_of_length_eq_zero h2.1.symm
   subst this
   exact snapLeaf_ok inv cov h1 h
 | c :: d :: cs, vs, x, hc, h => by
   simp only [snapL.snapLeaves] at h
   obtain ⟨v, vs', rfl, h1, h2⟩ := hc.uncons
   split at h
   ·rename_i a1 x1 b1 y1 e1 e2
    obtain rfl := Option.some.inj h
    exact ⟨[v], vs', rfl, snapLeaf_ok inv cov h1 e1, snapLeaves_ok inv cov h2 e2⟩
   ·cases h
theorem slice_of_rows {e : Sh} {ys : List e.T} {us : List Value} {b q cap len : Nat} {p' : Nat → Prop} (hrow : Rows' e.size (RepT w p' e) ys us) (hb : p' b) (hl : len = ys.length) (hcap : len ≤ cap)
 (hc : ∀ j, j < us.length → w.cell? ⟨b, q + j, none⟩ = us[j]?) : RepT w p' (.slice e) ys [.slice (some ⟨b, q, none⟩) len cap] := by
 subst hl
 simp only [RepT]
 refine ⟨_, cap, rfl, ⟨hcap, fun h => by cases h⟩, .inr ⟨b, q, rfl, hb, fun i x hx => ?_⟩⟩
 have hr := hrow.2 i x hx
 have hi : i < ys.length := (List.getElem?_eq_some_iff.1 hx).1
 have hle : (i + 1) * e.size ≤ us.length := by rw [hrow.1]; exact Nat.mul_le_mul_right _ hi
 rw [Nat.add_mul, Nat.one_mul] at hle
 refine ⟨_, hr, hr.length, fun j hj => ?_⟩
 rw [List.getElem?_take, if_pos hj, List.getElem?_drop, Nat.add_assoc]
 exact hc _ (by omega)
theorem snapL_ok (inv : Inv B0 w0 β p s a w) (cov : Covers β p q) {c c' : LV} {v : Value} (hc : RepL w p β s.blk c v) (h : snapL s c = some c') : RepL w q (fun _ => none) (fun _ => .free) c' v := by
 have hm := cov.more (w := w)
 cases c <;> simp only [snapL] at h
 case ref t sz i qo =>
  split at h
  ·rename_i cs hs
   split at h
   ·rename_i sh x hx
    obtain rfl := Option.some.inj h
    obtain ⟨r, b, hr, hb, ex, hok⟩ := hc
    rw [hs] at hok
    obtain ⟨us, hh, hl⟩ := inv.cellsAt hr hb hs
    have ht := snapLeaves_ok inv cov hl hx
    refine ⟨b, 0, us, ?_, cov.root t r b hr hb, ht, fun j hj => by rw [Nat.zero_add]; exact hh j hj⟩
    rw [ex, show sz = 0 from hok, Nat.mul_zero, inv.off0 hr (.inl ⟨cs, hs⟩)]; simp
   ·cases h
  ·cases h
 case full t =>
  split at h
  ·rename_i U e xs hs
   obtain rfl := Option.some.inj h
   exact snapLeaf_ok inv cov (c := .full t) (x := ⟨.slice e, xs⟩) hc (by simp only [snapL.snapLeaf, hs])
  ·cases h
 case sref t sz off len =>
  obtain ⟨ad, cap, r, ex, hcap, hr, hok, ⟨b, q2, hb, rfl, hq2⟩, _⟩ := hc
  have hlt := cov.root t r b hr hb
  have fin : ∀ (e' : Sh) (xs : List e'.T), ((∃ U, s.blk t = .buf U e' xs) ∨ s.blk t = .arr e' xs) → sz = e'.size → off + len ≤ xs.length →
   RepL w q (fun _ => none) (fun _ => .free) (.slice e' ((xs.drop off).take len)) v := by
   intro e' xs hs hsz hle
   obtain ⟨us, he, hrow, hcl⟩ := inv.rowsAt hr hb hs
   have hrow := rows_imp (p' := q) hm hrow
   have hp := rows_part hrow off len hle
   rw [ex]
   refine slice_of_rows hp hlt (by rw [List.length_take, List.length_drop, Nat.min_eq_left (by omega)]) hcap fun j hj => ?_
   rw [List.length_take, List.length_drop] at hj
   have hq2 : q2 = rootOff r + off * sz := hq2.resolve_right (fun h => by
    have : len = 0 := by omega
    rw [this, Nat.zero_mul] at hj
    omega)
   rw [hq2, hsz, Nat.add_assoc, hcl _ (by omega), List.getElem?_take, if_pos (by omega), List.getElem?_drop]
  simp only [srcOf] at h
  split at h
  ·rename_i e' xs' hs'
   obtain rfl := Option.some.inj h
   split at hs'
   ·rename_i U e xs hs
    rw [hs] at hok
    obtain ⟨rfl, hh⟩ := Sigma.mk.inj (Option.some.inj hs')
    obtain rfl := eq_of_heq hh
    exact fin e xs (.inl ⟨U, hs⟩) hok.1 hok.2
   ·rename_i e xs hs
    rw [hs] at hok
    obtain ⟨rfl, hh⟩ := Sigma.mk.inj (Option.some.inj hs')
    obtain rfl := eq_of_heq hh
    exact fin e xs (.inr hs) hok.1 hok.2
   ·cases hs'
  ·cases h
 case cref t qo len e =>
  obtain ⟨ad, cap, r, ex, hcap, hr, hok, b, hb, rfl⟩ := hc
  have hlt := cov.root t r b hr hb
  simp only [srcOf] at h
  split at h
  ·rename_i e' xs' hs'
   obtain rfl := Option.some.inj h
   split at hs'
   ·rename_i cs hs
    split at hs'
    ·rename_i xs hrows
     obtain ⟨rfl, hh⟩ := Sigma.mk.inj (Option.some.inj hs')
     obtain rfl := eq_of_heq hh
     obtain ⟨us, hh, hl⟩ := inv.cellsAt hr hb hs
     obtain ⟨hlen, hrow⟩ := rows_ok hrows (hl.part qo (len * e.size))
     have hrow := rows_imp (p' := q) hm hrow
     rw [ex]
     refine slice_of_rows hrow hlt hlen.symm hcap fun j hj => ?_
     rw [List.length_take, List.length_drop] at hj
     rw [inv.off0 hr (.inl ⟨cs, hs⟩), Nat.zero_add, hh _ (by omega), List.getElem?_take, if_pos (by omega), List.getElem?_drop]
    ·cases hs'
   ·cases hs'
  ·cases h
 case cloR => cases h
 case row => cases h
 case rel => cases h
 case mref t =>
  split at h
  ·rename_i k v' es hs
   obtain rfl := Option.some.inj h
   exact snapLeaf_ok inv cov (c := .mref t) (x := ⟨.map k v', es⟩) hc (by simp only [snapL.snapLeaf, hs])
  ·cases h
 case undef => obtain rfl := Option.some.inj h; exact hc
 case int => obtain rfl := Option.some.inj h; exact hc
 case bool => obtain rfl := Option.some.inj h; exact hc
 case str => obtain rfl := Option.some.inj h; exact hc
 case ifc => obtain rfl := Option.some.inj h; exact hc
 case zf => obtain rfl := Option.some.inj h; exact RepT.mono hm hc
 case zc => obtain rfl := Option.some.inj h; exact RepT.mono hm hc
 case slice => obtain rfl := Option.some.inj h; exact RepT.mono hm hc
 case nilslice => obtain rfl := Option.some.inj h; exact hc
 case zslice => obtain rfl := Option.some.inj h; exact hc
 case fn => obtain rfl := Option.some.inj h; exact hc
 case nilfn => obtain rfl := Option.some.inj h; exact hc
 case nilptr => obtain rfl := Option.some.inj h; exact hc
 case imap => obtain rfl := Option.some.inj h; exact RepT.mono hm hc
 case optr => obtain rfl := Option.some.inj h; exact RepT.mono hm hc
 case clo => obtain rfl := Option.some.inj h; exact RepT.mono hm hc
 case iptr =>
  obtain rfl := Option.some.inj h
  obtain ⟨b, q', us, e1, hb, hx, hj⟩ := hc
  exact ⟨b, q', us, e1, cov.data b hb, RepT.mono hm hx, hj⟩
end
end Go.Ev
namespace Go.Ev
open Go.RowKit
section
variable {w w' : World} {p p' : Nat → Prop} {β β' : Nat → Option Value} {H H' : Nat → Blk}
theorem slice_of_own {B : Nat} {T : TypeId} {e : Sh} {xs : List e.T} {v : Value} {us : List Value} (hown : ownsAt w B T e.size v xs.length us) (hrow : Rows' e.size (RepT w p' e) xs us)
 (hp : ∀ b, rootBlock v = some b → p' b) : RepT w p' (.slice e) xs [v] := by
 simp only [RepT]
 rcases hown.2 with ⟨e1, e2⟩ | ⟨g, q0, cap, cur, e1, h1, h2, h3, _, h5, h6⟩
 ·exact ⟨none, 0, by rw [e1, e2], ⟨by omega, fun _ => rfl⟩, .inl (List.eq_nil_of_length_eq_zero e2)⟩
 ·rw [e1]
  have hc : ∀ j, j < us.length → w.cell? ⟨g, q0 + j, none⟩ = us[j]? := fun j hj => by
   rw [cell_of h2, ← h6, List.getElem?_take, if_pos (by rw [← hrow.1]; exact hj), List.getElem?_drop]
  have := slice_of_rows (cap := cap) hrow (hp g (by rw [e1]; rfl)) rfl h3 hc
  simpa only [RepT] using this
theorem repB_flat {B : Nat} {b : Blk} {r : Value} (hb : b.behind = false) (h : RepB w p β H B b r) : RepB w p' β H B b r := by
 cases b with
 | free => exact h
 | cells cs =>
   obtain ⟨b, vs, T, h0, h1, h2, h3⟩ := h
   refine ⟨b, vs, T, h0, h1, h2, RepLs.imp (fun v => !v.behind) (fun c v hc h => RepL.nb (by simpa using hc) h) ?_ h3⟩
   simpa [Blk.behind] using hb
 | arr e xs =>
   obtain ⟨b, vs, T, rfl, h1, h2, h3, h4⟩ := h
   exact ⟨b, vs, T, rfl, h1, h2, h3, h4.imp fun _ _ h => RepT.flat (by simpa [Blk.behind] using hb) h⟩
 | buf T e xs =>
   obtain ⟨us, h1, h2, h3⟩ := h
   exact ⟨us, h1, h2, h3.imp fun _ _ h => RepT.flat (by simpa [Blk.behind] using hb) h⟩
 | map k v es =>
   obtain ⟨b, ms, clock, rfl, h1, h2, hst, h3, h4⟩ := h
   have hb : k.flat = true ∧ v.flat = true := by simpa [Blk.behind] using hb
   refine ⟨b, ms, clock, rfl, h1, h2, hst, h3, fun i x m hi hm => ?_⟩
   obtain ⟨⟨us, a1, a2, a3⟩, ts, a4, a5, a6⟩ := h4 i x m hi hm
   exact ⟨⟨us, RepT.flat hb.1 a1, a2, a3⟩, ts, RepT.flat hb.2 a4, a5, a6⟩
 | lp _ _ _ => simp [Blk.behind] at hb
 | rowb T xs =>
   obtain ⟨us, h1, h2⟩ := h
   exact ⟨us, h1, rows_int.2 (rows_int.1 h2)⟩
 | ids T l =>
   obtain ⟨us, h1, h2⟩ := h
   exact ⟨us, h1, RepLs.imp (fun v => !v.behind) (fun c v hc h => RepL.nb (by simpa using hc) h) (by simp [LV.behind]) h2⟩
end
section
variable {P : Program} {s s' : PS} {o : Oper} {B0 : Nat} {w0 : Base} {β : Nat → Option Value} {p : Nat → Prop} {a : Act} {w w' : World}
theorem snapLs_ok (inv : Inv B0 w0 β p s a w) {q : Nat → Prop} (cov : Covers β p q) : ∀ {cs cs' : List LV} {vs : List Value}, RepLs w p β s.blk cs vs → snapLs s cs = some cs' → RepLs w q (fun _ => none) (fun _ => .free) cs' vs
 | [], cs', vs, hc, h => by
   simp only [snapLs] at h
   obtain rfl := Option.some.inj h
   have : vs = [] := List.eq_nil_of_length_eq_zero hc.1.symm
   subst this; exact repLs_nil
 | c :: cs, cs', vs, hc, h => by
   simp only [snapLs] at h
   obtain ⟨v, vs', rfl, h1, h2⟩ := hc.uncons
   split at h
   ·rename_i x xs e1 e2
    obtain rfl := Option.some.inj h
    exact RepLs.append (repLs_one (snapL_ok inv cov h1 e1)) (snapLs_ok inv cov h2 e2)
   ·cases h
theorem snapC_ok (inv : Inv B0 w0 β p s a w) {q : Nat → Prop} (cov : Covers β p q) {c c' : CV} {v : Value} (hc : RepC w p β s.blk c v) (h : snapC s c = some c') : RepC w q (fun _ => none) (fun _ => .free) c' v := by
 cases c with
 | l c =>
   simp only [snapC] at h
   split at h
   ·rename_i x hx
    obtain rfl := Option.some.inj h
    by_cases hu : c = .undef
    ·subst hu; obtain rfl := Option.some.inj hx; trivial
    ·exact repC_l (snapL_ok inv cov (repL_of hu hc) hx)
   ·cases h
 | agg cs =>
   simp only [snapC] at h
   split at h
   ·rename_i xs hx
    obtain rfl := Option.some.inj h
    obtain ⟨vs, rfl, hl⟩ := hc
    exact ⟨vs, rfl, snapLs_ok inv cov hl hx⟩
   ·cases h
theorem repCs_nil {H : Nat → Blk} : RepCs w p β H [] [] := ⟨rfl, fun i c v h => by simp at h⟩
theorem repCs_cons {H : Nat → Blk} {c : CV} {cs : List CV} {v : Value} {vs : List Value} (h1 : RepC w p β H c v) (h2 : RepCs w p β H cs vs) : RepCs w p β H (c :: cs) (v :: vs) := by
 refine ⟨by simp [h2.1], fun i x y hx hy => ?_⟩
 cases i with
 | zero =>
   obtain rfl := Option.some.inj hx
   obtain rfl := Option.some.inj hy
   exact h1
 | succ i => exact h2.2 i x y (by simpa using hx) (by simpa using hy)
theorem RepCs.uncons {H : Nat → Blk} {c : CV} {cs : List CV} {vs : List Value} (h : RepCs w p β H (c :: cs) vs) : ∃ v us, vs = v :: us ∧ RepC w p β H c v ∧ RepCs w p β H cs us := by
 cases vs with
 | nil => have := h.1; simp at this
 | cons v us => exact ⟨v, us, rfl, h.2 0 c v rfl rfl, by have := h.1; simpa using this, fun i x y hx hy => h.2 (i + 1) x y (by simpa using hx) (by simpa using hy)⟩
theorem snapCs_ok (inv : Inv B0 w0 β p s a w) {q : Nat → Prop} (cov : Covers β p q) : ∀ {cs cs' : List CV} {vs : List Value}, RepCs w p β s.blk cs vs → snapCs s cs = some cs' → RepCs w q (fun _ => none) (fun _ => .free) cs' vs
 | [], cs', vs, hc, h => by
   simp only [snapCs] at h
   obtain rfl := Option.some.inj h
   have : vs = [] := List.eq_nil_of_length_eq_zero hc.1.symm
   subst this; exact repCs_nil
 | c :: cs, cs', vs, hc, h => by
   simp only [snapCs] at h
   obtain ⟨v, vs', rfl, h1, h2⟩ := hc.uncons
   split at h
   ·rename_i x xs e1 e2
    obtain rfl := Option.some.inj h
    exact repCs_cons (snapC_ok inv cov h1 e1) (snapCs_ok inv cov h2 e2)
   ·cases h
theorem snapLs_pure : ∀ {cs cs' : List LV}, cs.all LV.pure = true → snapLs s cs = some cs' → cs' = cs
 | [], cs', _, h => by simp only [snapLs] at h; exact (Option.some.inj h).symm
 | c :: cs, cs', hp, h => by
   simp only [snapLs] at h
   simp only [List.all_cons, Bool.and_eq_true] at hp
   split at h
   ·rename_i x xs e1 e2
    obtain rfl := Option.some.inj h
    rw [snapL_pure hp.1 e1, snapLs_pure hp.2 e2]
   ·cases h
theorem snapC_pure {c c' : CV} (hp : c.all LV.pure = true) (h : snapC s c = some c') : c' = c := by
 cases c with
 | l c =>
   simp only [snapC] at h
   split at h
   ·rename_i x hx
    obtain rfl := Option.some.inj h
    rw [snapL_pure hp hx]
   ·cases h
 | agg cs =>
   simp only [snapC] at h
   split at h
   ·rename_i xs hx
    obtain rfl := Option.some.inj h
    rw [snapLs_pure hp hx]
   ·cases h
theorem snapCs_pure : ∀ {cs cs' : List CV}, anyRef cs = false → snapCs s cs = some cs' → cs' = cs
 | [], cs', _, h => by simp only [snapCs] at h; exact (Option.some.inj h).symm
 | c :: cs, cs', hp, h => by
   simp only [snapCs] at h
   simp only [anyRef, List.any_cons, Bool.or_eq_false_iff, Bool.not_eq_false'] at hp
   split at h
   ·rename_i x xs e1 e2
    obtain rfl := Option.some.inj h
    rw [snapC_pure hp.1 e1, snapCs_pure hp.2 e2]
   ·cases h
theorem evCs_ok (inv : Inv B0 w0 β p s a w) : ∀ (xs : List Operand), RepCs w p β s.blk (evCs s xs) (xs.map a.eval)
 | [] => repCs_nil
 | x :: xs => repCs_cons (evC_ok inv x) (evCs_ok inv xs)
theorem repCs_append {w : World} {p : Nat → Prop} {β : Nat → Option Value} {H : Nat → Blk} {cs ds : List CV} {vs us : List Value} (h1 : RepCs w p β H cs vs) (h2 : RepCs w p β H ds us) : RepCs w p β H (cs ++ ds) (vs ++ us) := by
 refine ⟨by simp [h1.1, h2.1], fun i c v hc hv => ?_⟩
 rw [List.getElem?_append] at hc hv
 by_cases hi : i < cs.length
 ·rw [if_pos hi] at hc; rw [if_pos (by rw [← h1.1]; exact hi)] at hv; exact h1.2 i c v hc hv
 ·rw [if_neg hi] at hc; rw [if_neg (by rw [← h1.1]; exact hi), ← h1.1] at hv; exact h2.2 _ c v hc hv
theorem repCs_cells {w : World} {p : Nat → Prop} {β : Nat → Option Value} {H : Nat → Blk} {cs : List LV} {vs : List Value} (h : RepLs w p β H cs vs) : RepCs w p β H (cs.map .l) vs := by
 refine ⟨by simpa using h.1, fun i c v hc hv => ?_⟩
 rw [List.getElem?_map] at hc
 cases hci : cs[i]? with
 | none => rw [hci] at hc; cases hc
 | some c0 =>
   rw [hci] at hc
   obtain rfl := Option.some.inj hc
   exact repC_l (h.2 i c0 v hci hv)
theorem callee_ok (inv : Inv B0 w0 β p s a w) {f : Operand} {g : FuncId} {caps : List CV} (h : calleeOf (evL s f) = some (g, caps)) :
 ∃ cv, a.eval f = .func (.func g) #[] cv ∧ ∀ q : Nat → Prop, (∀ b, p b → q b) → RepCs w q (fun _ => none) (fun _ => .free) caps cv.toList := by
 have hl := evL_ok inv f
 cases hx : evL s f <;> rw [hx] at h hl <;> simp only [calleeOf, reduceCtorEq, Option.some.injEq, Prod.mk.injEq] at h
 case fn g' =>
  obtain ⟨rfl, rfl⟩ := h
  exact ⟨#[], hl (by simp), fun q _ => ⟨rfl, fun i c v hc _ => by simp at hc⟩⟩
 case clo g' sh x =>
  obtain ⟨rfl, rfl⟩ := h
  obtain ⟨cv, h1, h2⟩ := hl (by simp)
  refine ⟨cv, by simpa using h1, fun q hq => repCs_cells (cells_ok (RepT.mono (fun b hb => ⟨hq b hb, rfl⟩) h2))⟩
theorem call_ok (inv : Inv B0 w0 β p s a w) {g : FuncId} {vs caps : List CV} {rv : RV} {xs : Array Operand} {cv : Array Value} (hm : Meets P g (vs ++ caps) rv) (hs : snapCs s (evCs s xs.toList) = some vs)
 (hcap : ∀ q : Nat → Prop, (∀ b, p b → q b) → RepCs w q (fun _ => none) (fun _ => .free) caps cv.toList)
 (hc : (anyRef (evCs s xs.toList) && (!(rv.v.all fun v => !v.behind) || rv.b.behind)) = false) :
 Calls P g (xs.map a.eval ++ cv) w fun e w' => ∃ v, e = .returned v ∧ Below w.heap.size w w' ∧ RepRV w.heap.size w' p rv v := by
 have hev := evCs_ok inv xs.toList
 rw [← Array.toList_map] at hev
 by_cases hr : anyRef (evCs s xs.toList) = true
 ·rw [hr, Bool.true_and, Bool.or_eq_false_iff, Bool.not_eq_false'] at hc
  refine (hm w _ _ (fun b h => h) (inv.defers.1.mono fun b hb => ⟨(inv.shared b hb).1, rfl⟩) (by rw [Array.toList_append]; exact repCs_append (snapCs_ok inv (.heap inv) hev hs) (hcap _ fun b hb => (inv.shared b hb).1))).mono fun e w' ⟨v, he, hb, p', β', h1, h2, h3, h4⟩ => ⟨v, he, hb, fun _ => False, β', fun b h => h.elim, h2, ?_, ?_⟩
  ·cases h0 : β' 0 with
   | none => rw [h0] at h3; exact h3
   | some r => rw [h0] at h3; exact ⟨repB_flat hc.2 h3.1, fun b _ h => h⟩
  ·exact RepS.imp _ (fun c v hc h => RepL.nb (by simpa using hc) h) hc.1 h4
 ·have hr : anyRef (evCs s xs.toList) = false := by simpa using hr
  obtain rfl := snapCs_pure hr hs
  refine (hm w p _ (fun b h => (inv.shared b h).1) inv.defers.1 (by rw [Array.toList_append]; exact repCs_append (RepCs.imp LV.pure (fun c v hc h => RepL.pure hc h) (by simpa [anyRef] using hr) hev) (hcap p fun b hb => hb))).mono fun e w' h => h
theorem inv_under (inv : Inv B0 w0 β p s a w) (hbel : Below w.heap.size w w') {p' : Nat → Prop} (hp : ∀ b, p' b → (p b ∨ w.heap.size ≤ b) ∧ b < w'.heap.size) :
 Inv B0 w0 β (fun b => p b ∨ p' b) s a w' := by
 refine (inv.world hbel).more (fun b h => .inl h) (fun b hb => ?_) (fun b hb => ?_) (inv.defers.imp (fun b hb => ⟨.inl hb, hbel.block b (inv.shared b hb).1⟩) fun D hD => ⟨by rw [hbel.block D hD.lt]; exact hD.obj, hD.base, fun h => h.elim hD.data fun h => (hp D h).1.elim hD.data fun h => by have := hD.lt; omega⟩)
 rotate_left
 ·rcases hb with hb | hb
  ·exact inv.conf b hb
  ·rcases (hp b hb).1 with h | h
   ·exact inv.conf b h
   ·exact .inr (Nat.le_trans inv.base h)
 rcases hb with hb | hb
 ·exact (inv.world hbel).shared b hb
 ·refine ⟨(hp b hb).2, fun t r hr hroot => ?_⟩
  rcases (hp b hb).1 with h | h
  ·exact (inv.shared b h).2 t r hr hroot
  ·have := ((inv.blk hr).root b hroot).2
   omega
theorem repS_free {β' β : Nat → Option Value} {H : Nat → Blk} {p p' : Nat → Prop} {x : SV} {v : Value} {H' : Nat → Blk} (hn : ∀ t, β' t = none) (hp : ∀ b, p' b → p b) (h : RepS w p' β' H' x v) : RepS w p β H x v :=
 RepS.keep ⟨fun b hb => ⟨hp b hb, rfl⟩, fun t v h => (by rw [hn t] at h; cases h), fun t h => (by rw [hn t] at h; cases h)⟩ h
theorem take_result_ok (inv : Inv B0 w0 β p s a w) (hbel : Below w.heap.size w w') {rv : RV} {v : Value} (hr : RepRV w.heap.size w' p rv v) {d : Nat} (ht : takeResult s d rv = some s') :
 Rel B0 w0 s' (a.put (some d) v) w' := by
 obtain ⟨p', β', hp, hn, hb, hv⟩ := hr
 have inv' := inv_under inv hbel hp
 unfold takeResult at ht
 split at ht
 ·rename_i hf
  obtain rfl := Option.some.inj ht
  have hn' : ∀ t, β' t = none := by
   intro t
   by_cases h0 : t = 0
   ·subst h0
    cases hr0 : β' 0 with
    | none => rfl
    | some r => rw [hr0, hf] at hb; exact hb.1.elim
   ·exact hn t h0
  exact ⟨β, _, inv'.put (some d) (repS_free hn' (fun b h => .inr h) hv)⟩
 ·rename_i T e xs hf
  cases hr0 : β' 0 with
  | none => rw [hr0, hf] at hb; cases hb
  | some r =>
    rw [hr0, hf] at hb
    obtain ⟨⟨us, hown, he, hrow⟩, hnr⟩ := hb
    have hbig : ∀ b, rootBlock r = some b → w.heap.size ≤ b := fun b hb => (RepB.root (B0 := w.heap.size) (b := .buf T e xs) (H := fun _ => .free) (β := β') ⟨us, hown, he, hrow⟩ b hb).1
    refine (inv'.newAt ht (w' := w') (r0 := r) (v := v) (Below.refl _ _) (fun _ _ => rfl) (fun _ _ => rfl) (fun _ _ _ _ _ _ => rfl) (fun b hb => ⟨?_, ?_⟩) fun β1 H1 _ h1 h2 => ?_).elim fun β1 h => ⟨β1, _, h⟩
    ·rintro (h | h)
     ·have := (inv.shared b h).1; have := hbig b hb; omega
     ·exact hnr b hb h
    ·intro t q _ hq hqb
     have := ((inv.blk hq).root b hqb).2
     have := hbig b hb
     omega
    ·have hd : ∀ b, p' b → (p b ∨ p' b) ∧ w'.heap[b]? = w'.heap[b]? := fun b h => ⟨.inr h, rfl⟩
     refine ⟨⟨us, ?_, he, hrow.imp fun _ _ h => RepT.mono hd h⟩, ?_⟩
     ·refine ⟨hown.1, hown.2.imp id ?_⟩
      rintro ⟨g, q, cap, cur, e1, g1, g2⟩
      exact ⟨g, q, cap, cur, e1, Nat.le_trans inv.base g1, g2⟩
     ·have leaf : ∀ c u, RepL w' p' β' (fun t => if t = 0 then rv.b else .free) c u → RepL w' (fun b => p b ∨ p' b) β1 H1 (relocL d c) u := by
       intro c u hc
       have at0 : ∀ {t q}, β' t = some q → t = 0 ∧ q = r := by
        intro t q hq
        by_cases h0 : t = 0
        ·subst h0; rw [hr0] at hq; exact ⟨rfl, (Option.some.inj hq).symm⟩
        ·rw [hn t h0] at hq; cases hq
       cases c <;> simp only [relocL]
       case ref t sz i q =>
        obtain ⟨r', b, g1, g2, g3, g4⟩ := hc
        obtain ⟨rfl, rfl⟩ := at0 g1
        exact ⟨r', b, h1, g2, g3, by rw [h2]; simpa [hf] using g4⟩
       case full t =>
        obtain ⟨g1, g2, g3⟩ := hc
        obtain ⟨rfl, rfl⟩ := at0 g1
        exact ⟨h1, by rw [h2]; trivial, g3⟩
       case sref t sz off len =>
        obtain ⟨ad, cap, r', g1, g2, g3, g4, g5⟩ := hc
        obtain ⟨rfl, rfl⟩ := at0 g3
        exact ⟨ad, cap, r', g1, g2, h1, by rw [h2]; simpa [hf] using g4, g5⟩
       case cref t q len e' =>
        obtain ⟨ad, cap, r', g1, g2, g3, g4, g5⟩ := hc
        obtain ⟨rfl, rfl⟩ := at0 g3
        simp [hf, crefOk] at g4
       case mref t =>
        obtain ⟨g1, g2, g3⟩ := hc
        obtain ⟨rfl, rfl⟩ := at0 g1
        simp [hf, Blk.isMap] at g2
       case cloR f cs => exact RepL.oneCell hc
       case row j => exact RepL.oneCell hc
       case rel j k => exact RepL.oneCell hc
       all_goals exact RepL.keep (w := w') (p := p') (β := β1) (H := H1) ⟨hd, fun _ _ h => h, fun _ _ => BlkSim.refl _⟩ (RepL.pure rfl hc)
      have part : ∀ c u, RepC w' p' β' (fun t => if t = 0 then rv.b else .free) c u → RepC w' (fun b => p b ∨ p' b) β1 H1 (relocC d c) u := by
       intro c u hc
       have := RepC.of (f := relocL d) rfl leaf hc
       cases c <;> exact this
      cases hx : rv.v with
      | c c => rw [hx] at hv; exact part c v hv
      | tup cs => rw [hx] at hv; obtain ⟨vs, rfl, hv⟩ := hv; exact ⟨vs, rfl, RepCs.of part hv⟩
 ·cases ht
end
section
variable {s : PS} {B0 : Nat} {w0 : Base} {a : Act} {w : World}
theorem freeze_rel (h : Rel B0 w0 s a w) {t0 : Nat} (ht : t0 < 16000) : Rel B0 w0 (s.freeze t0) a w := by
 obtain ⟨β, p, inv⟩ := h
 cases hblk : s.blk t0 with
 | buf T e xs =>
   obtain ⟨r0, hr0⟩ := inv.root_of (t := t0) (by rw [hblk]; simp)
   have hdep := key_depth ht
   have hs : s.freeze t0 = { n := s.n, tmps := s.tmps.map (SV.frz t0 e xs), hp := H.set .free (s.hp.map (Blk.frz t0 e xs)) t0, up := mapUp (SV.frz t0 e xs) s.up, pl := s.pl } := by simp [PS.freeze, hblk]
   have eb : ∀ t, (s.freeze t0).blk t = if t = t0 then .free else (s.blk t).frz t0 e xs :=
    PS.blk_out (f := Blk.frz t0 e xs) ht rfl (fun b => by cases b <;> rfl) (fun _ _ => rfl) (by rw [hs]) (by rw [hs])
   have eg : ∀ t, (s.freeze t0).get t = (s.get t).frz t0 e xs := by
    intro t
    rw [hs]
    simp only [PS.get, M.get_map]
    cases hh : s.tmps.get t <;> simp [SV.frz, CV.frz, LV.frz, LV.kill, undefS]
   have simk : ∀ b : Blk, BlkSim b (b.frz t0 e xs) := by
    intro b; cases b <;> simp [Blk.frz, BlkSim]
   let p' : Nat → Prop := fun b => p b ∨ rootBlock r0 = some b
   let β' : Nat → Option Value := fun t => if t = t0 then none else β t
   have hk : KeepsBut (some t0) w w p p' β β' s.blk (s.freeze t0).blk := by
    refine ⟨fun b hb => ⟨.inl hb, rfl⟩, fun t v ht' hv => ?_, fun t ht' _ => ?_⟩
    ·have : t ≠ t0 := fun e => ht'.elim (fun h => h (by rw [e])) (fun h => by omega)
     simp [β', this, hv]
    ·have : t ≠ t0 := fun e => ht'.elim (fun h => h (by rw [e])) (fun h => by omega)
     rw [eb t, if_neg this]
     exact simk _
   obtain ⟨us, hown, he, hrow⟩ : RepB w p β s.blk B0 (.buf T e xs) r0 := by have := inv.blk hr0; rwa [hblk] at this
   have hroot : ∀ b, rootBlock r0 = some b → B0 ≤ b ∧ b < w.heap.size := fun b hb => (RepB.root (B0 := B0) (b := .buf T e xs) (H := s.blk) (β := β) (p := p) ⟨us, hown, he, hrow⟩ b hb)
   have leaf : ∀ c v, RepL w p β s.blk c v → RepL w p' β' (s.freeze t0).blk (c.frz t0 e xs) v := by
    intro c v hc
    have hkill := RepL.kill hk hc
    cases c <;> try exact hkill
    case full u =>
     simp only [LV.frz]
     split
     ·rename_i hu
      subst hu
      have h1 : β u = some v := hc.1
      rw [hr0] at h1
      obtain rfl := Option.some.inj h1
      exact slice_of_own hown (hrow.imp fun _ _ h => RepT.mono (fun g hg => ⟨.inl hg, rfl⟩) h) (fun b hb => .inr hb)
     ·rename_i hu
      simp only [LV.kill, hu, if_false] at hkill
      exact hkill
   have partS : ∀ y u, RepS w p β s.blk y u → RepS w p' β' (s.freeze t0).blk (y.frz t0 e xs) u := by
    have part : ∀ c u, RepC w p β s.blk c u → RepC w p' β' (s.freeze t0).blk (c.frz t0 e xs) u := by
     intro c u hc
     have := RepC.of (f := LV.frz t0 e xs) rfl leaf hc
     cases c <;> exact this
    intro y u h0
    cases y with
    | c c => exact part c u h0
    | tup cs =>
      obtain ⟨vs, rfl, h1⟩ := h0
      exact ⟨vs, rfl, RepCs.of part h1⟩
   refine ⟨β', p', by rw [hs]; exact inv.size, by rw [hs]; exact inv.deep, inv.defers.more (fun b hb => .inl hb) (fun D hD h => h.elim hD.data fun h => (inv.blk hr0).kind D _ h hD.obj), inv.ext, inv.base, fun b hb => ?_, fun b hb => ?_, fun t u r q b h1 h2 h3 h4 => ?_, fun t => ?_, fun t v hv => ?_, ?_⟩
   ·rcases hb with hb | hb
    ·refine ⟨(inv.shared b hb).1, fun t r hr => ?_⟩
     by_cases htt : t = t0
     ·simp [β', htt] at hr
     ·simp [β', htt] at hr; exact (inv.shared b hb).2 t r hr
    ·refine ⟨(hroot b hb).2, fun t r hr hrb => ?_⟩
     by_cases htt : t = t0
     ·simp [β', htt] at hr
     ·simp [β', htt] at hr
      exact htt (inv.inj t t0 r r0 b hr hr0 hrb hb)
   ·rcases hb with hb | hb
    ·exact inv.conf b hb
    ·exact .inr (hroot b hb).1
   ·by_cases htt : t = t0
    ·simp [β', htt] at h1
    ·by_cases huu : u = t0
     ·simp [β', huu] at h2
     ·simp [β', htt] at h1; simp [β', huu] at h2
      exact inv.inj t u r q b h1 h2 h3 h4
   ·by_cases htt : t = t0
    ·subst htt; simp [β', eb]
    ·simp only [β', htt, if_false]
     have := inv.blks t
     cases hr : β t with
     | none => rw [hr] at this; rw [eb t, if_neg htt, this]; rfl
     | some r =>
       rw [hr] at this
       rw [eb t, if_neg htt]
       refine ⟨?_, this.2⟩
       have kb : ∀ b, RepB w p β s.blk B0 b r → RepB w p' β' (s.freeze t0).blk B0 (b.frz t0 e xs) r := fun b hb => by
        have h2 := RepB.of (f := LV.frz t0 e xs) leaf (fun b hb => ⟨.inl hb, rfl⟩) (fun _ _ => rfl) hb
        cases b <;> exact h2
       exact kb _ this.1
   ·rw [eg t]
    exact partS _ _ (inv.slots t v hv)
   ·have eu : (s.freeze t0).up = mapUp (SV.frz t0 e xs) s.up := by rw [hs]
    rw [eu]
    exact UpsRep.of rfl partS inv.ups
 | _ => simp only [PS.freeze, hblk]; exact ⟨β, p, inv⟩
theorem packLeaf_ok {β : Nat → Option Value} {p : Nat → Prop} {H : Nat → Blk} {c : LV} {v : Value} {x : Σ sh : Sh, sh.T} (hc : RepL w p β H c v) (h : packLeaf c = some x) : RepT w p x.1 x.2 [v] := by
 cases c <;> simp only [packLeaf, reduceCtorEq] at h
 case int => obtain rfl := Option.some.inj h; simp only [RepL] at hc; subst hc; rfl
 case bool => obtain rfl := Option.some.inj h; simp only [RepL] at hc; subst hc; rfl
 case str => obtain rfl := Option.some.inj h; simp only [RepL] at hc; subst hc; rfl
 case ifc => obtain rfl := Option.some.inj h; exact ⟨v, rfl, hc⟩
 case zf => obtain rfl := Option.some.inj h; exact hc
 case zc => obtain rfl := Option.some.inj h; exact hc
 case slice => obtain rfl := Option.some.inj h; exact hc
 case imap => obtain rfl := Option.some.inj h; exact hc
 case optr => obtain rfl := Option.some.inj h; exact hc
 case clo => obtain rfl := Option.some.inj h; exact hc
 case fn => obtain rfl := Option.some.inj h; simp only [RepL] at hc; subst hc; exact ⟨#[], rfl, rfl⟩
 case iptr sh y i =>
  cases i with
  | zero =>
    obtain rfl := Option.some.inj h
    obtain ⟨b, q', us, rfl, h1, h2, h3⟩ := hc
    exact ⟨b, q', us, rfl, h1, h2, h3⟩
  | succ i => cases h
theorem packLeaves_ok {β : Nat → Option Value} {p : Nat → Prop} {H : Nat → Blk} : ∀ {cs : List LV} {vs : List Value} {x : Σ sh : Sh, sh.T}, RepLs w p β H cs vs → packLeaves cs = some x → RepT w p x.1 x.2 vs
 | [], vs, x, hc, h => by
   simp only [packLeaves] at h
   obtain rfl := Option.some.inj h
   have : vs = [] := List.eq_nil_of_length_eq_zero hc.1.symm
   subst this; rfl
 | [c], vs, x, hc, h => by
   simp only [packLeaves] at h
   obtain ⟨v, vs', rfl, h1, h2⟩ := hc.uncons
   have : vs' = [] := List.eq_nil_of_length_eq_zero h2.1.symm
   subst this
   exact packLeaf_ok h1 h
 | c :: d :: cs, vs, x, hc, h => by
   simp only [packLeaves] at h
   obtain ⟨v, vs', rfl, h1, h2⟩ := hc.uncons
   split at h
   ·rename_i a1 x1 b1 y1 e1 e2
    obtain rfl := Option.some.inj h
    exact ⟨[v], vs', rfl, packLeaf_ok h1 e1, packLeaves_ok h2 e2⟩
   ·cases h
theorem freezeB_rel (h : Rel B0 w0 s a w) {t0 : Nat} (ht : t0 < 16000) : Rel B0 w0 (s.freezeB t0) a w := by
 obtain ⟨β, p, inv⟩ := h
 cases hblk : (s.blk t0).flatCells with
 | some cells =>
   cases hpk : packLeaves cells with
   | none => simp only [PS.freezeB, hblk, hpk]; exact ⟨β, p, inv⟩
   | some sx =>
   obtain ⟨sh, x⟩ := sx
   obtain ⟨r0, hr0⟩ := inv.root_of (t := t0) (by intro e; rw [e] at hblk; cases hblk)
   have hdep := key_depth ht
   have hs : s.freezeB t0 = { n := s.n, tmps := s.tmps.map (SV.frzB t0 sh x), hp := H.set .free (s.hp.map (Blk.frzB t0 sh x)) t0, up := mapUp (SV.frzB t0 sh x) s.up, pl := s.pl } := by simp [PS.freezeB, hblk, hpk]
   have eb : ∀ t, (s.freezeB t0).blk t = if t = t0 then .free else (s.blk t).frzB t0 sh x :=
    PS.blk_out (f := Blk.frzB t0 sh x) ht rfl (fun b => by cases b <;> rfl) (fun _ _ => rfl) (by rw [hs]) (by rw [hs])
   have eg : ∀ t, (s.freezeB t0).get t = (s.get t).frzB t0 sh x := by
    intro t
    rw [hs]
    simp only [PS.get, M.get_map]
    cases hh : s.tmps.get t <;> simp [SV.frzB, CV.frzB, LV.frzB, LV.kill, undefS]
   have simk : ∀ b : Blk, BlkSim b (b.frzB t0 sh x) := by
    intro b; cases b <;> simp [Blk.frzB, BlkSim]
   let p' : Nat → Prop := fun b => p b ∨ rootBlock r0 = some b
   let β' : Nat → Option Value := fun t => if t = t0 then none else β t
   have hk : KeepsBut (some t0) w w p p' β β' s.blk (s.freezeB t0).blk := by
    refine ⟨fun b hb => ⟨.inl hb, rfl⟩, fun t v ht' hv => ?_, fun t ht' _ => ?_⟩
    ·have : t ≠ t0 := fun e => ht'.elim (fun h => h (by rw [e])) (fun h => by omega)
     simp [β', this, hv]
    ·have : t ≠ t0 := fun e => ht'.elim (fun h => h (by rw [e])) (fun h => by omega)
     rw [eb t, if_neg this]
     exact simk _
   obtain ⟨b0, us0, hrt, ho0, hcell0, hl0⟩ : ∃ b us, rootBlock r0 = some b ∧ rootOff r0 = 0 ∧ (∀ j, j < us.length → w.cell? ⟨b, j, none⟩ = us[j]?) ∧ RepLs w p β s.blk cells us := by
    have hrep := inv.blk hr0
    cases hb : s.blk t0 <;> rw [hb] at hrep hblk <;> simp only [Blk.flatCells, reduceCtorEq, Option.some.injEq] at hblk
    ·subst hblk
     obtain ⟨b, vs, T, h0, _⟩ := hrep
     obtain ⟨us, h1, h2⟩ := inv.cellsAt hr0 h0.block hb
     exact ⟨b, us, h0.block, h0.off, h1, h2⟩
    ·subst hblk
     obtain ⟨b, vs, T, e1, e2, e3, e4, e5⟩ := hrep
     exact ⟨b, vs.toList, by rw [e1]; rfl, by rw [e1]; rfl, fun j _ => cell_of e3, rows_cells e5⟩
   have hroot : ∀ b, rootBlock r0 = some b → B0 ≤ b ∧ b < w.heap.size := fun b hb => (inv.blk hr0).root b hb
   have leaf : ∀ c v, RepL w p β s.blk c v → RepL w p' β' (s.freezeB t0).blk (c.frzB t0 sh x) v := by
    intro c v hc
    have hkill := RepL.kill hk hc
    cases c <;> try exact hkill
    case ref u sz i o =>
     simp only [LV.frzB]
     split
     ·rename_i hu
      subst hu
      obtain ⟨r1, b1, e1, e2, e3, e4⟩ := hc
      rw [hr0] at e1
      obtain rfl := Option.some.inj e1
      rw [hrt] at e2
      obtain rfl := Option.some.inj e2
      refine ⟨b0, 0, us0, by rw [e3, ho0], .inr hrt, RepT.mono (fun g hg => ⟨.inl hg, rfl⟩) (packLeaves_ok hl0 hpk), fun j hj => by rw [Nat.zero_add]; exact hcell0 j hj⟩
     ·rename_i hu
      simp only [LV.kill, hu, if_false] at hkill
      exact hkill
   have partS : ∀ y u, RepS w p β s.blk y u → RepS w p' β' (s.freezeB t0).blk (y.frzB t0 sh x) u := by
    have part : ∀ c u, RepC w p β s.blk c u → RepC w p' β' (s.freezeB t0).blk (c.frzB t0 sh x) u := by
     intro c u hc
     have := RepC.of (f := LV.frzB t0 sh x) rfl leaf hc
     cases c <;> exact this
    intro y u h0
    cases y with
    | c c => exact part c u h0
    | tup cs =>
      obtain ⟨vs, rfl, h1⟩ := h0
      exact ⟨vs, rfl, RepCs.of part h1⟩
   refine ⟨β', p', by rw [hs]; exact inv.size, by rw [hs]; exact inv.deep, inv.defers.more (fun b hb => .inl hb) (fun D hD h => h.elim hD.data fun h => (inv.blk hr0).kind D _ h hD.obj), inv.ext, inv.base, fun b hb => ?_, fun b hb => ?_, fun t u r q b h1 h2 h3 h4 => ?_, fun t => ?_, fun t v hv => ?_, ?_⟩
   ·rcases hb with hb | hb
    ·refine ⟨(inv.shared b hb).1, fun t r hr => ?_⟩
     by_cases htt : t = t0
     ·simp [β', htt] at hr
     ·simp [β', htt] at hr; exact (inv.shared b hb).2 t r hr
    ·refine ⟨(hroot b hb).2, fun t r hr hrb => ?_⟩
     by_cases htt : t = t0
     ·simp [β', htt] at hr
     ·simp [β', htt] at hr
      exact htt (inv.inj t t0 r r0 b hr hr0 hrb hb)
   ·rcases hb with hb | hb
    ·exact inv.conf b hb
    ·exact .inr (hroot b hb).1
   ·by_cases htt : t = t0
    ·simp [β', htt] at h1
    ·by_cases huu : u = t0
     ·simp [β', huu] at h2
     ·simp [β', htt] at h1; simp [β', huu] at h2
      exact inv.inj t u r q b h1 h2 h3 h4
   ·by_cases htt : t = t0
    ·subst htt; simp [β', eb]
    ·simp only [β', htt, if_false]
     have := inv.blks t
     cases hr : β t with
     | none => rw [hr] at this; rw [eb t, if_neg htt, this]; rfl
     | some r =>
       rw [hr] at this
       rw [eb t, if_neg htt]
       refine ⟨?_, this.2⟩
       have kb : ∀ b, RepB w p β s.blk B0 b r → RepB w p' β' (s.freezeB t0).blk B0 (b.frzB t0 sh x) r := fun b hb => by
        have h2 := RepB.of (f := LV.frzB t0 sh x) leaf (fun b hb => ⟨.inl hb, rfl⟩) (fun _ _ => rfl) hb
        cases b <;> exact h2
       exact kb _ this.1
   ·rw [eg t]
    exact partS _ _ (inv.slots t v hv)
   ·have eu : (s.freezeB t0).up = mapUp (SV.frzB t0 sh x) s.up := by rw [hs]
    rw [eu]
    exact UpsRep.of rfl partS inv.ups
 | none => simp only [PS.freezeB, hblk]; exact ⟨β, p, inv⟩
theorem move_rel (h : Rel B0 w0 s a w) (x y : Nat) : Rel B0 w0 (s.move x y) a w := by
 by_cases hc : (Nat.blt y 16000 && (Nat.blt x 16000 && ((s.blk y).isFree && (!(s.blk x).isFree && !Nat.beq x y)))) = true
 case neg => unfold PS.move; rw [if_neg hc]; exact h
 have hs : s.move x y = { n := s.n, tmps := s.tmps.map (SV.mv x y), hp := H.set .free (H.set ((s.raw x).mv x y) (s.hp.map (Blk.mv x y)) y) x, up := mapUp (SV.mv x y) s.up, pl := s.pl } := by unfold PS.move; rw [if_pos hc]
 simp only [Bool.and_eq_true, Nat.blt_eq, Bool.not_eq_true'] at hc
 obtain ⟨hy, hx, hfy, hfx, hne⟩ := hc
 have hne : x ≠ y := fun e => by subst e; simp at hne
 obtain ⟨β, p, inv⟩ := h
 have hdx := key_depth hx
 have hdy := key_depth hy
 have eb : ∀ t, (s.move x y).blk t = if t = x then .free else if t = y then (s.blk x).mv x y else (s.blk t).mv x y := by
  have hsh : ∀ b : Blk, (b.mv x y).shown = b.shown.mv x y := fun b => by cases b <;> rfl
  have hg : ∀ t, (s.move x y).hp.get t = if t = x then some .free else if t = y then some ((s.raw x).mv x y) else (s.hp.get t).map (Blk.mv x y) := fun t => by
   rw [hs]
   show (H.set .free (H.set ((s.raw x).mv x y) (s.hp.map (Blk.mv x y)) y) x).get t = _
   rw [H.get_set, H.get_set, H.get_map]
  intro t
  by_cases htx : t = x
  ·rw [if_pos htx]
   refine (PS.blk_of (b := Blk.free) (by rw [htx]; exact hx) ?_).trans rfl
   rw [hg, if_pos htx]
  ·rw [if_neg htx]
   by_cases hty : t = y
   ·rw [if_pos hty]
    refine (PS.blk_of (b := (s.raw x).mv x y) (by rw [hty]; exact hy) ?_).trans ?_
    ·rw [hg, if_neg htx, if_pos hty]
    ·rw [hsh, PS.blk_low hx]
   ·rw [if_neg hty]
    exact PS.blk_lift (f := Blk.mv x y) rfl hsh (fun _ _ => rfl) (by rw [hs]) fun _ => by rw [hg, if_neg htx, if_neg hty]
 have eg : ∀ t, (s.move x y).get t = (s.get t).mv x y := by
  intro t
  rw [hs]
  simp only [PS.get, M.get_map]
  cases hh : s.tmps.get t <;> simp [SV.mv, CV.mv, LV.mv, undefS]
 have simk : ∀ b : Blk, BlkSim b (b.mv x y) := by
  intro b; cases b <;> simp [Blk.mv, BlkSim]
 have hβy : β y = none := by
  cases hr : β y with
  | none => rfl
  | some r => have := inv.blk hr; rw [Blk.isFree_iff.1 hfy] at this; exact this.elim
 let β' : Nat → Option Value := fun t => if t = x then none else if t = y then β x else β t
 have to : ∀ t v, β t = some v → β' (if t = x then y else t) = some v ∧ BlkSim (s.blk t) ((s.move x y).blk (if t = x then y else t)) := by
  intro t v hv
  by_cases htx : t = x
  ·subst htx
   simp only [if_true]
   have hyt : ¬ y = t := fun e => hne e.symm
   refine ⟨by simp [β', hyt, hv], ?_⟩
   rw [eb, if_neg (fun e => hne e.symm), if_pos rfl]
   exact simk _
  ·have hty : t ≠ y := fun e => by rw [e, hβy] at hv; cases hv
   simp only [htx, if_false]
   refine ⟨by simp [β', htx, hty, hv], ?_⟩
   rw [eb, if_neg htx, if_neg hty]
   exact simk _
 have leaf : ∀ c v, RepL w p β s.blk c v → RepL w p β' (s.move x y).blk (c.mv x y) v := by
  intro c v hc
  cases c <;> simp only [LV.mv]
  case ref t sz i o =>
   obtain ⟨r, b, h1, h2, h3, h4⟩ := hc
   obtain ⟨g1, g2⟩ := to t r h1
   exact ⟨r, b, g1, h2, h3, h4.sim g2⟩
  case full t =>
   obtain ⟨g1, g2⟩ := to t v hc.1
   exact ⟨g1, hc.2.1.sim g2, hc.2.2⟩
  case sref t sz off len =>
   obtain ⟨a, c, r, h1, h2, h3, h4, h5⟩ := hc
   obtain ⟨g1, g2⟩ := to t r h3
   exact ⟨a, c, r, h1, h2, g1, h4.sim g2, h5⟩
  case cref t o len e =>
   obtain ⟨a, c, r, h1, h2, h3, h4, h5⟩ := hc
   obtain ⟨g1, g2⟩ := to t r h3
   exact ⟨a, c, r, h1, h2, g1, h4.sim g2, h5⟩
  case mref t =>
   obtain ⟨g1, g2⟩ := to t v hc.1
   exact ⟨g1, hc.2.1.sim g2, hc.2.2⟩
  case row j =>
   obtain ⟨g1, g2⟩ := to (16000 + j) v hc.1
   rw [if_neg (by omega)] at g1 g2
   exact ⟨g1, hc.2.1.sim g2, hc.2.2⟩
  case rel j i =>
   obtain ⟨r, b, h1, h2, h3, h4⟩ := hc
   obtain ⟨g1, g2⟩ := to (16000 + j) r h1
   rw [if_neg (by omega)] at g1 g2
   exact ⟨r, b, g1, h2, h3, h4.sim g2⟩
  case cloR f cs =>
   obtain ⟨cv, h1, h2, h3⟩ := hc
   refine ⟨cv, h1, by rw [List.length_map]; exact h2, fun i c u hi hu => ?_⟩
   rw [List.getElem?_map] at hi
   cases hci : cs[i]? with
   | none => rw [hci] at hi; cases hi
   | some c0 =>
     rw [hci] at hi
     obtain rfl := Option.some.inj hi
     have hc := h3 i c0 u hci hu
     cases c0 with
     | ref t =>
       obtain ⟨r, b, g1, g2, g3, g4⟩ := hc
       obtain ⟨k1, k2⟩ := to t r g1
       exact ⟨r, b, k1, g2, g3, g4.sim k2⟩
     | dat s x => exact hc
  all_goals exact RepL.pure rfl hc
 have rb : ∀ b r, RepB w p β s.blk B0 b r → RepB w p β' (s.move x y).blk B0 (b.mv x y) r := by
  intro b r hb
  have h2 := RepB.of (f := LV.mv x y) leaf (fun b hb => ⟨hb, rfl⟩) (fun _ _ => rfl) hb
  cases b <;> exact h2
 have from_ : ∀ t r, β' t = some r → ∃ u, β u = some r ∧ t = (if u = x then y else u) := by
  intro t r hr
  by_cases htx : t = x
  ·simp [β', htx] at hr
  ·by_cases hty : t = y
   ·simp only [β', htx, hty, if_false, if_true] at hr
    rw [if_neg (fun e => hne e.symm)] at hr
    exact ⟨x, hr, by rw [if_pos rfl]; exact hty⟩
   ·simp only [β', htx, hty, if_false] at hr
    exact ⟨t, hr, by rw [if_neg htx]⟩
 have partS : ∀ z u, RepS w p β s.blk z u → RepS w p β' (s.move x y).blk (z.mv x y) u := by
  have part : ∀ c u, RepC w p β s.blk c u → RepC w p β' (s.move x y).blk (c.mv x y) u := by
   intro c u hc
   have := RepC.of (f := LV.mv x y) rfl leaf hc
   cases c <;> exact this
  intro z u h0
  cases z with
  | c c => exact part c u h0
  | tup cs =>
    obtain ⟨vs, rfl, h1⟩ := h0
    exact ⟨vs, rfl, RepCs.of part h1⟩
 refine ⟨β', p, by rw [hs]; exact inv.size, by rw [hs]; exact inv.deep, inv.defers, inv.ext, inv.base, fun b hb => ⟨(inv.shared b hb).1, fun t r hr => ?_⟩, inv.conf, fun t u r q b h1 h2 h3 h4 => ?_, fun t => ?_, fun t v hv => ?_, ?_⟩
 ·obtain ⟨u, hu, _⟩ := from_ t r hr
  exact (inv.shared b hb).2 u r hu
 ·obtain ⟨t', g1, rfl⟩ := from_ t r h1
  obtain ⟨u', g2, rfl⟩ := from_ u q h2
  rw [inv.inj t' u' r q b g1 g2 h3 h4]
 ·by_cases htx : t = x
  ·simp [β', htx, eb]
  ·by_cases hty : t = y
   ·obtain ⟨r, hr⟩ := inv.root_of (t := x) (fun e => by rw [e] at hfx; simp [Blk.isFree] at hfx)
    have h0 : β' t = some r := by
     simp only [β', htx, if_false, hty, if_true]
     rw [if_neg (fun e => hne e.symm)]
     exact hr
    rw [h0]
    simp only []
    rw [eb, if_neg htx, if_pos hty]
    exact ⟨rb _ _ (inv.blk hr), .inl (by rw [hty]; exact hy)⟩
   ·have h0 : β' t = β t := by simp only [β', htx, hty, if_false]
    rw [h0]
    have := inv.blks t
    cases hr : β t with
    | none => rw [hr] at this; simp only []; rw [eb, if_neg htx, if_neg hty, this]; rfl
    | some r =>
      rw [hr] at this
      simp only []
      rw [eb, if_neg htx, if_neg hty]
      exact ⟨rb _ _ this.1, this.2⟩
 ·rw [eg t]
  exact partS _ _ (inv.slots t v hv)
 ·have eu : (s.move x y).up = mapUp (SV.mv x y) s.up := by rw [hs]
  rw [eu]
  exact UpsRep.of rfl partS inv.ups
theorem freezeAll_rel : ∀ {ts : List Nat} {s : PS}, Rel B0 w0 s a w → Rel B0 w0 (freezeAll s ts) a w
 | [], _, h => h
 | t :: ts, s, h => by
   rw [freezeAll]
   refine freezeAll_rel ?_
   cases hb : Nat.blt t 16000 with
   | false => exact h
   | true => exact freeze_rel h (by simpa using hb)
theorem aheadOf_rel {P : Program} {frz : FuncId → Bool} {g : FuncId} {args : List CV} (h : Rel B0 w0 s a w) : Rel B0 w0 (aheadOf P frz s g args) a w := by
 unfold aheadOf
 cases anyRef args && (deep P g || frz g) with
 | false => exact h
 | true => exact freezeAll_rel h
theorem freezeVar_rel (h : Rel B0 w0 s a w) {t : Nat} : Rel B0 w0 (freezeVar s t) a w := by
 unfold freezeVar
 cases hb : Nat.blt t 16000 with
 | false => exact h
 | true =>
   simp only [cond_true]
   split
   ·exact freezeB_rel (freezeAll_rel h) (by simpa using hb)
   ·exact freezeB_rel h (by simpa using hb)
   ·exact h
theorem freezeVars_rel : ∀ {ts : List Nat} {s : PS}, Rel B0 w0 s a w → Rel B0 w0 (freezeVars s ts) a w
 | [], _, h => h
 | _ :: ts, _, h => freezeVars_rel (ts := ts) (freezeVar_rel h)
theorem aheadBig_rel (h : Rel B0 w0 s a w) : Rel B0 w0 (aheadBig s) a w := freezeVars_rel h
theorem aft_rel {frz : FuncId → Bool} {g : FuncId} (h : Rel B0 w0 s a w) : Rel B0 w0 (aft frz g s) a w := by
 unfold aft
 cases frz g with
 | true => exact aheadBig_rel h
 | false => exact h
theorem aheadFunc_rel : ∀ {xs : List Operand} {s : PS}, Rel B0 w0 s a w → Rel B0 w0 (aheadFunc s xs) a w
 | [], _, h => h
 | x :: xs, s, h => by
   unfold aheadFunc
   split
   ·exact aheadFunc_rel (freezeVar_rel h)
   ·exact aheadFunc_rel h
theorem aheadDraw_rel {inl : FuncId → Bool} : ∀ {l : List Oper} {s : PS}, Rel B0 w0 s a w → Rel B0 w0 (aheadDraw inl l s) a w
 | [], _, h => h
 | o :: l, s, h => by
   unfold aheadDraw
   split
   ·split
    ·exact aheadDraw_rel h
    ·exact aheadDraw_rel (aheadFunc_rel h)
   ·exact aheadDraw_rel (aheadFunc_rel h)
   ·split
    ·exact aheadDraw_rel (aheadFunc_rel h)
    ·exact aheadDraw_rel h
   ·exact aheadDraw_rel h
theorem aheadSlice_rel {P : Program} {T : TypeId} {x : LV} (h : Rel B0 w0 s a w) : Rel B0 w0 (aheadSlice P s T x) a w := by
 unfold aheadSlice
 split
 ·split
  ·rename_i t
   cases hb : Nat.blt t 16000 with
   | false => exact h
   | true => exact freeze_rel h (by simpa using hb)
  ·exact h
 ·exact h
theorem aheadStore_rel {a' : LV} {x : CV} (h : Rel B0 w0 s a w) : Rel B0 w0 (aheadStore s a' x) a w := by
 unfold aheadStore
 split
 ·split
  ·exact freezeAll_rel h
  ·exact freezeAll_rel h
  ·exact h
 ·exact h
end
end Go.Ev
namespace Go.Ev
open Go.RowKit
def OwnMeets (P : Program) (g : FuncId) (vs : List CV) (s : PS) (cs : List CV) (s' : PS) : Prop :=
 ∀ B0 w0 β p a w (vals : Array Value), Inv B0 w0 β p s a w → RepCs w p β s.blk vs vals.toList →
  Calls P g vals w fun e w' => ∃ v, e = .returned v ∧ ∃ β' p', Inv B0 w0 β' p' s' a w' ∧ RepS w' p' β' s'.blk (mkSV cs) v
def ExtOk (P : Program) (g : FuncId) (xs : List LV) (sv : SV) : Prop :=
 ∀ w p β H (vals : List Value), RepLs w p β H xs vals → ∃ v, (callFunc g vals.toArray).run P w = .ok (.value v) w ∧ RepS w p β H sv v
def YldMeets (P : Program) (t : Nat) (vs : List CV) (s : PS) (b : Bool) (s' : PS) : Prop :=
 ∀ B0 w0 β p a w (vals : Array Value) l, Inv B0 w0 β p s a w → β t = some (.func (.yield l) #[] #[]) → RepCs w p β s.blk vs vals.toList →
  ∃ rec : Loop, w.heap[l]? = some (.loop rec) ∧ vals.size = rec.params.size ∧
   RoundIn (FR w0.ro) 0 P l rec.fn ((rec.params.zip vals).foldl (fun tmps (t, a) => tmps.setIfInBounds t a) rec.tmps) rec.assign rec.body w fun e w' => e = .returned (.bool b) ∧ ∃ β' p', Inv B0 w0 β' p' s' a w'
def MxOk (P : Program) : Option (FuncId × FuncId × FuncId) → Prop
 | none => True
 | some (fa, fb, fc) => ∀ (w : World) (r : Nat) (ms : Array MapEntry) (clock : Nat) (es : List (Int × Int)), w.heap[r]? = some (.map ms clock) → Go.MapKept.Stamped ms clock → mapNums es = true →
    ms.toList.map (fun m => (m.key, m.val)) = es.map (fun x => (Value.int .i64 x.1, Value.int .i64 x.2)) →
    Calls P fa #[.map (some r)] w fun e w1 => ∃ it, e = .returned it ∧ Below w.heap.size w w1 ∧ Calls P fb #[it] w1 fun e w2 => ∃ sl, e = .returned sl ∧ Below w1.heap.size w1 w2 ∧
     Calls P fc #[sl] w2 fun e w3 => e = .returned (.int .i64 (maxI (es.map fun x => x.2))) ∧ Below w2.heap.size w2 w3
structure CallOk (P : Program) (R : Type) (call : CallK R) : Prop where
 mx : MxOk P call.mx
 ext : ∀ g e xs sv, call.ext g = some e → e xs = some (true, sv) → ExtOk P g xs sv
 data : ∀ g vs k r, call.data g vs k = some r → ∃ rv, k rv = some r ∧ Meets P g vs rv
 own : ∀ g vs s k r, call.own g vs s k = some r → ∃ cs s', k cs s' = some r ∧ OwnMeets P g vs s cs s'
 yld : ∀ t vs s k r, call.yld t vs s k = some r → ∃ b s', k b s' = some r ∧ YldMeets P t vs s b s'
theorem CallOk.cut {P : Program} {R : Type} {call : CallK R} (h : CallOk P R call) (b : Bool) : CallOk P R { call with cut := b } := ⟨h.mx, h.ext, h.data, h.own, h.yld⟩
theorem CallOk.kept {P : Program} {R : Type} {call : CallK R} (h : CallOk P R call) (b : Bool) (l : Option (List Nat)) : CallOk P R { call with cut := b, keep := l } := ⟨h.mx, h.ext, h.data, h.own, h.yld⟩
theorem CallOk.round {P : Program} {R : Type} {call : CallK R} (h : CallOk P R call) (b c : Bool) : CallOk P R { call with cut := b, inR := c } := ⟨h.mx, h.ext, h.data, h.own, h.yld⟩
section
variable {P : Program} {R : Type} {call : CallK R} {s s' : PS} {o : Oper}
theorem evL_fn {B0 : Nat} {w0 : Base} {β : Nat → Option Value} {p : Nat → Prop} {a : Act} {w : World} (inv : Inv B0 w0 β p s a w) {x : Operand} {g : FuncId} (h : evL s x = .fn g) : a.eval x = .func (.func g) #[] #[] := by
 have := evL_ok inv x (by rw [h]; intro e; cases e)
 rwa [h] at this
theorem callable_iff {g : FuncId} (h : callable P g = true) : ∃ fn c, P.funcs[g]? = some fn ∧ fn.body = some c := by
 unfold callable at h
 split at h
 ·rename_i fn hf
  cases hb : fn.body with
  | none => rw [hb] at h; cases h
  | some c => exact ⟨fn, c, hf, hb⟩
 ·cases h
theorem run_enter (hns : NoSpecial P) {f : Operand} {args : Array Operand} {ts : Array TypeId} (ho : o.op = .call { callee := .value f, args := args, argTypes := ts }) {a : Act} {g : FuncId} {cv : Array Value} (hf : a.eval f = .func (.func g) #[] cv)
 (hc : callable P g = true) (w : World) : (execOp a.eval o).run P w = .ok (.enter g (args.map a.eval ++ cv)) w := by
 obtain ⟨fn, c, h1, h2⟩ := callable_iff hc
 have h3 : fn.name ≠ "runtime.NumGoroutine" := by simpa using hns g fn h1
 simp [execOp, ho, resolve, Deferred.ofValue, hf, invoke, callFunc, h1, h2, h3]
theorem wp_call (hns : NoSpecial P) {B0 : Nat} {w0 : Base} {β : Nat → Option Value} {p : Nat → Prop} {a : Act} {w : World} (inv : Inv B0 w0 β p s a w) {f : Operand} {args : Array Operand} {ts : Array TypeId}
 (ho : o.op = .call { callee := .value f, args := args, argTypes := ts }) {g : FuncId} {caps : List CV} (hf : calleeOf (evL s f) = some (g, caps)) (hc : callable P g = true) {vs : List CV} {rv : RV} (hm : Meets P g (vs ++ caps) rv) (hs : snapCs s (evCs s args.toList) = some vs)
 (hcl : (anyRef (evCs s args.toList) && (!(rv.v.all fun v => !v.behind) || rv.b.behind)) = false) {next : Act → World → Prop} {Q : Exit → Act → World → Prop}
 (h : ∀ v w', Below w.heap.size w w' → RepRV w.heap.size w' p rv v → next (a.put o.dst v) w') : o.wpIn (FR w0.ro) 0 P a w next Q := by
 obtain ⟨cv, he, hcap⟩ := callee_ok inv hf
 refine wpIn_of_enter (run_enter hns ho he hc w) ?_
 refine (call_ok inv hm hs hcap hcl).mono fun e w' ⟨v, he, hb, hr⟩ => ?_
 subst he
 exact h v w' hb hr
theorem step_pick {c x y : Operand} (ho : o.op = .pick c x y) {q : Bool} (hc : evL s c = .bool q) : StepOk P s o (s.put o.dst (ev s (if q then x else y))) :=
 StepOk.value fun B0 w0 β p a w inv => by
  have := evL_bool inv hc
  refine ⟨a.eval (if q then x else y), ?_, ev_ok inv _⟩
  cases q <;> simp [execOp, ho, this, asBool]
theorem callOp_ok (hns : NoSpecial P) (hcall : CallOk P R call) {f : Operand} {args : Array Operand} {ts : Array TypeId} (ho : o.op = .call { callee := .value f, args := args, argTypes := ts }) {k : PS → Option R} {r : R} (h : callOp P R call s o f args.toList k = some r) : ∃ s', k s' = some r ∧ StepOk P s o s' := by
 unfold callOp at h
 split at h
 ·rename_i g caps d hf hd
  split at h
  ·rename_i hc
   split at h
   ·rename_i vs hs
    obtain ⟨rv, hk, hm⟩ := hcall.data _ _ _ _ h
    split at hk
    ·cases hk
    rename_i hcl
    have hcl := Bool.eq_false_iff.2 hcl
    split at hk
    ·rename_i s' ht
     refine ⟨s', hk, ?_⟩
     intro B0 w0 a w ⟨β, p, inv⟩ next Q hn
     refine wp_call hns inv ho hf hc hm hs hcl fun v w' hb hr => hn _ _ ?_
     rw [hd]
     exact take_result_ok inv hb hr ht
    ·cases hk
   ·cases h
  ·cases h
 ·cases h
theorem capRep_cv {w : World} {p : Nat → Prop} {β : Nat → Option Value} {H : Nat → Blk} {c : Cap} {v : Value} (h : CapRep w p β H c v) : RepC w p β H c.cv v := by
 cases c with
 | ref t => exact h
 | dat s x => exact cv_ok h.2 (by simp [VOf, h.1])
theorem calleeAll_ok {B0 : Nat} {w0 : Base} {β : Nat → Option Value} {p : Nat → Prop} {a : Act} {w : World} (inv : Inv B0 w0 β p s a w) {f : Operand} {g : FuncId} {caps : List CV} (h : calleeAll (evL s f) = some (g, caps)) :
 ∃ cv, a.eval f = .func (.func g) #[] cv ∧ RepCs w p β s.blk caps cv.toList := by
 by_cases hR : ∃ g' cs, evL s f = .cloR g' cs
 ·obtain ⟨g', cs, hx⟩ := hR
  have cx := evL_ok inv f (by rw [hx]; intro e; cases e)
  rw [hx] at h cx
  obtain ⟨rfl, rfl⟩ := Prod.mk.inj (Option.some.inj h)
  obtain ⟨cv, h1, h2, h3⟩ := cx
  refine ⟨cv, h1, by simpa using h2, fun i c v hc hv => ?_⟩
  rw [List.getElem?_map] at hc
  cases hci : cs[i]? with
  | none => rw [hci] at hc; cases hc
  | some c0 =>
    rw [hci] at hc
    obtain rfl := Option.some.inj hc
    exact capRep_cv (h3 i c0 v hci (by rwa [Array.getElem?_toList] at hv))
 ·have h' : calleeOf (evL s f) = some (g, caps) := by
   unfold calleeAll at h
   split at h
   ·rename_i g' cs hx; exact absurd ⟨g', cs, hx⟩ hR
   ·exact h
  obtain ⟨cv, h1, h2⟩ := callee_ok inv h'
  exact ⟨cv, h1, RepCs.keep ⟨fun b hb => ⟨hb, rfl⟩, fun _ _ h => (by cases h), fun _ h => (by cases h)⟩ (h2 p fun _ hb => hb)⟩
theorem ownOp_ok (hns : NoSpecial P) (hcall : CallOk P R call) {f : Operand} {args : Array Operand} {ts : Array TypeId} (ho : o.op = .call { callee := .value f, args := args, argTypes := ts }) {k : PS → Option R} {r : R} (h : ownOp P R call s o f args.toList k = some r) : ∃ s', k s' = some r ∧ StepOk P s o s' := by
 unfold ownOp at h
 split at h
 ·rename_i g caps hf
  split at h
  ·rename_i hc
   obtain ⟨cs, s', hk, hm⟩ := hcall.own _ _ _ _ _ h
   refine ⟨_, hk, ?_⟩
   intro B0 w0 a w ⟨β, p, inv⟩ next Q hn
   obtain ⟨cv, he, hcap⟩ := calleeAll_ok inv hf
   refine wpIn_of_enter (run_enter hns ho he hc w) ?_
   have hev := evCs_ok inv args.toList
   rw [← Array.toList_map] at hev
   refine (hm B0 w0 β p a w _ (inv.trim _) (by rw [Array.toList_append, trim_blk]; exact repCs_append hev hcap)).mono fun e w' ⟨v, he, β', p', hi, hv⟩ => ?_
   subst he
   exact hn _ _ (aft_rel ⟨β', p', hi.put o.dst hv⟩)
  ·cases h
 ·cases h
theorem extOp_of {e : List LV → Option (Bool × SV)} {xs : List LV} {k : SV → Option R} {r : R} (h : extOp R e xs k = some r) : ∃ sv, k sv = some r ∧ e xs = some (true, sv) ∧ ∀ x ∈ xs, x ≠ .undef := by
 unfold extOp at h
 split at h
 ·rename_i hall
  split at h
  ·rename_i c sv he
   cases c with
   | false => cases h
   | true => exact ⟨sv, h, he, fun x hx e => by have := List.all_eq_true.1 hall x hx; rw [e] at this; cases this⟩
  ·cases h
 ·cases h
theorem ext_step {f : Operand} {args : Array Operand} {ts : Array TypeId} (ho : o.op = .call { callee := .value f, args := args, argTypes := ts }) {g : FuncId} (hf : evL s f = .fn g) {sv : SV} (hx : ExtOk P g (args.toList.map (evL s)) sv) (hk : ∀ x ∈ args.toList.map (evL s), x ≠ .undef) : StepOk P s o (s.put o.dst sv) :=
 StepOk.value fun B0 w0 β p a w inv => by
  have h1 := evL_fn inv hf
  have hl := evLs_ok inv (xs := args.toList) fun x hx' => hk _ (List.mem_map.2 ⟨x, hx', rfl⟩)
  obtain ⟨v, hr, hv⟩ := hx w p β s.blk _ hl
  refine ⟨v, ?_, hv⟩
  have e : ((args.toList.map a.eval).toArray) = args.map a.eval := by rw [← Array.toList_map]
  rw [e] at hr
  simp [execOp, ho, resolve, Deferred.ofValue, h1, invoke, hr]
theorem run_yld {a : Act} {f : Operand} {args : Array Operand} {ts : Array TypeId} (ho : o.op = .call { callee := .value f, args := args, argTypes := ts }) {l : Nat} (hf : a.eval f = .func (.yield l) #[] #[]) {w : World} {rec : Loop} (hl : w.heap[l]? = some (.loop rec)) (hs : (args.map a.eval).size = rec.params.size) :
 (execOp a.eval o).run P w = .ok (.round l rec.fn ((rec.params.zip (args.map a.eval)).foldl (fun tmps (t, a) => tmps.setIfInBounds t a) rec.tmps) rec.assign rec.body) w := by
 have h := run_yield (P := P) hl hs
 simp [execOp, ho, resolve, Deferred.ofValue, hf, invoke, Result.andThen, Sem.run_bind] at h ⊢
 exact h
theorem yldOp_ok (hcall : CallOk P R call) {f : Operand} {args : Array Operand} {ts : Array TypeId} (ho : o.op = .call { callee := .value f, args := args, argTypes := ts }) {t : Nat} (hf : evL s f = .mref t) {q : LpSt} {i : LpI} {m : M SV} (hb : s.blk t = .lp q i m) {k : PS → Option R} {r : R}
 (h : call.yld t (evCs s args.toList) (s.trim call.keep) (fun b s' => k (s'.put o.dst (.c (.l (.bool b))))) = some r) : ∃ s', k s' = some r ∧ StepOk P s o s' := by
 obtain ⟨b, s', hk, hm⟩ := hcall.yld _ _ _ _ _ h
 refine ⟨_, hk, ?_⟩
 intro B0 w0 a w ⟨β, p, inv⟩ next Q hn
 have cx := evL_ok inv f (by rw [hf]; intro e; cases e)
 rw [hf] at cx
 obtain ⟨h1, _, _⟩ := cx
 have hrep := inv.blk h1
 rw [hb] at hrep
 obtain ⟨l, rec, e, _⟩ := hrep
 have hev := evCs_ok inv args.toList
 rw [← Array.toList_map] at hev
 rw [e] at h1
 obtain ⟨rec, g1, g2, g3⟩ := hm B0 w0 β p a w _ l (inv.trim _) h1 (by rw [trim_blk]; exact hev)
 refine wpIn_of_run (run_yld ho e g1 g2) (fun _ e => by cases e) ?_
 rw [Oper.uponIn_round]
 refine ⟨fun e => (by cases e), g3.mono fun e w' ⟨he, β', p', hi⟩ => ?_⟩
 subst he
 exact hn _ _ ⟨β', p', hi.put o.dst (x := .c (.l (.bool b))) rfl⟩
theorem runOp_ok (hns : NoSpecial P) (hcall : CallOk P R call) {k : PS → Option R} {r : R} (h : runOp P R call s o k = some r) : ∃ s', k s' = some r ∧ StepOk P s o s' := by
 unfold runOp at h
 split at h
 ·rename_i c x y ho
  split at h
  ·rename_i q hc
   have := step_pick (P := P) ho hc
   cases q
   ·exact ⟨_, h, this⟩
   ·exact ⟨_, h, this⟩
  ·cases h
 ·rename_i f args ts ho
  split at h
  ·rename_i g caps hf
   split at h
   ·rename_i e hext
    split at h
    ·rename_i hfn
     obtain ⟨sv, h1, h2, h3⟩ := extOp_of h
     have hf' : evL s f = .fn g := by
      cases hx : evL s f <;> rw [hx] at hfn hf <;> simp [calleeAll, calleeOf] at hfn hf
      rw [hf.1]
     exact ⟨_, h1, ext_step ho hf' (hcall.ext _ _ _ _ hext h2) h3⟩
    ·cases h
   split at h
   ·exact ownOp_ok hns hcall ho h
   ·obtain ⟨s', h1, h2⟩ := callOp_ok hns hcall ho h
    exact ⟨s', h1, fun B0 w0 a w hr next Q hn => h2 B0 w0 a w (aheadOf_rel hr) next Q hn⟩
  ·split at h
   ·rename_i t hf
    split at h
    ·rename_i q i m hb
     exact yldOp_ok hcall ho hf hb h
    ·cases h
   ·cases h
 ·rename_i f first caps ho
  have he : ({ o with op := .makeFunc f first caps } : Oper) = o := by rw [← ho]
  rw [he] at h
  split at h
  ·rename_i c s' hs
   cases c with
   | false => cases h
   | true => exact ⟨s', h, fun B0 w0 a w hr next Q hn => step_ok hs B0 w0 a w (by
     split
     ·split <;> first | exact hr | exact aheadFunc_rel hr
     ·exact aheadFunc_rel hr) next Q hn⟩
  ·cases h
 ·rename_i T x lo hi m ho
  have he : ({ o with op := .slice T x lo hi m } : Oper) = o := by rw [← ho]
  rw [he] at h
  split at h
  ·rename_i c s' hs
   cases c with
   | false => cases h
   | true => exact ⟨s', h, fun B0 w0 a w hr next Q hn => step_ok hs B0 w0 a w (by split <;> first | exact hr | exact aheadSlice_rel hr) next Q hn⟩
  ·cases h
 ·rename_i T a x ho
  have he : ({ o with op := .store T a x } : Oper) = o := by rw [← ho]
  rw [he] at h
  split at h
  ·rename_i c s' hs
   cases c with
   | false => cases h
   | true => exact ⟨s', h, fun B0 w0 a w hr next Q hn => step_ok hs B0 w0 a w (aheadStore_rel hr) next Q hn⟩
  ·cases h
 ·rename_i T n parts ho
  have he : ({ o with op := .buildSlice T n parts } : Oper) = o := by rw [← ho]
  rw [he] at h
  split at h
  ·rename_i c s' hs
   cases c with
   | false => cases h
   | true => exact ⟨s', h, fun B0 w0 a w hr next Q hn => step_ok hs B0 w0 a w (by
      cases hrt : rowT T with
      | true => exact hr
      | false => exact freezeAll_rel hr) next Q hn⟩
  ·cases h
 ·split at h
  ·rename_i c s' hs
   cases c with
   | false => cases h
   | true => exact ⟨s', h, step_ok hs⟩
  ·cases h
theorem put_same {a : Act} {t : Tmp} {v : Value} (h : a.eval (.tmp t) = v) : a.put (some t) v = a := by
 have : a.tmps.setIfInBounds t v = a.tmps := by
  apply Array.ext
  ·exact Array.size_setIfInBounds
  ·intro i h1 h2
   rw [Array.getElem_setIfInBounds]
   split
   ·rename_i e
    subst e
    rw [← h]
    simp [Act.eval, h2]
   ·rfl
 show ({ a with tmps := a.tmps.setIfInBounds t v } : Act) = a
 rw [this]
theorem ev_bool {B0 : Nat} {w0 : Base} {β : Nat → Option Value} {p : Nat → Prop} {a : Act} {w : World} (inv : Inv B0 w0 β p s a w) {x : Operand} {b : Bool} (h : ev s x = .c (.l (.bool b))) : a.eval x = .bool b := by
 have := ev_ok inv x
 rw [h] at this
 exact this
theorem rel_setBool {B0 : Nat} {w0 : Base} {a : Act} {w : World} (h : Rel B0 w0 s a w) {t : Tmp} {b : Bool} (hb : ev s (.tmp t) = .c (.l (.bool b))) : Rel B0 w0 (setBool s t b) a w := by
 obtain ⟨β, p, inv⟩ := h
 have e := ev_bool inv hb
 have := inv.put (some t) (x := .c (.l (.bool b))) (v := .bool b) (by rfl)
 rw [put_same e] at this
 exact ⟨β, p, this⟩
theorem rel_skip {B0 : Nat} {w0 : Base} {a : Act} {w : World} (h : Rel B0 w0 s a w) (d : Option Tmp) : Rel B0 w0 (s.put d skipped) (a.put d undef) w := by
 obtain ⟨β, p, inv⟩ := h
 exact ⟨β, p, inv.put d ⟨#[], rfl, repCs_nil⟩⟩
theorem yielded_bool {B0 : Nat} {w0 : Base} {β : Nat → Option Value} {p : Nat → Prop} {a : Act} {w : World} (inv : Inv B0 w0 β p s a w) {ops : Array Oper} {j : Nat} {oj : Oper} (hj : ops[j]? = some oj) {g : Tmp} (hd : oj.dst = some g)
 {b : Bool} (hb : ev s (.tmp g) = .c (.l (.bool b))) : yielded ops a.tmps j = some b := by
 have e := ev_bool inv hb
 unfold yielded
 rw [hj, Option.bind_some, hd, Option.bind_some]
 simp only [Act.eval] at e
 cases hg : a.tmps[g]? with
 | none =>
   rw [Array.getD_eq_getD_getElem?, hg] at e
   cases e
 | some v =>
   rw [Array.getD_eq_getD_getElem?, hg] at e
   obtain rfl : v = .bool b := e
   rfl
theorem yielded_none {B0 : Nat} {w0 : Base} {β : Nat → Option Value} {p : Nat → Prop} {a : Act} {w : World} (inv : Inv B0 w0 β p s a w) {ops : Array Oper} {j : Nat} {oj : Oper} (hj : ops[j]? = some oj) {g : Tmp} (hd : oj.dst = some g)
 (hb : ev s (.tmp g) = .tup []) : yielded ops a.tmps j = none := by
 have e := ev_ok inv (.tmp g)
 rw [hb] at e
 obtain ⟨vs, e, _⟩ := e
 unfold yielded
 rw [hj, Option.bind_some, hd, Option.bind_some]
 simp only [Act.eval] at e
 cases hg : a.tmps[g]? with
 | none => rfl
 | some v =>
   rw [Array.getD_eq_getD_getElem?, hg] at e
   obtain rfl : v = .tuple vs := e
   rfl
def OpTo (P : Program) (ops : Array Oper) (s : PS) (o : Oper) (s' : PS) : Prop :=
 ∀ B0 w0 a w, Rel B0 w0 s a w → ∀ (next : Act → World → Prop) (Q : Exit → Act → World → Prop), (∀ a' w', Rel B0 w0 s' a' w' → next a' w') →
  if Region.wanted o (yielded ops a.tmps) then o.wpIn (FR w0.ro) 0 P a w next Q else next (a.put o.dst undef) w
theorem opTo_free {ops : Array Oper} (hg : o.guard = none) (h : StepOk P s o s') : OpTo P ops s o s' := fun B0 w0 a w hr next Q hn => by
 rw [if_pos (by simp [Region.wanted, hg])]
 exact h B0 w0 a w hr next Q hn
theorem opTo_on {ops : Array Oper} {j : Nat} {want : Bool} (hg : o.guard = some (j, want)) {oj : Oper} (hj : ops[j]? = some oj) {g : Tmp} (hd : oj.dst = some g) (hb : ev s (.tmp g) = .c (.l (.bool want)))
 (h : StepOk P s o s') : OpTo P ops s o s' := fun B0 w0 a w hr next Q hn => by
 obtain ⟨β, p, inv⟩ := hr
 rw [if_pos (by simp [Region.wanted, hg, yielded_bool inv hj hd hb])]
 exact h B0 w0 a w ⟨β, p, inv⟩ next Q hn
theorem stepOk_setBool {g : Tmp} {b : Bool} (hb : ev s (.tmp g) = .c (.l (.bool b))) (h : StepOk P (setBool s g b) o s') : StepOk P s o s' :=
 fun B0 w0 a w hr next Q hn => h B0 w0 a w (rel_setBool hr hb) next Q hn
theorem opTo_off {ops : Array Oper} {j : Nat} {want : Bool} (hg : o.guard = some (j, want)) {oj : Oper} (hj : ops[j]? = some oj) {g : Tmp} (hd : oj.dst = some g) {b : Bool} (hb : ev s (.tmp g) = .c (.l (.bool b))) (hne : b ≠ want) :
 OpTo P ops s o ((setBool s g b).put o.dst skipped) := fun B0 w0 a w hr next Q hn => by
 obtain ⟨β, p, inv⟩ := hr
 rw [if_neg (by simp [Region.wanted, hg, yielded_bool inv hj hd hb, hne])]
 exact hn _ _ (rel_skip (rel_setBool ⟨β, p, inv⟩ hb) _)
theorem opTo_none {ops : Array Oper} {j : Nat} {want : Bool} (hg : o.guard = some (j, want)) {oj : Oper} (hj : ops[j]? = some oj) {g : Tmp} (hd : oj.dst = some g) (hb : ev s (.tmp g) = .tup []) :
 OpTo P ops s o (s.put o.dst skipped) := fun B0 w0 a w hr next Q hn => by
 obtain ⟨β, p, inv⟩ := hr
 rw [if_neg (by simp [Region.wanted, hg, yielded_none inv hj hd hb])]
 exact hn _ _ (rel_skip ⟨β, p, inv⟩ _)
def OpsTo (P : Program) (ops : Array Oper) (l : List Oper) (s s' : PS) : Prop :=
 ∀ B0 w0 a w, Rel B0 w0 s a w → ∀ Q : Exit → Act → World → Prop, (∀ a' w', Rel B0 w0 s' a' w' → Q .normal a' w') → wpListIn (FR w0.ro) 0 P ops Q l a w
theorem OpTo.cons {ops : Array Oper} {l : List Oper} {s1 s2 : PS} (h1 : OpTo P ops s o s1) (h2 : OpsTo P ops l s1 s2) : OpsTo P ops (o :: l) s s2 := fun B0 w0 a w hr Q hq => by
 have := h1 B0 w0 a w hr (wpListIn (FR w0.ro) 0 P ops Q l) Q fun a' w' hr' => h2 B0 w0 a' w' hr' Q hq
 unfold wpListIn
 split
 ·rename_i hw; rw [if_pos hw] at this; exact this
 ·rename_i hw; rw [if_neg hw] at this; exact ⟨fun _ _ => trivial, this⟩
theorem arr_one {x : Array Operand} {m : Operand} (h : x.toList = [m]) : x = #[m] := Array.toList_inj.1 (h.trans rfl)
theorem wpListIn_one {ops : Array Oper} {l : List Oper} {F : Fence} {a : Act} {w : World} {Q : Exit → Act → World → Prop} (hg : o.guard = none) (h : o.wpIn F 0 P a w (wpListIn F 0 P ops Q l) Q) : wpListIn F 0 P ops Q (o :: l) a w := by
 unfold wpListIn
 rw [if_pos (by simp [Region.wanted, hg])]
 exact h
theorem put_eval {a : Act} {d : Tmp} {v : Value} (h : d < a.tmps.size) : (a.put (some d) v).eval (.tmp d) = v := by
 simp [Act.put, Act.eval, h]
theorem mx_ok (hns : NoSpecial P) {mx : Option (FuncId × FuncId × FuncId)} (hmx : MxOk P mx) {ops : Array Oper} {l rest : List Oper} {s1 s2 : PS} (h : mxOp P mx l s = some (true, s1, rest)) (h2 : OpsTo P ops rest s1 s2) : OpsTo P ops l s s2 := by
 unfold mxOp at h
 split at h
 ·cases h
 rename_i fa fb fc
 split at h
 case h_2 => cases h
 rename_i o1 o2 o3 rest'
 split at h
 case h_2 => cases h
 rename_i a1 x1 ts1 b1 x2 ts2 c1 x3 ts3 ho1 ho2 ho3
 split at h
 case h_2 => cases h
 rename_i m t1 t2 d1 d2 hx1 hx2 hx3 hd1 hd2
 split at h
 case isFalse => cases h
 rename_i hc
 obtain ⟨g1, g2, g3, rfl, rfl, l1, l2, rfl, rfl, rfl, k1, k2, k3⟩ := hc
 split at h
 case h_2 => cases h
 rename_i t hm
 split at h
 case h_2 => cases h
 rename_i es hs
 obtain ⟨hn, hr⟩ := Prod.mk.inj (Option.some.inj h)
 obtain ⟨rfl, rfl⟩ := Prod.mk.inj hr
 obtain rfl := arr_one hx1
 obtain rfl := arr_one hx2
 obtain rfl := arr_one hx3
 intro B0 w0 a w ⟨β, p, inv⟩ Q hq
 have cx := evL_ok inv m (by rw [hm]; intro e; cases e)
 rw [hm] at cx
 obtain ⟨hβ, _, _⟩ := cx
 have hrep := inv.blk hβ
 rw [hs] at hrep
 obtain ⟨b, ms, clock, e1, hB, hh, hst, hsz, hent⟩ := hrep
 have hents := ents_of hsz hent
 have hlist : ms.toList.map (fun m => (m.key, m.val)) = es.map (fun x => (Value.int .i64 x.1, Value.int .i64 x.2)) := by
  apply List.ext_getElem?
  intro i
  rw [List.getElem?_map, List.getElem?_map]
  cases hi : es[i]? with
  | none =>
    have : ms.toList[i]? = none := by rw [List.getElem?_eq_none_iff] at hi ⊢; rw [hents.1]; exact hi
    rw [this]; rfl
  | some x =>
    have hlt : i < ms.toList.length := by rw [hents.1]; exact (List.getElem?_eq_some_iff.1 hi).1
    have hmi := List.getElem?_eq_getElem hlt
    obtain ⟨a1, us, a2, _, a3⟩ := hents.2 i x _ hi hmi
    rw [hmi]
    simp only [Option.map_some, a1]
    rw [vof_int a2 a3]
 have hcall := hmx w b ms clock es hh hst hn hlist
 have hsz0 : a.tmps.size = s.n := inv.size
 refine wpListIn_one g1 (wpIn_of_enter (run_enter hns ho1 (a := a) rfl k1 w) ?_)
 have e2 : (#[m].map a.eval ++ #[] : Array Value) = #[.map (some b)] := by simp [e1]
 rw [e2]
 refine hcall.mono fun e w1 ⟨it, he, hb1, hcall2⟩ => ?_
 subst he
 have inv1 : Inv B0 w0 β p (s.put (some t1) (.c (.l .undef))) (a.put o1.dst it) w1 := by rw [hd1]; exact (inv.world hb1).put (some t1) trivial
 refine wpListIn_one g2 (wpIn_of_enter (run_enter hns ho2 (a := a.put o1.dst it) rfl k2 w1) ?_)
 have e3 : (#[Operand.tmp t1].map (a.put o1.dst it).eval ++ #[] : Array Value) = #[it] := by rw [hd1]; simp [put_eval (a := a) (d := t1) (v := it) (by rw [hsz0]; exact l1)]
 rw [e3]
 refine hcall2.mono fun e w2 ⟨sl, he, hb2, hcall3⟩ => ?_
 subst he
 have inv2 : Inv B0 w0 β p ((s.put (some t1) (.c (.l .undef))).put (some t2) (.c (.l .undef))) ((a.put o1.dst it).put o2.dst sl) w2 := by rw [hd2]; exact (inv1.world hb2).put (some t2) trivial
 refine wpListIn_one g3 (wpIn_of_enter (run_enter hns ho3 (a := (a.put o1.dst it).put o2.dst sl) rfl k3 w2) ?_)
 have e4 : (#[Operand.tmp t2].map ((a.put o1.dst it).put o2.dst sl).eval ++ #[] : Array Value) = #[sl] := by rw [hd2]; simp [put_eval (a := a.put o1.dst it) (d := t2) (v := sl) (by rw [Act.put_size, hsz0]; exact l2)]
 rw [e4]
 refine hcall3.mono fun e w3 ⟨he, hb3⟩ => ?_
 subst he
 exact h2 B0 w0 _ w3 ⟨β, p, (inv2.world hb3).put o3.dst (x := .c (.l (.int .i64 _))) rfl⟩ Q hq
theorem mxAt_ok (hns : NoSpecial P) {mx : Option (FuncId × FuncId × FuncId)} (hmx : MxOk P mx) {ops : Array Oper} {l rest : List Oper} {s1 s2 : PS} (h : mxAt P mx l s = some (true, s1, rest)) (h2 : OpsTo P ops rest s1 s2) : OpsTo P ops l s s2 := by
 unfold mxAt at h
 split at h
 ·cases h
 split at h
 case h_2 => cases h
 split at h
 case h_2 => cases h
 rename_i o l' x ho
 split at h
 case isFalse => cases h
 rename_i hg
 exact (opTo_free hg (step_move (.inl ho))).cons (mx_ok hns hmx h h2)
theorem runOps_ok (hns : NoSpecial P) (hcall : CallOk P R call) {ops : Array Oper} : ∀ {l : List Oper} {s : PS} {k : PS → Option R} {r : R}, runOps P R call ops.toList l s k = some r → ∃ s', k s' = some r ∧ OpsTo P ops l s s'
 | [], s, k, r, h => ⟨s, h, fun _ _ a w hr Q hq => wpListIn_nil (hq a w hr)⟩
 | o :: l, s, k, r, h => by
   unfold runOps at h
   split at h
   ·rename_i hg
    obtain ⟨s1, h1, h2⟩ := runOp_ok hns hcall h
    obtain ⟨s2, h3, h4⟩ := runOps_ok hns hcall h1
    exact ⟨s2, h3, (opTo_free hg h2).cons h4⟩
   ·rename_i j want hg
    split at h
    ·rename_i oj hj
     rw [Array.getElem?_toList] at hj
     split at h
     ·rename_i g hd
      split at h
      ·rename_i b hb
       cases b with
       | true =>
         simp only [cond_true] at h
         cases want with
         | true =>
           simp only [cond_true, cond_false] at h
           obtain ⟨s1, h1, h2⟩ := runOp_ok hns hcall h
           obtain ⟨s2, h3, h4⟩ := runOps_ok hns hcall h1
           exact ⟨s2, h3, (opTo_on hg hj hd hb (stepOk_setBool hb h2)).cons h4⟩
         | false =>
           obtain ⟨s2, h3, h4⟩ := runOps_ok hns hcall h
           exact ⟨s2, h3, (opTo_off hg hj hd hb (by simp)).cons h4⟩
       | false =>
         simp only [cond_false] at h
         cases want with
         | true =>
           obtain ⟨s2, h3, h4⟩ := runOps_ok hns hcall h
           exact ⟨s2, h3, (opTo_off hg hj hd hb (by simp)).cons h4⟩
         | false =>
           simp only [cond_true, cond_false] at h
           obtain ⟨s1, h1, h2⟩ := runOp_ok hns hcall h
           obtain ⟨s2, h3, h4⟩ := runOps_ok hns hcall h1
           exact ⟨s2, h3, (opTo_on hg hj hd hb (stepOk_setBool hb h2)).cons h4⟩
      ·rename_i hb
       obtain ⟨s2, h3, h4⟩ := runOps_ok hns hcall h
       exact ⟨s2, h3, (opTo_none hg hj hd hb).cons h4⟩
      ·cases h
     ·cases h
    ·cases h
end
end Go.Ev
namespace Go.Ev
open Go.RowKit
structure Sees (m t : PS) (xs : List Tmp) (hp : Bool) : Prop where
 n : t.n = m.n
 deep : m.n ≤ 16000
 slots : ∀ u, u ∈ xs → t.get u = m.get u
 blks : hp = true → ∀ b, m.blk b ≠ .free → t.blk b = m.blk b
 pl : hp = true → t.pl = m.pl
theorem mem_tmpsOf {u : Tmp} : ∀ {l : List Operand}, Operand.tmp u ∈ l → u ∈ tmpsOf l
 | [], h => by cases h
 | x :: l, h => by
   rcases List.mem_cons.1 h with h | h
   ·subst h; simp [tmpsOf]
   ·have := mem_tmpsOf h
    cases x <;> simp [tmpsOf, this]
section
variable {P : Program} {m t m' : PS} {o : Oper} {c hp : Bool} {l : List Operand}
theorem Sees.ev (S : Sees m t (tmpsOf l) hp) {x : Operand} (h : x ∈ l) : ev t x = ev m x := by
 cases x with
 | tmp u => simp only [Go.Ev.ev, S.n, S.slots u (mem_tmpsOf h)]
 | const v => rfl
 | func f => rfl
 | global g => rfl
theorem Sees.evL (S : Sees m t (tmpsOf l) hp) {x : Operand} (h : x ∈ l) : evL t x = evL m x := by unfold Go.Ev.evL; rw [S.ev h]
theorem Sees.evC (S : Sees m t (tmpsOf l) hp) {x : Operand} (h : x ∈ l) : evC t x = evC m x := by unfold Go.Ev.evC; rw [S.ev h]
theorem Sees.evCs (S : Sees m t (tmpsOf l) hp) : ∀ {xs : List Operand}, (∀ x ∈ xs, x ∈ l) → evCs t xs = evCs m xs
 | [], _ => rfl
 | x :: xs, h => by simp only [Go.Ev.evCs]; rw [S.evC (h x (by simp)), S.evCs fun y hy => h y (by simp [hy])]
theorem Sees.mapL (S : Sees m t (tmpsOf l) hp) : ∀ {xs : List Operand}, (∀ x ∈ xs, x ∈ l) → xs.map (Go.Ev.evL t) = xs.map (Go.Ev.evL m)
 | [], _ => rfl
 | x :: xs, h => by simp only [List.map_cons]; rw [S.evL (h x (by simp)), S.mapL fun y hy => h y (by simp [hy])]
theorem Sees.parts (S : Sees m t (tmpsOf l) hp) : ∀ {xs : List (Nat × Operand)}, (∀ x ∈ xs, x.2 ∈ l) → evParts t xs = evParts m xs
 | [], _ => rfl
 | (i, x) :: xs, h => by simp only [evParts]; rw [S.evC (h (i, x) (by simp)), S.parts fun y hy => h y (by simp [hy])]
theorem get_put {s : PS} (hd : s.n ≤ 16000) {d : Tmp} {x : SV} (h : d < s.n) : (s.put (some d) x).get d = x := by
 have hlt : Nat.blt d s.n = true := by simp [h]
 simp only [PS.put, hlt, cond_true, PS.get_setT x (lt_depth h hd), if_true]
theorem put_out {s : PS} {d : Tmp} {x : SV} (h : ¬ d < s.n) : s.put (some d) x = s := by
 have hlt : Nat.blt d s.n = false := by
  cases hq : Nat.blt d s.n with
  | false => rfl
  | true => exact absurd (Nat.blt_eq ▸ hq) h
 simp only [PS.put, hlt, cond_false]
theorem putEff (hk : kindOf o.op = .pure ∨ kindOf o.op = .quiet) (hn : t.n = m.n) (hd : m.n ≤ 16000) {x : SV} : effect o m (m.put o.dst x) t = t.put o.dst x := by
 have key : (match o.dst with | some d => t.put (some d) ((m.put o.dst x).get d) | none => t) = t.put o.dst x := by
  cases ho : o.dst with
  | none => rfl
  | some d =>
    simp only []
    by_cases h : d < m.n
    ·rw [get_put hd h]
    ·rw [put_out (by rwa [hn]), put_out (by rwa [hn])]
 unfold effect
 rcases hk with hk | hk <;> rw [hk] <;> exact key
theorem newEff {d : Tmp} {B : Blk} {v : SV} (hB : B.shown = B) (hn : t.n = m.n) (hd : m.n ≤ 16000) (h1 : m.blk d = .free) (h2 : t.blk d = .free) (h : m.new d B v = some m') : t.new d B v = some ((t.setT d (m'.get d)).setB d (m'.blk d)) := by
 unfold PS.new at h ⊢
 rw [hn]
 cases hlt : Nat.blt d m.n with
 | false => rw [hlt] at h; cases h
 | true =>
   rw [hlt] at h
   have hdn : d < m.n := by rw [Nat.blt_eq] at hlt; exact hlt
   have hdep := lt_depth hdn hd
   have e1 : m.drop d = m := by simp [PS.drop, h1, Blk.isFree]
   have e2 : t.drop d = t := by simp [PS.drop, h2, Blk.isFree]
   rw [e1] at h
   obtain rfl := Option.some.inj h
   rw [e2, PS.get_setB, PS.get_setT _ hdep, if_pos rfl, PS.blk_setB' _ hdep hB, if_pos rfl]
   rfl
theorem blk_cases (hb : ∀ b, m.blk b ≠ .free → t.blk b = m.blk b) (u : Nat) : m.blk u = .free ∨ t.blk u = m.blk u := by
 by_cases hf : m.blk u = .free
 ·exact .inl hf
 ·exact .inr (hb u hf)
theorem srcOf_mono (hb : ∀ b, m.blk b ≠ .free → t.blk b = m.blk b) {v : LV} {x : Σ e : Sh, List e.T} (h : srcOf m v = some x) : srcOf t v = some x := by
 cases v <;> simp only [srcOf] at h ⊢ <;> first | exact h | skip
 case full u => exact (blk_cases hb u).elim (fun e => by rw [e] at h; cases h) (fun e => by rw [e]; exact h)
 case sref u _ _ _ => exact (blk_cases hb u).elim (fun e => by rw [e] at h; cases h) (fun e => by rw [e]; exact h)
 case cref u _ _ _ => exact (blk_cases hb u).elim (fun e => by rw [e] at h; cases h) (fun e => by rw [e]; exact h)
theorem lenOf_mono (hb : ∀ b, m.blk b ≠ .free → t.blk b = m.blk b) (hpl : t.pl = m.pl) {v : LV} {x : Nat} (h : lenOf m v = some x) : lenOf t v = some x := by
 cases v <;> simp only [lenOf, hpl] at h ⊢ <;> first | exact h | skip
 case full u => exact (blk_cases hb u).elim (fun e => by rw [e] at h; cases h) (fun e => by rw [e]; exact h)
theorem lenMap_mono (hb : ∀ b, m.blk b ≠ .free → t.blk b = m.blk b) {v : LV} {x : Nat} (h : lenMap m v = some x) : lenMap t v = some x := by
 cases v <;> simp only [lenMap] at h ⊢ <;> first | exact h | skip
 case mref u => exact (blk_cases hb u).elim (fun e => by rw [e] at h; cases h) (fun e => by rw [e]; exact h)
theorem snapLeaf_mono (hb : ∀ b, m.blk b ≠ .free → t.blk b = m.blk b) {v : LV} {x : Σ sh : Sh, sh.T} (h : snapL.snapLeaf m v = some x) : snapL.snapLeaf t v = some x := by
 cases v <;> simp only [snapL.snapLeaf] at h ⊢ <;> first | exact h | skip
 case iptr sh y i => cases i <;> exact h
 case full u => exact (blk_cases hb u).elim (fun e => by rw [e] at h; cases h) (fun e => by rw [e]; exact h)
 case mref u => exact (blk_cases hb u).elim (fun e => by rw [e] at h; cases h) (fun e => by rw [e]; exact h)
theorem snapLeaves_mono (hb : ∀ b, m.blk b ≠ .free → t.blk b = m.blk b) : ∀ {vs : List LV} {x : Σ sh : Sh, sh.T}, snapL.snapLeaves m vs = some x → snapL.snapLeaves t vs = some x
 | [], x, h => h
 | [v], x, h => snapLeaf_mono hb h
 | v :: u :: vs, x, h => by
   simp only [snapL.snapLeaves] at h ⊢
   split at h
   ·rename_i a1 x1 b1 y1 e1 e2
    rw [snapLeaf_mono hb e1, snapLeaves_mono hb e2]
    exact h
   ·cases h
theorem snapL_mono (hb : ∀ b, m.blk b ≠ .free → t.blk b = m.blk b) {v x : LV} (h : snapL m v = some x) : snapL t v = some x := by
 cases v <;> simp only [snapL] at h ⊢ <;> first | exact h | skip
 case ref u _ _ _ =>
  rcases blk_cases hb u with e | e
  ·rw [e] at h; cases h
  ·rw [e]
   split at h
   ·rename_i cs hs
    split at h
    ·rename_i sh y hy
     simp only [snapLeaves_mono hb hy]
     exact h
    ·cases h
   ·cases h
 case full u => exact (blk_cases hb u).elim (fun e => by rw [e] at h; cases h) (fun e => by rw [e]; exact h)
 case mref u => exact (blk_cases hb u).elim (fun e => by rw [e] at h; cases h) (fun e => by rw [e]; exact h)
 case sref u _ _ _ =>
  split at h
  ·rename_i e xs hs; rw [srcOf_mono hb hs]; exact h
  ·cases h
 case cref u _ _ _ =>
  split at h
  ·rename_i e xs hs; rw [srcOf_mono hb hs]; exact h
  ·cases h
theorem snapLs_mono (hb : ∀ b, m.blk b ≠ .free → t.blk b = m.blk b) : ∀ {vs x : List LV}, snapLs m vs = some x → snapLs t vs = some x
 | [], x, h => h
 | v :: vs, x, h => by
   simp only [snapLs] at h ⊢
   split at h
   ·rename_i e1 e2; rw [snapL_mono hb e1, snapLs_mono hb e2]; exact h
   ·cases h
theorem snapC_mono (hb : ∀ b, m.blk b ≠ .free → t.blk b = m.blk b) {v x : CV} (h : snapC m v = some x) : snapC t v = some x := by
 cases v <;> simp only [snapC] at h ⊢
 ·split at h
  ·rename_i e1; rw [snapL_mono hb e1]; exact h
  ·cases h
 ·split at h
  ·rename_i e1; rw [snapLs_mono hb e1]; exact h
  ·cases h
theorem snapCs_mono (hb : ∀ b, m.blk b ≠ .free → t.blk b = m.blk b) : ∀ {vs x : List CV}, snapCs m vs = some x → snapCs t vs = some x
 | [], x, h => h
 | v :: vs, x, h => by
   simp only [snapCs] at h ⊢
   split at h
   ·rename_i e1 e2; rw [snapC_mono hb e1, snapCs_mono hb e2]; exact h
   ·cases h
theorem fin_put (hk : kindOf o.op = .pure ∨ kindOf o.op = .quiet) (hn : t.n = m.n) (hd : m.n ≤ 16000) {c c' : Bool} {x : SV} (h : some (c', m.put o.dst x) = some (c, m')) : some (c', t.put o.dst x) = some (c, effect o m m' t) := by
 obtain ⟨rfl, rfl⟩ := Prod.mk.inj (Option.some.inj h)
 rw [putEff hk hn hd]
theorem binOp_mono {op : BinOp} {T : TypeId} {x y : CV} (hk : kindOf o.op = .pure ∨ kindOf o.op = .quiet) (hn : t.n = m.n) (hd : m.n ≤ 16000) : binOpS P m o op T x y = some (c, m') → binOpS P t o op T x y = some (c, effect o m m' t) := by
 unfold binOpS
 simp only [okL, ok]
 repeat' split
 all_goals first
  | exact fin_put hk hn hd
  | (intro h; cases h)
theorem unOp_mono {op : UnOp} {x : LV} (hk : kindOf o.op = .pure ∨ kindOf o.op = .quiet) (hn : t.n = m.n) (hd : m.n ≤ 16000) : unOpS m o op x = some (c, m') → unOpS t o op x = some (c, effect o m m' t) := by
 unfold unOpS
 simp only [okL, ok]
 repeat' split
 all_goals first
  | exact fin_put hk hn hd
  | (intro h; cases h)
theorem convert_mono {T U : TypeId} {x : LV} (hk : kindOf o.op = .pure ∨ kindOf o.op = .quiet) (hn : t.n = m.n) (hd : m.n ≤ 16000) : convertOp P m o T U x = some (c, m') → convertOp P t o T U x = some (c, effect o m m' t) := by
 unfold convertOp
 simp only [okL, ok]
 repeat' split
 all_goals first
  | exact fin_put hk hn hd
  | (intro h; cases h)
theorem field_mono {T : TypeId} {f : Nat} {x : CV} (hk : kindOf o.op = .pure ∨ kindOf o.op = .quiet) (hn : t.n = m.n) (hd : m.n ≤ 16000) : fieldOp P m o T f x = some (c, m') → fieldOp P t o T f x = some (c, effect o m m' t) := by
 unfold fieldOp
 simp only [okL, ok]
 repeat' split
 all_goals first
  | exact fin_put hk hn hd
  | (intro h; cases h)
theorem index_mono {T : TypeId} {i : Int} {x : CV} (hk : kindOf o.op = .pure ∨ kindOf o.op = .quiet) (hn : t.n = m.n) (hd : m.n ≤ 16000) : indexOp P m o T x i = some (c, m') → indexOp P t o T x i = some (c, effect o m m' t) := by
 unfold indexOp
 repeat' split
 all_goals first
  | exact fin_put hk hn hd
  | (intro h; cases h)
theorem fieldAddr_mono {T : TypeId} {f : Nat} {x : LV} (hk : kindOf o.op = .pure ∨ kindOf o.op = .quiet) (hn : t.n = m.n) (hd : m.n ≤ 16000) : fieldAddrOp P m o T f x = some (c, m') → fieldAddrOp P t o T f x = some (c, effect o m m' t) := by
 unfold fieldAddrOp
 simp only [okL, ok]
 repeat' split
 all_goals first
  | exact fin_put hk hn hd
  | (intro h; cases h)
theorem build_mono {T : TypeId} {parts : List (Nat × Operand)} (hk : kindOf o.op = .pure ∨ kindOf o.op = .quiet) (hn : t.n = m.n) (hd : m.n ≤ 16000) (he : evParts t parts = evParts m parts) : buildOp P m o T parts = some (c, m') → buildOp P t o T parts = some (c, effect o m m' t) := by
 unfold buildOp
 rw [he]
 simp only [okL, ok]
 repeat' split
 all_goals first
  | exact fin_put hk hn hd
  | (intro h; cases h)
theorem minmax_mono {b : Bool} {l : List LV} (hk : kindOf o.op = .pure ∨ kindOf o.op = .quiet) (hn : t.n = m.n) (hd : m.n ≤ 16000) : minmax b m o l = some (c, m') → minmax b t o l = some (c, effect o m m' t) := by
 unfold minmax
 split
 ·split
  ·exact fin_put hk hn hd
  ·intro h; cases h
 ·split
  ·exact fin_put hk hn hd
  ·intro h; cases h
 ·intro h; cases h
theorem load_mono {T : TypeId} {x : LV} (hk : kindOf o.op = .pure ∨ kindOf o.op = .quiet) (hn : t.n = m.n) (hd : m.n ≤ 16000) (hb : ∀ b, m.blk b ≠ .free → t.blk b = m.blk b) (hpl : t.pl = m.pl) : loadOp P m o T x = some (c, m') → loadOp P t o T x = some (c, effect o m m' t) := by
 cases x <;> simp only [loadOp] <;> first | (intro h; cases h; done) | skip
 case ref u sz i off =>
  rcases blk_cases hb u with e | e
  ·rw [e]; intro h; cases h
  ·rw [e]
   simp only [okL, ok]
   repeat' split
   all_goals first
    | exact fin_put hk hn hd
    | (intro h; cases h)
 case iptr sh y off =>
  simp only [okL, ok]
  split
  ·exact fin_put hk hn hd
  ·intro h; cases h
 case optr sh y =>
  split
  ·exact fin_put hk hn hd
  ·intro h; cases h
 case rel j k =>
  rw [hpl]
  simp only [okL, ok]
  repeat' split
  all_goals first
   | exact fin_put hk hn hd
   | (intro h; cases h)
theorem indexAddr_mono {T : TypeId} {x : LV} {i : Int} (hk : kindOf o.op = .pure ∨ kindOf o.op = .quiet) (hn : t.n = m.n) (hd : m.n ≤ 16000) (hb : ∀ b, m.blk b ≠ .free → t.blk b = m.blk b) (hpl : t.pl = m.pl) : indexAddrOp P m o T x i = some (c, m') → indexAddrOp P t o T x i = some (c, effect o m m' t) := by
 unfold indexAddrOp
 split
 ·cases x <;> (try simp only []) <;> first | (intro h; cases h; done) | skip
  case full u =>
   rcases blk_cases hb u with e | e
   ·rw [e]; intro h; cases h
   ·rw [e]
    repeat' split
    all_goals first
     | exact fin_put hk hn hd
     | (intro h; cases h)
  case row j =>
   rw [hpl]
   repeat' split
   all_goals first
    | exact fin_put hk hn hd
    | (intro h; cases h)
  all_goals
   repeat' split
   all_goals first
    | exact fin_put hk hn hd
    | (intro h; cases h)
 ·split
  ·intro h; cases h
  ·cases x <;> (try simp only []) <;> first | (intro h; cases h; done) | skip
   case ref u sz j off =>
    rcases blk_cases hb u with e | e
    ·rw [e]; intro h; cases h
    ·rw [e]
     repeat' split
     all_goals first
      | exact fin_put hk hn hd
      | (intro h; cases h)
   all_goals
    repeat' split
    all_goals first
     | exact fin_put hk hn hd
     | (intro h; cases h)
 ·intro h; cases h
theorem slice_mono {T : TypeId} {x : LV} {lo hi : Option LV} (hk : kindOf o.op = .pure ∨ kindOf o.op = .quiet) (hn : t.n = m.n) (hd : m.n ≤ 16000) (hb : ∀ b, m.blk b ≠ .free → t.blk b = m.blk b) : sliceOp P m o T x lo hi = some (c, m') → sliceOp P t o T x lo hi = some (c, effect o m m' t) := by
 unfold sliceOp
 simp only [okL, ok]
 split
 ·cases x <;> (try simp only []) <;> first | (intro h; cases h; done) | skip
  case full u =>
   rcases blk_cases hb u with e | e
   ·rw [e]; intro h; cases h
   ·rw [e]
    repeat' split
    all_goals first
     | exact fin_put hk hn hd
     | (intro h; cases h)
  case slice e xs =>
   rcases lo with _ | lo <;> rcases hi with _ | hi <;> (try cases lo) <;> (try cases hi) <;> (try simp only []) <;> first | (intro h; cases h; done) | (split <;> first | exact fin_put hk hn hd | (intro h; cases h))
  case sref u sz off len =>
   repeat' split
   all_goals first
    | exact fin_put hk hn hd
    | (intro h; cases h)
  case cref u o len e =>
   repeat' split
   all_goals first
    | exact fin_put hk hn hd
    | (intro h; cases h)
 ·repeat' split
  all_goals first
   | exact fin_put hk hn hd
   | (intro h; cases h)
 ·split
  ·intro h; cases h
  ·cases x <;> cases lo <;> cases hi <;> (try simp only []) <;> first | (intro h; cases h; done) | skip
   case ref.none.none u sz j off =>
    rcases blk_cases hb u with e | e
    ·rw [e]; intro h; cases h
    ·rw [e]
     repeat' split
     all_goals first
      | exact fin_put hk hn hd
      | (intro h; cases h)
   all_goals
    repeat' split
    all_goals first
     | exact fin_put hk hn hd
     | (intro h; cases h)
 ·intro h; cases h
def mapEs (blk : Nat → Blk) (v : Sh) (k : IntKind) (x : LV) : Option (List (Int × v.T)) := match x with
 | .imap (.int k') v' es => if h : v' = v then (if k' = k then some (castMap h es) else none) else none
 | .mref t => match blk t with
   | .map (.int k') v' es => if h : v' = v then (if k' = k then some (castMap h es) else none) else none
   | _ => none
 | _ => none
theorem lookup_mono {T : TypeId} {x y : LV} {b : Bool} (hk : kindOf o.op = .pure ∨ kindOf o.op = .quiet) (hn : t.n = m.n) (hd : m.n ≤ 16000) (hb : ∀ b, m.blk b ≠ .free → t.blk b = m.blk b) : lookupOp P m o T x y b = some (c, m') → lookupOp P t o T x y b = some (c, effect o m m' t) := by
 have gen : ∀ {v : Sh} {z : CV} (es : Option (List (Int × v.T))) (n : Int) (d : v.T), (match es with
  | some es => if v.isAgg = z.isAggC then
     (let r := v.cv (mapGet n d es)
      if b then ok m o (.tup [r, .l (.bool (mapHas n es))]) else ok m o (.c r)) else none
  | none => none) = some (c, m') → (match es with
  | some es => if v.isAgg = z.isAggC then
     (let r := v.cv (mapGet n d es)
      if b then ok t o (.tup [r, .l (.bool (mapHas n es))]) else ok t o (.c r)) else none
  | none => none) = some (c, effect o m m' t) := by
  intro v z es n d
  cases es with
  | none => intro h; cases h
  | some es =>
    simp only []
    split
    ·split
     ·exact fin_put hk hn hd
     ·exact fin_put hk hn hd
    ·intro h; cases h
 intro h
 unfold lookupOp at h ⊢
 split at h
 ·rename_i K E hu
  split at h
  ·rename_i v z k n hv hz
   split at h
   ·rename_i dd hdd
    split at h
    ·rename_i hi
     simp only [hu, hv, hz, hdd, hi, if_true]
     have h' := gen (z := z) (mapEs m.blk v k x) n dd h
     have eqE : mapEs t.blk v k x = mapEs m.blk v k x := by
      cases x <;> try rfl
      case imap k' _ _ => cases k' <;> rfl
      case mref u =>
       rcases blk_cases hb u with e | e
       ·simp only [e] at h; cases h
       ·unfold mapEs; simp only [e]
     rw [← eqE] at h'
     exact h'
    ·cases h
   ·cases h
  ·cases h
 ·cases h
theorem builtin_mono {b : Builtin} {args : List Operand} {ts : List TypeId} (hk : kindOf o.op = .pure ∨ kindOf o.op = .quiet) (hn : t.n = m.n) (hd : m.n ≤ 16000) (hb : b = .len → (∀ b, m.blk b ≠ .free → t.blk b = m.blk b) ∧ t.pl = m.pl)
 (hap : b ≠ .append ∧ b ≠ .copy) (he : ∀ x ∈ args, evL t x = evL m x) : builtinOp P m o b args ts = some (c, m') → builtinOp P t o b args ts = some (c, effect o m m' t) := by
 have hmap : args.map (evL t) = args.map (evL m) := List.map_congr_left he
 unfold builtinOp
 split
 ·have hx := he _ (List.mem_cons_self)
  rw [hx]
  split
  ·exact fin_put hk hn hd
  ·split
   ·rename_i hl; rw [lenOf_mono (hb rfl).1 (hb rfl).2 hl]; exact fin_put hk hn hd
   ·intro h; cases h
  ·split
   ·exact fin_put hk hn hd
   ·intro h; cases h
  ·split
   ·rename_i hl; rw [lenMap_mono (hb rfl).1 hl]; exact fin_put hk hn hd
   ·intro h; cases h
  ·intro h; cases h
 ·exact absurd rfl hap.1
 ·exact absurd rfl hap.2
 ·rw [hmap]
  exact minmax_mono hk hn hd
 ·rw [hmap]
  exact minmax_mono hk hn hd
 ·have hx := he _ (List.mem_cons_self)
  have hy := he _ (List.mem_cons_of_mem _ List.mem_cons_self)
  rw [hx, hy]
  split
  ·exact fin_put hk hn hd
  ·intro h; cases h
 ·have hx := he _ (List.mem_cons_self)
  rw [hx]
  split
  ·exact fin_put hk hn hd
  ·intro h; cases h
 ·have hx := he _ (List.mem_cons_self)
  rw [hx]
  split
  ·exact fin_put hk hn hd
  ·intro h; cases h
 ·intro h; cases h
theorem fin_new {d : Tmp} (hk : kindOf o.op = .fresh) (hdst : o.dst = some d) (hn : t.n = m.n) (hd : m.n ≤ 16000) (h1 : m.blk d = .free) (h2 : t.blk d = .free) {c0 : Bool} {B : Blk} {v : SV} (hB : B.shown = B := by first | rfl | exact blkOf_shown _ _ _) :
 (match m.new d B v with | some s' => some (c0, s') | none => none) = some (c, m') → (match t.new d B v with | some s' => some (c0, s') | none => none) = some (c, effect o m m' t) := by
 intro h
 split at h
 ·rename_i s' hs
  obtain ⟨rfl, rfl⟩ := Prod.mk.inj (Option.some.inj h)
  rw [newEff hB hn hd h1 h2 hs]
  simp only [effect, hk, hdst]
 ·cases h
theorem newVar_mono {d : Tmp} {T : TypeId} {cs : List LV} (hk : kindOf o.op = .fresh) (hdst : o.dst = some d) (hn : t.n = m.n) (hd : m.n ≤ 16000) (h1 : m.blk d = .free) (h2 : t.blk d = .free) : newVar P m o T cs = some (c, m') → newVar P t o T cs = some (c, effect o m m' t) := by
 unfold newVar
 rw [hdst]
 split
 ·rename_i d' e
  obtain rfl := Option.some.inj e
  split
  ·exact fin_new hk hdst hn hd h1 h2
  ·intro h; cases h
 ·intro h; cases h
theorem makeMap_mono {d : Tmp} {T : TypeId} (hk : kindOf o.op = .fresh) (hdst : o.dst = some d) (hn : t.n = m.n) (hd : m.n ≤ 16000) (h1 : m.blk d = .free) (h2 : t.blk d = .free) : makeMapOp P m o T = some (c, m') → makeMapOp P t o T = some (c, effect o m m' t) := by
 unfold makeMapOp
 rw [hdst]
 split
 ·rename_i e _
  obtain rfl := Option.some.inj e
  exact fin_new hk hdst hn hd h1 h2
 ·intro h; cases h
theorem buildSlice_mono {d : Tmp} {T : TypeId} {n : Nat} {parts : List (Nat × Operand)} (hk : kindOf o.op = .fresh) (hdst : o.dst = some d) (hn : t.n = m.n) (hd : m.n ≤ 16000) (h1 : m.blk d = .free) (h2 : t.blk d = .free) (he : evParts t parts = evParts m parts) :
 buildSliceOp P m o T n parts = some (c, m') → buildSliceOp P t o T n parts = some (c, effect o m m' t) := by
 unfold buildSliceOp
 rw [hdst, he]
 split
 ·rename_i e
  obtain rfl := Option.some.inj e
  split
  ·split
   ·split
    ·split
     ·split
      ·exact fin_new hk hdst hn hd h1 h2
      ·intro h; cases h
     ·intro h; cases h
    ·intro h; cases h
   ·intro h; cases h
  ·intro h; cases h
 ·intro h; cases h
theorem buildCells_mono {d : Tmp} {T : TypeId} {n : Nat} {parts : List (Nat × Operand)} (hk : kindOf o.op = .fresh) (hdst : o.dst = some d) (hn : t.n = m.n) (hd : m.n ≤ 16000) (h1 : m.blk d = .free) (h2 : t.blk d = .free) (he : evParts t parts = evParts m parts) :
 buildCellsOp P m o T n parts = some (c, m') → buildCellsOp P t o T n parts = some (c, effect o m m' t) := by
 unfold buildCellsOp
 rw [hdst, he]
 split
 ·rename_i e
  obtain rfl := Option.some.inj e
  split
  ·split
   ·split
    ·exact fin_new hk hdst hn hd h1 h2
    ·intro h; cases h
   ·intro h; cases h
  ·intro h; cases h
 ·intro h; cases h
theorem ifc_mono {op : BinOp} {T : TypeId} {x : LV} (hk : kindOf o.op = .pure ∨ kindOf o.op = .quiet) (hn : t.n = m.n) (hd : m.n ≤ 16000) : ifcOp P m o op T x = some (c, m') → ifcOp P t o op T x = some (c, effect o m m' t) := by
 unfold ifcOp
 simp only [okL, ok]
 repeat' split
 all_goals first
  | exact fin_put hk hn hd
  | (intro h; cases h)
theorem makeEmpty_mono {d : Tmp} {T : TypeId} {y : LV} (hk : kindOf o.op = .fresh) (hdst : o.dst = some d) (hn : t.n = m.n) (hd : m.n ≤ 16000) (h1 : m.blk d = .free) (h2 : t.blk d = .free) :
 makeEmptyOp P m o T y = some (c, m') → makeEmptyOp P t o T y = some (c, effect o m m' t) := by
 unfold makeEmptyOp
 rw [hdst]
 split
 ·rename_i e
  obtain rfl := Option.some.inj e
  split
  ·split
   ·split
    ·exact fin_new hk hdst hn hd h1 h2
    ·intro h; cases h
   ·intro h; cases h
  ·intro h; cases h
 ·intro h; cases h
theorem makeSlice_mono {d : Tmp} {T : TypeId} {x y : LV} (hk : kindOf o.op = .fresh) (hdst : o.dst = some d) (hn : t.n = m.n) (hd : m.n ≤ 16000) (h1 : m.blk d = .free) (h2 : t.blk d = .free) :
 makeSliceOp P m o T x y = some (c, m') → makeSliceOp P t o T x y = some (c, effect o m m' t) := by
 unfold makeSliceOp
 rw [hdst]
 split
 ·rename_i e
  obtain rfl := Option.some.inj e
  split
  ·split
   ·split
    ·exact fin_new hk hdst hn hd h1 h2
    ·intro h; cases h
   ·intro h; cases h
  ·intro h; cases h
 ·intro h; cases h
theorem makeCells_mono {d : Tmp} {T : TypeId} {x y : LV} (hk : kindOf o.op = .fresh) (hdst : o.dst = some d) (hn : t.n = m.n) (hd : m.n ≤ 16000) (h1 : m.blk d = .free) (h2 : t.blk d = .free) :
 makeCellsOp P m o T x y = some (c, m') → makeCellsOp P t o T x y = some (c, effect o m m' t) := by
 unfold makeCellsOp
 rw [hdst]
 split
 ·rename_i e
  obtain rfl := Option.some.inj e
  split
  ·split
   ·exact fin_new hk hdst hn hd h1 h2
   ·intro h; cases h
  ·intro h; cases h
 ·intro h; cases h
theorem fin_write {T : TypeId} {a x : Operand} (ho : o.op = .store T a x) {u sz i off : Nat} (hk : kindOf o.op = .write) (ha : evL m a = .ref u sz i off) (hu : u < 16000) {B : Blk} {c0 : Bool} (hB : B.shown = B := by rfl) :
 some (c0, m.setB u B) = some (c, m') → some (c0, t.setB u B) = some (c, effect o m m' t) := by
 intro h
 obtain ⟨rfl, rfl⟩ := Prod.mk.inj (Option.some.inj h)
 have hw : written m o = u := by unfold written; rw [ho]; simp only [ha]
 have hwd : wdst o = none := by unfold wdst; rw [ho]
 simp only [effect, hk, hw, hwd]
 rw [PS.blk_setB' _ (key_depth hu) hB, if_pos rfl]
theorem store_mono {T : TypeId} {a x : Operand} {y : CV} (ho : o.op = .store T a x) (hk : kindOf o.op = .write) (hb : ∀ b, m.blk b ≠ .free → t.blk b = m.blk b) (hw : written m o < 16000) :
 storeOp P m T y (evL m a) = some (c, m') → storeOp P t T y (evL m a) = some (c, effect o m m' t) := by
 cases ha : evL m a <;> simp only [storeOp] <;> first | (intro h; cases h; done) | skip
 case rel j k => exact absurd hw (by unfold written; rw [ho]; simp only [ha]; omega)
 rename_i u sz i off
 have hw' : written m o = u := by unfold written; rw [ho]; simp only [ha]
 rw [hw'] at hw
 rcases blk_cases hb u with e | e
 ·rw [e]
  split
  ·intro h; cases h
  ·intro h; cases h
 ·rw [e]
  repeat' split
  all_goals first
   | exact fin_write ho hk ha hw
   | (intro h; cases h)
theorem intoOf_mono (hb : ∀ b, m.blk b ≠ .free → t.blk b = m.blk b) {x : LV} {r : Nat × Nat × Nat} (h : intoOf m x = some r) : intoOf t x = some r := by
 unfold intoOf at h ⊢
 split at h
 ·rename_i u
  rcases blk_cases hb u with e | e
  ·rw [e] at h; cases h
  ·rw [e]; exact h
 ·exact h
 ·cases h
theorem copy_mono {T : TypeId} {x : Operand} {rest : List Operand} {args : Array Operand} {ts : Array TypeId} {lx ly : LV} (ho : o.op = .call { callee := .builtin .copy, args := args, argTypes := ts }) (hargs : args.toList = x :: rest) (hx : evL m x = lx)
 (hn : t.n = m.n) (hd : m.n ≤ 16000) (hb : ∀ b, m.blk b ≠ .free → t.blk b = m.blk b) (hw : written m o < 16000) : copyOp P m o T lx ly = some (c, m') → copyOp P t o T lx ly = some (c, effect o m m' t) := by
 have hk : kindOf o.op = .write := by rw [ho]; rfl
 have hwd : wdst o = o.dst := by unfold wdst; rw [ho]
 unfold copyOp
 split
 ·rename_i E u off len hE hi
  have hwu : written m o = u := by
   unfold written
   rw [ho]
   simp only [hargs, hx]
   unfold intoOf at hi
   split at hi
   ·split at hi
    ·injection hi with hi; injection hi with hi _
    ·cases hi
   ·injection hi with hi; injection hi with hi _
   ·cases hi
  rw [hwu] at hw
  rw [hE, intoOf_mono hb hi]
  simp only []
  split
  ·rename_i U e xs e' ys hB hs
   have hBt : t.blk u = .buf U e xs := by rw [hb u (by rw [hB]; intro h; cases h)]; exact hB
   rw [hBt, srcOf_mono hb hs]
   simp only []
   split
   ·rename_i he
    subst he
    split
    ·intro h
     obtain ⟨rfl, rfl⟩ := Prod.mk.inj (Option.some.inj h)
     refine congrArg some (Prod.ext rfl ?_)
     simp only [effect, hk, hwd, hwu]
     cases hdst : o.dst with
     | none =>
       simp only [PS.put]
       rw [PS.blk_setB _ (key_depth hw), if_pos rfl]
     | some d =>
       simp only []
       have hblk : ∀ (z : PS) (v : SV), (z.put (some d) v).blk u = z.blk u := fun z v => by simp only [PS.put]; cases Nat.blt d z.n <;> rfl
       rw [hblk, PS.blk_setB _ (key_depth hw), if_pos rfl]
       by_cases hlt : d < m.n
       ·rw [get_put (by exact hd) (by exact hlt)]
       ·rw [put_out (by show ¬ d < t.n; rwa [hn]), put_out (by show ¬ d < t.n; rwa [hn])]
    ·intro h; cases h
   ·intro h; cases h
  ·rename_i e xs e' ys hB hs
   have hBt : t.blk u = .arr e xs := by rw [hb u (by rw [hB]; intro h; cases h)]; exact hB
   rw [hBt, srcOf_mono hb hs]
   simp only []
   split
   ·rename_i he
    subst he
    split
    ·intro h
     obtain ⟨rfl, rfl⟩ := Prod.mk.inj (Option.some.inj h)
     refine congrArg some (Prod.ext rfl ?_)
     simp only [effect, hk, hwd, hwu]
     cases hdst : o.dst with
     | none =>
       simp only [PS.put]
       rw [PS.blk_setB _ (key_depth hw), if_pos rfl]
     | some d =>
       simp only []
       have hblk : ∀ (z : PS) (v : SV), (z.put (some d) v).blk u = z.blk u := fun z v => by simp only [PS.put]; cases Nat.blt d z.n <;> rfl
       rw [hblk, PS.blk_setB _ (key_depth hw), if_pos rfl]
       by_cases hlt : d < m.n
       ·rw [get_put (by exact hd) (by exact hlt)]
       ·rw [put_out (by show ¬ d < t.n; rwa [hn]), put_out (by show ¬ d < t.n; rwa [hn])]
    ·intro h; cases h
   ·intro h; cases h
  ·intro h; cases h
 ·intro h; cases h
theorem step_mono {hp : Bool} (S : Sees m t (tmpsOf o.op.operands.toList) hp) (hhp : kindOf o.op = .pure ∨ hp = true) (hnb : kindOf o.op ≠ .barrier) (hw : kindOf o.op = .write → written m o < 16000) (hna : ∀ args ts, o.op ≠ .call { callee := .builtin .append, args := args, argTypes := ts })
 (hf : kindOf o.op = .fresh → ∀ d, o.dst = some d → m.blk d = .free ∧ t.blk d = .free) (h : stepOp P m o = some (c, m')) : stepOp P t o = some (c, effect o m m' t) := by
 have hn := S.n
 have hd := S.deep
 have hb : kindOf o.op ≠ .pure → ∀ b, m.blk b ≠ .free → t.blk b = m.blk b := fun hne => S.blks (hhp.resolve_left hne)
 have hpl : kindOf o.op ≠ .pure → t.pl = m.pl := fun hne => S.pl (hhp.resolve_left hne)
 revert h
 unfold stepOp
 split
 ·rename_i x ho; rw [S.ev (x := x) (by simp [ho, Op.operands])]; exact fin_put (.inl (by rw [ho]; rfl)) hn hd
 ·rename_i x ho; rw [S.ev (x := x) (by simp [ho, Op.operands])]; exact fin_put (.inl (by rw [ho]; rfl)) hn hd
 ·rename_i T ho
  have hk : kindOf o.op = .fresh := by rw [ho]; rfl
  split
  ·cases hdst : o.dst with
   | none => unfold newVar; rw [hdst]; intro h; cases h
   | some d => exact newVar_mono hk hdst hn hd (hf hk d hdst).1 (hf hk d hdst).2
  ·intro h; cases h
 ·rename_i T x ho
  have hk : kindOf o.op = .fresh := by rw [ho]; rfl
  rw [S.evC (x := x) (by simp [ho, Op.operands])]
  split
  ·cases hdst : o.dst with
   | none => unfold newVar; rw [hdst]; intro h; cases h
   | some d => exact newVar_mono hk hdst hn hd (hf hk d hdst).1 (hf hk d hdst).2
  ·intro h; cases h
 ·rename_i T x ho; rw [S.evL (x := x) (by simp [ho, Op.operands])]; exact load_mono (.inr (by rw [ho]; rfl)) hn hd (hb (by rw [ho]; intro e; cases e)) (hpl (by rw [ho]; intro e; cases e))
 ·rename_i T a x ho
  rw [S.evL (x := a) (by simp [ho, Op.operands]), S.evC (x := x) (by simp [ho, Op.operands])]
  split
  ·have hk : kindOf o.op = .write := by
    rw [ho] at hnb ⊢
    show (bif rowS T then OpKind.barrier else .write) = .write
    cases hrs : rowS T with
    | false => rfl
    | true => exact absurd (show (bif rowS T then OpKind.barrier else .write) = .barrier by rw [hrs]; rfl) hnb
   exact store_mono ho hk (hb (by rw [hk]; intro e; cases e)) (hw hk)
  ·intro h; cases h
 ·rename_i x ho
  rw [S.evL (x := x) (by simp [ho, Op.operands])]
  split
  ·exact fin_put (.inl (by rw [ho]; rfl)) hn hd
  ·exact fin_put (.inl (by rw [ho]; rfl)) hn hd
  ·exact fin_put (.inl (by rw [ho]; rfl)) hn hd
  ·intro h; cases h
 ·rename_i op T x y U ho
  rw [S.evC (x := x) (by simp [ho, Op.operands]), S.evC (x := y) (by simp [ho, Op.operands]), S.evL (x := x) (by simp [ho, Op.operands])]
  cases isNilIf y with
  | true => exact ifc_mono (.inl (by rw [ho]; rfl)) hn hd
  | false => exact binOp_mono (.inl (by rw [ho]; rfl)) hn hd
 ·rename_i op T x ho; rw [S.evL (x := x) (by simp [ho, Op.operands])]; exact unOp_mono (.inl (by rw [ho]; rfl)) hn hd
 ·rename_i T U x ho
  cases hc : (cvB T || cvB U) with
  | true => exact absurd (by rw [ho]; show (bif cvB T || cvB U then OpKind.barrier else OpKind.pure) = _; rw [hc]; rfl) hnb
  | false =>
    rw [S.evL (x := x) (by simp [ho, Op.operands])]
    exact convert_mono (.inl (by rw [ho]; show (bif cvB T || cvB U then OpKind.barrier else OpKind.pure) = _; rw [hc]; rfl)) hn hd
 ·rename_i T parts ho
  exact build_mono (.inl (by rw [ho]; rfl)) hn hd (S.parts fun x hx => by simp only [ho, Op.operands]; exact List.mem_map.2 ⟨x, hx, rfl⟩)
 ·rename_i T n parts ho
  have hrt : rowT T = false := by
   cases hrt : rowT T with
   | false => rfl
   | true => exact absurd (by rw [ho]; show (bif rowT T then OpKind.barrier else .fresh) = .barrier; rw [hrt]; rfl) hnb
  have hk : kindOf o.op = .fresh := by rw [ho]; show (bif rowT T then OpKind.barrier else .fresh) = .fresh; rw [hrt]; rfl
  rw [hrt, cond_false, cond_false]
  have hpe : evParts t parts.toList = evParts m parts.toList := S.parts fun x hx => by simp only [ho, Op.operands]; exact List.mem_map.2 ⟨x, hx, rfl⟩
  rw [hpe]
  cases ptrElem P T && !dataElems P T n (evParts m parts.toList) with
  | true =>
    simp only [cond_true]
    cases hdst : o.dst with
    | none => unfold buildCellsOp; rw [hdst]; split <;> intro h <;> simp_all
    | some d => exact buildCells_mono hk hdst hn hd (hf hk d hdst).1 (hf hk d hdst).2 (S.parts fun x hx => by simp only [ho, Op.operands]; exact List.mem_map.2 ⟨x, hx, rfl⟩)
  | false =>
  simp only [cond_false]
  cases hdst : o.dst with
  | none => unfold buildSliceOp; rw [hdst]; split <;> intro h <;> simp_all
  | some d => exact buildSlice_mono hk hdst hn hd (hf hk d hdst).1 (hf hk d hdst).2 (S.parts fun x hx => by simp only [ho, Op.operands]; exact List.mem_map.2 ⟨x, hx, rfl⟩)
 ·rename_i T x y ho
  have hk : kindOf o.op = .fresh := by rw [ho]; rfl
  rw [S.evL (x := x) (by simp [ho, Op.operands]), S.evL (x := y) (by simp [ho, Op.operands])]
  cases isZeroLit x with
  | true =>
    simp only [cond_true]
    cases hdst : o.dst with
    | none => unfold makeEmptyOp; rw [hdst]; split <;> intro h <;> simp_all
    | some d => exact makeEmpty_mono hk hdst hn hd (hf hk d hdst).1 (hf hk d hdst).2
  | false =>
    simp only [cond_false]
    cases mkB T with
    | true =>
      simp only [cond_true]
      cases hdst : o.dst with
      | none => unfold makeCellsOp; rw [hdst]; split <;> intro h <;> simp_all
      | some d => exact makeCells_mono hk hdst hn hd (hf hk d hdst).1 (hf hk d hdst).2
    | false =>
      simp only [cond_false]
      cases hdst : o.dst with
      | none => unfold makeSliceOp; rw [hdst]; split <;> intro h <;> simp_all
      | some d => exact makeSlice_mono hk hdst hn hd (hf hk d hdst).1 (hf hk d hdst).2
 ·rename_i T x lo hi ho
  have e1 : lo.map (evL t) = lo.map (evL m) := by
   cases lo with
   | none => rfl
   | some l => simp only [Option.map_some]; rw [S.evL (x := l) (by simp [ho, Op.operands])]
  have e2 : hi.map (evL t) = hi.map (evL m) := by
   cases hi with
   | none => rfl
   | some l => simp only [Option.map_some]; rw [S.evL (x := l) (by simp [ho, Op.operands])]
  rw [S.evL (x := x) (by simp [ho, Op.operands]), e1, e2]
  exact slice_mono (.inr (by rw [ho]; rfl)) hn hd (hb (by rw [ho]; intro e; cases e))
 ·rename_i T x f ho; rw [S.evL (x := x) (by simp [ho, Op.operands])]; exact fieldAddr_mono (.inl (by rw [ho]; rfl)) hn hd
 ·rename_i T x f ho; rw [S.evC (x := x) (by simp [ho, Op.operands])]; exact field_mono (.inl (by rw [ho]; rfl)) hn hd
 ·rename_i T x y ho
  rw [S.evL (x := x) (by simp [ho, Op.operands]), S.evL (x := y) (by simp [ho, Op.operands])]
  split
  ·exact indexAddr_mono (.inr (by rw [ho]; rfl)) hn hd (hb (by rw [ho]; intro e; cases e)) (hpl (by rw [ho]; intro e; cases e))
  ·intro h; cases h
 ·rename_i T x y ho
  rw [S.evC (x := x) (by simp [ho, Op.operands]), S.evL (x := y) (by simp [ho, Op.operands])]
  split
  ·exact index_mono (.inl (by rw [ho]; rfl)) hn hd
  ·intro h; cases h
 ·rename_i x i ho
  rw [S.ev (x := x) (by simp [ho, Op.operands])]
  split
  ·split
   ·exact fin_put (.inl (by rw [ho]; rfl)) hn hd
   ·intro h; cases h
  ·intro h; cases h
 ·rename_i T x y b ho
  rw [S.evL (x := x) (by simp [ho, Op.operands]), S.evL (x := y) (by simp [ho, Op.operands])]
  exact lookup_mono (.inr (by rw [ho]; rfl)) hn hd (hb (by rw [ho]; intro e; cases e))
 ·rename_i T ho
  have hk : kindOf o.op = .fresh := by rw [ho]; rfl
  cases hdst : o.dst with
  | none => unfold makeMapOp; rw [hdst]; split <;> intro h <;> simp_all
  | some d => exact makeMap_mono hk hdst hn hd (hf hk d hdst).1 (hf hk d hdst).2
 ·rename_i T a b x ho; exact absurd (by rw [ho]; rfl) hnb
 ·rename_i b args ts ho
  by_cases hcopy : b = .copy
  ·subst hcopy
   unfold builtinOp
   cases hargs : args.toList with
   | nil => intro h; cases h
   | cons x rest =>
     cases rest with
     | nil => intro h; cases h
     | cons y rest =>
       cases rest with
       | cons _ _ => intro h; cases h
       | nil =>
         have ex : evL t x = evL m x := S.evL (by simp only [ho, Op.operands, Call.operands]; simp [← Array.mem_toList_iff, hargs])
         have ey : evL t y = evL m y := S.evL (by simp only [ho, Op.operands, Call.operands]; simp [← Array.mem_toList_iff, hargs])
         cases ts.toList with
         | nil => intro h; cases h
         | cons T1 ts' =>
           cases ts' with
           | nil => intro h; cases h
           | cons T2 ts'' =>
             cases ts'' with
             | cons _ _ => intro h; cases h
             | nil =>
               simp only [ex, ey]
               exact copy_mono ho hargs rfl hn hd (hb (by rw [ho]; intro e; cases e)) (hw (by rw [ho]; rfl))
  have hk : kindOf o.op = .pure ∨ kindOf o.op = .quiet := by
   cases b <;> first | exact absurd rfl hcopy | exact absurd ho (hna _ _) | exact .inl (by rw [ho]; rfl) | exact .inr (by rw [ho]; rfl) | exact absurd (by rw [ho]; rfl) hnb
  refine builtin_mono hk hn hd (fun e => ⟨hb ?_, hpl ?_⟩) ⟨fun e => ?_, fun e => ?_⟩ fun x hx => S.evL ?_
  ·subst e; rw [ho]; intro e; cases e
  ·subst e; rw [ho]; intro e; cases e
  ·subst e; exact hna _ _ ho
  ·exact hcopy e
  ·simp only [ho, Op.operands, Call.operands]; simp_all
 ·rename_i f first caps ho
  split
  ·have e : caps.toList.map (evL t) = caps.toList.map (evL m) := S.mapL fun x hx => by
    simp only [ho, Op.operands, Array.toList_append]
    exact List.mem_append_right _ hx
   rw [e]
   unfold makeFuncOp
   split
   ·exact fin_put (.inl (by rw [ho]; rfl)) hn hd
   ·split
    ·exact fin_put (.inl (by rw [ho]; rfl)) hn hd
    ·intro h; cases h
  ·intro h; cases h
 ·rename_i T x ho; exact absurd (by rw [ho]; rfl) hnb
 ·intro h; cases h
end
end Go.Ev
end
