/- How data is handed over between functions: what is given back is decoded as typed data. -/
import Derived.Test.YtinkhmfciealkaaMask
set_option linter.unusedSimpArgs false
namespace Go.Ev
open Go.RowKit

/-- How one datum is handed over: as data; a function; a slice of the receiver's own; a pointer to data or nil; a pointer to data. -/
inductive Par where
  | d (s : Sh)
  | fn (f : FuncId)
  | own (T : TypeId) (e : Sh)
  | ptr (s : Sh)
  | tgt (s : Sh)

@[reducible] def Par.T : Par → Type
  | .d s => s.T
  | .fn _ => Unit
  | .own _ e => List e.T
  | .ptr s => Option s.T
  | .tgt s => s.T

@[reducible] def Pars : List Par → Type
  | [] => Unit
  | [q] => q.T
  | q :: r :: l => q.T × Pars (r :: l)

def Par.isOwn : Par → Bool
  | .own _ _ => true
  | _ => false

def Par.dec (b : Blk) : (q : Par) → CV → Option q.T
  | .d s, c => if c.isAggC = s.isAgg then s.build c.cells else none
  | .fn f, .l (.fn g) => if g = f then some () else none
  | .own _ e, .l .nilslice => if 0 < e.size then some [] else none
  | .own T e, .l (.full 0) => match b with
    | .buf T' e' xs => if h : T' = T ∧ e' = e then some (h.2 ▸ xs) else none
    | _ => none
  | .ptr _, .l .nilptr => some none
  | .ptr s, .l (.iptr s' x 0) => if h : s' = s then some (some (h ▸ x)) else none
  | .tgt s, .l (.iptr s' x 0) => if h : s' = s then some (h ▸ x) else none
  | _, _ => none

def decs (b : Blk) : (l : List Par) → List CV → Option (Pars l)
  | [], [] => some ()
  | [q], [c] => q.dec b c
  | q :: r :: l, c :: cs => match q.dec b c, decs b (r :: l) cs with
    | some x, some y => some (x, y)
    | _, _ => none
  | _, _ => none

def Par.cv : (q : Par) → q.T → CV
  | .d s, x => s.cv x
  | .fn f, _ => .l (.fn f)
  | .own _ _, _ => .l (.full 0)
  | .ptr _, none => .l .nilptr
  | .ptr s, some x => .l (.iptr s x 0)
  | .tgt s, x => .l (.iptr s x 0)

def cvs : (l : List Par) → Pars l → List CV
  | [], _ => []
  | [q], x => [q.cv x]
  | q :: r :: l, x => q.cv x.1 :: cvs (r :: l) x.2

def Par.blk : (q : Par) → q.T → Blk
  | .own T e, x => .buf T e x
  | _, _ => .free

def ownBlk : (l : List Par) → Pars l → Blk
  | [], _ => .free
  | [q], x => q.blk x
  | q :: r :: l, x => if q.isOwn then q.blk x.1 else ownBlk (r :: l) x.2

def owns : List Par → Nat
  | [] => 0
  | q :: l => (if q.isOwn then 1 else 0) + owns l

def SV.list : SV → List CV
  | .c v => [v]
  | .tup vs => vs

/-- A result as typed data. -/
def canon (rs : List Par) (rv : RV) : Option (Pars rs) :=
  match owns rs with
  | 0 => match frozen rv with
    | some v => decs .free rs v.list
    | none => none
  | 1 => decs rv.b rs rv.v.list
  | _ => none

def rvOf (rs : List Par) (y : Pars rs) : RV := ⟨mkSV (cvs rs y), ownBlk rs y⟩

section
variable {w : World} {p : Nat → Prop} {β β' : Nat → Option Value} {H H' : Nat → Blk}

theorem build_cv {s : Sh} {c : CV} {y : s.T} {v : Value} (ha : c.isAggC = s.isAgg) (hb : s.build c.cells = some y) (hp : s.isAgg = true ∨ c ≠ .l .undef) (h : RepC w p β H c v) : RepC w p β' H' (s.cv y) v := by
  cases c with
  | l c =>
    simp only [CV.isAggC] at ha
    have hc : c ≠ .undef := by
      rcases hp with hp | hp
      · rw [hp] at ha; cases ha
      · intro e; subst e; exact hp rfl
    have h1 := build_ok hb (repLs_one (repL_of hc h))
    refine cv_ok h1 ?_
    rw [← ha]; rfl
  | agg cs =>
    simp only [CV.isAggC] at ha
    obtain ⟨vs, rfl, h⟩ := h
    refine cv_ok (build_ok hb h) ?_
    rw [← ha]; show Value.agg vs = Value.agg vs.toList.toArray; simp

theorem build_undef {s : Sh} {y : s.T} (h : s.build [.undef] = some y) (ha : s.isAgg = false) : (∃ a b, s = .pair a b) ∨ s = .unit := by
  cases s <;> simp [Sh.build, Sh.take, Sh.isAgg] at h ha ⊢

theorem d_ok {s : Sh} {c : CV} {y : s.T} {v : Value} (ha : c.isAggC = s.isAgg) (hb : s.build c.cells = some y) (h : RepC w p β H c v) : RepC w p β' H' (s.cv y) v := by
  by_cases hu : c = .l .undef
  · subst hu
    rcases build_undef hb (by rw [← ha]; rfl) with ⟨a, b, rfl⟩ | rfl <;> trivial
  · exact build_cv ha hb (.inr hu) h

/-- What is no slice of one's own. -/
theorem dec_ok {b : Blk} {q : Par} {c : CV} {y : q.T} {v : Value} (hq : q.isOwn = false) (hd : q.dec b c = some y) (h : RepC w p β H c v) : RepC w p β' H' (q.cv y) v := by
  cases q with
  | d s =>
    simp only [Par.dec] at hd
    split at hd
    · rename_i ha; exact d_ok ha hd h
    · cases hd
  | fn f =>
    cases c with
    | agg cs => simp [Par.dec] at hd
    | l c =>
      cases c <;> simp only [Par.dec, reduceCtorEq] at hd
      case fn g =>
        split at hd
        · rename_i e; subst e; exact h
        · cases hd
  | own T e => cases hq
  | ptr s =>
    cases c with
    | agg cs => simp [Par.dec] at hd
    | l c =>
      cases c <;> simp only [Par.dec, reduceCtorEq] at hd
      case nilptr => obtain rfl := Option.some.inj hd; exact h
      case iptr s' x o =>
        cases o with
        | succ o => simp [Par.dec] at hd
        | zero =>
          simp only [Par.dec] at hd
          split at hd
          · rename_i e; subst e
            obtain rfl := Option.some.inj hd
            obtain ⟨g, q, us, h1, h2, h3, h4⟩ := h
            exact ⟨g, q, us, h1, h2, h3, h4⟩
          · cases hd
  | tgt s =>
    cases c with
    | agg cs => simp [Par.dec] at hd
    | l c =>
      cases c <;> simp only [Par.dec, reduceCtorEq] at hd
      case iptr s' x o =>
        cases o with
        | succ o => simp [Par.dec] at hd
        | zero =>
          simp only [Par.dec] at hd
          split at hd
          · rename_i e; subst e
            obtain rfl := Option.some.inj hd
            obtain ⟨g, q, us, h1, h2, h3, h4⟩ := h
            exact ⟨g, q, us, h1, h2, h3, h4⟩
          · cases hd

theorem decs_ok {b : Blk} : ∀ {l : List Par} {cs : List CV} {y : Pars l} {vs : List Value}, owns l = 0 → decs b l cs = some y → RepCs w p β H cs vs → RepCs w p β' H' (cvs l y) vs ∧ ownBlk l y = .free
  | [], [], y, vs, _, _, hr => ⟨by
      have : vs = [] := List.eq_nil_of_length_eq_zero hr.1.symm
      subst this; exact repCs_nil, rfl⟩
  | [], _ :: _, y, vs, _, h, _ => by simp [decs] at h
  | [q], [], y, vs, _, h, _ => by simp [decs] at h
  | [q], _ :: _ :: _, y, vs, _, h, _ => by simp [decs] at h
  | q :: r :: l, [], y, vs, _, h, _ => by simp [decs] at h
  | [q], [c], y, vs, ho, h, hr => by
    have hq : q.isOwn = false := by
      cases hq : q.isOwn with
      | false => rfl
      | true => simp [owns, hq] at ho
    obtain ⟨v, us, rfl, h1, h2⟩ := hr.uncons
    have : us = [] := List.eq_nil_of_length_eq_zero h2.1.symm
    subst this
    refine ⟨repCs_cons (dec_ok hq h h1) repCs_nil, ?_⟩
    cases q <;> first | rfl | cases hq
  | q :: r :: l, c :: cs, y, vs, ho, h, hr => by
    have hq : q.isOwn = false := by
      cases hq : q.isOwn with
      | false => rfl
      | true => simp [owns, hq] at ho
    have ho' : owns (r :: l) = 0 := by simpa [owns, hq] using ho
    simp only [decs] at h
    split at h
    · rename_i x z e1 e2
      obtain rfl := Option.some.inj h
      obtain ⟨v, us, rfl, h1, h2⟩ := hr.uncons
      obtain ⟨g1, g2⟩ := decs_ok ho' e2 h2
      refine ⟨repCs_cons (dec_ok hq e1 h1) g1, ?_⟩
      simp [ownBlk, hq, g2]
    · cases h

def nilSlice : Value := .slice none 0 0

/-- One slice of one's own among them. -/
theorem decs_own {b : Blk} (hH : H 0 = b) : ∀ {l : List Par} {cs : List CV} {y : Pars l} {vs : List Value}, owns l = 1 → decs b l cs = some y → RepCs w p β H cs vs →
    ∃ T e, ∃ xs : List e.T, ownBlk l y = .buf T e xs ∧
      ((xs = [] ∧ 0 < e.size ∧ ∀ (β' : Nat → Option Value) (H' : Nat → Blk), β' 0 = some nilSlice → (H' 0).isBuf → RepCs w p β' H' (cvs l y) vs) ∨
       (b = .buf T e xs ∧ (β 0).isSome = true ∧ ∀ (β' : Nat → Option Value) (H' : Nat → Blk), β' 0 = β 0 → (H' 0).isBuf → RepCs w p β' H' (cvs l y) vs))
  | [], cs, y, vs, ho, _, _ => by cases ho
  | [q], [], y, vs, _, h, _ => by simp [decs] at h
  | [q], _ :: _ :: _, y, vs, _, h, _ => by simp [decs] at h
  | q :: r :: l, [], y, vs, _, h, _ => by simp [decs] at h
  | [q], [c], y, vs, ho, h, hr => by
    have hq : q.isOwn = true := by
      cases hq : q.isOwn with
      | true => rfl
      | false => simp [owns, hq] at ho
    obtain ⟨v, us, rfl, h1, h2⟩ := hr.uncons
    have : us = [] := List.eq_nil_of_length_eq_zero h2.1.symm
    subst this
    obtain ⟨T, e, xs, hb, hc⟩ := own_ok hH hq h h1
    refine ⟨T, e, xs, hb, hc.imp (fun ⟨a1, a2, a3⟩ => ⟨a1, a2, fun β' H' g1 g2 => repCs_cons (a3 β' H' g1 g2) repCs_nil⟩) (fun ⟨a1, a2, a3⟩ => ⟨a1, a2, fun β' H' g1 g2 => repCs_cons (a3 β' H' g1 g2) repCs_nil⟩)⟩
  | q :: r :: l, c :: cs, y, vs, ho, h, hr => by
    simp only [decs] at h
    split at h
    · rename_i x z e1 e2
      obtain rfl := Option.some.inj h
      obtain ⟨v, us, rfl, h1, h2⟩ := hr.uncons
      cases hq : q.isOwn with
      | true =>
        have ho' : owns (r :: l) = 0 := by
          simp only [owns, hq, if_true] at ho ⊢
          omega
        obtain ⟨T, e, xs, hb, hc⟩ := own_ok hH hq e1 h1
        refine ⟨T, e, xs, by simp only [ownBlk, hq, if_true]; exact hb, hc.imp (fun ⟨a1, a2, a3⟩ => ⟨a1, a2, fun β' H' g1 g2 => repCs_cons (a3 β' H' g1 g2) (decs_ok ho' e2 h2).1⟩) (fun ⟨a1, a2, a3⟩ => ⟨a1, a2, fun β' H' g1 g2 => repCs_cons (a3 β' H' g1 g2) (decs_ok ho' e2 h2).1⟩)⟩
      | false =>
        have ho' : owns (r :: l) = 1 := by simpa [owns, hq] using ho
        obtain ⟨T, e, xs, hb, hc⟩ := decs_own hH ho' e2 h2
        refine ⟨T, e, xs, by simp only [ownBlk, hq]; exact hb, hc.imp (fun ⟨a1, a2, a3⟩ => ⟨a1, a2, fun β' H' g1 g2 => repCs_cons (dec_ok hq e1 h1) (a3 β' H' g1 g2)⟩) (fun ⟨a1, a2, a3⟩ => ⟨a1, a2, fun β' H' g1 g2 => repCs_cons (dec_ok hq e1 h1) (a3 β' H' g1 g2)⟩)⟩
    · cases h
where
  own_ok {b : Blk} (hH : H 0 = b) {q : Par} {c : CV} {y : q.T} {v : Value} (hq : q.isOwn = true) (hd : q.dec b c = some y) (h : RepC w p β H c v) : ∃ T e, ∃ xs : List e.T, q.blk y = .buf T e xs ∧
      ((xs = [] ∧ 0 < e.size ∧ ∀ (β' : Nat → Option Value) (H' : Nat → Blk), β' 0 = some nilSlice → (H' 0).isBuf → RepC w p β' H' (q.cv y) v) ∨
       (b = .buf T e xs ∧ (β 0).isSome = true ∧ ∀ (β' : Nat → Option Value) (H' : Nat → Blk), β' 0 = β 0 → (H' 0).isBuf → RepC w p β' H' (q.cv y) v)) := by
    cases q with
    | own T e =>
      cases c with
      | agg cs => simp [Par.dec] at hd
      | l c =>
        cases c <;> simp only [Par.dec, reduceCtorEq] at hd
        case nilslice =>
          split at hd
          · rename_i he
            obtain rfl := Option.some.inj hd
            refine ⟨T, e, [], rfl, .inl ⟨rfl, he, fun β' H' g1 g2 => ?_⟩⟩
            have h : v = .slice none 0 0 := h
            subst h
            exact ⟨g1, g2, rfl⟩
          · cases hd
        case full t =>
          cases t with
          | succ t => simp [Par.dec] at hd
          | zero =>
            simp only [Par.dec] at hd
            split at hd
            · rename_i T' e' xs
              split at hd
              · rename_i hte
                obtain ⟨rfl, rfl⟩ := hte
                obtain rfl := Option.some.inj hd
                have h : β 0 = some v ∧ (H 0).isBuf ∧ v.oneCell' = true := h
                exact ⟨_, _, xs, rfl, .inr ⟨rfl, by rw [h.1]; rfl, fun β' H' g1 g2 => ⟨g1.trans h.1, g2, h.2.2⟩⟩⟩
              · cases hd
            · cases hd
    | d s => cases hq
    | fn f => cases hq
    | ptr s => cases hq
    | tgt s => cases hq
end

theorem list_rep {w : World} {p : Nat → Prop} {β : Nat → Option Value} {H : Nat → Blk} {x : SV} {v : Value} (h : RepS w p β H x v) : ∃ vs : List Value, RepCs w p β H x.list vs ∧ ∀ (p' : Nat → Prop) (β' : Nat → Option Value) (H' : Nat → Blk) (cs : List CV), RepCs w p' β' H' cs vs → (∃ c, x = .c c) ∨ cs.length ≠ 1 → RepS w p' β' H' (mkSV cs) v := by
  cases x with
  | c c =>
    refine ⟨[v], repCs_cons h repCs_nil, fun p' β' H' cs hc _ => ?_⟩
    match cs, hc with
    | [c'], hc => exact hc.2 0 c' v rfl rfl
    | [], hc => have := hc.1; simp at this
    | _ :: _ :: _, hc => have := hc.1; simp at this
  | tup cs =>
    obtain ⟨vs, rfl, h⟩ := h
    refine ⟨vs.toList, h, fun p' β' H' ds hd hn => ?_⟩
    match ds, hd, hn with
    | [], hd, _ => exact ⟨vs, rfl, hd⟩
    | [c], hd, hn =>
      rcases hn with ⟨c, hc⟩ | hn
      · cases hc
      · exact absurd rfl hn
    | _ :: _ :: _, hd, _ => exact ⟨vs, rfl, hd⟩

/-- A result's form fits how many there are. -/
def formOk (rs : List Par) : SV → Bool
  | .c _ => true
  | .tup _ => match rs with
    | [_] => false
    | _ => true

theorem length_cvs : ∀ (l : List Par) (y : Pars l), (cvs l y).length = l.length
  | [], _ => rfl
  | [q], _ => rfl
  | q :: r :: l, y => by simp [cvs, length_cvs (r :: l) y.2]

theorem form_of {rs : List Par} {x : SV} (h : formOk rs x = true) (y : Pars rs) : (∃ c, x = .c c) ∨ (cvs rs y).length ≠ 1 := by
  cases x with
  | c c => exact .inl ⟨c, rfl⟩
  | tup cs =>
    right
    rw [length_cvs]
    match rs, h with
    | [], _ => simp
    | _ :: _ :: _, _ => simp

/-- A result in its typed form. -/
def canonK (rs : List Par) (rv : RV) : Option (Pars rs) := if formOk rs rv.v = true then canon rs rv else none

theorem canon_ok {B : Nat} {w : World} {p : Nat → Prop} {rs : List Par} {rv : RV} {y : Pars rs} {v : Value} (h : canonK rs rv = some y) (hr : RepRV B w p rv v) : RepRV B w p (rvOf rs y) v := by
  unfold canonK at h
  split at h
  case isFalse => cases h
  rename_i hform
  have hf := form_of hform y
  obtain ⟨p', β, hp, hn, hb, hv⟩ := hr
  unfold canon at h
  split at h
  · rename_i ho
    split at h
    · rename_i x hx
      let q : Nat → Prop := fun b => p' b ∨ ∃ r, β 0 = some r ∧ rootBlock r = some b
      have hb' : match β 0 with | some r => RepB w p' β (fun u => if u = 0 then rv.b else .free) B rv.b r ∧ (∀ g, rootBlock r = some g → q g) | none => rv.b = .free := by
        cases h0 : β 0 with
        | none => rw [h0] at hb; exact hb
        | some r => rw [h0] at hb; exact ⟨hb.1, fun g hg => .inr ⟨r, h0, hg⟩⟩
      have leaf : ∀ c c' v, RepL w p' β (fun u => if u = 0 then rv.b else .free) c v → frozenL rv.b c = some c' → RepL w q (fun _ => none) (fun _ => .free) c' v := fun c c' v hc h =>
        frozen_leaf (B := B) (fun g hg => .inl hg) hb' hc h
      have hq : ∀ b, q b → (p b ∨ B ≤ b) ∧ b < w.heap.size := by
        rintro b (h | ⟨r, h0, h1⟩)
        · exact hp b h
        · rw [h0] at hb; have := hb.1.root b h1; exact ⟨.inr this.1, this.2⟩
      have hx' : RepS w q (fun _ => none) (fun _ => .free) x v ∧ ((∃ c, rv.v = .c c) → ∃ c, x = .c c) := by
        unfold frozen at hx
        split at hx
        · rename_i c hc
          rw [hc] at hv
          split at hx
          · rename_i z hz
            obtain rfl := Option.some.inj hx
            exact ⟨frozenC_ok leaf hv hz, fun _ => ⟨z, rfl⟩⟩
          · cases hx
        · rename_i cs hc
          rw [hc] at hv
          obtain ⟨vs, rfl, hv⟩ := hv
          split at hx
          · rename_i z hz
            obtain rfl := Option.some.inj hx
            exact ⟨⟨vs, rfl, frozenCs_ok leaf hv hz⟩, fun ⟨c, e⟩ => by rw [hc] at e; cases e⟩
          · cases hx
      obtain ⟨vs, h1, h2⟩ := list_rep hx'.1
      obtain ⟨h3, h4⟩ := decs_ok (β' := fun _ => none) (H' := fun _ => .free) ho h h1
      refine ⟨q, fun _ => none, hq, fun _ _ => rfl, h4, ?_⟩
      rw [show (fun t => if t = 0 then (rvOf rs y).b else .free) = fun _ => Blk.free from funext fun t => by
        show (if t = 0 then ownBlk rs y else .free) = _
        rw [h4]; split <;> rfl]
      exact h2 _ _ _ _ h3 (hf.imp hx'.2 id)
    · cases h
  · rename_i ho
    obtain ⟨vs, h1, h2⟩ := list_rep hv
    obtain ⟨T, e, xs, g1, g2⟩ := decs_own (by simp) ho h h1
    have hb2 : (rvOf rs y).b = .buf T e xs := g1
    rcases g2 with ⟨rfl, he, g2⟩ | ⟨gb, gs, g2⟩
    · refine ⟨p', fun t => if t = 0 then some nilSlice else none, hp, fun t ht => if_neg ht, ?_, ?_⟩
      · simp only [if_true]
        refine ⟨?_, fun b hb => by cases hb⟩
        rw [hb2]
        exact ⟨[], World.ownsRow_nil _ _ _ _, he, by simp [Rows']⟩
      · exact h2 _ _ _ _ (g2 _ _ (by simp) (by simp [hb2, Blk.isBuf])) hf
    · refine ⟨p', β, hp, hn, ?_, ?_⟩
      · obtain ⟨r, h0⟩ := Option.isSome_iff_exists.1 gs
        rw [h0] at hb ⊢
        simp only [] at hb ⊢
        refine ⟨?_, hb.2⟩
        rw [hb2]
        have := hb.1
        rw [gb] at this
        exact this
      · exact h2 _ _ _ _ (g2 _ _ rfl (by simp [hb2, Blk.isBuf])) hf
  · cases h

/-- How a function meets its specification. -/
def MeetsT (P : Program) (f : FuncId) (ps rs : List Par) (spec : Pars ps → Option (Pars rs)) : Prop := ∀ x y, spec x = some y → Meets P f (cvs ps x) (rvOf rs y)

theorem MeetsT.imp {P : Program} {f : FuncId} {ps rs : List Par} {spec spec' : Pars ps → Option (Pars rs)} (h : MeetsT P f ps rs spec) (hs : ∀ x y, spec' x = some y → spec x = some y) : MeetsT P f ps rs spec' := fun x y hy => h x y (hs x y hy)

/-- The evaluator's answer, typed. -/
theorem meetsT_of_eval {P : Program} {K : Know} {U n : Nat} (hns : NoSpecial P) (hm : P.follows .mixedOrders = true) (hK : KnowOk P K) {f : FuncId} {ps rs : List Par} {spec : Pars ps → Option (Pars rs)}
    (h : ∀ x, evalK P (Pars rs) K U n f (cvs ps x) (canonK rs) = spec x) : MeetsT P f ps rs spec := fun x y hy w p vs hp hargs => by
  rw [← h x] at hy
  obtain ⟨rv, h1, h2⟩ := evalK_ok hns hm hK n f (cvs ps x) _ _ hy
  exact (h2 w p vs hp hargs).mono fun e w' ⟨v, he, hb, hr⟩ => ⟨v, he, hb, canon_ok h1 hr⟩
end Go.Ev
