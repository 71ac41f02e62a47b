/- The verified evaluator: specifications of functions and loops on typed data. -/
import Derived.Test.YtlngennlccaneaaCoreF
set_option linter.unusedSimpArgs false
noncomputable section
namespace Go.Ev
open Go.RowKit
inductive Par where
  | d (s : Sh)
  | fn (f : FuncId)
  | own (T : TypeId) (e : Sh)
  | ptr (s : Sh)
  | tgt (s : Sh)
@[reducible] def Par.T : Par → Type
  | .d s => s.T
  | .fn _ => Unit
  | .own _ e => List e.T
  | .ptr s => Option s.T
  | .tgt s => s.T
@[reducible] def Pars : List Par → Type
  | [] => Unit
  | [q] => q.T
  | q :: r :: l => q.T × Pars (r :: l)
def Par.isOwn : Par → Bool
 | .own _ _ => true
 | _ => false
def Par.dec (b : Blk) : (q : Par) → CV → Option q.T
 | .d s, c => if c.isAggC = s.isAgg then s.build c.cells else none
 | .fn f, .l (.fn g) => if g = f then some () else none
 | .own _ e, .l .nilslice => if 0 < e.size then some [] else none
 | .own T e, .l (.full 0) => match b with
   | .buf T' e' xs => if h : T' = T ∧ e' = e then some (h.2 ▸ xs) else none
   | _ => none
 | .ptr _, .l .nilptr => some none
 | .ptr s, .l (.iptr s' x 0) => if h : s' = s then some (some (h ▸ x)) else none
 | .tgt s, .l (.iptr s' x 0) => if h : s' = s then some (h ▸ x) else none
 | _, _ => none
def decs (b : Blk) : (l : List Par) → List CV → Option (Pars l)
 | [], [] => some ()
 | [q], [c] => q.dec b c
 | q :: r :: l, c :: cs => match q.dec b c, decs b (r :: l) cs with
   | some x, some y => some (x, y)
   | _, _ => none
 | _, _ => none
def Par.cv : (q : Par) → q.T → CV
 | .d s, x => s.cv x
 | .fn f, _ => .l (.fn f)
 | .own _ _, _ => .l (.full 0)
 | .ptr _, none => .l .nilptr
 | .ptr s, some x => .l (.iptr s x 0)
 | .tgt s, x => .l (.iptr s x 0)
def cvs : (l : List Par) → Pars l → List CV
 | [], _ => []
 | [q], x => [q.cv x]
 | q :: r :: l, x => q.cv x.1 :: cvs (r :: l) x.2
def Par.blk : (q : Par) → q.T → Blk
 | .own T e, x => .buf T e x
 | _, _ => .free
def ownBlk : (l : List Par) → Pars l → Blk
 | [], _ => .free
 | [q], x => q.blk x
 | q :: r :: l, x => if q.isOwn then q.blk x.1 else ownBlk (r :: l) x.2
def owns : List Par → Nat
 | [] => 0
 | q :: l => (if q.isOwn then 1 else 0) + owns l
def SV.list : SV → List CV
 | .c v => [v]
 | .tup vs => vs
def canon (rs : List Par) (rv : RV) : Option (Pars rs) :=
 match owns rs with
 | 0 => match frozen rv with
   | some v => decs .free rs v.list
   | none => none
 | 1 => decs rv.b rs rv.v.list
 | _ => none
def rvOf (rs : List Par) (y : Pars rs) : RV := ⟨mkSV (cvs rs y), ownBlk rs y⟩
section
variable {w : World} {p : Nat → Prop} {β β' : Nat → Option Value} {H H' : Nat → Blk}
theorem build_cv {s : Sh} {c : CV} {y : s.T} {v : Value} (ha : c.isAggC = s.isAgg) (hb : s.build c.cells = some y) (hp : s.isAgg = true ∨ c ≠ .l .undef) (h : RepC w p β H c v) : RepC w p β' H' (s.cv y) v := by
 cases c with
 | l c =>
   simp only [CV.isAggC] at ha
   have hc : c ≠ .undef := by
    rcases hp with hp | hp
    ·rw [hp] at ha; cases ha
    ·intro e; subst e; exact hp rfl
   have h1 := build_ok hb (repLs_one (repL_of hc h))
   refine cv_ok h1 ?_
   rw [← ha]; rfl
 | agg cs =>
   simp only [CV.isAggC] at ha
   obtain ⟨vs, rfl, h⟩ := h
   refine cv_ok (build_ok hb h) ?_
   rw [← ha]; show Value.agg vs = Value.agg vs.toList.toArray; simp
theorem build_undef {s : Sh} {y : s.T} (h : s.build [.undef] = some y) (ha : s.isAgg = false) : (∃ a b, s = .pair a b) ∨ s = .unit := by
 cases s <;> simp [Sh.build, Sh.take, Sh.isAgg] at h ha ⊢
theorem d_ok {s : Sh} {c : CV} {y : s.T} {v : Value} (ha : c.isAggC = s.isAgg) (hb : s.build c.cells = some y) (h : RepC w p β H c v) : RepC w p β' H' (s.cv y) v := by
 by_cases hu : c = .l .undef
 ·subst hu
  rcases build_undef hb (by rw [← ha]; rfl) with ⟨a, b, rfl⟩ | rfl <;> trivial
 ·exact build_cv ha hb (.inr hu) h
theorem dec_ok {b : Blk} {q : Par} {c : CV} {y : q.T} {v : Value} (hq : q.isOwn = false) (hd : q.dec b c = some y) (h : RepC w p β H c v) : RepC w p β' H' (q.cv y) v := by
 cases q with
 | d s =>
   simp only [Par.dec] at hd
   split at hd
   ·rename_i ha; exact d_ok ha hd h
   ·cases hd
 | fn f =>
   cases c with
   | agg cs => simp [Par.dec] at hd
   | l c =>
     cases c <;> simp only [Par.dec, reduceCtorEq] at hd
     case fn g =>
      split at hd
      ·rename_i e; subst e; exact h
      ·cases hd
 | own T e => cases hq
 | ptr s =>
   cases c with
   | agg cs => simp [Par.dec] at hd
   | l c =>
     cases c <;> simp only [Par.dec, reduceCtorEq] at hd
     case nilptr => obtain rfl := Option.some.inj hd; exact h
     case iptr s' x o =>
      cases o with
      | succ o => simp [Par.dec] at hd
      | zero =>
        simp only [Par.dec] at hd
        split at hd
        ·rename_i e; subst e
         obtain rfl := Option.some.inj hd
         obtain ⟨g, q, us, h1, h2, h3, h4⟩ := h
         exact ⟨g, q, us, h1, h2, h3, h4⟩
        ·cases hd
 | tgt s =>
   cases c with
   | agg cs => simp [Par.dec] at hd
   | l c =>
     cases c <;> simp only [Par.dec, reduceCtorEq] at hd
     case iptr s' x o =>
      cases o with
      | succ o => simp [Par.dec] at hd
      | zero =>
        simp only [Par.dec] at hd
        split at hd
        ·rename_i e; subst e
         obtain rfl := Option.some.inj hd
         obtain ⟨g, q, us, h1, h2, h3, h4⟩ := h
         exact ⟨g, q, us, h1, h2, h3, h4⟩
        ·cases hd
theorem decs_ok {b : Blk} : ∀ {l : List Par} {cs : List CV} {y : Pars l} {vs : List Value}, owns l = 0 → decs b l cs = some y → RepCs w p β H cs vs → RepCs w p β' H' (cvs l y) vs ∧ ownBlk l y = .free
 | [], [], y, vs, _, _, hr => ⟨by
     have : vs = [] := List.eq_nil_of_length_eq_zero hr.1.symm
     subst this; exact repCs_nil, rfl⟩
 | [], _ :: _, y, vs, _, h, _ => by simp [decs] at h
 | [q], [], y, vs, _, h, _ => by simp [decs] at h
 | [q], _ :: _ :: _, y, vs, _, h, _ => by simp [decs] at h
 | q :: r :: l, [], y, vs, _, h, _ => by simp [decs] at h
 | [q], [c], y, vs, ho, h, hr => by
   have hq : q.isOwn = false := by
    cases hq : q.isOwn with
    | false => rfl
    | true => simp [owns, hq] at ho
   obtain ⟨v, us, rfl, h1, h2⟩ := hr.uncons
   have : us = [] := List.eq_nil_of_length_eq_zero h2.1.symm
   subst this
   refine ⟨repCs_cons (dec_ok hq h h1) repCs_nil, ?_⟩
   cases q <;> first | rfl | cases hq
 | q :: r :: l, c :: cs, y, vs, ho, h, hr => by
   have hq : q.isOwn = false := by
    cases hq : q.isOwn with
    | false => rfl
    | true => simp [owns, hq] at ho
   have ho' : owns (r :: l) = 0 := by simpa [owns, hq] using ho
   simp only [decs] at h
   split at h
   ·rename_i x z e1 e2
    obtain rfl := Option.some.inj h
    obtain ⟨v, us, rfl, h1, h2⟩ := hr.uncons
    obtain ⟨g1, g2⟩ := decs_ok ho' e2 h2
    refine ⟨repCs_cons (dec_ok hq e1 h1) g1, ?_⟩
    simp [ownBlk, hq, g2]
   ·cases h
def nilSlice : Value := .slice none 0 0
theorem decs_own {b : Blk} (hH : H 0 = b) : ∀ {l : List Par} {cs : List CV} {y : Pars l} {vs : List Value}, owns l = 1 → decs b l cs = some y → RepCs w p β H cs vs →
 ∃ T e, ∃ xs : List e.T, ownBlk l y = .buf T e xs ∧
  ((xs = [] ∧ 0 < e.size ∧ ∀ (β' : Nat → Option Value) (H' : Nat → Blk), β' 0 = some nilSlice → (H' 0).isBuf → RepCs w p β' H' (cvs l y) vs) ∨
   (b = .buf T e xs ∧ (β 0).isSome = true ∧ ∀ (β' : Nat → Option Value) (H' : Nat → Blk), β' 0 = β 0 → (H' 0).isBuf → RepCs w p β' H' (cvs l y) vs))
 | [], cs, y, vs, ho, _, _ => by cases ho
 | [q], [], y, vs, _, h, _ => by simp [decs] at h
 | [q], _ :: _ :: _, y, vs, _, h, _ => by simp [decs] at h
 | q :: r :: l, [], y, vs, _, h, _ => by simp [decs] at h
 | [q], [c], y, vs, ho, h, hr => by
   have hq : q.isOwn = true := by
    cases hq : q.isOwn with
    | true => rfl
    | false => simp [owns, hq] at ho
   obtain ⟨v, us, rfl, h1, h2⟩ := hr.uncons
   have : us = [] := List.eq_nil_of_length_eq_zero h2.1.symm
   subst this
   obtain ⟨T, e, xs, hb, hc⟩ := own_ok hH hq h h1
   refine ⟨T, e, xs, hb, hc.imp (fun ⟨a1, a2, a3⟩ => ⟨a1, a2, fun β' H' g1 g2 => repCs_cons (a3 β' H' g1 g2) repCs_nil⟩) (fun ⟨a1, a2, a3⟩ => ⟨a1, a2, fun β' H' g1 g2 => repCs_cons (a3 β' H' g1 g2) repCs_nil⟩)⟩
 | q :: r :: l, c :: cs, y, vs, ho, h, hr => by
   simp only [decs] at h
   split at h
   ·rename_i x z e1 e2
    obtain rfl := Option.some.inj h
    obtain ⟨v, us, rfl, h1, h2⟩ := hr.uncons
    cases hq : q.isOwn with
    | true =>
      have ho' : owns (r :: l) = 0 := by
       simp only [owns, hq, if_true] at ho ⊢
       omega
      obtain ⟨T, e, xs, hb, hc⟩ := own_ok hH hq e1 h1
      refine ⟨T, e, xs, by simp only [ownBlk, hq, if_true]; exact hb, hc.imp (fun ⟨a1, a2, a3⟩ => ⟨a1, a2, fun β' H' g1 g2 => repCs_cons (a3 β' H' g1 g2) (decs_ok ho' e2 h2).1⟩) (fun ⟨a1, a2, a3⟩ => ⟨a1, a2, fun β' H' g1 g2 => repCs_cons (a3 β' H' g1 g2) (decs_ok ho' e2 h2).1⟩)⟩
    | false =>
      have ho' : owns (r :: l) = 1 := by simpa [owns, hq] using ho
      obtain ⟨T, e, xs, hb, hc⟩ := decs_own hH ho' e2 h2
      refine ⟨T, e, xs, by simp only [ownBlk, hq]; exact hb, hc.imp (fun ⟨a1, a2, a3⟩ => ⟨a1, a2, fun β' H' g1 g2 => repCs_cons (dec_ok hq e1 h1) (a3 β' H' g1 g2)⟩) (fun ⟨a1, a2, a3⟩ => ⟨a1, a2, fun β' H' g1 g2 => repCs_cons (dec_ok hq e1 h1) (a3 β' H' g1 g2)⟩)⟩
   ·cases h
where
 own_ok {b : Blk} (hH : H 0 = b) {q : Par} {c : CV} {y : q.T} {v : Value} (hq : q.isOwn = true) (hd : q.dec b c = some y) (h : RepC w p β H c v) : ∃ T e, ∃ xs : List e.T, q.blk y = .buf T e xs ∧
  ((xs = [] ∧ 0 < e.size ∧ ∀ (β' : Nat → Option Value) (H' : Nat → Blk), β' 0 = some nilSlice → (H' 0).isBuf → RepC w p β' H' (q.cv y) v) ∨
   (b = .buf T e xs ∧ (β 0).isSome = true ∧ ∀ (β' : Nat → Option Value) (H' : Nat → Blk), β' 0 = β 0 → (H' 0).isBuf → RepC w p β' H' (q.cv y) v)) := by
  cases q with
  | own T e =>
    cases c with
    | agg cs => simp [Par.dec] at hd
    | l c =>
      cases c <;> simp only [Par.dec, reduceCtorEq] at hd
      case nilslice =>
       split at hd
       ·rename_i he
        obtain rfl := Option.some.inj hd
        refine ⟨T, e, [], rfl, .inl ⟨rfl, he, fun β' H' g1 g2 => ?_⟩⟩
        have h : v = .slice none 0 0 := h
        subst h
        exact ⟨g1, g2, rfl⟩
       ·cases hd
      case full t =>
       cases t with
       | succ t => simp [Par.dec] at hd
       | zero =>
         simp only [Par.dec] at hd
         split at hd
         ·rename_i T' e' xs
          split at hd
          ·rename_i hte
           obtain ⟨rfl, rfl⟩ := hte
           obtain rfl := Option.some.inj hd
           have h : β 0 = some v ∧ (H 0).isBuf ∧ v.oneCell' = true := h
           exact ⟨_, _, xs, rfl, .inr ⟨rfl, by rw [h.1]; rfl, fun β' H' g1 g2 => ⟨g1.trans h.1, g2, h.2.2⟩⟩⟩
          ·cases hd
         ·cases hd
  | d s => cases hq
  | fn f => cases hq
  | ptr s => cases hq
  | tgt s => cases hq
end
theorem list_rep {w : World} {p : Nat → Prop} {β : Nat → Option Value} {H : Nat → Blk} {x : SV} {v : Value} (h : RepS w p β H x v) : ∃ vs : List Value, RepCs w p β H x.list vs ∧ ∀ (p' : Nat → Prop) (β' : Nat → Option Value) (H' : Nat → Blk) (cs : List CV), RepCs w p' β' H' cs vs → (∃ c, x = .c c) ∨ cs.length ≠ 1 → RepS w p' β' H' (mkSV cs) v := by
 cases x with
 | c c =>
   refine ⟨[v], repCs_cons h repCs_nil, fun p' β' H' cs hc _ => ?_⟩
   match cs, hc with
   | [c'], hc => exact hc.2 0 c' v rfl rfl
   | [], hc => have := hc.1; simp at this
   | _ :: _ :: _, hc => have := hc.1; simp at this
 | tup cs =>
   obtain ⟨vs, rfl, h⟩ := h
   refine ⟨vs.toList, h, fun p' β' H' ds hd hn => ?_⟩
   match ds, hd, hn with
   | [], hd, _ => exact ⟨vs, rfl, hd⟩
   | [c], hd, hn =>
     rcases hn with ⟨c, hc⟩ | hn
     ·cases hc
     ·exact absurd rfl hn
   | _ :: _ :: _, hd, _ => exact ⟨vs, rfl, hd⟩
def formOk (rs : List Par) : SV → Bool
 | .c _ => true
 | .tup _ => match rs with
   | [_] => false
   | _ => true
theorem length_cvs : ∀ (l : List Par) (y : Pars l), (cvs l y).length = l.length
 | [], _ => rfl
 | [q], _ => rfl
 | q :: r :: l, y => by simp [cvs, length_cvs (r :: l) y.2]
theorem form_of {rs : List Par} {x : SV} (h : formOk rs x = true) (y : Pars rs) : (∃ c, x = .c c) ∨ (cvs rs y).length ≠ 1 := by
 cases x with
 | c c => exact .inl ⟨c, rfl⟩
 | tup cs =>
   right
   rw [length_cvs]
   match rs, h with
   | [], _ => simp
   | _ :: _ :: _, _ => simp
def canonK (rs : List Par) (rv : RV) : Option (Pars rs) := if formOk rs rv.v = true then canon rs rv else none
theorem canon_ok {B : Nat} {w : World} {p : Nat → Prop} {rs : List Par} {rv : RV} {y : Pars rs} {v : Value} (h : canonK rs rv = some y) (hr : RepRV B w p rv v) : RepRV B w p (rvOf rs y) v := by
 unfold canonK at h
 split at h
 case isFalse => cases h
 rename_i hform
 have hf := form_of hform y
 obtain ⟨p', β, hp, hn, hb, hv⟩ := hr
 unfold canon at h
 split at h
 ·rename_i ho
  split at h
  ·rename_i x hx
   let q : Nat → Prop := fun b => p' b ∨ ∃ r, β 0 = some r ∧ rootBlock r = some b
   have hb' : match β 0 with | some r => RepB w p' β (fun u => if u = 0 then rv.b else .free) B rv.b r ∧ (∀ g, rootBlock r = some g → q g) | none => rv.b = .free := by
    cases h0 : β 0 with
    | none => rw [h0] at hb; exact hb
    | some r => rw [h0] at hb; exact ⟨hb.1, fun g hg => .inr ⟨r, h0, hg⟩⟩
   have leaf : ∀ c c' v, RepL w p' β (fun u => if u = 0 then rv.b else .free) c v → frozenL rv.b c = some c' → RepL w q (fun _ => none) (fun _ => .free) c' v := fun c c' v hc h =>
    frozen_leaf (B := B) (fun g hg => .inl hg) hb' hc h
   have hq : ∀ b, q b → (p b ∨ B ≤ b) ∧ b < w.heap.size := by
    rintro b (h | ⟨r, h0, h1⟩)
    ·exact hp b h
    ·rw [h0] at hb; have := hb.1.root b h1; exact ⟨.inr this.1, this.2⟩
   have hx' : RepS w q (fun _ => none) (fun _ => .free) x v ∧ ((∃ c, rv.v = .c c) → ∃ c, x = .c c) := by
    unfold frozen at hx
    split at hx
    ·rename_i c hc
     rw [hc] at hv
     split at hx
     ·rename_i z hz
      obtain rfl := Option.some.inj hx
      exact ⟨frozenC_ok leaf hv hz, fun _ => ⟨z, rfl⟩⟩
     ·cases hx
    ·rename_i cs hc
     rw [hc] at hv
     obtain ⟨vs, rfl, hv⟩ := hv
     split at hx
     ·rename_i z hz
      obtain rfl := Option.some.inj hx
      exact ⟨⟨vs, rfl, frozenCs_ok leaf hv hz⟩, fun ⟨c, e⟩ => by rw [hc] at e; cases e⟩
     ·cases hx
   obtain ⟨vs, h1, h2⟩ := list_rep hx'.1
   obtain ⟨h3, h4⟩ := decs_ok (β' := fun _ => none) (H' := fun _ => .free) ho h h1
   refine ⟨q, fun _ => none, hq, fun _ _ => rfl, h4, ?_⟩
   rw [show (fun t => if t = 0 then (rvOf rs y).b else .free) = fun _ => Blk.free from funext fun t => by
    show (if t = 0 then ownBlk rs y else .free) = _
    rw [h4]; split <;> rfl]
   exact h2 _ _ _ _ h3 (hf.imp hx'.2 id)
  ·cases h
 ·rename_i ho
  obtain ⟨vs, h1, h2⟩ := list_rep hv
  obtain ⟨T, e, xs, g1, g2⟩ := decs_own (by simp) ho h h1
  have hb2 : (rvOf rs y).b = .buf T e xs := g1
  rcases g2 with ⟨rfl, he, g2⟩ | ⟨gb, gs, g2⟩
  ·refine ⟨p', fun t => if t = 0 then some nilSlice else none, hp, fun t ht => if_neg ht, ?_, ?_⟩
   ·simp only [if_true]
    refine ⟨?_, fun b hb => by cases hb⟩
    rw [hb2]
    exact ⟨[], ownsAt_nil _ _ _ _, he, by simp [Rows']⟩
   ·exact h2 _ _ _ _ (g2 _ _ (by simp) (by simp [hb2, Blk.isBuf])) hf
  ·refine ⟨p', β, hp, hn, ?_, ?_⟩
   ·obtain ⟨r, h0⟩ := Option.isSome_iff_exists.1 gs
    rw [h0] at hb ⊢
    simp only [] at hb ⊢
    refine ⟨?_, hb.2⟩
    rw [hb2]
    have := hb.1
    rw [gb] at this
    exact this
   ·exact h2 _ _ _ _ (g2 _ _ rfl (by simp [hb2, Blk.isBuf])) hf
 ·cases h
def MeetsT (P : Program) (f : FuncId) (ps rs : List Par) (spec : Pars ps → Option (Pars rs)) : Prop := ∀ x y, spec x = some y → Meets P f (cvs ps x) (rvOf rs y)
theorem MeetsT.imp {P : Program} {f : FuncId} {ps rs : List Par} {spec spec' : Pars ps → Option (Pars rs)} (h : MeetsT P f ps rs spec) (hs : ∀ x y, spec' x = some y → spec x = some y) : MeetsT P f ps rs spec' := fun x y hy => h x y (hs x y hy)
theorem meetsT_of_eval {P : Program} {K : Know} {U n : Nat} (hns : NoSpecial P) (hm : P.follows .mixedOrders = true) (hK : KnowOk P K) {f : FuncId} {ps rs : List Par} {spec : Pars ps → Option (Pars rs)}
 (h : ∀ x, evalK P (Pars rs) K U n f (cvs ps x) (canonK rs) = spec x) : MeetsT P f ps rs spec := fun x y hy w p vs hp hg hargs => by
 rw [← h x] at hy
 obtain ⟨rv, h1, h2⟩ := (evalC_ok hns hm hK n).data f (cvs ps x) _ _ hy
 exact (h2 w p vs hp hg hargs).mono fun e w' ⟨v, he, hb, hr⟩ => ⟨v, he, hb, canon_ok h1 hr⟩
end Go.Ev
namespace Go.Ev
open Go.RowKit
inductive CapK where
  | ref (t : Nat)
  | dat (s : Sh)
@[reducible] def CapsT : List CapK → Type
  | [] => Unit
  | .ref _ :: l => CapsT l
  | .dat s :: l => s.T × CapsT l
def CapK.refs : List CapK → List Nat
 | [] => []
 | .ref t :: l => t :: CapK.refs l
 | .dat _ :: l => CapK.refs l
def capsTake (s : PS) : (l : List CapK) → List Cap → Option (CapsT l)
 | [], [] => some ()
 | .ref t :: l, .ref t' :: r => if t' = t ∧ (s.blk t).isFree = false then capsTake s l r else none
 | .dat sh :: l, .dat sh' x :: r => if h : sh' = sh then (match capsTake s l r with
   | some y => some (h ▸ x, y)
   | none => none) else none
 | _, _ => none
def capsOut : (l : List CapK) → CapsT l → List Cap
 | [], _ => []
 | .ref t :: l, x => .ref t :: capsOut l x
 | .dat sh :: l, x => .dat sh x.1 :: capsOut l x.2
inductive LK where
  | d (s : Sh)
  | own (v : Nat) (T : TypeId) (e : Sh)
  | map (v : Nat) (k e : Sh)
  | clo (f : FuncId) (cs : List CapK)
  | hd (v : Nat)
  | rf (v sz i o : Nat)
  | lit (k : IntKind) (n : Int)
  | nf
  | fc (f : FuncId)
  | ownp (v : Nat) (T : TypeId) (e : Sh) (n : Nat) (s : Sh)
  | vec (n : Nat) (e : Sh)
@[reducible] def LK.T : LK → Type
  | .d s => s.T
  | .own _ _ e => List e.T
  | .map _ k e => List (k.T × e.T)
  | .clo _ cs => CapsT cs
  | .hd _ => Unit
  | .rf _ _ _ _ => Unit
  | .lit _ _ => Unit
  | .nf => Unit
  | .fc _ => Unit
  | .ownp _ _ _ _ s => s.T
  | .vec _ e => List e.T
@[reducible] def LKs : List LK → Type
  | [] => Unit
  | [q] => q.T
  | q :: r :: l => q.T × LKs (r :: l)
inductive Ent where
  | val (t : Nat) (s : Sh)
  | ptr (t : Nat) (s : Sh)
  | own (t u : Nat) (T : TypeId) (e : Sh)
  | buf (u : Nat) (T : TypeId) (e : Sh)
  | arr (u : Nat) (e : Sh)
  | arrp (u : Nat) (e : Sh) (n : Nat) (s : Sh)
  | map (u : Nat) (k v : Sh)
  | cells (u : Nat) (l : List LK)
  | valv (t n : Nat) (e : Sh)
  | lst (t n : Nat) (e : Sh)
  | pool (T : TypeId)
  | ids (t u : Nat) (T : TypeId)
  | cut (t u sz : Nat)
  | row (t : Nat)
@[reducible] def Ent.T : Ent → Type
  | .val _ s => s.T
  | .ptr _ s => s.T
  | .own _ _ _ e => List e.T
  | .buf _ _ e => List e.T
  | .arr _ e => List e.T
  | .arrp _ _ _ s => s.T
  | .map _ k v => List (k.T × v.T)
  | .cells _ l => LKs l
  | .valv _ _ e => List e.T
  | .lst _ _ e => List e.T
  | .pool _ => List (List Int)
  | .ids _ _ _ => List Nat
  | .cut _ _ _ => Nat × Nat
  | .row _ => Nat
@[reducible] def Parts : List Ent → Type
  | [] => Unit
  | [q] => q.T
  | q :: r :: l => q.T × Parts (r :: l)
structure Tmpl where
 n : Nat
 cons : List (Nat × LV)
 ents : List Ent
 ups : List Nat
 lp : Option (Nat × LpSt)
@[reducible] def Tmpl.D (T : Tmpl) : Type := Parts T.ents
def decBuf (T : TypeId) (e : Sh) : Blk → Option (List e.T)
 | .buf T' e' xs => if h : T' = T ∧ e' = e then some (h.2 ▸ xs) else none
 | _ => none
def decMap (k v : Sh) : Blk → Option (List (k.T × v.T))
 | .map k' v' es => if h : k' = k ∧ v' = v then some (h.1 ▸ h.2 ▸ es) else none
 | _ => none
def decIds (T : TypeId) : Blk → Option (List Nat)
 | .ids T' l => if T' = T then some l else none
 | _ => none
def freeAt (s : PS) (u : Nat) (e : Sh) : Bool := (s.blk u).isFree && (Nat.blt u 16000 && Nat.blt 0 e.size)
def PS.getU (s : PS) (k : Nat) : SV :=
 bif Nat.blt k 16000 then s.get k
 else bif Nat.blt k 1600000 then (match s.up[k / 16000 - 1]? with
  | some x => getM x.2 (k % 16000)
  | none => undefS)
 else match s.blk (k / 16000 - 100) with
  | .lp _ _ m => getM m (k % 16000)
  | _ => undefS
def lvl (L : Nat) (l : List (Nat × SV)) : List (Nat × SV) := l.filterMap fun z => bif Nat.beq (z.1 / 16000) L then some (z.1 % 16000, z.2) else none
def upsOf (l : List (Nat × SV)) : Nat → List Nat → List (Nat × M SV)
 | _, [] => []
 | j, n :: ns => (n, ofList (lvl j l) .e) :: upsOf l (j + 1) ns
def upsFit : List (Nat × M SV) → List Nat → Bool
 | [], [] => true
 | x :: l, n :: ns => Nat.beq x.1 n && upsFit l ns
 | _, _ => false
def LpSt.same : LpSt → LpSt → Bool
 | .ready, .ready => true
 | .busy, .busy => true
 | .done none, .done none => true
 | .done (some a), .done (some b) => Nat.beq a b
 | .gone, .gone => true
 | _, _ => false
theorem LpSt.same_eq : ∀ {a b : LpSt}, a.same b = true → a = b
 | .ready, b, h => by cases b <;> simp [LpSt.same] at h <;> rfl
 | .busy, b, h => by cases b <;> simp [LpSt.same] at h <;> rfl
 | .gone, b, h => by cases b <;> simp [LpSt.same] at h <;> rfl
 | .done none, b, h => by
   cases b with
   | done e => cases e <;> simp [LpSt.same] at h; rfl
   | _ => simp [LpSt.same] at h
 | .done (some a), b, h => by
   cases b with
   | done e =>
     cases e with
     | none => simp [LpSt.same] at h
     | some c => simp [LpSt.same] at h; rw [h]
   | _ => simp [LpSt.same] at h
def packs (e : Sh) (n : Nat) (sh : Sh) (xs : List e.T) : Option sh.T := match sh.build (xs.flatMap e.cells) with
 | some x => match e.rows n (sh.cells x) with
   | some ys => if ys.length = xs.length then some x else none
   | none => none
 | none => none
def unpk (e : Sh) (n : Nat) (sh : Sh) (x : sh.T) : List e.T := (e.rows n (sh.cells x)).getD []
def LK.take (s : PS) : (q : LK) → List LV → Option (q.T × List LV)
 | .d sh, cs => sh.take cs
 | .own v _ e, .nilslice :: r => if freeAt s v e = true then some ([], r) else none
 | .own v T e, .full v' :: r => if v' = v then (match decBuf T e (s.blk v) with
   | some xs => some (xs, r)
   | none => none) else none
 | .map v k e, .mref v' :: r => if v' = v then (match decMap k e (s.blk v) with
   | some xs => some (xs, r)
   | none => none) else none
 | .clo f cs, .cloR f' cs' :: r => if f' = f then (match capsTake s cs cs' with
   | some x => some (x, r)
   | none => none) else none
 | .hd v, .mref v' :: r => if v' = v ∧ (s.blk v).isFree = false then some ((), r) else none
 | .rf v sz i o, .ref v' sz' i' o' :: r => if (v' = v ∧ sz' = sz ∧ i' = i ∧ o' = o) ∧ (s.blk v).isFree = false then some ((), r) else none
 | .lit k n, .int k' n' :: r => if k' = k ∧ n' = n then some ((), r) else none
 | .nf, .nilfn :: r => some ((), r)
 | .fc f, .fn f' :: r => if f' = f then some ((), r) else none
 | .ownp v _ e n sh, .nilslice :: r => if freeAt s v e = true then (match packs e n sh [] with
   | some x => some (x, r)
   | none => none) else none
 | .ownp v T e n sh, .full v' :: r => if v' = v then (match decBuf T e (s.blk v) with
   | some xs => (match packs e n sh xs with
     | some x => some (x, r)
     | none => none)
   | none => none) else none
 | .vec n e, cs => if n * e.size ≤ cs.length then (match e.rows n (cs.take (n * e.size)) with
   | some xs => some (xs, cs.drop (n * e.size))
   | none => none) else none
 | _, _ => none
def LKs.dec (s : PS) : (l : List LK) → List LV → Option (LKs l)
 | [], [] => some ()
 | [q], cs => match q.take s cs with
   | some (x, []) => some x
   | _ => none
 | q :: r :: l, cs => match q.take s cs with
   | some (x, rest) => match LKs.dec s (r :: l) rest with
     | some y => some (x, y)
     | none => none
   | none => none
 | _, _ => none
def Ent.dec (s : PS) : (q : Ent) → Option q.T
 | .val t sh => match s.getU t with
   | .c c => if c.isAggC = sh.isAgg then sh.build c.cells else none
   | _ => none
 | .ptr t sh => match s.getU t with
   | .c (.l (.iptr s' x 0)) => if h : s' = sh then some (h ▸ x) else none
   | _ => none
 | .own t u T e => match s.getU t with
   | .c (.l .nilslice) => if freeAt s u e = true then some [] else none
   | .c (.l (.full u')) => if u' = u then decBuf T e (s.blk u) else none
   | _ => none
 | .buf u T e => decBuf T e (s.blk u)
 | .arr u e => match s.blk u with
   | .arr e' xs => if h : e' = e then some (h ▸ xs) else none
   | _ => none
 | .arrp u e n sh => match s.blk u with
   | .arr e' xs => if e' = e then (match sh.build (xs.flatMap e'.cells) with
     | some x => match e.rows n (sh.cells x) with
       | some ys => if ys.length = xs.length then some x else none
       | none => none
     | none => none) else none
   | _ => none
 | .map u k v => decMap k v (s.blk u)
 | .cells u l => match s.blk u with
   | .cells cs => LKs.dec s l cs
   | _ => none
 | .valv t n e => match s.getU t with
   | .c (.agg cs) => e.rows n cs
   | _ => none
 | .lst t n e => match s.getU t with
   | .c (.l (.slice e' xs)) => if h : e' = e then (if xs.length = n then some (h ▸ xs) else none) else none
   | _ => none
 | .pool T => match s.pl with
   | some y => if y.1 = T then some y.2 else none
   | none => some []
 | .ids t u T => match s.getU t with
   | .c (.l .nilslice) => if freeAt s u .bool = true then some [] else none
   | .c (.l (.full u')) => if u' = u then decIds T (s.blk u) else none
   | _ => none
 | .cut t u sz => match s.getU t with
   | .c (.l (.sref u' sz' off len)) => if u' = u ∧ sz' = sz ∧ (s.blk u).isFree = false then some (off, len) else none
   | _ => none
 | .row t => match s.getU t with
   | .c (.l (.row j)) => some j
   | _ => none
def Parts.dec (s : PS) : (l : List Ent) → Option (Parts l)
 | [] => some ()
 | [q] => q.dec s
 | q :: r :: l => match q.dec s, Parts.dec s (r :: l) with
   | some x, some y => some (x, y)
   | _, _ => none
def LK.cells : (q : LK) → q.T → List LV
 | .d sh, x => sh.cells x
 | .own v _ _, _ => [.full v]
 | .map v _ _, _ => [.mref v]
 | .clo f cs, x => [.cloR f (capsOut cs x)]
 | .hd v, _ => [.mref v]
 | .rf v sz i o, _ => [.ref v sz i o]
 | .lit k n, _ => [.int k n]
 | .nf, _ => [.nilfn]
 | .fc f, _ => [.fn f]
 | .ownp v _ _ _ _, _ => [.full v]
 | .vec n e, x => (padV n e x).flatMap e.cells
def LKs.cells : (l : List LK) → LKs l → List LV
 | [], _ => []
 | [q], x => q.cells x
 | q :: r :: l, x => q.cells x.1 ++ LKs.cells (r :: l) x.2
def LK.blks : (q : LK) → q.T → List (Nat × Blk)
 | .d _, _ => []
 | .own v T e, x => [(v, .buf T e x)]
 | .map v k e, x => [(v, .map k e x)]
 | .clo _ _, _ => []
 | .hd _, _ => []
 | .rf _ _ _ _, _ => []
 | .lit _ _, _ => []
 | .nf, _ => []
 | .fc _, _ => []
 | .ownp v T e n sh, x => [(v, .buf T e (unpk e n sh x))]
 | .vec _ _, _ => []
def LKs.blks : (l : List LK) → LKs l → List (Nat × Blk)
 | [], _ => []
 | [q], x => q.blks x
 | q :: r :: l, x => q.blks x.1 ++ LKs.blks (r :: l) x.2
def Ent.slots : (q : Ent) → q.T → List (Nat × SV)
 | .val t sh, x => [(t, .c (sh.cv x))]
 | .ptr t sh, x => [(t, .c (.l (.iptr sh x 0)))]
 | .own t u _ _, _ => [(t, .c (.l (.full u)))]
 | .valv t n e, x => [(t, .c (.agg ((padV n e x).flatMap e.cells)))]
 | .lst t n e, x => [(t, .c (.l (.slice e (padV n e x))))]
 | .ids t u _, _ => [(t, .c (.l (.full u)))]
 | .cut t u sz, x => [(t, .c (.l (.sref u sz x.1 x.2)))]
 | .row t, x => [(t, .c (.l (.row x)))]
 | _, _ => []
def Ent.blks : (q : Ent) → q.T → List (Nat × Blk)
 | .own _ u T e, x => [(u, .buf T e x)]
 | .buf u T e, x => [(u, .buf T e x)]
 | .arr u e, x => [(u, .arr e x)]
 | .arrp u e n sh, x => [(u, .arr e ((e.rows n (sh.cells x)).getD []))]
 | .map u k v, x => [(u, .map k v x)]
 | .cells u l, x => (u, .cells (LKs.cells l x)) :: LKs.blks l x
 | .ids _ u T, x => [(u, .ids T x)]
 | _, _ => []
def Ent.pl : (q : Ent) → q.T → Option (TypeId × List (List Int))
 | .pool T, x => some (T, x)
 | _, _ => none
def Parts.pl : (l : List Ent) → Parts l → Option (TypeId × List (List Int))
 | [], _ => none
 | [q], x => q.pl x
 | q :: r :: l, x => match q.pl x.1 with
   | some y => some y
   | none => Parts.pl (r :: l) x.2
def Ent.isPool : Ent → Bool
 | .pool _ => true
 | _ => false
def Ent.rowy : Ent → Bool
 | .ids _ _ _ => true
 | .row _ => true
 | _ => false
def Parts.slots : (l : List Ent) → Parts l → List (Nat × SV)
 | [], _ => []
 | [q], x => q.slots x
 | q :: r :: l, x => q.slots x.1 ++ Parts.slots (r :: l) x.2
def Parts.blks : (l : List Ent) → Parts l → List (Nat × Blk)
 | [], _ => []
 | [q], x => q.blks x
 | q :: r :: l, x => q.blks x.1 ++ Parts.blks (r :: l) x.2
def LK.keys : LK → List Nat
 | .d _ => []
 | .own v _ _ => [v]
 | .map v _ _ => [v]
 | .clo _ _ => []
 | .hd _ => []
 | .rf _ _ _ _ => []
 | .lit _ _ => []
 | .nf => []
 | .fc _ => []
 | .ownp v _ _ _ _ => [v]
 | .vec _ _ => []
def LK.uses : LK → List Nat
 | .clo _ cs => CapK.refs cs
 | .hd v => [v]
 | .rf v _ _ _ => [v]
 | q => q.keys
def Ent.keys : Ent → List Nat
 | .val t _ => [t]
 | .ptr t _ => [t]
 | .own t u _ _ => [t, u]
 | .buf u _ _ => [u]
 | .arr u _ => [u]
 | .arrp u _ _ _ => [u]
 | .map u _ _ => [u]
 | .cells u l => u :: l.flatMap LK.keys
 | .valv t _ _ => [t]
 | .lst t _ _ => [t]
 | .pool _ => []
 | .ids t u _ => [t, u]
 | .cut t _ _ => [t]
 | .row t => [t]
def Ent.blkKeys : Ent → List Nat
 | .own _ u _ _ => [u]
 | .buf u _ _ => [u]
 | .arr u _ => [u]
 | .arrp u _ _ _ => [u]
 | .map u _ _ => [u]
 | .cells u l => u :: l.flatMap LK.keys
 | .ids _ u _ => [u]
 | _ => []
def Ent.uses : Ent → List Nat
 | .cells u l => u :: l.flatMap LK.uses
 | .cut _ u _ => [u]
 | q => q.blkKeys
def sameCaps : List Cap → List Cap → Bool
 | [], [] => true
 | .ref t :: cs, .ref u :: ds => Nat.beq t u && sameCaps cs ds
 | _, _ => false
def LV.same : LV → LV → Bool
 | .ref t sz i o, .ref t' sz' i' o' => Nat.beq t t' && (Nat.beq sz sz' && (Nat.beq i i' && Nat.beq o o'))
 | .full t, .full t' => Nat.beq t t'
 | .sref t a b c, .sref t' a' b' c' => Nat.beq t t' && (Nat.beq a a' && (Nat.beq b b' && Nat.beq c c'))
 | .cref t o n e, .cref t' o' n' e' => Nat.beq t t' && (Nat.beq o o' && (Nat.beq n n' && decide (e = e')))
 | .mref t, .mref t' => Nat.beq t t'
 | .bool b, .bool b' => b == b'
 | .int k n, .int k' n' => decide (k = k') && decide (n = n')
 | .fn f, .fn g => Nat.beq f g
 | .nilptr, .nilptr => true
 | .nilfn, .nilfn => true
 | .nilslice, .nilslice => true
 | .cloR f cs, .cloR g ds => Nat.beq f g && sameCaps cs ds
 | _, _ => false
theorem sameCaps_eq : ∀ {cs ds : List Cap}, sameCaps cs ds = true → cs = ds
 | [], [], _ => rfl
 | [], d :: ds, h => by simp [sameCaps] at h
 | c :: cs, [], h => by cases c <;> simp [sameCaps] at h
 | .ref t :: cs, .ref u :: ds, h => by
   simp only [sameCaps, Bool.and_eq_true] at h
   rw [Nat.eq_of_beq_eq_true h.1, sameCaps_eq h.2]
 | .ref _ :: _, .dat _ _ :: _, h => by simp [sameCaps] at h
 | .dat _ _ :: _, _ :: _, h => by simp [sameCaps] at h
theorem LV.same_eq : ∀ {c c' : LV}, c.same c' = true → c = c' := by
 intro c c' h
 cases c <;> cases c' <;> simp [LV.same] at h <;> first | (rw [h.1, sameCaps_eq h.2]) | simp [h]
def capOkB (s : PS) (keys : List Nat) : Cap → Bool
 | .ref u => keys.contains u && !(s.blk u).isFree
 | .dat _ _ => false
def conOk (s : PS) (keys : List Nat) (x : Nat × LV) : Bool :=
 match s.getU x.1 with
 | .c (.l c) => x.2.same c && (match x.2.at? with
   | none => (match x.2 with
     | .cloR _ cs => cs.all (capOkB s keys)
     | c => c.pure)
   | some u => keys.contains u && !(s.blk u).isFree)
 | _ => false
def Tmpl.blkKeys (T : Tmpl) : List Nat := (match T.lp with
 | some x => [x.1]
 | none => []) ++ T.ents.flatMap Ent.blkKeys
def Tmpl.fits (T : Tmpl) (s : PS) : Bool :=
 Nat.beq s.n T.n && (upsFit s.up T.ups && (Nat.blt T.ups.length 99 && ((T.blkKeys.all fun t => Nat.blt t 16000) && (((T.ents.flatMap Ent.uses).all fun t => T.blkKeys.contains t) && (T.cons.all (conOk s T.blkKeys) && (T.ents.any Ent.isPool || !(T.ents.any Ent.rowy)))))))
def Tmpl.slots (T : Tmpl) (x : T.D) : List (Nat × SV) := (T.cons.map fun y => (y.1, SV.c (.l y.2))) ++ Parts.slots T.ents x
def Tmpl.lpB (T : Tmpl) (i : LpI) (sl : List (Nat × SV)) : List (Nat × Blk) := match T.lp with
 | some x => [(x.1, .lp x.2 i (ofList (lvl (100 + x.1) sl) .e))]
 | none => []
def Tmpl.stI (T : Tmpl) (i : LpI) (x : T.D) : PS := ⟨T.n, ofList (lvl 0 (T.slots x)) .e, H.of (T.lpB i (T.slots x) ++ Parts.blks T.ents x), upsOf (T.slots x) 1 T.ups, Parts.pl T.ents x⟩
def noLp : LpI := ⟨0, #[], .skip, .skip, false⟩
def Tmpl.st (T : Tmpl) (x : T.D) : PS := T.stI noLp x
def Tmpl.dec (T : Tmpl) (s : PS) : Option T.D := if T.lp.isNone = true ∧ T.fits s = true then Parts.dec s T.ents else none
def Tmpl.decI (T : Tmpl) (s : PS) : Option (LpI × T.D) := match T.lp with
 | some x => match s.blk x.1 with
   | .lp q i _ => if x.2.same q = true ∧ T.fits s = true then (match Parts.dec s T.ents with
     | some y => some (i, y)
     | none => none) else none
   | _ => none
 | none => none
structure Turns (s s' : PS) (β β' : Nat → Option Value) : Prop where
 keep : ∀ u, s'.blk u ≠ .free → s.blk u ≠ .free → β' u = β u
 new : ∀ u, s'.blk u ≠ .free → s.blk u = .free → β' u = some nilSlice ∧ (s'.blk u).isBuf
 sim : ∀ u, s'.blk u ≠ .free → s.blk u ≠ .free → BlkSim (s.blk u) (s'.blk u)
def NilB (b : Blk) : Prop := (∃ T e, b = .buf T e [] ∧ 0 < e.size) ∨ ∃ T, b = .ids T []
theorem NilB.isBuf {b : Blk} (h : NilB b) : b.isBuf := by
 rcases h with ⟨T, e, rfl, _⟩ | ⟨T, rfl⟩ <;> trivial
theorem NilB.rep {b : Blk} (h : NilB b) {w : World} {p : Nat → Prop} {β : Nat → Option Value} {H : Nat → Blk} {B0 : Nat} : RepB w p β H B0 b nilSlice := by
 rcases h with ⟨T, e, rfl, h⟩ | ⟨T, rfl⟩
 ·exact ⟨[], ownsAt_nil _ _ _ _, h, by simp [Rows']⟩
 ·exact ⟨[], ownsAt_nil _ _ _ _, repLs_nil⟩
theorem rel_turn {B0 : Nat} {w0 : Base} {s s' : PS} {a : Act} {w : World} (hn : s'.n = s.n)
 (hup : ∀ (w : World) (p : Nat → Prop) β β' r, Turns s s' β β' → UpsRep w p β s.blk s.up r → UpsRep w p β' s'.blk s'.up r)
 (hb : ∀ u, s'.blk u ≠ .free → (s.blk u = .free ∧ u < 16000 ∧ NilB (s'.blk u)) ∨
   (s.blk u ≠ .free ∧ BlkSim (s.blk u) (s'.blk u) ∧ ∀ (w : World) (p : Nat → Prop) β β' B0 r, Turns s s' β β' → RepB w p β s.blk B0 (s.blk u) r → RepB w p β' s'.blk B0 (s'.blk u) r))
 (hs : ∀ t, s'.get t = undefS ∨ ∀ (w : World) (p : Nat → Prop) β β' v, Turns s s' β β' → RepS w p β s.blk (s.get t) v → RepS w p β' s'.blk (s'.get t) v) (h : Rel B0 w0 s a w) : Rel B0 w0 s' a w := by
 obtain ⟨β, p, inv⟩ := h
 let β' : Nat → Option Value := fun t => if (s'.blk t).isFree then none else match β t with | some r => some r | none => some nilSlice
 have hβn : ∀ u, s.blk u = .free → β u = none := fun u hu => by
  cases hr : β u with
  | none => rfl
  | some r => have := inv.blk hr; rw [hu] at this; exact this.elim
 have hβs : ∀ u, s.blk u ≠ .free → ∃ r, β u = some r := fun u hu => inv.root_of hu
 have hf : ∀ u, s'.blk u ≠ .free → (s'.blk u).isFree = false := fun u hu => by
  cases h : (s'.blk u).isFree with
  | false => rfl
  | true => exact absurd (Blk.isFree_iff.1 h) hu
 have T : Turns s s' β β' := by
  refine ⟨fun u h1 h2 => ?_, fun u h1 h2 => ?_, fun u h1 h2 => ?_⟩
  ·obtain ⟨r, hr⟩ := hβs u h2
   simp [β', hf u h1, hr]
  ·refine ⟨by simp [β', hf u h1, hβn u h2], ?_⟩
   rcases hb u h1 with ⟨_, _, g⟩ | ⟨g, _⟩
   ·exact g.isBuf
   ·exact absurd h2 g
  ·rcases hb u h1 with ⟨g, _⟩ | ⟨_, g, _⟩
   ·exact absurd g h2
   ·exact g
 have hor : ∀ t r, β' t = some r → β t = some r ∨ r = nilSlice := fun t r hr => by
  simp only [β'] at hr
  split at hr
  ·cases hr
  ·split at hr
   ·rename_i q hq; obtain rfl := Option.some.inj hr; exact .inl hq
   ·exact .inr (Option.some.inj hr).symm
 refine ⟨β', p, by rw [hn]; exact inv.size, by rw [hn]; exact inv.deep, inv.defers, inv.ext, inv.base, fun b hb => ⟨(inv.shared b hb).1, fun t r hr => ?_⟩, inv.conf, fun t u r q b h1 h2 h3 h4 => ?_, fun t => ?_, fun t v hv => ?_, hup w p β β' w0.up T inv.ups⟩
 ·rcases hor t r hr with h | rfl
  ·exact (inv.shared b hb).2 t r h
  ·intro e; cases e
 ·rcases hor t r h1 with g1 | rfl
  ·rcases hor u q h2 with g2 | rfl
   ·exact inv.inj t u r q b g1 g2 h3 h4
   ·cases h4
  ·cases h3
 ·by_cases hfr : s'.blk t = .free
  ·have : β' t = none := by simp [β', hfr, Blk.isFree]
   rw [this]; exact hfr
  ·rcases hb t hfr with ⟨g1, g2, g3⟩ | ⟨g1, _, g2⟩
   ·rw [(T.new t hfr g1).1]
    exact ⟨g3.rep, .inl g2⟩
   ·obtain ⟨r, hr⟩ := hβs t g1
    rw [T.keep t hfr g1, hr]
    exact ⟨g2 w p β β' B0 r T (inv.blk hr), by have := inv.blks t; rw [hr] at this; exact this.2⟩
 ·rcases hs t with e | g
  ·rw [e]; trivial
  ·exact g w p β β' v T (inv.slots t v hv)
theorem decBuf_eq {T : TypeId} {e : Sh} {b : Blk} {xs : List e.T} (h : decBuf T e b = some xs) : b = .buf T e xs := by
 unfold decBuf at h
 split at h
 ·split at h
  ·rename_i hte; obtain ⟨rfl, rfl⟩ := hte; obtain rfl := Option.some.inj h; rfl
  ·cases h
 ·cases h
theorem decIds_eq {T : TypeId} {b : Blk} {l : List Nat} (h : decIds T b = some l) : b = .ids T l := by
 unfold decIds at h
 split at h
 ·split at h
  ·rename_i e; subst e; rw [Option.some.inj h]
  ·cases h
 ·cases h
theorem decMap_eq {k v : Sh} {b : Blk} {xs : List (k.T × v.T)} (h : decMap k v b = some xs) : b = .map k v xs := by
 unfold decMap at h
 split at h
 ·split at h
  ·rename_i hte; obtain ⟨rfl, rfl⟩ := hte; obtain rfl := Option.some.inj h; rfl
  ·cases h
 ·cases h
theorem freeAt_iff {s : PS} {u : Nat} {e : Sh} (h : freeAt s u e = true) : s.blk u = .free ∧ u < 16000 ∧ 0 < e.size := by
 simp only [freeAt, Bool.and_eq_true, Nat.blt_eq] at h
 exact ⟨Blk.isFree_iff.1 h.1, h.2.1, h.2.2⟩
theorem take_length {s : Sh} : ∀ {l : List LV} {x : s.T} {r : List LV}, s.take l = some (x, r) → l.length = (s.cells x).length + r.length := by
 induction s with
 | pair a b iha ihb =>
   intro l x r h
   simp only [Sh.take] at h
   cases h1 : a.take l with
   | none => rw [h1] at h; cases h
   | some xr =>
     obtain ⟨x1, r1⟩ := xr
     rw [h1] at h
     simp only [] at h
     cases h2 : b.take r1 with
     | none => rw [h2] at h; cases h
     | some yr =>
       obtain ⟨y, r2⟩ := yr
       rw [h2] at h
       obtain ⟨rfl, rfl⟩ := Prod.mk.inj (Option.some.inj h)
       have := iha h1
       have := ihb h2
       simp only [Sh.cells, List.length_append]
       omega
 | agg s ih =>
   intro l x r h
   simp only [Sh.take] at h
   cases h1 : s.take l with
   | none => rw [h1] at h; cases h
   | some xr =>
     obtain ⟨x1, r1⟩ := xr
     rw [h1] at h
     obtain ⟨rfl, rfl⟩ := Prod.mk.inj (Option.some.inj h)
     exact ih h1
 | unit =>
   intro l x r h
   simp only [Sh.take] at h
   obtain ⟨rfl, rfl⟩ := Prod.mk.inj (Option.some.inj h)
   simp [Sh.cells]
 | int k =>
   intro l x r h
   cases l with
   | nil => simp [Sh.take] at h
   | cons c l =>
     cases c <;> simp only [Sh.take, reduceCtorEq] at h
     split at h
     ·rename_i e; subst e
      obtain ⟨rfl, rfl⟩ := Prod.mk.inj (Option.some.inj h)
      simp [Sh.cells]; omega
     ·cases h
 | bool | str | zf | zc | err =>
   intro l x r h
   cases l with
   | nil => simp [Sh.take] at h
   | cons c l =>
     cases c <;> simp only [Sh.take, reduceCtorEq] at h
     obtain ⟨rfl, rfl⟩ := Prod.mk.inj (Option.some.inj h)
     simp [Sh.cells]; omega
 | slice e ih =>
   intro l x r h
   cases l with
   | nil => simp [Sh.take] at h
   | cons c l =>
     cases c <;> simp only [Sh.take, reduceCtorEq] at h
     ·split at h
      ·rename_i e; subst e
       obtain ⟨rfl, rfl⟩ := Prod.mk.inj (Option.some.inj h)
       simp [Sh.cells]; omega
      ·cases h
     ·obtain ⟨rfl, rfl⟩ := Prod.mk.inj (Option.some.inj h)
      simp [Sh.cells]; omega
     ·obtain ⟨rfl, rfl⟩ := Prod.mk.inj (Option.some.inj h)
      simp [Sh.cells]; omega
 | map k v ihk ihv =>
   intro l x r h
   cases l with
   | nil => simp [Sh.take] at h
   | cons c l =>
     cases c <;> simp only [Sh.take, reduceCtorEq] at h
     split at h
     ·rename_i e; obtain ⟨e1, e2⟩ := e; subst e1; subst e2
      obtain ⟨rfl, rfl⟩ := Prod.mk.inj (Option.some.inj h)
      simp [Sh.cells]; omega
     ·cases h
 | ptr s _ =>
   intro l x r h
   cases l with
   | nil => simp [Sh.take] at h
   | cons c l =>
     cases c <;> simp only [Sh.take, reduceCtorEq] at h
     split at h
     ·rename_i e; obtain ⟨e1, e2⟩ := e; subst e1; subst e2
      obtain ⟨rfl, rfl⟩ := Prod.mk.inj (Option.some.inj h)
      simp [Sh.cells]; omega
     ·cases h
 | optr s _ =>
   intro l x r h
   cases l with
   | nil => simp [Sh.take] at h
   | cons c l =>
     cases c <;> simp only [Sh.take, reduceCtorEq] at h
     case optr =>
      split at h
      ·rename_i e; subst e
       obtain ⟨rfl, rfl⟩ := Prod.mk.inj (Option.some.inj h)
       simp [Sh.cells]; omega
      ·cases h
     case nilptr =>
      obtain ⟨rfl, rfl⟩ := Prod.mk.inj (Option.some.inj h)
      simp [Sh.cells]; omega
     case iptr =>
      split at h
      ·rename_i e; obtain ⟨e1, e2⟩ := e; subst e1; subst e2
       obtain ⟨rfl, rfl⟩ := Prod.mk.inj (Option.some.inj h)
       simp [Sh.cells]; omega
      ·cases h
 | clo f s _ =>
   intro l x r h
   cases l with
   | nil => simp [Sh.take] at h
   | cons c l =>
     cases c <;> simp only [Sh.take, reduceCtorEq] at h
     split at h
     ·rename_i e; obtain ⟨e1, e2⟩ := e; subst e1; subst e2
      obtain ⟨rfl, rfl⟩ := Prod.mk.inj (Option.some.inj h)
      simp [Sh.cells]; omega
     ·cases h
def BlkGood (s s' : PS) (u : Nat) (b : Blk) : Prop :=
 (s.blk u = .free ∧ u < 16000 ∧ NilB b) ∨
 (s.blk u ≠ .free ∧ BlkSim (s.blk u) b ∧ ∀ (w : World) (p : Nat → Prop) β β' B0 r, Turns s s' β β' → RepB w p β s.blk B0 (s.blk u) r → RepB w p β' s'.blk B0 b r)
def SlotGood (s s' : PS) (t : Nat) (x : SV) : Prop :=
 ∀ (w : World) (p : Nat → Prop) β β' v, Turns s s' β β' → RepS w p β s.blk (s.getU t) v → RepS w p β' s'.blk x v
section
variable {s s' : PS}
theorem good_buf {u : Nat} {T : TypeId} {e : Sh} {xs : List e.T} (h : s.blk u = .buf T e xs) : BlkGood s s' u (.buf T e xs) :=
 .inr ⟨by rw [h]; simp, by rw [h]; exact BlkSim.refl _, fun w p β β' B0 r _ hr => by rw [h] at hr; exact hr⟩
theorem good_map {u : Nat} {k v : Sh} {xs : List (k.T × v.T)} (h : s.blk u = .map k v xs) : BlkGood s s' u (.map k v xs) :=
 .inr ⟨by rw [h]; simp, by rw [h]; exact BlkSim.refl _, fun w p β β' B0 r _ hr => by rw [h] at hr; exact hr⟩
theorem mref_of {u : Nat} {k e : Sh} {xs : List (k.T × e.T)} (hb : s.blk u = .map k e xs) (hin : s'.blk u ≠ .free) {w : World} {p : Nat → Prop} {β β' : Nat → Option Value} {v : Value} (ht : Turns s s' β β')
 (h : RepL w p β s.blk (.mref u) v) : RepL w p β' s'.blk (.mref u) v := by
 have hn : s.blk u ≠ .free := by rw [hb]; simp
 exact ⟨by rw [ht.keep u hin hn]; exact h.1, h.2.1.sim (ht.sim u hin hn), h.2.2⟩
theorem full_of {u : Nat} {T : TypeId} {e : Sh} {xs : List e.T} (hb : s.blk u = .buf T e xs) (hin : s'.blk u ≠ .free) {w : World} {p : Nat → Prop} {β β' : Nat → Option Value} {v : Value} (ht : Turns s s' β β')
 (h : RepL w p β s.blk (.full u) v) : RepL w p β' s'.blk (.full u) v := by
 have hn : s.blk u ≠ .free := by rw [hb]; simp
 exact ⟨by rw [ht.keep u hin hn]; exact h.1, h.2.1.sim (ht.sim u hin hn), h.2.2⟩
theorem full_keep {u : Nat} (hn : s.blk u ≠ .free) (hin : s'.blk u ≠ .free) {w : World} {p : Nat → Prop} {β β' : Nat → Option Value} {v : Value} (ht : Turns s s' β β')
 (h : RepL w p β s.blk (.full u) v) : RepL w p β' s'.blk (.full u) v :=
 ⟨by rw [ht.keep u hin hn]; exact h.1, h.2.1.sim (ht.sim u hin hn), h.2.2⟩
theorem row_turn (hrw : ∀ i, s'.rowB i = s.rowB i) {w : World} {p : Nat → Prop} {β β' : Nat → Option Value} (ht : Turns s s' β β') {j : Nat} {v : Value} (h : RepL w p β s.blk (.row j) v) : RepL w p β' s'.blk (.row j) v := by
 have e : s'.blk (16000 + j) = s.blk (16000 + j) := by rw [PS.blk_high (Nat.le_add_right _ _), PS.blk_high (Nat.le_add_right _ _), hrw]
 obtain ⟨h1, h2, h3⟩ := h
 have hn : s.blk (16000 + j) ≠ .free := fun e => by rw [e] at h2; exact h2
 exact ⟨(ht.keep _ (by rw [e]; exact hn) hn).trans h1, by rw [e]; exact h2, h3⟩
theorem full_nil {u : Nat} (hb : s.blk u = .free) (hin : s'.blk u ≠ .free) {w : World} {p : Nat → Prop} {β β' : Nat → Option Value} {v : Value} (ht : Turns s s' β β')
 (h : RepL w p β s.blk .nilslice v) : RepL w p β' s'.blk (.full u) v := by
 have h : v = .slice none 0 0 := h
 subst h
 obtain ⟨g1, g2⟩ := ht.new u hin hb
 exact ⟨g1, g2, rfl⟩
theorem rows_len {e : Sh} : ∀ {n : Nat} {cs : List LV} {xs : List e.T}, e.rows n cs = some xs → xs.length = n ∧ cs.length = (xs.flatMap e.cells).length
 | 0, [], xs, h => by
   simp only [Sh.rows] at h
   obtain rfl := Option.some.inj h
   exact ⟨rfl, rfl⟩
 | 0, _ :: _, xs, h => by simp [Sh.rows] at h
 | n + 1, cs, xs, h => by
   simp only [Sh.rows] at h
   split at h
   ·rename_i x r hx
    split at h
    ·rename_i ys hy
     obtain rfl := Option.some.inj h
     obtain ⟨h1, h2⟩ := rows_len hy
     have := take_length hx
     refine ⟨by simp [h1], ?_⟩
     rw [List.flatMap_cons, List.length_append, this, h2]
    ·cases h
   ·cases h
theorem LK.take_len {q : LK} {cs : List LV} {x : q.T} {r : List LV} (h : q.take s cs = some (x, r)) : cs.length = (q.cells x).length + r.length := by
 cases q with
 | d sh => exact take_length h
 | own v T e =>
   cases cs with
   | nil => simp [LK.take] at h
   | cons c cs =>
     cases c <;> simp only [LK.take, reduceCtorEq] at h
     ·split at h
      ·obtain ⟨rfl, rfl⟩ := Prod.mk.inj (Option.some.inj h)
       simp [LK.cells]; omega
      ·cases h
     ·split at h
      ·split at h
       ·obtain ⟨rfl, rfl⟩ := Prod.mk.inj (Option.some.inj h)
        simp [LK.cells]; omega
       ·cases h
      ·cases h
 | map v k e =>
   cases cs with
   | nil => simp [LK.take] at h
   | cons c cs =>
     cases c <;> simp only [LK.take, reduceCtorEq] at h
     split at h
     ·split at h
      ·obtain ⟨rfl, rfl⟩ := Prod.mk.inj (Option.some.inj h)
       simp [LK.cells]; omega
      ·cases h
     ·cases h
 | clo f ks =>
   cases cs with
   | nil => simp [LK.take] at h
   | cons c cs =>
     cases c <;> simp only [LK.take, reduceCtorEq] at h
     split at h
     ·split at h
      ·obtain ⟨rfl, rfl⟩ := Prod.mk.inj (Option.some.inj h)
       simp [LK.cells]; omega
      ·cases h
     ·cases h
 | hd v =>
   cases cs with
   | nil => simp [LK.take] at h
   | cons c cs =>
     cases c <;> simp only [LK.take, reduceCtorEq] at h
     split at h
     ·obtain ⟨rfl, rfl⟩ := Prod.mk.inj (Option.some.inj h)
      simp [LK.cells]; omega
     ·cases h
 | rf v sz i o =>
   cases cs with
   | nil => simp [LK.take] at h
   | cons c cs =>
     cases c <;> simp only [LK.take, reduceCtorEq] at h
     split at h
     ·obtain ⟨rfl, rfl⟩ := Prod.mk.inj (Option.some.inj h)
      simp [LK.cells]; omega
     ·cases h
 | lit k n =>
   cases cs with
   | nil => simp [LK.take] at h
   | cons c cs =>
     cases c <;> simp only [LK.take, reduceCtorEq] at h
     split at h
     ·obtain ⟨rfl, rfl⟩ := Prod.mk.inj (Option.some.inj h)
      simp [LK.cells]; omega
     ·cases h
 | nf =>
   cases cs with
   | nil => simp [LK.take] at h
   | cons c cs =>
     cases c <;> simp only [LK.take, reduceCtorEq] at h
     obtain ⟨rfl, rfl⟩ := Prod.mk.inj (Option.some.inj h)
     simp [LK.cells]; omega
 | fc f =>
   cases cs with
   | nil => simp [LK.take] at h
   | cons c cs =>
     cases c <;> simp only [LK.take, reduceCtorEq] at h
     split at h
     ·obtain ⟨rfl, rfl⟩ := Prod.mk.inj (Option.some.inj h)
      simp [LK.cells]; omega
     ·cases h
 | ownp v T e n sh =>
   cases cs with
   | nil => simp [LK.take] at h
   | cons c cs =>
     cases c <;> simp only [LK.take, reduceCtorEq] at h
     ·split at h
      ·split at h
       ·obtain ⟨rfl, rfl⟩ := Prod.mk.inj (Option.some.inj h)
        simp [LK.cells]; omega
       ·cases h
      ·cases h
     ·split at h
      ·split at h
       ·split at h
        ·obtain ⟨rfl, rfl⟩ := Prod.mk.inj (Option.some.inj h)
         simp [LK.cells]; omega
        ·cases h
       ·cases h
      ·cases h
 | vec n e =>
   simp only [LK.take] at h
   split at h
   ·rename_i hle
    split at h
    ·rename_i xs hxs
     obtain ⟨rfl, rfl⟩ := Prod.mk.inj (Option.some.inj h)
     obtain ⟨h1, h2⟩ := rows_len hxs
     rw [LK.cells, padV_self h1, ← h2, List.length_take, List.length_drop]
     omega
    ·cases h
   ·cases h
theorem packs_len {e : Sh} {n : Nat} {sh : Sh} {xs : List e.T} {x : sh.T} (h : packs e n sh xs = some x) : xs.length = (unpk e n sh x).length := by
 unfold packs at h
 split at h
 ·split at h
  ·rename_i ys hys
   split at h
   ·rename_i hlen
    obtain rfl := Option.some.inj h
    unfold unpk
    rw [hys]
    exact hlen.symm
   ·cases h
  ·cases h
 ·cases h
theorem packs_rep {e : Sh} {n : Nat} {sh : Sh} {xs : List e.T} {x : sh.T} (h : packs e n sh xs = some x) {w : World} {p : Nat → Prop} {us : List Value} (hr : Rows' e.size (RepT w p e) xs us) : Rows' e.size (RepT w p e) (unpk e n sh x) us := by
 unfold packs at h
 split at h
 ·rename_i y hy
  split at h
  ·rename_i ys hys
   split at h
   ·obtain rfl := Option.some.inj h
    unfold unpk
    have h6 := rows_ok (w := w) (p := p) (β := fun _ => none) (H := fun _ => .free) hys (cells_ok (build_ok (β := fun _ => none) (H := fun _ => .free) hy (rows_cells hr)))
    rw [hys]
    exact h6.2
   ·cases h
  ·cases h
 ·cases h
theorem good_pack {u : Nat} {T : TypeId} {e : Sh} {n : Nat} {sh : Sh} {xs : List e.T} {x : sh.T} (hb : s.blk u = .buf T e xs) (h : packs e n sh xs = some x) : BlkGood s s' u (.buf T e (unpk e n sh x)) :=
 .inr ⟨by rw [hb]; simp, by rw [hb]; exact ⟨_, rfl, packs_len h⟩, fun w p β β' B0 r _ hr => by
  rw [hb] at hr
  obtain ⟨us, h1, h2, h3⟩ := hr
  exact ⟨us, by rw [← packs_len h]; exact h1, h2, packs_rep h h3⟩⟩
theorem LK.take_blks {q : LK} {cs : List LV} {x : q.T} {r : List LV} (h : q.take s cs = some (x, r)) : ∀ y ∈ q.blks x, BlkGood s s' y.1 y.2 ∧ y.2 ≠ .free := by
 cases q with
 | d sh => intro y hy; simp [LK.blks] at hy
 | own v T e =>
   intro y hy
   simp only [LK.blks, List.mem_singleton] at hy
   subst hy
   refine ⟨?_, by simp⟩
   cases cs with
   | nil => simp [LK.take] at h
   | cons c cs =>
     cases c <;> simp only [LK.take, reduceCtorEq] at h
     ·split at h
      ·rename_i hf
       obtain ⟨rfl, rfl⟩ := Prod.mk.inj (Option.some.inj h)
       obtain ⟨g1, g2, g3⟩ := freeAt_iff hf
       exact .inl ⟨g1, g2, .inl ⟨T, e, rfl, g3⟩⟩
      ·cases h
     ·split at h
      ·rename_i hv
       split at h
       ·rename_i xs hx
        obtain ⟨rfl, rfl⟩ := Prod.mk.inj (Option.some.inj h)
        exact good_buf (decBuf_eq hx)
       ·cases h
      ·cases h
 | map v k e =>
   intro y hy
   simp only [LK.blks, List.mem_singleton] at hy
   subst hy
   refine ⟨?_, by simp⟩
   cases cs with
   | nil => simp [LK.take] at h
   | cons c cs =>
     cases c <;> simp only [LK.take, reduceCtorEq] at h
     split at h
     ·split at h
      ·rename_i xs hx
       obtain ⟨rfl, rfl⟩ := Prod.mk.inj (Option.some.inj h)
       exact good_map (decMap_eq hx)
      ·cases h
     ·cases h
 | clo f ks => intro y hy; simp [LK.blks] at hy
 | hd v => intro y hy; simp [LK.blks] at hy
 | rf v sz i o => intro y hy; simp [LK.blks] at hy
 | lit k n => intro y hy; simp [LK.blks] at hy
 | nf => intro y hy; simp [LK.blks] at hy
 | fc f => intro y hy; simp [LK.blks] at hy
 | vec n e => intro y hy; simp [LK.blks] at hy
 | ownp v T e n sh =>
   intro y hy
   simp only [LK.blks, List.mem_singleton] at hy
   subst hy
   refine ⟨?_, by simp⟩
   cases cs with
   | nil => simp [LK.take] at h
   | cons c cs =>
     cases c <;> simp only [LK.take, reduceCtorEq] at h
     ·split at h
      ·rename_i hf
       split at h
       ·rename_i y hy
        obtain ⟨rfl, rfl⟩ := Prod.mk.inj (Option.some.inj h)
        obtain ⟨g1, g2, g3⟩ := freeAt_iff hf
        have hl := packs_len hy
        exact .inl ⟨g1, g2, .inl ⟨T, e, by rw [List.length_eq_zero_iff.1 hl.symm], g3⟩⟩
       ·cases h
      ·cases h
     ·split at h
      ·rename_i hv
       split at h
       ·rename_i xs hx
        split at h
        ·rename_i y hy
         obtain ⟨rfl, rfl⟩ := Prod.mk.inj (Option.some.inj h)
         exact good_pack (decBuf_eq hx) hy
        ·cases h
       ·cases h
      ·cases h
theorem caps_take {w : World} {p : Nat → Prop} {β β' : Nat → Option Value} (ht : Turns s s' β β') : ∀ {l : List CapK} {cs : List Cap} {x : CapsT l}, capsTake s l cs = some x → (∀ u ∈ CapK.refs l, s'.blk u ≠ .free) →
 (capsOut l x).length = cs.length ∧ ∀ (i : Nat) (c : Cap), (capsOut l x)[i]? = some c → ∃ c', cs[i]? = some c' ∧ ∀ v, CapRep w p β s.blk c' v → CapRep w p β' s'.blk c v
 | [], [], _, _, _ => ⟨rfl, fun i c h => by simp [capsOut] at h⟩
 | [], _ :: _, _, h, _ => by simp [capsTake] at h
 | .ref t :: l, [], _, h, _ => by simp [capsTake] at h
 | .dat sh :: l, [], _, h, _ => by simp [capsTake] at h
 | .ref t :: l, .dat _ _ :: r, _, h, _ => by simp [capsTake] at h
 | .dat sh :: l, .ref _ :: r, _, h, _ => by simp [capsTake] at h
 | .ref t :: l, .ref t' :: r, x, h, hin => by
   simp only [capsTake] at h
   split at h
   ·rename_i hc
    obtain ⟨rfl, hf⟩ := hc
    obtain ⟨h1, h2⟩ := caps_take ht h (fun u hu => hin u (by simp [CapK.refs, hu]))
    have hin := hin t' (by simp [CapK.refs])
    have hn : s.blk t' ≠ .free := fun e => by rw [e] at hf; cases hf
    refine ⟨by simp [capsOut, h1], fun i c hc => ?_⟩
    cases i with
    | zero =>
      obtain rfl := Option.some.inj hc
      exact ⟨.ref t', rfl, fun v ⟨r, b, g1, g2, g3, g4⟩ => ⟨r, b, (ht.keep t' hin hn).trans g1, g2, g3, g4.sim (ht.sim t' hin hn)⟩⟩
    | succ i => exact h2 i c hc
   ·cases h
 | .dat sh :: l, .dat sh' y :: r, x, h, hin => by
   simp only [capsTake] at h
   split at h
   ·rename_i hs
    subst hs
    split at h
    ·rename_i z hz
     obtain rfl := Option.some.inj h
     obtain ⟨h1, h2⟩ := caps_take ht hz (fun u hu => hin u (by simpa [CapK.refs] using hu))
     refine ⟨by simp [capsOut, h1], fun i c hc => ?_⟩
     cases i with
     | zero =>
       obtain rfl := Option.some.inj hc
       exact ⟨_, rfl, fun v hv => hv⟩
     | succ i => exact h2 i c hc
    ·cases h
   ·cases h
theorem LK.take_rep {q : LK} {cs : List LV} {x : q.T} {r : List LV} (h : q.take s cs = some (x, r)) (hin : ∀ u ∈ q.uses, s'.blk u ≠ .free) {w : World} {p : Nat → Prop} {β β' : Nat → Option Value} (ht : Turns s s' β β') {us : List Value} (hr : RepLs w p β s.blk cs us) :
 ∃ us1 us2, us = us1 ++ us2 ∧ RepLs w p β' s'.blk (q.cells x) us1 ∧ RepLs w p β s.blk r us2 := by
 cases q with
 | d sh =>
   obtain ⟨h1, h2⟩ := take_ok h hr
   exact ⟨us.take sh.size, us.drop sh.size, (List.take_append_drop _ _).symm, cells_ok h1, h2⟩
 | own v T e =>
   cases cs with
   | nil => simp [LK.take] at h
   | cons c cs =>
     obtain ⟨u, vs, rfl, h1, h2⟩ := hr.uncons
     have hin := hin v (by simp [LK.uses, LK.keys])
     cases c <;> simp only [LK.take, reduceCtorEq] at h
     ·split at h
      ·rename_i hf
       obtain ⟨rfl, rfl⟩ := Prod.mk.inj (Option.some.inj h)
       obtain ⟨g1, g2, g3⟩ := freeAt_iff hf
       exact ⟨[u], vs, rfl, repLs_one (full_nil g1 hin ht h1), h2⟩
      ·cases h
     ·split at h
      ·rename_i hv
       split at h
       ·rename_i xs hx
        obtain ⟨rfl, rfl⟩ := Prod.mk.inj (Option.some.inj h)
        subst hv
        exact ⟨[u], vs, rfl, repLs_one (full_of (decBuf_eq hx) hin ht h1), h2⟩
       ·cases h
      ·cases h
 | map v k e =>
   cases cs with
   | nil => simp [LK.take] at h
   | cons c cs =>
     obtain ⟨u, vs, rfl, h1, h2⟩ := hr.uncons
     have hin := hin v (by simp [LK.uses, LK.keys])
     cases c <;> simp only [LK.take, reduceCtorEq] at h
     split at h
     ·rename_i hv
      split at h
      ·rename_i xs hx
       obtain ⟨rfl, rfl⟩ := Prod.mk.inj (Option.some.inj h)
       subst hv
       exact ⟨[u], vs, rfl, repLs_one (mref_of (decMap_eq hx) hin ht h1), h2⟩
      ·cases h
     ·cases h
 | clo f ks =>
   cases cs with
   | nil => simp [LK.take] at h
   | cons c cs =>
     obtain ⟨u, vs, rfl, h1, h2⟩ := hr.uncons
     cases c <;> simp only [LK.take, reduceCtorEq] at h
     rename_i f' cs'
     split at h
     ·rename_i hf
      subst hf
      split at h
      ·rename_i y hy
       obtain ⟨rfl, rfl⟩ := Prod.mk.inj (Option.some.inj h)
       obtain ⟨g1, g2⟩ := caps_take (w := w) (p := p) ht hy hin
       obtain ⟨cv, k1, k2, k3⟩ := h1
       refine ⟨[u], vs, rfl, repLs_one ⟨cv, k1, by rw [g1]; exact k2, fun i c v hc hv => ?_⟩, h2⟩
       obtain ⟨c', hc', hcc⟩ := g2 i c hc
       exact hcc v (k3 i c' v hc' hv)
      ·cases h
     ·cases h
 | hd v =>
   cases cs with
   | nil => simp [LK.take] at h
   | cons c cs =>
     obtain ⟨u, vs, rfl, h1, h2⟩ := hr.uncons
     have hin := hin v (by simp [LK.uses])
     cases c <;> simp only [LK.take, reduceCtorEq] at h
     split at h
     ·rename_i v' hv
      obtain ⟨rfl, hf⟩ := hv
      obtain ⟨rfl, rfl⟩ := Prod.mk.inj (Option.some.inj h)
      have hn : s.blk v' ≠ .free := fun e => by rw [e] at hf; cases hf
      exact ⟨[u], vs, rfl, repLs_one ⟨by rw [ht.keep v' hin hn]; exact h1.1, h1.2.1.sim (ht.sim v' hin hn), h1.2.2⟩, h2⟩
     ·cases h
 | rf v sz i o =>
   cases cs with
   | nil => simp [LK.take] at h
   | cons c cs =>
     obtain ⟨u, vs, rfl, h1, h2⟩ := hr.uncons
     have hin1 := hin v (by simp [LK.uses])
     cases c <;> simp only [LK.take, reduceCtorEq] at h
     split at h
     ·rename_i v' sz' i' o' hv
      obtain ⟨⟨rfl, rfl, rfl, rfl⟩, hf⟩ := hv
      obtain ⟨rfl, rfl⟩ := Prod.mk.inj (Option.some.inj h)
      have hn : s.blk v' ≠ .free := fun e => by rw [e] at hf; cases hf
      obtain ⟨r0, b, g1, g2, g3, g4⟩ := h1
      exact ⟨[u], vs, rfl, repLs_one ⟨r0, b, (ht.keep v' hin1 hn).trans g1, g2, g3, g4.sim (ht.sim v' hin1 hn)⟩, h2⟩
     ·cases h
 | vec n e =>
   simp only [LK.take] at h
   split at h
   ·rename_i hle
    split at h
    ·rename_i xs hxs
     obtain ⟨rfl, rfl⟩ := Prod.mk.inj (Option.some.inj h)
     have a := hr.part 0 (n * e.size)
     have b := hr.part (n * e.size) us.length
     simp only [List.drop_zero] at a
     rw [List.take_of_length_le (by rw [List.length_drop, hr.1]; omega), List.take_of_length_le (by rw [List.length_drop]; omega)] at b
     obtain ⟨g1, g2⟩ := rows_ok hxs a
     refine ⟨us.take (n * e.size), us.drop (n * e.size), (List.take_append_drop _ _).symm, ?_, b⟩
     rw [LK.cells, padV_self g1]
     exact rows_cells g2
    ·cases h
   ·cases h
 | lit k n =>
   cases cs with
   | nil => simp [LK.take] at h
   | cons c cs =>
     obtain ⟨u, vs, rfl, h1, h2⟩ := hr.uncons
     cases c <;> simp only [LK.take, reduceCtorEq] at h
     split at h
     ·rename_i hv
      obtain ⟨rfl, rfl⟩ := hv
      obtain ⟨rfl, rfl⟩ := Prod.mk.inj (Option.some.inj h)
      exact ⟨[u], vs, rfl, repLs_one h1, h2⟩
     ·cases h
 | nf =>
   cases cs with
   | nil => simp [LK.take] at h
   | cons c cs =>
     obtain ⟨u, vs, rfl, h1, h2⟩ := hr.uncons
     cases c <;> simp only [LK.take, reduceCtorEq] at h
     obtain ⟨rfl, rfl⟩ := Prod.mk.inj (Option.some.inj h)
     exact ⟨[u], vs, rfl, repLs_one h1, h2⟩
 | fc f =>
   cases cs with
   | nil => simp [LK.take] at h
   | cons c cs =>
     obtain ⟨u, vs, rfl, h1, h2⟩ := hr.uncons
     cases c <;> simp only [LK.take, reduceCtorEq] at h
     split at h
     ·rename_i hv
      subst hv
      obtain ⟨rfl, rfl⟩ := Prod.mk.inj (Option.some.inj h)
      exact ⟨[u], vs, rfl, repLs_one h1, h2⟩
     ·cases h
 | ownp v T e n sh =>
   cases cs with
   | nil => simp [LK.take] at h
   | cons c cs =>
     obtain ⟨u, vs, rfl, h1, h2⟩ := hr.uncons
     have hin := hin v (by simp [LK.uses, LK.keys])
     cases c <;> simp only [LK.take, reduceCtorEq] at h
     ·split at h
      ·rename_i hf
       split at h
       ·obtain ⟨rfl, rfl⟩ := Prod.mk.inj (Option.some.inj h)
        obtain ⟨g1, g2, g3⟩ := freeAt_iff hf
        exact ⟨[u], vs, rfl, repLs_one (full_nil g1 hin ht h1), h2⟩
       ·cases h
      ·cases h
     ·split at h
      ·rename_i hv
       split at h
       ·rename_i xs hx
        split at h
        ·obtain ⟨rfl, rfl⟩ := Prod.mk.inj (Option.some.inj h)
         subst hv
         exact ⟨[u], vs, rfl, repLs_one (full_of (decBuf_eq hx) hin ht h1), h2⟩
        ·cases h
       ·cases h
      ·cases h
theorem LKs.dec_len : ∀ {l : List LK} {cs : List LV} {x : LKs l}, LKs.dec s l cs = some x → cs.length = (LKs.cells l x).length
 | [], [], _, _ => rfl
 | [], _ :: _, _, h => by simp [LKs.dec] at h
 | [q], cs, x, h => by
   simp only [LKs.dec] at h
   split at h
   ·rename_i y hy
    obtain rfl := Option.some.inj h
    have := LK.take_len hy
    simpa [LKs.cells] using this
   ·cases h
 | q :: r :: l, cs, x, h => by
   simp only [LKs.dec] at h
   split at h
   ·rename_i y rest hy
    split at h
    ·rename_i z hz
     obtain rfl := Option.some.inj h
     have h1 := LK.take_len hy
     have h2 := LKs.dec_len hz
     simp only [LKs.cells, List.length_append]
     omega
    ·cases h
   ·cases h
theorem LKs.dec_blks : ∀ {l : List LK} {cs : List LV} {x : LKs l}, LKs.dec s l cs = some x → ∀ y ∈ LKs.blks l x, BlkGood s s' y.1 y.2 ∧ y.2 ≠ .free
 | [], _, _, _ => by intro y hy; simp [LKs.blks] at hy
 | [q], cs, x, h => by
   simp only [LKs.dec] at h
   split at h
   ·rename_i y hy
    obtain rfl := Option.some.inj h
    exact LK.take_blks hy
   ·cases h
 | q :: r :: l, cs, x, h => by
   simp only [LKs.dec] at h
   split at h
   ·rename_i y rest hy
    split at h
    ·rename_i z hz
     obtain rfl := Option.some.inj h
     intro b hb
     simp only [LKs.blks, List.mem_append] at hb
     exact hb.elim (LK.take_blks hy b) (LKs.dec_blks hz b)
    ·cases h
   ·cases h
theorem LKs.dec_rep {w : World} {p : Nat → Prop} {β β' : Nat → Option Value} (ht : Turns s s' β β') : ∀ {l : List LK} {cs : List LV} {x : LKs l}, LKs.dec s l cs = some x → (∀ u ∈ l.flatMap LK.uses, s'.blk u ≠ .free) → ∀ {us : List Value}, RepLs w p β s.blk cs us →
 RepLs w p β' s'.blk (LKs.cells l x) us
 | [], [], _, _, _, us, hr => by
   have : us = [] := List.eq_nil_of_length_eq_zero hr.1.symm
   subst this; exact repLs_nil
 | [], _ :: _, _, h, _, _, _ => by simp [LKs.dec] at h
 | [q], cs, x, h, hin, us, hr => by
   simp only [LKs.dec] at h
   split at h
   ·rename_i y hy
    obtain rfl := Option.some.inj h
    obtain ⟨us1, us2, rfl, h1, h2⟩ := LK.take_rep hy (fun u hu => hin u (by simp [hu])) ht hr
    have : us2 = [] := List.eq_nil_of_length_eq_zero h2.1.symm
    subst this
    rw [List.append_nil]
    exact h1
   ·cases h
 | q :: r :: l, cs, x, h, hin, us, hr => by
   simp only [LKs.dec] at h
   split at h
   ·rename_i y rest hy
    split at h
    ·rename_i z hz
     obtain rfl := Option.some.inj h
     obtain ⟨us1, us2, rfl, h1, h2⟩ := LK.take_rep hy (fun u hu => hin u (by simp [hu])) ht hr
     exact h1.append (LKs.dec_rep ht hz (fun u hu => hin u (by
      rw [List.flatMap_cons, List.mem_append]; exact .inr hu)) h2)
    ·cases h
   ·cases h
theorem LKs.keys_in : ∀ {l : List LK} {x : LKs l} {u : Nat}, u ∈ l.flatMap LK.keys → ∃ b, (u, b) ∈ LKs.blks l x
 | [], _, u, h => by simp at h
 | [q], x, u, h => by
   cases q with
   | d sh => simp [LK.keys] at h
   | clo f ks => simp [LK.keys] at h
   | hd v => simp [LK.keys] at h
   | rf v sz i o => simp [LK.keys] at h
   | lit k n => simp [LK.keys] at h
   | nf => simp [LK.keys] at h
   | fc f => simp [LK.keys] at h
   | vec n e => simp [LK.keys] at h
   | ownp v T e n sh => simp [LK.keys] at h; subst h; exact ⟨_, by simp [LKs.blks, LK.blks]; rfl⟩
   | own v T e => simp [LK.keys] at h; subst h; exact ⟨_, by simp [LKs.blks, LK.blks]; rfl⟩
   | map v k e => simp [LK.keys] at h; subst h; exact ⟨_, by simp [LKs.blks, LK.blks]; rfl⟩
 | q :: r :: l, x, u, h => by
   rw [List.flatMap_cons, List.mem_append] at h
   rcases h with h | h
   ·cases q with
    | d sh => simp [LK.keys] at h
    | clo f ks => simp [LK.keys] at h
    | hd v => simp [LK.keys] at h
    | rf v sz i o => simp [LK.keys] at h
    | lit k n => simp [LK.keys] at h
    | nf => simp [LK.keys] at h
    | fc f => simp [LK.keys] at h
    | vec n e => simp [LK.keys] at h
    | ownp v T e n sh => simp [LK.keys] at h; subst h; exact ⟨_, by simp only [LKs.blks, LK.blks, List.mem_append, List.mem_singleton]; exact .inl rfl⟩
    | own v T e => simp [LK.keys] at h; subst h; exact ⟨_, by simp only [LKs.blks, LK.blks, List.mem_append, List.mem_singleton]; exact .inl rfl⟩
    | map v k e => simp [LK.keys] at h; subst h; exact ⟨_, by simp only [LKs.blks, LK.blks, List.mem_append, List.mem_singleton]; exact .inl rfl⟩
   ·obtain ⟨b, hb⟩ := LKs.keys_in (x := x.2) h
    exact ⟨b, by simp only [LKs.blks, List.mem_append]; exact .inr hb⟩
theorem LKs.blks_key : ∀ {l : List LK} {x : LKs l} {y : Nat × Blk}, y ∈ LKs.blks l x → y.1 ∈ l.flatMap LK.keys
 | [], _, u, h => by simp [LKs.blks] at h
 | [q], x, u, h => by
   cases q with
   | d sh => simp [LKs.blks, LK.blks] at h
   | clo f ks => simp [LKs.blks, LK.blks] at h
   | hd v => simp [LKs.blks, LK.blks] at h
   | rf v sz i o => simp [LKs.blks, LK.blks] at h
   | lit k n => simp [LKs.blks, LK.blks] at h
   | nf => simp [LKs.blks, LK.blks] at h
   | fc f => simp [LKs.blks, LK.blks] at h
   | vec n e => simp [LKs.blks, LK.blks] at h
   | ownp v T e n sh => simp only [LKs.blks, LK.blks, List.mem_singleton] at h; subst h; simp [LK.keys]
   | own v T e => simp only [LKs.blks, LK.blks, List.mem_singleton] at h; subst h; simp [LK.keys]
   | map v k e => simp only [LKs.blks, LK.blks, List.mem_singleton] at h; subst h; simp [LK.keys]
 | q :: r :: l, x, u, h => by
   rw [List.flatMap_cons, List.mem_append]
   simp only [LKs.blks, List.mem_append] at h
   rcases h with h | h
   ·cases q with
    | d sh => simp [LK.blks] at h
    | clo f ks => simp [LK.blks] at h
    | hd v => simp [LK.blks] at h
    | rf v sz i o => simp [LK.blks] at h
    | lit k n => simp [LK.blks] at h
    | nf => simp [LK.blks] at h
    | fc f => simp [LK.blks] at h
    | vec n e => simp [LK.blks] at h
    | ownp v T e n sh => simp only [LK.blks, List.mem_singleton] at h; subst h; simp [LK.keys]
    | own v T e => simp only [LK.blks, List.mem_singleton] at h; subst h; simp [LK.keys]
    | map v k e => simp only [LK.blks, List.mem_singleton] at h; subst h; simp [LK.keys]
   ·exact .inr (LKs.blks_key h)
theorem Ent.dec_slots {q : Ent} {x : q.T} (h : q.dec s = some x) (hin : ∀ u ∈ q.uses, s'.blk u ≠ .free) (hrw : q.rowy = true → ∀ i, s'.rowB i = s.rowB i) : ∀ y ∈ q.slots x, SlotGood s s' y.1 y.2 := by
 intro y hy
 cases q with
 | val t sh =>
   simp only [Ent.slots, List.mem_singleton] at hy
   subst hy
   simp only [Ent.dec] at h
   split at h
   ·rename_i c hc
    split at h
    ·rename_i ha
     intro w p β β' v _ hr
     rw [hc] at hr
     exact d_ok ha h hr
    ·cases h
   ·cases h
 | ptr t sh =>
   simp only [Ent.slots, List.mem_singleton] at hy
   subst hy
   simp only [Ent.dec] at h
   split at h
   ·rename_i sh' x' hc
    split at h
    ·rename_i e
     subst e
     obtain rfl := Option.some.inj h
     intro w p β β' v _ hr
     rw [hc] at hr
     exact hr
    ·cases h
   ·cases h
 | own t u T e =>
   simp only [Ent.slots, List.mem_singleton] at hy
   subst hy
   have hin := hin u (by simp [Ent.uses, Ent.blkKeys])
   simp only [Ent.dec] at h
   split at h
   ·rename_i hc
    split at h
    ·rename_i hf
     intro w p β β' v ht hr
     rw [hc] at hr
     exact full_nil (w := w) (p := p) (freeAt_iff hf).1 hin ht hr
    ·cases h
   ·rename_i u' hc
    split at h
    ·rename_i e
     subst e
     intro w p β β' v ht hr
     rw [hc] at hr
     exact full_of (w := w) (p := p) (decBuf_eq h) hin ht hr
    ·cases h
   ·cases h
 | buf u T e => simp [Ent.slots] at hy
 | arr u e => simp [Ent.slots] at hy
 | arrp u e n sh => simp [Ent.slots] at hy
 | map u k v => simp [Ent.slots] at hy
 | cells u l => simp [Ent.slots] at hy
 | pool T => simp [Ent.slots] at hy
 | ids t u T =>
   simp only [Ent.slots, List.mem_singleton] at hy
   subst hy
   have hin := hin u (by simp [Ent.uses, Ent.blkKeys])
   simp only [Ent.dec] at h
   split at h
   ·rename_i hc
    split at h
    ·rename_i hf
     intro w p β β' v ht hr
     rw [hc] at hr
     exact full_nil (w := w) (p := p) (freeAt_iff hf).1 hin ht hr
    ·cases h
   ·rename_i u' hc
    split at h
    ·rename_i e
     subst e
     intro w p β β' v ht hr
     rw [hc] at hr
     exact full_keep (w := w) (p := p) (by rw [decIds_eq h]; simp) hin ht hr
    ·cases h
   ·cases h
 | cut t u sz =>
   simp only [Ent.slots, List.mem_singleton] at hy
   subst hy
   have hin' := hin u (by simp [Ent.uses])
   simp only [Ent.dec] at h
   split at h
   ·rename_i u' sz' off len hc
    split at h
    ·rename_i hh
     obtain ⟨e1, rfl, hf⟩ := hh
     subst e1
     obtain rfl := Option.some.inj h
     have hn : s.blk u' ≠ .free := fun e => by rw [e] at hf; cases hf
     intro w p β β' v ht hr
     rw [hc] at hr
     obtain ⟨a, c, r, g1, g2, g3, g4, g5⟩ := hr
     exact ⟨a, c, r, g1, g2, (ht.keep u' hin' hn).trans g3, g4.sim (ht.sim u' hin' hn), g5⟩
    ·cases h
   ·cases h
 | row t =>
   simp only [Ent.slots, List.mem_singleton] at hy
   subst hy
   simp only [Ent.dec] at h
   split at h
   ·rename_i j hc
    obtain rfl := Option.some.inj h
    intro w p β β' v ht hr
    rw [hc] at hr
    exact row_turn (w := w) (p := p) (hrw rfl) ht hr
   ·cases h
 | valv t n e =>
   simp only [Ent.slots, List.mem_singleton] at hy
   subst hy
   simp only [Ent.dec] at h
   split at h
   ·rename_i cs hc
    intro w p β β' v _ hr
    rw [hc] at hr
    obtain ⟨vs, rfl, hr⟩ := hr
    obtain ⟨g1, g2⟩ := rows_ok h hr
    exact ⟨vs, rfl, by rw [padV_self g1]; exact rows_cells g2⟩
   ·cases h
 | lst t n e =>
   simp only [Ent.slots, List.mem_singleton] at hy
   subst hy
   simp only [Ent.dec] at h
   split at h
   ·rename_i e' xs hc
    split at h
    ·rename_i he
     subst he
     split at h
     ·rename_i hn
      obtain rfl := Option.some.inj h
      intro w p β β' v _ hr
      rw [hc] at hr
      rw [padV_self hn]
      exact hr
     ·cases h
    ·cases h
   ·cases h
theorem Ent.dec_blks {q : Ent} {x : q.T} (h : q.dec s = some x) (hin : ∀ u ∈ q.uses, s'.blk u ≠ .free) (hrw : q.rowy = true → ∀ i, s'.rowB i = s.rowB i) : ∀ y ∈ q.blks x, BlkGood s s' y.1 y.2 ∧ y.2 ≠ .free := by
 intro y hy
 cases q with
 | val t sh => simp [Ent.blks] at hy
 | ptr t sh => simp [Ent.blks] at hy
 | valv t n e => simp [Ent.blks] at hy
 | lst t n e => simp [Ent.blks] at hy
 | pool T => simp [Ent.blks] at hy
 | cut t u sz => simp [Ent.blks] at hy
 | row t => simp [Ent.blks] at hy
 | ids t u T =>
   simp only [Ent.blks, List.mem_singleton] at hy
   subst hy
   refine ⟨?_, by simp⟩
   simp only [Ent.dec] at h
   split at h
   ·split at h
    ·rename_i hf
     obtain rfl := Option.some.inj h
     obtain ⟨g1, g2, g3⟩ := freeAt_iff hf
     exact .inl ⟨g1, g2, .inr ⟨T, rfl⟩⟩
    ·cases h
   ·split at h
    ·have hb := decIds_eq h
     refine .inr ⟨by rw [hb]; simp, by rw [hb]; exact BlkSim.refl _, fun w p β β' B0 r ht hr => ?_⟩
     rw [hb] at hr
     obtain ⟨us, h1, h2⟩ := hr
     refine ⟨us, h1, h2.1, fun i c v hc hv => ?_⟩
     have h3 := h2.2 i c v hc hv
     rw [List.getElem?_map] at hc
     cases hx : x[i]? with
     | none => rw [hx] at hc; cases hc
     | some j =>
       rw [hx] at hc
       obtain rfl := Option.some.inj hc
       exact row_turn (hrw rfl) ht h3
    ·cases h
   ·cases h
 | own t u T e =>
   simp only [Ent.blks, List.mem_singleton] at hy
   subst hy
   refine ⟨?_, by simp⟩
   simp only [Ent.dec] at h
   split at h
   ·split at h
    ·rename_i hf
     obtain rfl := Option.some.inj h
     obtain ⟨g1, g2, g3⟩ := freeAt_iff hf
     exact .inl ⟨g1, g2, .inl ⟨T, e, rfl, g3⟩⟩
    ·cases h
   ·split at h
    ·exact good_buf (decBuf_eq h)
    ·cases h
   ·cases h
 | buf u T e =>
   simp only [Ent.blks, List.mem_singleton] at hy
   subst hy
   exact ⟨good_buf (decBuf_eq h), by simp⟩
 | arr u e =>
   simp only [Ent.blks, List.mem_singleton] at hy
   subst hy
   refine ⟨?_, by simp⟩
   simp only [Ent.dec] at h
   split at h
   ·rename_i e' xs hb
    split at h
    ·rename_i he
     subst he
     obtain rfl := Option.some.inj h
     exact .inr ⟨by rw [hb]; simp, by rw [hb]; exact BlkSim.refl _, fun w p β β' B0 r _ hr => by rw [hb] at hr; exact hr⟩
    ·cases h
   ·cases h
 | arrp u e n sh =>
   simp only [Ent.blks, List.mem_singleton] at hy
   subst hy
   refine ⟨?_, by simp⟩
   simp only [Ent.dec] at h
   split at h
   ·rename_i e' xs hb
    split at h
    ·rename_i he
     subst he
     split at h
     ·rename_i y hy
      split at h
      ·rename_i ys hys
       split at h
       ·rename_i hlen
        obtain rfl := Option.some.inj h
        refine .inr ⟨by rw [hb]; simp, ?_, fun w p β β' B0 r _ hr => ?_⟩
        ·rw [hb]; exact ⟨_, rfl, by rw [hys]; exact hlen.symm⟩
        ·rw [hb] at hr
         obtain ⟨b, vs, T, h1, h2, h3, h4, h5⟩ := hr
         have h6 := rows_ok (w := w) (p := p) (β := β) (H := s.blk) hys (cells_ok (build_ok (β := β) (H := s.blk) hy (rows_cells h5)))
         exact ⟨b, vs, T, h1, h2, h3, h4, by rw [hys]; exact h6.2⟩
       ·cases h
      ·cases h
     ·cases h
    ·cases h
   ·cases h
 | map u k v =>
   simp only [Ent.blks, List.mem_singleton] at hy
   subst hy
   refine ⟨?_, by simp⟩
   exact good_map (decMap_eq h)
 | cells u l =>
   simp only [Ent.dec] at h
   split at h
   ·rename_i cs hb
    simp only [Ent.blks, List.mem_cons] at hy
    rcases hy with rfl | hy
    ·refine ⟨.inr ⟨by rw [hb]; simp, by rw [hb]; exact LKs.dec_len h, fun w p β β' B0 r ht hr => ?_⟩, by simp⟩
     rw [hb] at hr
     obtain ⟨g, vs, T, h1, h2, h3, h4⟩ := hr
     have hl := LKs.dec_len h
     exact ⟨g, vs, T, by rw [← hl]; exact h1, h2, h3, by rw [← hl]; exact LKs.dec_rep ht h (fun u hu => hin u (by simp [Ent.uses]; right; simpa using hu)) h4⟩
    ·exact LKs.dec_blks h y hy
   ·cases h
theorem Ent.keys_in {q : Ent} {x : q.T} {u : Nat} (h : u ∈ q.blkKeys) : ∃ b, (u, b) ∈ q.blks x := by
 cases q with
 | val t sh => simp [Ent.blkKeys] at h
 | ptr t sh => simp [Ent.blkKeys] at h
 | valv t n e => simp [Ent.blkKeys] at h
 | lst t n e => simp [Ent.blkKeys] at h
 | pool T => simp [Ent.blkKeys] at h
 | cut t v sz => simp [Ent.blkKeys] at h
 | row t => simp [Ent.blkKeys] at h
 | ids t v T => simp [Ent.blkKeys] at h; subst h; exact ⟨_, by simp only [Ent.blks, List.mem_singleton]; rfl⟩
 | own t v T e => simp [Ent.blkKeys] at h; subst h; exact ⟨_, by simp only [Ent.blks, List.mem_singleton]; rfl⟩
 | buf v T e => simp [Ent.blkKeys] at h; subst h; exact ⟨_, by simp only [Ent.blks, List.mem_singleton]; rfl⟩
 | arr v e => simp [Ent.blkKeys] at h; subst h; exact ⟨_, by simp only [Ent.blks, List.mem_singleton]; rfl⟩
 | arrp v e n sh => simp [Ent.blkKeys] at h; subst h; exact ⟨_, by simp only [Ent.blks, List.mem_singleton]; rfl⟩
 | map v k w => simp [Ent.blkKeys] at h; subst h; exact ⟨_, by simp only [Ent.blks, List.mem_singleton]; rfl⟩
 | cells v l =>
   rw [Ent.blkKeys, List.mem_cons] at h
   rcases h with rfl | h
   ·exact ⟨_, by simp only [Ent.blks, List.mem_cons]; exact .inl rfl⟩
   ·obtain ⟨b, hb⟩ := LKs.keys_in (x := x) h
    exact ⟨b, by simp only [Ent.blks, List.mem_cons]; exact .inr hb⟩
theorem Ent.key_of {q : Ent} {x : q.T} : (∀ y ∈ q.slots x, y.1 ∈ q.keys) ∧ (∀ y ∈ q.blks x, y.1 ∈ q.blkKeys) := by
 cases q with
 | cells v l =>
   refine ⟨fun y hy => by simp [Ent.slots] at hy, fun y hy => ?_⟩
   simp only [Ent.blks, List.mem_cons] at hy
   rw [Ent.blkKeys, List.mem_cons]
   rcases hy with rfl | hy
   ·exact .inl rfl
   ·exact .inr (LKs.blks_key hy)
 | _ => constructor <;> intro y hy <;> simp [Ent.slots, Ent.blks] at hy <;> (try subst hy) <;> simp [Ent.keys, Ent.blkKeys]
theorem Parts.dec_each : ∀ {l : List Ent} {x : Parts l}, Parts.dec s l = some x → (∀ u ∈ l.flatMap Ent.uses, s'.blk u ≠ .free) → (l.any Ent.rowy = true → ∀ i, s'.rowB i = s.rowB i) → (∀ y ∈ Parts.slots l x, SlotGood s s' y.1 y.2) ∧ ∀ y ∈ Parts.blks l x, BlkGood s s' y.1 y.2
 | [], _, _, _, _ => ⟨fun y hy => by simp [Parts.slots] at hy, fun y hy => by simp [Parts.blks] at hy⟩
 | [q], x, h, hin, hrw => ⟨Ent.dec_slots h (fun u hu => hin u (by simp [hu])) (fun e => hrw (by simp [e])), fun y hy => (Ent.dec_blks h (fun u hu => hin u (by simp [hu])) (fun e => hrw (by simp [e])) y hy).1⟩
 | q :: r :: l, x, h, hin, hrw => by
   simp only [Parts.dec] at h
   split at h
   ·rename_i y z hy hz
    obtain rfl := Option.some.inj h
    obtain ⟨h1, h2⟩ := Parts.dec_each (l := r :: l) hz (fun u hu => hin u (by rw [List.flatMap_cons, List.mem_append]; exact .inr hu)) (fun e => hrw (by rw [List.any_cons, e, Bool.or_true]))
    have hrq : q.rowy = true → ∀ i, s'.rowB i = s.rowB i := fun e => hrw (by rw [List.any_cons, e, Bool.true_or])
    have hq : ∀ u ∈ q.uses, s'.blk u ≠ .free := fun u hu => hin u (by rw [List.flatMap_cons, List.mem_append]; exact .inl hu)
    refine ⟨fun b hb => ?_, fun b hb => ?_⟩
    ·simp only [Parts.slots, List.mem_append] at hb
     exact hb.elim (Ent.dec_slots hy hq hrq b) (h1 b)
    ·simp only [Parts.blks, List.mem_append] at hb
     exact hb.elim (fun hb => (Ent.dec_blks hy hq hrq b hb).1) (h2 b)
   ·cases h
theorem Ent.blk_ne {q : Ent} {x : q.T} : ∀ y ∈ q.blks x, y.2 ≠ .free := by
 have lk : ∀ {l : List LK} {x : LKs l}, ∀ y ∈ LKs.blks l x, y.2 ≠ .free := by
  intro l
  induction l with
  | nil => intro x y hy; simp [LKs.blks] at hy
  | cons q l ih =>
    have one : ∀ {x : q.T}, ∀ y ∈ q.blks x, y.2 ≠ .free := by
     intro x y hy
     cases q with
     | d sh => simp [LK.blks] at hy
     | clo f ks => simp [LK.blks] at hy
     | hd v => simp [LK.blks] at hy
     | rf v sz i o => simp [LK.blks] at hy
     | lit k n => simp [LK.blks] at hy
     | nf => simp [LK.blks] at hy
     | fc f => simp [LK.blks] at hy
     | vec n e => simp [LK.blks] at hy
     | ownp v T e n sh => simp only [LK.blks, List.mem_singleton] at hy; subst hy; simp
     | own v T e => simp only [LK.blks, List.mem_singleton] at hy; subst hy; simp
     | map v k e => simp only [LK.blks, List.mem_singleton] at hy; subst hy; simp
    cases l with
    | nil => intro x y hy; exact one y hy
    | cons r l =>
      intro x y hy
      simp only [LKs.blks, List.mem_append] at hy
      exact hy.elim (one y) (ih y)
 intro y hy
 cases q with
 | cells v l =>
   simp only [Ent.blks, List.mem_cons] at hy
   rcases hy with rfl | hy
   ·simp
   ·exact lk y hy
 | _ => simp [Ent.blks] at hy <;> (try subst hy) <;> simp
theorem Parts.pl_ok : ∀ {l : List Ent} {x : Parts l}, Parts.dec s l = some x → (Parts.pl l x = none ∧ l.any Ent.isPool = false) ∨ ∃ T rows, Parts.pl l x = some (T, rows) ∧ (s.pl = some (T, rows) ∨ (s.pl = none ∧ rows = []))
 | [], _, _ => .inl ⟨rfl, rfl⟩
 | [q], x, h => by
   have h : q.dec s = some x := h
   show (q.pl x = none ∧ _) ∨ _
   cases q with
   | pool T =>
     refine .inr ⟨T, x, rfl, ?_⟩
     simp only [Ent.dec] at h
     split at h
     ·rename_i y hy
      split at h
      ·rename_i e
       obtain rfl := Option.some.inj h
       exact .inl (by rw [hy, ← e])
      ·cases h
     ·rename_i hy
      exact .inr ⟨hy, (Option.some.inj h).symm⟩
   | _ => exact .inl ⟨rfl, rfl⟩
 | q :: r :: l, x, h => by
   simp only [Parts.dec] at h
   split at h
   ·rename_i y z hy hz
    obtain rfl := Option.some.inj h
    have ih := Parts.pl_ok (l := r :: l) hz
    cases q with
    | pool T =>
      refine .inr ⟨T, y, rfl, ?_⟩
      simp only [Ent.dec] at hy
      split at hy
      ·rename_i y' hy'
       split at hy
       ·rename_i e
        obtain rfl := Option.some.inj hy
        exact .inl (by rw [hy', ← e])
       ·cases hy
      ·rename_i hy'
       exact .inr ⟨hy', (Option.some.inj hy).symm⟩
    | _ => exact ih
   ·cases h
theorem Parts.facts : ∀ {l : List Ent} {x : Parts l}, (∀ u ∈ l.flatMap Ent.blkKeys, ∃ b, (u, b) ∈ Parts.blks l x) ∧ (∀ y ∈ Parts.slots l x, y.1 ∈ l.flatMap Ent.keys) ∧ (∀ y ∈ Parts.blks l x, y.1 ∈ l.flatMap Ent.blkKeys) ∧ ∀ y ∈ Parts.blks l x, y.2 ≠ .free
 | [], _ => ⟨fun u hu => by simp at hu, fun y hy => by simp [Parts.slots] at hy, fun y hy => by simp [Parts.blks] at hy, fun y hy => by simp [Parts.blks] at hy⟩
 | [q], x => ⟨fun u hu => Ent.keys_in (by simpa using hu), fun y hy => by simpa using Ent.key_of.1 y hy, fun y hy => by simpa using Ent.key_of.2 y hy, Ent.blk_ne⟩
 | q :: r :: l, x => by
   obtain ⟨h1, h2, h3, h4⟩ := Parts.facts (l := r :: l) (x := x.2)
   refine ⟨fun u hu => ?_, fun y hy => ?_, fun y hy => ?_, fun y hy => ?_⟩
   ·rw [List.flatMap_cons, List.mem_append] at hu
    simp only [Parts.blks, List.mem_append]
    rcases hu with hu | hu
    ·obtain ⟨b, hb⟩ := Ent.keys_in (x := x.1) hu; exact ⟨b, .inl hb⟩
    ·obtain ⟨b, hb⟩ := h1 u hu; exact ⟨b, .inr hb⟩
   ·rw [List.flatMap_cons, List.mem_append]
    simp only [Parts.slots, List.mem_append] at hy
    exact hy.imp (Ent.key_of.1 y) (h2 y)
   ·rw [List.flatMap_cons, List.mem_append]
    simp only [Parts.blks, List.mem_append] at hy
    exact hy.imp (Ent.key_of.2 y) (h3 y)
   ·simp only [Parts.blks, List.mem_append] at hy
    exact hy.elim (Ent.blk_ne y) (h4 y)
end
theorem lvl_mem {L t : Nat} {v : SV} {l : List (Nat × SV)} (h : (t, v) ∈ lvl L l) : t < 16000 ∧ (L * 16000 + t, v) ∈ l := by
 unfold lvl at h
 obtain ⟨z, hz, he⟩ := List.mem_filterMap.1 h
 cases hb : Nat.beq (z.1 / 16000) L with
 | false => rw [hb] at he; cases he
 | true =>
   rw [hb] at he
   obtain ⟨rfl, rfl⟩ := Prod.mk.inj (Option.some.inj he)
   have := Nat.eq_of_beq_eq_true hb
   refine ⟨Nat.mod_lt _ (by omega), ?_⟩
   have e : L * 16000 + z.1 % 16000 = z.1 := by omega
   rw [e]
   exact hz
theorem lvl_get (L : Nat) (l : List (Nat × SV)) (t : Nat) : (t < 16000 ∧ ∃ v, (L * 16000 + t, v) ∈ l ∧ getM (ofList (lvl L l) .e) t = v) ∨ getM (ofList (lvl L l) .e) t = undefS := by
 rcases ofList_get (lvl L l) .e t (fun y hy => (lvl_mem (L := L) (l := l) (t := y.1) (v := y.2) hy).1) with ⟨v, h1, h2⟩ | ⟨_, h2⟩
 ·obtain ⟨g1, g2⟩ := lvl_mem h1
  refine .inl ⟨g1, v, g2, ?_⟩
  simp only [getM, h2]
 ·right
  simp only [getM, h2]
  rfl
theorem getU_low {s : PS} {t : Nat} (h : t < 16000) : s.getU (0 * 16000 + t) = s.get t := by
 have e : Nat.blt (0 * 16000 + t) 16000 = true := by simp; omega
 unfold PS.getU
 rw [e, cond_true, Nat.zero_mul, Nat.zero_add]
theorem getU_up {s : PS} {j t : Nat} {x : Nat × M SV} (h : t < 16000) (h1 : 1 ≤ j) (h2 : j < 100) (hx : s.up[j - 1]? = some x) : s.getU (j * 16000 + t) = getM x.2 t := by
 have e1 : Nat.blt (j * 16000 + t) 16000 = false := by
  cases hb : Nat.blt (j * 16000 + t) 16000 with
  | false => rfl
  | true => have := Nat.blt_eq ▸ hb; omega
 have e2 : Nat.blt (j * 16000 + t) 1600000 = true := by simp; omega
 unfold PS.getU
 rw [e1, cond_false, e2, cond_true, show (j * 16000 + t) / 16000 = j by omega, show (j * 16000 + t) % 16000 = t by omega, hx]
theorem getU_lp {s : PS} {u t : Nat} {q : LpSt} {i : LpI} {m : M SV} (h : t < 16000) (hx : s.blk u = .lp q i m) : s.getU ((100 + u) * 16000 + t) = getM m t := by
 have e1 : Nat.blt ((100 + u) * 16000 + t) 16000 = false := by
  cases hb : Nat.blt ((100 + u) * 16000 + t) 16000 with
  | false => rfl
  | true => have := Nat.blt_eq ▸ hb; omega
 have e2 : Nat.blt ((100 + u) * 16000 + t) 1600000 = false := by
  cases hb : Nat.blt ((100 + u) * 16000 + t) 1600000 with
  | false => rfl
  | true => have := Nat.blt_eq ▸ hb; omega
 unfold PS.getU
 rw [e1, cond_false, e2, cond_false, show ((100 + u) * 16000 + t) / 16000 - 100 = u by omega, show ((100 + u) * 16000 + t) % 16000 = t by omega, hx]
theorem ups_turn {s s' : PS} {sl : List (Nat × SV)} (hsl : ∀ y ∈ sl, SlotGood s s' y.1 y.2) {w : World} {p : Nat → Prop} {β β' : Nat → Option Value} (ht : Turns s s' β β') :
 ∀ (l : List (Nat × M SV)) (ns : List Nat) (r : List (Array Value)) (j : Nat), upsFit l ns = true → 1 ≤ j → j + ns.length ≤ 100 → (∀ i x, l[i]? = some x → s.up[j - 1 + i]? = some x) → UpsRep w p β s.blk l r → UpsRep w p β' s'.blk (upsOf sl j ns) r
 | [], [], [], _, _, _, _, _, _ => trivial
 | [], [], _ :: _, _, _, _, _, _, h => h.elim
 | [], _ :: _, _, _, hf, _, _, _, _ => by cases hf
 | _ :: _, [], _, _, hf, _, _, _, _ => by cases hf
 | _ :: _, _ :: _, [], _, _, _, _, _, h => h.elim
 | x :: l, n :: ns, vs :: r, j, hf, hj, hj2, hx, ⟨⟨h1, h2, h3⟩, hr⟩ => by
   simp only [upsFit, Bool.and_eq_true] at hf
   obtain ⟨hf1, hf2⟩ := hf
   have hn : x.1 = n := Nat.eq_of_beq_eq_true hf1
   simp only [List.length_cons] at hj2
   refine ⟨⟨by rw [h1, hn], by rw [← hn]; exact h2, fun t v hv => ?_⟩, ups_turn hsl ht l ns r (j + 1) hf2 (by omega) (by omega) (fun i y hy => ?_) hr⟩
   ·rcases lvl_get j sl t with ⟨g1, z, g2, g3⟩ | g3
    ·show RepS w p β' s'.blk (getM (ofList (lvl j sl) .e) t) v
     rw [g3]
     refine hsl _ g2 w p β β' v ht ?_
     rw [getU_up g1 hj (by omega) (hx 0 x rfl)]
     exact h3 t v hv
    ·show RepS w p β' s'.blk (getM (ofList (lvl j sl) .e) t) v
     rw [g3]; trivial
   ·have := hx (i + 1) y (by simpa using hy)
    rwa [show j - 1 + (i + 1) = j + 1 - 1 + i by omega] at this
theorem Tmpl.core_rel {T : Tmpl} {s : PS} {x : T.D} {i0 : LpI} (hfit : T.fits s = true) (hp : Parts.dec s T.ents = some x) (hlp : ∀ u q, T.lp = some (u, q) → ∃ m, s.blk u = .lp q i0 m) {B0 : Nat} {w0 : Base} {a : Act} {w : World} (hr : Rel B0 w0 s a w) : Rel B0 w0 (T.stI i0 x) a w := by
 unfold Tmpl.fits at hfit
 simp only [Bool.and_eq_true] at hfit
 obtain ⟨hn, hup, hul, hk2, hus, hcon, hpo⟩ := hfit
 have hn : s.n = T.n := Nat.eq_of_beq_eq_true hn
 have hul : T.ups.length < 99 := by simpa using hul
 obtain ⟨f1, _, f3, f4⟩ := Parts.facts (l := T.ents) (x := x)
 have kb : ∀ u ∈ T.blkKeys, u < 16000 := fun u hu => by simpa using List.all_eq_true.1 hk2 u hu
 have kp : ∀ y ∈ Parts.blks T.ents x, y.1 ∈ T.blkKeys := fun y hy => List.mem_append.2 (.inr (f3 y hy))
 have lpm : ∀ y ∈ T.lpB i0 (T.slots x), ∃ q, T.lp = some (y.1, q) ∧ y.2 = .lp q i0 (ofList (lvl (100 + y.1) (T.slots x)) .e) := fun y hy => by
  unfold Tmpl.lpB at hy
  split at hy
  ·rename_i z hz
   obtain rfl := List.mem_singleton.1 hy
   exact ⟨z.2, hz, rfl⟩
  ·cases hy
 have kl : ∀ y ∈ T.lpB i0 (T.slots x), y.1 ∈ T.blkKeys := fun y hy => by
  obtain ⟨q, h1, _⟩ := lpm y hy
  unfold Tmpl.blkKeys
  rw [h1]
  simp
 have hpl := Parts.pl_ok hp
 have rwB : (∀ i, (T.stI i0 x).rowB i = s.rowB i) ∨ ((∀ i, (T.stI i0 x).rowB i = .free) ∧ T.ents.any Ent.isPool = false) := by
  rcases hpl with ⟨h1, h2⟩ | ⟨U, rows, h1, h2⟩
  ·refine .inr ⟨fun i => ?_, h2⟩
   show (match Parts.pl T.ents x with | some x => (match x.2[i]? with | some l => Blk.rowb x.1 l | none => Blk.free) | none => Blk.free) = _
   rw [h1]
  ·refine .inl fun i => ?_
   show (match Parts.pl T.ents x with | some x => (match x.2[i]? with | some l => Blk.rowb x.1 l | none => Blk.free) | none => Blk.free) = _
   rw [h1]
   unfold PS.rowB
   rcases h2 with h2 | ⟨h2, rfl⟩
   ·rw [h2]; rfl
   ·rw [h2]; rfl
 have gb : ∀ u, u < 16000 → (∃ b, ((u, b) ∈ T.lpB i0 (T.slots x) ∨ (u, b) ∈ Parts.blks T.ents x) ∧ (T.stI i0 x).blk u = b) ∨ ((∀ b, (u, b) ∉ T.lpB i0 (T.slots x) ∧ (u, b) ∉ Parts.blks T.ents x) ∧ (T.stI i0 x).blk u = .free) := fun u hu => by
  rw [PS.blk_low hu, PS.raw]
  rcases H.get_of (T.lpB i0 (T.slots x) ++ Parts.blks T.ents x) u with ⟨b, h1, h2⟩ | ⟨h1, h2⟩
  ·refine .inl ⟨b, List.mem_append.1 h1, ?_⟩
   show Blk.shown (match (H.of (T.lpB i0 (T.slots x) ++ Parts.blks T.ents x)).get u with | some b => b | none => .free) = b
   rw [h2]; rfl
  ·refine .inr ⟨fun b => ⟨fun hb => h1 b (List.mem_append.2 (.inl hb)), fun hb => h1 b (List.mem_append.2 (.inr hb))⟩, ?_⟩
   show Blk.shown (match (H.of (T.lpB i0 (T.slots x) ++ Parts.blks T.ents x)).get u with | some b => b | none => .free) = .free
   rw [h2]; rfl
 have hin : ∀ u ∈ T.blkKeys, (T.stI i0 x).blk u ≠ .free := fun u hu => by
  have hex : ∃ b, (u, b) ∈ T.lpB i0 (T.slots x) ∨ (u, b) ∈ Parts.blks T.ents x := by
   unfold Tmpl.blkKeys at hu
   rcases List.mem_append.1 hu with h | h
   ·split at h
    ·rename_i z hz
     obtain rfl := List.mem_singleton.1 h
     refine ⟨.lp z.2 i0 (ofList (lvl (100 + z.1) (T.slots x)) .e), .inl ?_⟩
     unfold Tmpl.lpB
     rw [hz]
     simp
    ·cases h
   ·obtain ⟨b, hb⟩ := f1 u h
    exact ⟨b, .inr hb⟩
  obtain ⟨b0, hb0⟩ := hex
  rcases gb u (kb u hu) with ⟨b, h1, h2⟩ | ⟨h1, _⟩
  ·rw [h2]
   rcases h1 with h1 | h1
   ·obtain ⟨q, _, e⟩ := lpm _ h1
    simp only at e
    rw [e]; simp
   ·exact f4 _ h1
  ·exact absurd hb0 (fun h => h.elim (h1 b0).1 (h1 b0).2)
 have hin2 : ∀ u ∈ T.ents.flatMap Ent.uses, (T.stI i0 x).blk u ≠ .free := fun u hu => hin u (by simpa using List.all_eq_true.1 hus u hu)
 obtain ⟨e1, e2⟩ := Parts.dec_each (s' := T.stI i0 x) hp hin2 (fun e => by
  rcases rwB with h | ⟨_, h⟩
  ·exact h
  ·rw [h, e] at hpo; cases hpo)
 have sg : ∀ y ∈ T.slots x, SlotGood s (T.stI i0 x) y.1 y.2 := fun y hy => by
  rcases List.mem_append.1 hy with hm | hm
  ·obtain ⟨z, hz, rfl⟩ := List.mem_map.1 hm
   have hc := List.all_eq_true.1 hcon z hz
   unfold conOk at hc
   split at hc
   ·rename_i c hg
    simp only [Bool.and_eq_true] at hc
    obtain ⟨hsame, hc⟩ := hc
    have hzc := LV.same_eq hsame
    intro w p β β' v ht hrep
    simp only at hrep
    rw [hg, ← hzc] at hrep
    have hne : z.2 ≠ .undef := by intro e; rw [e] at hsame; cases c <;> simp [LV.same] at hsame
    refine repC_l ?_
    have hrep := repL_of hne hrep
    split at hc
    ·split at hc
     ·rename_i f cs hz2
      rw [hz2] at hrep ⊢
      obtain ⟨cv, g1, g2, g3⟩ := hrep
      refine ⟨cv, g1, g2, fun i c u hci hcu => ?_⟩
      have hcc := List.all_eq_true.1 hc c (List.mem_of_getElem? hci)
      cases c with
      | dat s x => simp [capOkB] at hcc
      | ref q =>
        simp only [capOkB, Bool.and_eq_true, Bool.not_eq_true'] at hcc
        have hk : q ∈ T.blkKeys := by simpa using hcc.1
        have hf : s.blk q ≠ .free := fun e => by rw [e] at hcc; simp [Blk.isFree] at hcc
        obtain ⟨r, b, k1, k2, k3, k4⟩ := g3 i _ u hci hcu
        exact ⟨r, b, (ht.keep q (hin q hk) hf).trans k1, k2, k3, k4.sim (ht.sim q (hin q hk) hf)⟩
     ·exact RepL.pure hc hrep
    ·rename_i u hu
     simp only [Bool.and_eq_true, Bool.not_eq_true'] at hc
     have hk : u ∈ T.blkKeys := by simpa using hc.1
     have hf : s.blk u ≠ .free := fun e => by rw [e] at hc; simp [Blk.isFree] at hc
     have hk1 := ht.keep u (hin u hk) hf
     have hk2 := ht.sim u (hin u hk) hf
     cases hz2 : z.2 <;> rw [hz2] at hu hrep <;> simp only [LV.at?, reduceCtorEq] at hu <;> obtain rfl := Option.some.inj hu
     ·obtain ⟨r, b, g1, g2, g3, g4⟩ := hrep
      exact ⟨r, b, hk1.trans g1, g2, g3, g4.sim hk2⟩
     ·exact ⟨hk1.trans hrep.1, hrep.2.1.sim hk2, hrep.2.2⟩
     ·obtain ⟨a, c, r, g1, g2, g3, g4, g5⟩ := hrep
      exact ⟨a, c, r, g1, g2, hk1.trans g3, g4.sim hk2, g5⟩
     ·obtain ⟨a, c, r, g1, g2, g3, g4, g5⟩ := hrep
      exact ⟨a, c, r, g1, g2, hk1.trans g3, g4.sim hk2, g5⟩
     ·exact ⟨hk1.trans hrep.1, hrep.2.1.sim hk2, hrep.2.2⟩
   ·cases hc
  ·exact e1 _ hm
 refine rel_turn (s := s) hn.symm (fun w p β β' r ht hU => ups_turn sg ht s.up T.ups r 1 hup (by omega) (by omega) (fun i y hy => by simpa using hy) hU) (fun u hu => ?_) (fun t => ?_) hr
 ·rcases Nat.lt_or_ge u 16000 with hlow | hhigh
  case inr =>
   have e1 := PS.blk_high (s := T.stI i0 x) hhigh
   have e2 := PS.blk_high (s := s) hhigh
   rcases rwB with h | ⟨h, _⟩
   ·rw [h, ← e2] at e1
    rw [e1] at hu ⊢
    refine .inr ⟨hu, BlkSim.refl _, fun w p β β' B0 r _ hR => ?_⟩
    rw [e2] at hR ⊢
    unfold PS.rowB at hR ⊢
    split at hR
    ·split at hR
     ·exact hR
     ·exact hR
    ·exact hR
   ·rw [e1, h] at hu; exact absurd rfl hu
  rcases gb u hlow with ⟨b, h1, h2⟩ | ⟨_, h2⟩
  ·rw [h2]
   rcases h1 with h1 | h1
   ·obtain ⟨q, hq, e⟩ := lpm _ h1
    simp only at e hq
    obtain ⟨m, hs⟩ := hlp u q hq
    subst e
    refine .inr ⟨by rw [hs]; simp, by rw [hs]; exact ⟨_, _, _, rfl⟩, fun w p β β' B0 r ht hR => ?_⟩
    rw [hs] at hR
    obtain ⟨l, rec, a1, a2, a3, a4, a5, a6, a7, a8, a9, a10⟩ := hR
    refine ⟨l, rec, a1, a2, a3, a4, a5, a6, a7, a8, a9, fun t v hv => ?_⟩
    rcases lvl_get (100 + u) (T.slots x) t with ⟨g1, z, g2, g3⟩ | g3
    ·rw [g3]
     refine sg _ g2 w p β β' v ht ?_
     rw [getU_lp g1 hs]
     exact a10 t v hv
    ·rw [g3]; trivial
   ·have := e2 _ h1
    unfold BlkGood at this
    exact this
  ·exact absurd h2 hu
 ·have hget : (T.stI i0 x).get t = getM (ofList (lvl 0 (T.slots x)) .e) t := rfl
  rw [hget]
  rcases lvl_get 0 (T.slots x) t with ⟨g1, v, g2, g3⟩ | g3
  ·right
   rw [g3]
   intro w p β β' z ht hrep
   refine sg _ g2 w p β β' z ht ?_
   rw [getU_low g1]
   exact hrep
  ·exact .inl g3
theorem Tmpl.dec_rel {T : Tmpl} {s : PS} {x : T.D} (h : T.dec s = some x) {B0 : Nat} {w0 : Base} {a : Act} {w : World} (hr : Rel B0 w0 s a w) : Rel B0 w0 (T.st x) a w := by
 unfold Tmpl.dec at h
 split at h
 ·rename_i hc
  exact Tmpl.core_rel hc.2 h (fun u q e => by rw [e] at hc; cases hc.1) hr
 ·cases h
theorem Tmpl.decI_rel {T : Tmpl} {s : PS} {i : LpI} {x : T.D} (h : T.decI s = some (i, x)) {B0 : Nat} {w0 : Base} {a : Act} {w : World} (hr : Rel B0 w0 s a w) : Rel B0 w0 (T.stI i x) a w := by
 unfold Tmpl.decI at h
 split at h
 ·rename_i z hz
  split at h
  ·rename_i q i' m hb
   split at h
   ·rename_i hc
    split at h
    ·rename_i y hy
     obtain ⟨rfl, rfl⟩ := Prod.mk.inj (Option.some.inj h)
     refine Tmpl.core_rel hc.2 hy (fun u q' e => ?_) hr
     rw [hz] at e
     obtain rfl := Option.some.inj e
     have := LpSt.same_eq hc.1
     simp only at this hb
     exact ⟨m, by rw [hb, this]⟩
    ·cases h
   ·cases h
  ·cases h
 ·cases h
def PS.dropB (s : PS) (v : Nat) : PS := bif Nat.blt v 16000 then s.drop v else s
theorem dropB_rel {B0 : Nat} {w0 : Base} {a : Act} {w : World} {s : PS} (h : Rel B0 w0 s a w) (v : Nat) : Rel B0 w0 (s.dropB v) a w := by
 unfold PS.dropB
 cases hlt : Nat.blt v 16000 with
 | false => exact h
 | true =>
 have hv : v < 16000 := by rw [Nat.blt_eq] at hlt; exact hlt
 show Rel B0 w0 (s.drop v) a w
 by_cases hf : s.blk v = .free
 ·unfold PS.drop
  rw [if_pos (Blk.isFree_iff.2 hf)]
  exact h
 ·obtain ⟨β, p, inv⟩ := h
  obtain ⟨r, hr⟩ := inv.root_of hf
  exact ⟨_, p, (inv.drop v hv).1⟩
def PS.room (s : PS) (u v : Nat) : PS := bif Nat.beq u v then s else s.dropB v
theorem room_rel {B0 : Nat} {w0 : Base} {a : Act} {w : World} {s : PS} (h : Rel B0 w0 s a w) (u v : Nat) : Rel B0 w0 (s.room u v) a w := by
 unfold PS.room
 cases Nat.beq u v with
 | true => exact h
 | false => exact dropB_rel h v
def PS.truncAt (s : PS) (u i : Nat) : PS := match s.blk u with
 | .cells cs => match cs[i]? with
   | some (.sref y _ off len) => match s.blk y with
     | .buf T e xs => (((s.drop y).setT y undefS).setB y (.buf T e ((xs.drop off).take len))).setB u (.cells ((cs.map (LV.kill y)).set i (.full y)))
     | _ => s
   | _ => s
 | _ => s
theorem Act.put_self (a : Act) (t : Nat) : a.put (some t) (a.eval (.tmp t)) = a := by
 cases a with
 | mk tm ds =>
   simp only [Act.put, Act.eval]
   congr 1
   apply Array.ext
   ·simp
   ·intro i h1 h2
    by_cases e : t = i
    ·subst e; simp [h2]
    ·rw [Array.getElem_setIfInBounds]
     ·simp [e]
     ·exact h2
theorem PS.blk_drop' {s : PS} {t0 : Nat} (ht : t0 < 16000) (hf : s.blk t0 ≠ .free) (t : Nat) : (s.drop t0).blk t = if t = t0 then .free else (s.blk t).kill t0 := by
 have hf' : (s.blk t0).isFree = false := by
  cases h : (s.blk t0).isFree
  ·rfl
  ·exact absurd (Blk.isFree_iff.1 h) hf
 have e : s.drop t0 = { n := s.n, tmps := s.tmps.map (SV.kill t0), hp := H.set .free (s.hp.map (Blk.kill t0)) t0, up := mapUp (SV.kill t0) s.up, pl := s.pl } := by simp [PS.drop, hf']
 exact PS.blk_out (f := Blk.kill t0) ht rfl (Blk.shown_kill t0) (fun _ _ => rfl) (by rw [e]) (by rw [e]) t
theorem truncAt_rel {B0 : Nat} {w0 : Base} {s : PS} {a : Act} {w : World} (h : Rel B0 w0 s a w) (u i : Nat) : Rel B0 w0 (s.truncAt u i) a w := by
 unfold PS.truncAt
 split
 ·rename_i cs hcs
  split
  ·rename_i y sz off len hci
   split
   ·rename_i T e xs hy
    obtain ⟨β, p, inv⟩ := h
    have huy : u ≠ y := fun e => by rw [e, hy] at hcs; cases hcs
    obtain ⟨ru, hru⟩ := inv.root_of (t := u) (by rw [hcs]; simp)
    have hbu := inv.blk hru
    rw [hcs] at hbu
    obtain ⟨bu, vs, Tu, k0, k1, k2, k3⟩ := hbu
    have hil := (List.getElem?_eq_some_iff.1 hci).1
    have hlen := k3.1
    obtain ⟨v, hv⟩ : ∃ v, (vs.toList.take cs.length)[i]? = some v := ⟨_, List.getElem?_eq_getElem (by omega)⟩
    obtain ⟨ad, cap, r, rfl, hcap, hβ, hok, ⟨b, q, hb, rfl, hq⟩, hco⟩ := k3.2 i _ _ hci hv
    rw [hy] at hok
    obtain ⟨rfl, hle⟩ := hok
    have hlow := inv.lt hβ (by rw [hy]; exact id)
    have hlowu := inv.lt hru (by rw [hcs]; exact id)
    have hby := inv.blk hβ
    rw [hy] at hby
    obtain ⟨us, h1, h2, h3⟩ := hby
    obtain ⟨inv1, kl⟩ := inv.drop y hlow
    have inv2 := inv1.fresh (t0 := y) (w' := w) hlow (by simp) (Below.refl _ _) (fun _ _ => rfl) (fun _ _ => rfl) (fun _ _ _ _ _ => rfl) (r0 := .slice (some ⟨b, q, none⟩) len cap)
     (fun b' hb' => by
       obtain rfl := Option.some.inj hb'
       refine ⟨fun hp => (inv.shared _ hp).2 y r hβ hb, fun t r' hr' => ?_⟩
       split at hr'
       ·cases hr'
       ·rename_i hty
        exact fun e => hty (inv.inj t y r' r _ hr' hβ e hb))
     (b0 := .buf T e ((xs.drop off).take len)) (x := undefS) (v := a.eval (.tmp y))
     (fun k => ⟨⟨_, by rw [List.length_take, List.length_drop, Nat.min_eq_left (by omega)]; exact ownsAt_part h1 hb hle hcap hq hco, h2, rows_part h3 off len hle⟩, fun _ _ => trivial⟩)
    rw [Act.put_self] at inv2
    have hdy := key_depth hlow
    have eu : (((s.drop y).setT y undefS).setB y (.buf T e ((xs.drop off).take len))).blk u = .cells (cs.map (LV.kill y)) := by
     rw [PS.blk_setB _ hdy, if_neg huy]
     show (s.drop y).blk u = _
     rw [PS.blk_drop' hlow (by rw [hy]; simp), if_neg huy, hcs]
     rfl
    have ey : (((s.drop y).setT y undefS).setB y (.buf T e ((xs.drop off).take len))).blk y = .buf T e ((xs.drop off).take len) := by
     rw [PS.blk_setB _ hdy, if_pos rfl]
    have hru2 : (fun t => if t = y then some (Value.slice (some ⟨b, q, none⟩) len cap) else (fun t => if t = y then none else β t) t) u = some ru := by
     simp [huy, hru]
    refine ⟨_, p, inv2.write hru2 (Below.refl _ _) (fun _ _ => rfl) (b0 := .cells ((cs.map (LV.kill y)).set i (.full y))) ?_ ?_⟩
    ·rw [eu]; simp [BlkSim]
    ·intro k
     have hb2 := inv2.blk hru2
     rw [eu] at hb2
     obtain ⟨bu', vs', Tu', e1, g1, g2, g3⟩ := hb2
     obtain rfl : bu = bu' := by have := k0.block.symm.trans e1.block; simpa using this
     rw [k2] at g2
     obtain ⟨rfl, rfl⟩ : vs = vs' ∧ Tu = Tu' := by injection g2 with g2; injection g2 with g2 g3 g4; exact ⟨g2, g3⟩
     have hls : ((cs.map (LV.kill y)).set i (.full y)).length = cs.length := by rw [List.length_set, List.length_map]
     rw [List.length_map] at g3
     refine ⟨bu, vs, Tu, by rw [hls]; exact k0, k1, k2, by rw [List.length_set, List.length_map]; exact hlen, fun j c v hc hv' => ?_⟩
     rw [hls] at hv'
     by_cases hj : i = j
     ·subst hj
      rw [List.getElem?_set_self (by rw [List.length_map]; exact hil)] at hc
      obtain rfl := Option.some.inj hc
      rw [hv] at hv'
      obtain rfl := Option.some.inj hv'
      refine ⟨by simp, ?_, rfl⟩
      rw [PS.blk_setB _ (key_depth hlowu), if_neg (fun e => huy e.symm), ey]
      trivial
     ·rw [List.getElem?_set_ne hj] at hc
      exact RepL.keep k (g3.2 j c v hc hv')
   ·exact h
  ·exact h
 ·exact h
def moves (u : Nat) : PS → Nat → List LK → List LV → PS
 | s, i, .own v _ _ :: l, .full x :: cs => moves u ((s.room x v).move x v) (i + 1) l cs
 | s, i, .own v _ _ :: l, .nilslice :: cs => moves u (s.dropB v) (i + 1) l cs
 | s, i, .own v _ _ :: l, .sref x _ _ _ :: cs => moves u (((s.truncAt u i).room x v).move x v) (i + 1) l cs
 | s, i, .ownp v _ _ _ _ :: l, .full x :: cs => moves u ((s.room x v).move x v) (i + 1) l cs
 | s, i, .ownp v _ _ _ _ :: l, .nilslice :: cs => moves u (s.dropB v) (i + 1) l cs
 | s, i, .ownp v _ _ _ _ :: l, .sref x _ _ _ :: cs => moves u (((s.truncAt u i).room x v).move x v) (i + 1) l cs
 | s, i, q :: l, cs => moves u s (i + (match q with | .d sh => sh.size | _ => 1)) l (cs.drop (match q with | .d sh => sh.size | _ => 1))
 | s, _, [], _ => s
def preOf : PS → List Ent → PS
 | s, [] => s
 | s, .own t u _ _ :: l => match s.getU t with
   | .c (.l (.full x)) => preOf ((s.room x u).move x u) l
   | .c (.l .nilslice) => preOf (s.dropB u) l
   | _ => preOf s l
 | s, .ids t u _ :: l => match s.getU t with
   | .c (.l (.full x)) => preOf ((s.room x u).move x u) l
   | .c (.l .nilslice) => preOf (s.dropB u) l
   | _ => preOf s l
 | s, .cells u q :: l => match s.blk u with
   | .cells cs => preOf (moves u s 0 q cs) l
   | _ => preOf s l
 | s, _ :: l => preOf s l
theorem moves_rel {B0 : Nat} {w0 : Base} {a : Act} {w : World} {u : Nat} : ∀ {l : List LK} {cs : List LV} {s : PS} {i : Nat}, Rel B0 w0 s a w → Rel B0 w0 (moves u s i l cs) a w := by
 intro l
 induction l with
 | nil => intro cs s i h; unfold moves; exact h
 | cons q l ih =>
   intro cs s i h
   unfold moves
   split
   ·rename_i e1; cases e1; exact ih (move_rel (room_rel h _ _) _ _)
   ·rename_i e1; cases e1; exact ih (dropB_rel h _)
   ·rename_i e1; cases e1; exact ih (move_rel (room_rel (truncAt_rel h _ _) _ _) _ _)
   ·rename_i e1; cases e1; exact ih (move_rel (room_rel h _ _) _ _)
   ·rename_i e1; cases e1; exact ih (dropB_rel h _)
   ·rename_i e1; cases e1; exact ih (move_rel (room_rel (truncAt_rel h _ _) _ _) _ _)
   ·rename_i e1 _ _ _ _ _ _; obtain ⟨rfl, rfl⟩ := List.cons.inj e1; exact ih h
   ·exact h
theorem preOf_rel {B0 : Nat} {w0 : Base} {a : Act} {w : World} : ∀ {l : List Ent} {s : PS}, Rel B0 w0 s a w → Rel B0 w0 (preOf s l) a w := by
 intro l
 induction l with
 | nil => intro s h; unfold preOf; exact h
 | cons q l ih =>
   intro s h
   cases q with
   | own t u T e =>
     simp only [preOf]
     split
     ·exact ih (move_rel (room_rel h _ _) _ _)
     ·exact ih (dropB_rel h _)
     ·exact ih h
   | ids t u T =>
     simp only [preOf]
     split
     ·exact ih (move_rel (room_rel h _ _) _ _)
     ·exact ih (dropB_rel h _)
     ·exact ih h
   | cells u q =>
     simp only [preOf]
     split
     ·exact ih (moves_rel h)
     ·exact ih h
   | _ => simp only [preOf]; exact ih h
def Tmpl.decM (T : Tmpl) (s : PS) : Option T.D := T.dec (preOf s T.ents)
def Tmpl.decIM (T : Tmpl) (s : PS) : Option (LpI × T.D) := T.decI (preOf s T.ents)
theorem Tmpl.decIM_rel {T : Tmpl} {s : PS} {i : LpI} {x : T.D} (h : T.decIM s = some (i, x)) {B0 : Nat} {w0 : Base} {a : Act} {w : World} (hr : Rel B0 w0 s a w) : Rel B0 w0 (T.stI i x) a w := Tmpl.decI_rel h (preOf_rel hr)
theorem Tmpl.decM_rel {T : Tmpl} {s : PS} {x : T.D} (h : T.decM s = some x) {B0 : Nat} {w0 : Base} {a : Act} {w : World} (hr : Rel B0 w0 s a w) : Rel B0 w0 (T.st x) a w := Tmpl.dec_rel h (preOf_rel hr)
end Go.Ev
namespace Go.Ev
open Go.RowKit
def iter {σ E : Type} (step : σ → Option (σ ⊕ E)) : Nat → σ → Option E
 | 0, _ => none
 | n + 1, x => match step x with
   | some (.inl y) => iter step n y
   | some (.inr e) => some e
   | none => none
theorem iter_det {σ E : Type} {step : σ → Option (σ ⊕ E)} : ∀ {m n : Nat} {x : σ} {e e' : E}, iter step m x = some e → iter step n x = some e' → e = e'
 | 0, _, _, _, _, h, _ => by cases h
 | _ + 1, 0, _, _, _, _, h => by cases h
 | m + 1, n + 1, x, e, e', h1, h2 => by
   simp only [iter] at h1 h2
   cases hs : step x with
   | none => rw [hs] at h1; cases h1
   | some r =>
     rw [hs] at h1 h2
     cases r with
     | inl y => exact iter_det h1 h2
     | inr d => exact (Option.some.inj h1).symm.trans (Option.some.inj h2)
open Classical in
noncomputable def loopVal {σ E : Type} (step : σ → Option (σ ⊕ E)) (x : σ) : Option E :=
 if h : ∃ n, (iter step n x).isSome = true then iter step (Classical.choose h) x else none
theorem loopVal_iff {σ E : Type} {step : σ → Option (σ ⊕ E)} {x : σ} {e : E} : loopVal step x = some e ↔ ∃ n, iter step n x = some e := by
 unfold loopVal
 constructor
 ·intro h
  split at h
  ·exact ⟨_, h⟩
  ·cases h
 ·rintro ⟨n, h⟩
  have hex : ∃ n, (iter step n x).isSome = true := ⟨n, by rw [h]; rfl⟩
  rw [dif_pos hex]
  obtain ⟨d, hd⟩ := Option.isSome_iff_exists.1 (Classical.choose_spec hex)
  rw [hd, iter_det hd h]
theorem loopVal_eq {σ E : Type} (step : σ → Option (σ ⊕ E)) (x : σ) : loopVal step x = match step x with
 | some (.inl y) => loopVal step y
 | some (.inr e) => some e
 | none => none := by
 have key : ∀ e, loopVal step x = some e ↔ (match step x with
  | some (.inl y) => loopVal step y
  | some (.inr e) => some e
  | none => none) = some e := by
  intro e
  rw [loopVal_iff]
  cases hs : step x with
  | none =>
    simp only [reduceCtorEq, iff_false]
    rintro ⟨n, h⟩
    cases n with
    | zero => cases h
    | succ n => simp only [iter, hs] at h; cases h
  | some r =>
    cases r with
    | inl y =>
      simp only [loopVal_iff]
      constructor
      ·rintro ⟨n, h⟩
       cases n with
       | zero => cases h
       | succ n => simp only [iter, hs] at h; exact ⟨n, h⟩
      ·rintro ⟨n, h⟩
       exact ⟨n + 1, by simp only [iter, hs]; exact h⟩
    | inr d =>
      simp only [Option.some.injEq]
      constructor
      ·rintro ⟨n, h⟩
       cases n with
       | zero => cases h
       | succ n => simp only [iter, hs] at h; exact Option.some.inj h
      ·rintro rfl
       exact ⟨1, by simp only [iter, hs]⟩
 cases h : loopVal step x with
 | some e => exact ((key e).1 h).symm
 | none =>
   cases h2 : (match step x with
    | some (.inl y) => loopVal step y
    | some (.inr e) => some e
    | none => none) with
   | none => rfl
   | some e => rw [(key e).2 h2] at h; cases h
theorem loopVal_next {σ E : Type} {step : σ → Option (σ ⊕ E)} {x y : σ} (h : step x = some (.inl y)) : loopVal step x = loopVal step y := by rw [loopVal_eq, h]
theorem loopVal_last {σ E : Type} {step : σ → Option (σ ⊕ E)} {x : σ} {e : E} (h : step x = some (.inr e)) : loopVal step x = some e := by rw [loopVal_eq, h]
@[reducible] def ExT : List (Ex × Tmpl) → Type
  | [] => Empty
  | [q] => q.2.D
  | q :: r :: l => q.2.D ⊕ ExT (r :: l)
def Ex.same : Ex → Ex → Bool
 | .exit a, .exit b => Nat.beq a b
 | .ret, .ret => true
 | _, _ => false
theorem Ex.same_eq : ∀ {a b : Ex}, a.same b = true → a = b ∧ b ≠ .normal := by
 intro a b h
 cases a <;> cases b <;> simp [Ex.same] at h <;> simp [h]
def decE : (l : List (Ex × Tmpl)) → Ex → PS → Option (ExT l)
 | [], _, _ => none
 | [q], ex, s => if q.1.same ex = true then q.2.decM s else none
 | q :: r :: l, ex, s => match (if q.1.same ex = true then q.2.decM s else none) with
   | some x => some (.inl x)
   | none => match decE (r :: l) ex s with
     | some y => some (.inr y)
     | none => none
def outE : (l : List (Ex × Tmpl)) → ExT l → Out (Ex × PS)
 | [], _ => .no
 | [q], x => .done (q.1, q.2.st x)
 | q :: r :: l, x => .sum x (fun y => .done (q.1, q.2.st y)) (fun y => outE (r :: l) y)
def kRound (T : Tmpl) (exits : List (Ex × Tmpl)) : Ex → PS → Option (T.D ⊕ ExT exits)
 | .normal, s => match T.decM s with
   | some x => some (.inl x)
   | none => none
 | ex, s => match decE exits ex s with
   | some e => some (.inr e)
   | none => none
def outEI (i : LpI) : (l : List (Ex × Tmpl)) → ExT l → Out (Ex × PS)
 | [], _ => .no
 | [q], x => .done (q.1, q.2.stI i x)
 | q :: r :: l, x => .sum x (fun y => .done (q.1, q.2.stI i y)) (fun y => outEI i (r :: l) y)
section
variable {P : Program}
noncomputable def onlyAt {E : Type} (i j : LpI) (x : Option E) : Option E := open Classical in if i = j then x else none
theorem onlyAt_eq {E : Type} {i : LpI} {x : Option E} : onlyAt i i x = x := if_pos rfl
theorem decE_ok : ∀ {l : List (Ex × Tmpl)} {ex : Ex} {s : PS} {e : ExT l}, decE l ex s = some e → ∃ s1, (outE l e).at' = some (ex, s1) ∧ ex ≠ .normal ∧ ∀ B0 w0 a w, Rel B0 w0 s a w → Rel B0 w0 s1 a w
 | [], _, _, _, h => by cases h
 | [q], ex, s, e, h => by
   simp only [decE] at h
   split at h
   ·rename_i hs
    obtain ⟨e1, e2⟩ := Ex.same_eq hs
    exact ⟨q.2.st e, by rw [outE, Out.at', e1], e2, fun B0 w0 a w hr => Tmpl.decM_rel h hr⟩
   ·cases h
 | q :: r :: l, ex, s, e, h => by
   simp only [decE] at h
   split at h
   ·rename_i x hx
    obtain rfl := Option.some.inj h
    split at hx
    ·rename_i hs
     obtain ⟨e1, e2⟩ := Ex.same_eq hs
     exact ⟨q.2.st x, by rw [outE, Out.at', sumE, Out.at', e1], e2, fun B0 w0 a w hr => Tmpl.decM_rel hx hr⟩
    ·cases hx
   ·split at h
    ·rename_i y hy
     obtain rfl := Option.some.inj h
     obtain ⟨s1, h1, h2, h3⟩ := decE_ok hy
     exact ⟨s1, by rw [outE, Out.at', sumE]; exact h1, h2, h3⟩
    ·cases h
def RoundTo (P : Program) (body : Code) (T : Tmpl) (exits : List (Ex × Tmpl)) (x : T.D) : T.D ⊕ ExT exits → Prop
 | .inl y => RunsTo P false body (T.st x) .normal (T.st y)
 | .inr e => ∃ ex s1, (outE exits e).at' = some (ex, s1) ∧ ex ≠ .normal ∧ RunsTo P false body (T.st x) ex s1
theorem round_ok {K : Know} {U n b : Nat} {f : FuncId} {body : Code} (hns : NoSpecial P) (hm : P.follows .mixedOrders = true) (hK : KnowOk P K) (hb : LoopsOk P false (K.loops f) b body) {T : Tmpl} {exits : List (Ex × Tmpl)} {x : T.D} {r : T.D ⊕ ExT exits}
 {cut : Bool} {kp : Option (List Nat)} (h : exec P _ { evalC P _ K U n with cut := cut, keep := kp } (K.loops f) U b body (T.st x) (kRound T exits) = some r) : RoundTo P body T exits x r := by
 obtain ⟨ex, s', h1, h2⟩ := exec_ok hns hm ((evalC_ok hns hm hK n).kept cut kp) (evalC_inR n) body b _ _ _ hb h
 have to : ∀ {s1 : PS}, (∀ B0 w0 a w, Rel B0 w0 s' a w → Rel B0 w0 s1 a w) → RunsTo P false body (T.st x) ex s1 := fun hs B0 w0 a w hr hro Q hq => h2 B0 w0 a w hr hro Q fun a' w' hr' => hq a' w' (hs _ _ _ _ hr')
 have other : (∀ e, ex ≠ .normal → decE exits ex s' = some e → ∃ ex s1, (outE exits e).at' = some (ex, s1) ∧ ex ≠ .normal ∧ RunsTo P false body (T.st x) ex s1) := fun e he hd => by
  obtain ⟨s1, g1, g2, g3⟩ := decE_ok hd
  exact ⟨ex, s1, g1, he, to g3⟩
 cases ex with
 | normal =>
   simp only [kRound] at h1
   split at h1
   ·rename_i y hy
    obtain rfl := Option.some.inj h1
    exact to fun B0 w0 a w hr => Tmpl.decM_rel hy hr
   ·cases h1
 | exit id =>
   simp only [kRound] at h1
   split at h1
   ·rename_i y hy
    obtain rfl := Option.some.inj h1
    exact other y (by simp) hy
   ·cases h1
 | ret =>
   simp only [kRound] at h1
   split at h1
   ·rename_i y hy
    obtain rfl := Option.some.inj h1
    exact other y (by simp) hy
   ·cases h1
theorem loop_ok {body : Code} {T : Tmpl} {exits : List (Ex × Tmpl)} {step : T.D → Option (T.D ⊕ ExT exits)}
 (h : ∀ x r, step x = some r → RoundTo P body T exits x r) :
 ∀ x e, loopVal step x = some e → ∃ ex s1, (outE exits e).at' = some (ex, s1) ∧ LoopTo P false body (T.st x) ex s1 := by
 intro x e hx
 obtain ⟨n, hn⟩ := loopVal_iff.1 hx
 clear hx
 induction n generalizing x with
 | zero => cases hn
 | succ n ih =>
   simp only [iter] at hn
   cases hs : step x with
   | none => rw [hs] at hn; cases hn
   | some r =>
     rw [hs] at hn
     have hr := h x r hs
     cases r with
     | inl y =>
       obtain ⟨ex, s1, h1, h2⟩ := ih y hn
       exact ⟨ex, s1, h1, .next hr h2⟩
     | inr d =>
       obtain rfl := Option.some.inj hn
       obtain ⟨ex, s1, h1, h2, h3⟩ := hr
       exact ⟨ex, s1, h1, .last h3 h2⟩
end
def outPar {α : Type} : (q : Par) → q.T → (CV → Out α) → Out α
 | .ptr s, x, k => .alt x (fun y => k (.l (.iptr s y 0))) (k (.l .nilptr))
 | .d s, x, k => k (s.cv x)
 | .fn f, _, k => k (.l (.fn f))
 | .own _ _, _, k => k (.l (.full 0))
 | .tgt s, x, k => k (.l (.iptr s x 0))
def outGo {α : Type} : (l : List Par) → Pars l → (List CV → Out α) → Out α
 | [], _, k => k []
 | [q], x, k => outPar q x fun c => k [c]
 | q :: r :: l, x, k => outPar q x.1 fun c => outGo (r :: l) x.2 fun cs => k (c :: cs)
def outRV (rs : List Par) (y : Pars rs) : Out RV := outGo rs y fun cs => .done ⟨mkSV cs, ownBlk rs y⟩
inductive Item : Type 1 where
  | fn (f : FuncId) (ps rs : List Par) (spec : Pars ps → Option (Pars rs))
  | loop (f : FuncId) (b : Nat) (T : Tmpl) (exits : List (Ex × Tmpl)) (L : T.D → Option (ExT exits))
  | loopI (f : FuncId) (b : Nat) (i : LpI) (T : Tmpl) (exits : List (Ex × Tmpl)) (L : T.D → Option (ExT exits))
  | loopO (f : FuncId) (b : Nat) (T : Tmpl) (exits : List (Ex × Tmpl)) (F : T.D → Out (ExT exits))
  | loopR (i : LpI) (n b : Nat) (T : Tmpl) (exits : List (Ex × Tmpl)) (F : T.D → Out (ExT exits))
def Out.bind {α β : Type} : Out α → (α → Out β) → Out β
 | .no, _ => .no
 | .done x, f => f x
 | .br b x y, f => .br b (x.bind f) (y.bind f)
 | .alt o g h, f => .alt o (fun x => (g x).bind f) (h.bind f)
 | .sum o g h, f => .sum o (fun x => (g x).bind f) (fun x => (h x).bind f)
theorem Out.bind_at {α β : Type} : ∀ {o : Out α} {f : α → Out β} {y : β}, (o.bind f).at' = some y → ∃ x, o.at' = some x ∧ (f x).at' = some y
 | .no, _, _, h => by cases h
 | .done x, _, _, h => ⟨x, rfl, h⟩
 | .br b x y, f, z, h => by
   cases b
   ·exact Out.bind_at (o := y) h
   ·exact Out.bind_at (o := x) h
 | .alt o g k, f, z, h => by
   cases o with
   | none => exact Out.bind_at (o := k) h
   | some x => exact Out.bind_at (o := g x) h
 | .sum o g k, f, z, h => by
   cases o with
   | inl x => exact Out.bind_at (o := g x) h
   | inr x => exact Out.bind_at (o := k x) h
def fnsOf : List Item → FuncId → List CV → Option (Out RV)
 | [], _, _ => none
 | .fn g ps rs spec :: l, f, args => bif Nat.beq f g then (match (if owns ps = 0 then decs .free ps args else none) with
    | some x => some (.alt (spec x) (outRV rs) .no)
    | none => fnsOf l f args) else fnsOf l f args
 | .loop _ _ _ _ _ :: l, f, args => fnsOf l f args
 | .loopI _ _ _ _ _ _ :: l, f, args => fnsOf l f args
 | .loopO _ _ _ _ _ :: l, f, args => fnsOf l f args
 | .loopR _ _ _ _ _ _ :: l, f, args => fnsOf l f args
noncomputable def fit : List Item → FuncId → Nat → PS → Out (Ex × PS)
 | [], _, _, _ => .no
 | .fn _ _ _ _ :: l, f, b, s => fit l f b s
 | .loop g b' T exits L :: l, f, b, s => bif Nat.beq f g && Nat.beq b b' then (match T.decM s with
    | some x => .alt (L x) (outE exits) .no
    | none => fit l f b s) else fit l f b s
 | .loopI g b' i T exits L :: l, f, b, s => bif Nat.beq f g && Nat.beq b b' then (match T.decIM s with
    | some x => .alt (onlyAt x.1 i (L x.2)) (outEI i exits) .no
    | none => fit l f b s) else fit l f b s
 | .loopO g b' T exits F :: l, f, b, s => bif Nat.beq f g && Nat.beq b b' then (match T.decM s with
    | some x => (F x).bind (outE exits)
    | none => fit l f b s) else fit l f b s
 | .loopR _ _ _ _ _ _ :: l, f, b, s => fit l f b s
noncomputable def fitR : List Item → LpI → Nat → PS → Out (Ex × PS)
 | [], _, _, _ => .no
 | .loopR i n b' T exits F :: l, j, b, s => bif Nat.beq j.n n && Nat.beq b b' then (match T.decIM s with
    | some x => .alt (onlyAt j i (onlyAt x.1 i (some ()))) (fun _ => (F x.2).bind (outEI i exits)) .no
    | none => fitR l j b s) else fitR l j b s
 | .fn _ _ _ _ :: l, j, b, s => fitR l j b s
 | .loop _ _ _ _ _ :: l, j, b, s => fitR l j b s
 | .loopI _ _ _ _ _ _ :: l, j, b, s => fitR l j b s
 | .loopO _ _ _ _ _ :: l, j, b, s => fitR l j b s
def hasLoopR : List Item → LpI → Nat → Bool
 | [], _, _ => false
 | .loopR _ n b' _ _ _ :: l, j, b => (Nat.beq j.n n && Nat.beq b b') || hasLoopR l j b
 | .fn _ _ _ _ :: l, j, b => hasLoopR l j b
 | .loop _ _ _ _ _ :: l, j, b => hasLoopR l j b
 | .loopI _ _ _ _ _ _ :: l, j, b => hasLoopR l j b
 | .loopO _ _ _ _ _ :: l, j, b => hasLoopR l j b
noncomputable def loopsROf (l : List Item) (j : LpI) (b : Nat) : Option (PS → Out (Ex × PS)) := bif hasLoopR l j b then some (fitR l j b) else none
def hasLoop : List Item → FuncId → Nat → Bool
 | [], _, _ => false
 | .fn _ _ _ _ :: l, f, b => hasLoop l f b
 | .loop g b' _ _ _ :: l, f, b => (Nat.beq f g && Nat.beq b b') || hasLoop l f b
 | .loopI g b' _ _ _ _ :: l, f, b => (Nat.beq f g && Nat.beq b b') || hasLoop l f b
 | .loopO g b' _ _ _ :: l, f, b => (Nat.beq f g && Nat.beq b b') || hasLoop l f b
 | .loopR _ _ _ _ _ _ :: l, f, b => hasLoop l f b
noncomputable def loopsOf (l : List Item) (f : FuncId) (b : Nat) : Option (PS → Out (Ex × PS)) := bif hasLoop l f b then some (fit l f b) else none
noncomputable def knowM (md : Mode) (l : List Item) : Know := { fns := fnsOf l, loops := loopsOf l, md := md, loopsR := loopsROf l }
def bodyOf (P : Program) (f : FuncId) (b : Nat) : Code :=
 match P.funcs[f]? with
 | some fn => match fn.body with
   | some c => match (loopsIn 0 c).filter (fun x => Nat.beq x.1 b) with
     | [x] => x.2
     | _ => .skip
   | none => .skip
 | none => .skip
def oneLoop (P : Program) (f : FuncId) (b : Nat) : Bool :=
 match P.funcs[f]? with
 | some fn => match fn.body with
   | some c => match (loopsIn 0 c).filter (fun x => Nat.beq x.1 b) with
     | [_] => true
     | _ => false
   | none => false
 | none => false
def bodyR (c : Code) (b : Nat) : Code := match (loopsIn 0 c).filter (fun x => Nat.beq x.1 b) with
 | [x] => x.2
 | _ => .skip
def oneLoopR (c : Code) (b : Nat) : Bool := match (loopsIn 0 c).filter (fun x => Nat.beq x.1 b) with
 | [_] => true
 | _ => false
def ItemOk (P : Program) : Item → Prop
 | .fn f ps rs spec => MeetsT P f ps rs spec
 | .loop f b T exits L => oneLoop P f b = true ∧ ∀ x e, L x = some e → ∃ ex s1, (outE exits e).at' = some (ex, s1) ∧ LoopTo P false (bodyOf P f b) (T.st x) ex s1
 | .loopI f b i T exits L => oneLoop P f b = true ∧ ∀ x e, L x = some e → ∃ ex s1, (outEI i exits e).at' = some (ex, s1) ∧ LoopTo P false (bodyOf P f b) (T.stI i x) ex s1
 | .loopO f b T exits F => oneLoop P f b = true ∧ ∀ x e, (F x).at' = some e → ∃ ex s1, (outE exits e).at' = some (ex, s1) ∧ LoopTo P false (bodyOf P f b) (T.st x) ex s1
 | .loopR i _ b T exits F => oneLoopR i.body b = true ∧ ∀ x e, (F x).at' = some e → ∃ ex s1, (outEI i exits e).at' = some (ex, s1) ∧ LoopTo P true (bodyR i.body b) (T.stI i x) ex s1
theorem outPar_at {α : Type} {q : Par} {x : q.T} {k : CV → Out α} : (outPar q x k).at' = (k (q.cv x)).at' := by
 cases q with
 | ptr s => cases x <;> rfl
 | _ => rfl
theorem outGo_at {α : Type} : ∀ {l : List Par} {x : Pars l} {k : List CV → Out α}, (outGo l x k).at' = (k (cvs l x)).at'
 | [], _, _ => rfl
 | [q], x, k => outPar_at
 | q :: r :: l, x, k => by rw [outGo, outPar_at, outGo_at]; rfl
theorem outRV_at {rs : List Par} {y : Pars rs} : (outRV rs y).at' = some (rvOf rs y) := by rw [outRV, outGo_at]; rfl
section
variable {P : Program}
theorem fnsOf_ok : ∀ {l : List Item}, (∀ q ∈ l, ItemOk P q) → ∀ f args g rv, fnsOf l f args = some g → g.at' = some rv → Meets P f args rv
 | [], _, f, args, g, rv, h, _ => by cases h
 | .loop g' b T exits L :: l, hl, f, args, g, rv, h, hg => fnsOf_ok (l := l) (fun q hq => hl q (List.mem_cons_of_mem _ hq)) f args g rv h hg
 | .loopI g' b i T exits L :: l, hl, f, args, g, rv, h, hg => fnsOf_ok (l := l) (fun q hq => hl q (List.mem_cons_of_mem _ hq)) f args g rv h hg
 | .loopO g' b T exits F :: l, hl, f, args, g, rv, h, hg => fnsOf_ok (l := l) (fun q hq => hl q (List.mem_cons_of_mem _ hq)) f args g rv h hg
 | .loopR i n b T exits F :: l, hl, f, args, g, rv, h, hg => fnsOf_ok (l := l) (fun q hq => hl q (List.mem_cons_of_mem _ hq)) f args g rv h hg
 | .fn g' ps rs spec :: l, hl, f, args, g, rv, h, hg => by
   have hrest := fnsOf_ok (l := l) (fun q hq => hl q (List.mem_cons_of_mem _ hq)) f args g rv
   have hme : MeetsT P g' ps rs spec := hl _ List.mem_cons_self
   unfold fnsOf at h
   cases hf : Nat.beq f g' with
   | false => rw [hf, cond_false] at h; exact hrest h hg
   | true =>
     rw [hf, cond_true] at h
     obtain rfl := Nat.eq_of_beq_eq_true hf
     split at h
     ·rename_i x hx
      split at hx
      ·rename_i ho
       obtain rfl := Option.some.inj h
       simp only [Out.at'] at hg
       cases hs : spec x with
       | none => rw [hs] at hg; cases hg
       | some y =>
         rw [hs] at hg
         simp only [optE, outRV_at] at hg
         obtain rfl := Option.some.inj hg
         intro w p vs hp hg hargs
         exact hme x y hs w p vs hp hg (decs_ok ho hx hargs).1
      ·cases hx
     ·exact hrest h hg
theorem loopsIn_sub : ∀ {c : Code} {b b' : Nat} {x : Code}, (b', x) ∈ loopsIn b c → ∀ y ∈ loopsIn b' x, y ∈ loopsIn b c := by
 intro c
 induction c with
 | seq c d ihc ihd =>
   intro b b' x h y hy
   simp only [loopsIn, List.mem_append] at h ⊢
   exact h.imp (fun h => ihc h y hy) (fun h => ihd h y hy)
 | cond c d e ihc ihd =>
   intro b b' x h y hy
   simp only [loopsIn, List.mem_append] at h ⊢
   exact h.imp (fun h => ihc h y hy) (fun h => ihd h y hy)
 | block id d ih =>
   intro b b' x h y hy
   simp only [loopsIn] at h ⊢
   exact ih h y hy
 | loop d ih =>
   intro b b' x h y hy
   simp only [loopsIn, List.mem_cons] at h ⊢
   rcases h with h | h
   ·obtain ⟨rfl, rfl⟩ := Prod.mk.inj h
    exact .inr hy
   ·exact .inr (ih h y hy)
 | scope d ih =>
   intro b b' x h y hy
   simp only [loopsIn] at h ⊢
   exact ih h y hy
 | _ => intro b b' x h; simp [loopsIn] at h
theorem bodyOf_in {f : FuncId} {b : Nat} (h : oneLoop P f b = true) {fn : Func} {c : Code} (hf : P.funcs[f]? = some fn) (hb : fn.body = some c) : (b, bodyOf P f b) ∈ loopsIn 0 c ∧ ∀ x, (b, x) ∈ loopsIn 0 c → x = bodyOf P f b := by
 unfold oneLoop at h
 rw [hf] at h
 simp only [hb] at h
 unfold bodyOf
 rw [hf]
 simp only [hb]
 split at h
 ·rename_i y hy
  have hm : y ∈ (loopsIn 0 c).filter (fun x => Nat.beq x.1 b) := by rw [hy]; simp
  obtain ⟨h1, h2⟩ := List.mem_filter.1 hm
  have h2 := Nat.eq_of_beq_eq_true h2
  refine ⟨by rw [← h2]; exact h1, fun x hx => ?_⟩
  have hm2 : (b, x) ∈ (loopsIn 0 c).filter (fun x => Nat.beq x.1 b) := List.mem_filter.2 ⟨hx, by simp⟩
  rw [hy, List.mem_singleton] at hm2
  rw [← hm2]
 ·cases h
theorem fit_ok : ∀ {l : List Item}, (∀ q ∈ l, ItemOk P q) → ∀ f fn c, P.funcs[f]? = some fn → fn.body = some c → ∀ b x, (b, x) ∈ loopsIn 0 c → ∀ s ex s', (fit l f b s).at' = some (ex, s') → LoopTo P false x s ex s'
 | [], _, f, fn, c, hf, hc, b', x, hx, s, ex, s', hs => by cases hs
 | .loopR _ _ _ _ _ _ :: l, hl, f, fn, c, hf, hc, b', x, hx, s, ex, s', hs => fit_ok (l := l) (fun q hq => hl q (List.mem_cons_of_mem _ hq)) f fn c hf hc b' x hx s ex s' hs
 | .loopO g' b T exits F :: l, hl, f, fn, c, hf, hc, b', x, hx, s, ex, s', hs => by
   have hrest := fun hs => fit_ok (l := l) (fun q hq => hl q (List.mem_cons_of_mem _ hq)) f fn c hf hc b' x hx s ex s' hs
   obtain ⟨hone, hme⟩ : ItemOk P (.loopO g' b T exits F) := hl _ List.mem_cons_self
   unfold fit at hs
   cases hb : Nat.beq f g' && Nat.beq b' b with
   | false => rw [hb, cond_false] at hs; exact hrest hs
   | true =>
     rw [hb, cond_true] at hs
     simp only [Bool.and_eq_true] at hb
     obtain rfl := Nat.eq_of_beq_eq_true hb.1
     obtain rfl := Nat.eq_of_beq_eq_true hb.2
     have hxb := (bodyOf_in hone hf hc).2 x hx
     subst hxb
     split at hs
     ·rename_i y hy
      obtain ⟨e, he1, he2⟩ := Out.bind_at hs
      obtain ⟨ex1, s1, h1, h2⟩ := hme y e he1
      rw [h1] at he2
      obtain ⟨rfl, rfl⟩ := Prod.mk.inj (Option.some.inj he2)
      obtain ⟨n, h2⟩ := h2
      exact ⟨n, fun B0 w0 a w hr Q hq => h2 B0 w0 a w (Tmpl.decM_rel hy hr) Q hq⟩
     ·exact hrest hs
 | .fn g' ps rs spec :: l, hl, f, fn, c, hf, hc, b', x, hx, s, ex, s', hs => fit_ok (l := l) (fun q hq => hl q (List.mem_cons_of_mem _ hq)) f fn c hf hc b' x hx s ex s' hs
 | .loopI g' b i T exits L :: l, hl, f, fn, c, hf, hc, b', x, hx, s, ex, s', hs => by
   have hrest := fun hs => fit_ok (l := l) (fun q hq => hl q (List.mem_cons_of_mem _ hq)) f fn c hf hc b' x hx s ex s' hs
   obtain ⟨hone, hme⟩ : ItemOk P (.loopI g' b i T exits L) := hl _ List.mem_cons_self
   unfold fit at hs
   cases hb : Nat.beq f g' && Nat.beq b' b with
   | false => rw [hb, cond_false] at hs; exact hrest hs
   | true =>
     rw [hb, cond_true] at hs
     simp only [Bool.and_eq_true] at hb
     obtain rfl := Nat.eq_of_beq_eq_true hb.1
     obtain rfl := Nat.eq_of_beq_eq_true hb.2
     have hxb := (bodyOf_in hone hf hc).2 x hx
     subst hxb
     split at hs
     ·rename_i y hy
      simp only [Out.at'] at hs
      by_cases hi : y.1 = i
      ·rw [hi, onlyAt_eq] at hs
       cases he : L y.2 with
       | none => rw [he] at hs; cases hs
       | some e =>
         rw [he] at hs
         simp only [optE] at hs
         obtain ⟨ex1, s1, h1, h2⟩ := hme y.2 e he
         rw [h1] at hs
         obtain ⟨rfl, rfl⟩ := Prod.mk.inj (Option.some.inj hs)
         obtain ⟨n, h2⟩ := h2
         exact ⟨n, fun B0 w0 a w hr Q hq => h2 B0 w0 a w (by rw [← hi]; exact Tmpl.decIM_rel hy hr) Q hq⟩
      ·have : onlyAt y.1 i (L y.2) = none := if_neg hi
       rw [this] at hs
       cases hs
     ·exact hrest hs
 | .loop g' b T exits L :: l, hl, f, fn, c, hf, hc, b', x, hx, s, ex, s', hs => by
   have hrest := fun hs => fit_ok (l := l) (fun q hq => hl q (List.mem_cons_of_mem _ hq)) f fn c hf hc b' x hx s ex s' hs
   obtain ⟨hone, hme⟩ : ItemOk P (.loop g' b T exits L) := hl _ List.mem_cons_self
   unfold fit at hs
   cases hb : Nat.beq f g' && Nat.beq b' b with
   | false => rw [hb, cond_false] at hs; exact hrest hs
   | true =>
     rw [hb, cond_true] at hs
     simp only [Bool.and_eq_true] at hb
     obtain rfl := Nat.eq_of_beq_eq_true hb.1
     obtain rfl := Nat.eq_of_beq_eq_true hb.2
     have hxb := (bodyOf_in hone hf hc).2 x hx
     subst hxb
     split at hs
     ·rename_i y hy
      simp only [Out.at'] at hs
      cases he : L y with
      | none => rw [he] at hs; cases hs
      | some e =>
        rw [he] at hs
        simp only [optE] at hs
        obtain ⟨ex1, s1, h1, h2⟩ := hme y e he
        rw [h1] at hs
        obtain ⟨rfl, rfl⟩ := Prod.mk.inj (Option.some.inj hs)
        obtain ⟨n, h2⟩ := h2
        exact ⟨n, fun B0 w0 a w hr Q hq => h2 B0 w0 a w (Tmpl.decM_rel hy hr) Q hq⟩
     ·exact hrest hs
theorem bodyR_in {c : Code} {b : Nat} (h : oneLoopR c b = true) : (b, bodyR c b) ∈ loopsIn 0 c ∧ ∀ x, (b, x) ∈ loopsIn 0 c → x = bodyR c b := by
 unfold oneLoopR at h
 unfold bodyR
 split at h
 ·rename_i y hy
  have hm : y ∈ (loopsIn 0 c).filter (fun x => Nat.beq x.1 b) := by rw [hy]; simp
  obtain ⟨h1, h2⟩ := List.mem_filter.1 hm
  have h2 := Nat.eq_of_beq_eq_true h2
  refine ⟨by rw [← h2]; exact h1, fun x hx => ?_⟩
  have hm2 : (b, x) ∈ (loopsIn 0 c).filter (fun x => Nat.beq x.1 b) := List.mem_filter.2 ⟨hx, by simp⟩
  rw [hy, List.mem_singleton] at hm2
  rw [← hm2]
 ·cases h
theorem fitR_ok : ∀ {l : List Item}, (∀ q ∈ l, ItemOk P q) → ∀ j b x, (b, x) ∈ loopsIn 0 j.body → ∀ s ex s', (fitR l j b s).at' = some (ex, s') → LoopTo P true x s ex s'
 | [], _, j, b', x, hx, s, ex, s', hs => by cases hs
 | .fn _ _ _ _ :: l, hl, j, b', x, hx, s, ex, s', hs => fitR_ok (l := l) (fun q hq => hl q (List.mem_cons_of_mem _ hq)) j b' x hx s ex s' hs
 | .loop _ _ _ _ _ :: l, hl, j, b', x, hx, s, ex, s', hs => fitR_ok (l := l) (fun q hq => hl q (List.mem_cons_of_mem _ hq)) j b' x hx s ex s' hs
 | .loopI _ _ _ _ _ _ :: l, hl, j, b', x, hx, s, ex, s', hs => fitR_ok (l := l) (fun q hq => hl q (List.mem_cons_of_mem _ hq)) j b' x hx s ex s' hs
 | .loopO _ _ _ _ _ :: l, hl, j, b', x, hx, s, ex, s', hs => fitR_ok (l := l) (fun q hq => hl q (List.mem_cons_of_mem _ hq)) j b' x hx s ex s' hs
 | .loopR i n b T exits F :: l, hl, j, b', x, hx, s, ex, s', hs => by
   have hrest := fun hs => fitR_ok (l := l) (fun q hq => hl q (List.mem_cons_of_mem _ hq)) j b' x hx s ex s' hs
   obtain ⟨hone, hme⟩ : ItemOk P (.loopR i n b T exits F) := hl _ List.mem_cons_self
   unfold fitR at hs
   cases hb : Nat.beq j.n n && Nat.beq b' b with
   | false => rw [hb, cond_false] at hs; exact hrest hs
   | true =>
     rw [hb, cond_true] at hs
     simp only [Bool.and_eq_true] at hb
     obtain rfl := Nat.eq_of_beq_eq_true hb.2
     split at hs
     ·rename_i y hy
      simp only [Out.at'] at hs
      by_cases hj : j = i
      ·subst hj
       have hxb := (bodyR_in hone).2 x hx
       subst hxb
       by_cases hi : y.1 = j
       ·rw [hi, onlyAt_eq, onlyAt_eq] at hs
        simp only [optE] at hs
        obtain ⟨e, he1, he2⟩ := Out.bind_at hs
        obtain ⟨ex1, s1, h1, h2⟩ := hme y.2 e he1
        rw [h1] at he2
        obtain ⟨rfl, rfl⟩ := Prod.mk.inj (Option.some.inj he2)
        obtain ⟨n, h2⟩ := h2
        exact ⟨n, fun B0 w0 a w hr Q hq => h2 B0 w0 a w (by rw [← hi]; exact Tmpl.decIM_rel hy hr) Q hq⟩
       ·have : onlyAt y.1 j (some ()) = none := if_neg hi
        rw [this, onlyAt_eq] at hs
        cases hs
      ·have : onlyAt j i (onlyAt y.1 i (some ())) = none := if_neg hj
       rw [this] at hs
       cases hs
     ·exact hrest hs
theorem loopsROf_ok {l : List Item} (hl : ∀ q ∈ l, ItemOk P q) (i : LpI) : LoopsOk P true (loopsROf l i) 0 i.body := fun b' x hx F hF s ex s' hs => by
 unfold loopsROf at hF
 cases hh : hasLoopR l i b' with
 | false => rw [hh] at hF; cases hF
 | true =>
   rw [hh, cond_true] at hF
   obtain rfl := Option.some.inj hF
   exact fitR_ok hl i b' x hx s ex s' hs
theorem loopsOf_ok {l : List Item} (hl : ∀ q ∈ l, ItemOk P q) (f : FuncId) (fn : Func) (c : Code) (hf : P.funcs[f]? = some fn) (hc : fn.body = some c) : LoopsOk P false (loopsOf l f) 0 c := fun b' x hx F hF s ex s' hs => by
 unfold loopsOf at hF
 cases hh : hasLoop l f b' with
 | false => rw [hh] at hF; cases hF
 | true =>
   rw [hh, cond_true] at hF
   obtain rfl := Option.some.inj hF
   exact fit_ok hl f fn c hf hc b' x hx s ex s' hs
def ExtsOk (P : Program) (md : Mode) : Prop := (∀ g e xs sv, md.ext g = some e → e xs = some (true, sv) → ExtOk P g xs sv) ∧ MxOk P md.mx
theorem know_ok {l : List Item} (h : ∀ q ∈ l, ItemOk P q) {md : Mode} (he : ExtsOk P md) : KnowOk P (knowM md l) := ⟨he.2, he.1, fnsOf_ok h, loopsOf_ok h, loopsROf_ok h⟩
theorem know_loops {l : List Item} (h : ∀ q ∈ l, ItemOk P q) {md : Mode} (f : FuncId) (b : Nat) (hone : oneLoop P f b = true) : LoopsOk P false ((knowM md l).loops f) b (bodyOf P f b) := by
 cases hf : P.funcs[f]? with
 | none => unfold oneLoop at hone; rw [hf] at hone; cases hone
 | some fn =>
   cases hc : fn.body with
   | none => unfold oneLoop at hone; rw [hf] at hone; simp only [hc] at hone; cases hone
   | some c =>
     have h0 := loopsOf_ok h f fn c hf hc
     intro b' x hx
     exact h0 b' x (loopsIn_sub (bodyOf_in hone hf hc).1 _ hx)
theorem item_loopM (md : Mode) (he : ExtsOk P md) {l : List Item} (hns : NoSpecial P) (hm : P.follows .mixedOrders = true) (hl : ∀ q ∈ l, ItemOk P q) {f : FuncId} {b U n : Nat} {T : Tmpl} {exits : List (Ex × Tmpl)} {step : T.D → Option (T.D ⊕ ExT exits)} (hone : oneLoop P f b = true)
 (h : ∀ x, exec P _ { evalC P _ (knowM md l) U n with cut := md.cut f, keep := md.keep f } ((knowM md l).loops f) U b (bodyOf P f b) (T.st x) (kRound T exits) = step x) : ItemOk P (.loop f b T exits (loopVal step)) :=
 ⟨hone, loop_ok fun x _ hr => round_ok hns hm (know_ok hl he) (know_loops hl f b hone) ((h x).trans hr)⟩
section
variable {P : Program}
inductive AllF {α β : Type} (R : α → β → Prop) : List α → List β → Prop
  | nil : AllF R [] []
  | cons {a : α} {b : β} {l : List α} {m : List β} : R a b → AllF R l m → AllF R (a :: l) (b :: m)
theorem AllF.at {α β : Type} {R : α → β → Prop} {l : List α} {m : List β} (h : AllF R l m) : ∀ {i : Nat} {a : α}, l[i]? = some a → ∃ b, m[i]? = some b ∧ R a b := by
 induction h with
 | nil => intro i a h; simp at h
 | cons hr _ ih =>
   intro i a h
   cases i with
   | zero => obtain rfl := Option.some.inj h; exact ⟨_, rfl, hr⟩
   | succ i => exact ih (i := i) (by simpa using h)
end
theorem item_fnM (md : Mode) (he : ExtsOk P md) {l : List Item} (hns : NoSpecial P) (hm : P.follows .mixedOrders = true) (hl : ∀ q ∈ l, ItemOk P q) {f : FuncId} {U n : Nat} {ps rs : List Par} {spec : Pars ps → Option (Pars rs)}
 (h : ∀ x, evalK P (Pars rs) (knowM md l) U n f (cvs ps x) (canonK rs) = spec x) : ItemOk P (.fn f ps rs spec) :=
 meetsT_of_eval hns hm (know_ok hl he) h
theorem items_cons {q : Item} {l : List Item} (h : ItemOk P q) (hl : ∀ q ∈ l, ItemOk P q) : ∀ r ∈ q :: l, ItemOk P r := fun r hr => by
 rcases List.mem_cons.1 hr with rfl | hr
 ·exact h
 ·exact hl r hr
theorem items_nil : ∀ r ∈ ([] : List Item), ItemOk P r := fun r hr => by cases hr
def okAll : (l : List Sh) → Pars (l.map Par.d) → Prop
 | [], _ => True
 | [s], x => s.ok x
 | s :: r :: l, x => s.ok x.1 ∧ okAll (r :: l) x.2
theorem typed_cvs : ∀ {l : List Sh} {cs : List CV}, Typed l cs → ∃ x : Pars (l.map Par.d), cs = cvs (l.map Par.d) x ∧ okAll l x
 | [], [], _ => ⟨(), rfl, trivial⟩
 | [], _ :: _, h => h.elim
 | [s], [c], ⟨⟨y, e, h⟩, _⟩ => ⟨y, by rw [e]; rfl, h⟩
 | [s], [], h => h.elim
 | [s], _ :: _ :: _, ⟨_, h⟩ => h.elim
 | s :: r :: l, [], h => h.elim
 | s :: r :: l, c :: cs, ⟨⟨y, e, h⟩, h2⟩ => by
   obtain ⟨x, h3, h4⟩ := typed_cvs h2
   exact ⟨(y, x), by rw [e, h3]; rfl, h, h4⟩
theorem law_of_spec {g : FuncId} {shs : List Sh} {spec : Pars (shs.map Par.d) → Option Bool} (h : ItemOk P (.fn g (shs.map Par.d) [.d .bool] spec)) (hs : ∀ x, okAll shs x → spec x = some true) : ∀ cs, Typed shs cs → Meets P g cs saysTrue := fun cs hcs => by
 obtain ⟨x, rfl, hx⟩ := typed_cvs hcs
 exact h x true (hs x hx)
end
end Go.Ev
end
