/- Loops, and tables of what is known. -/
import Derived.Test.YtinkhmfciealkaaSpec2
import Derived.Test.YtinkhmfciealkaaLaw
set_option linter.unusedSimpArgs false
namespace Go.Ev
open Go.RowKit

/-! ### Loops on typed data -/

def iter {σ E : Type} (step : σ → Option (σ ⊕ E)) : Nat → σ → Option E
  | 0, _ => none
  | n + 1, x => match step x with
    | some (.inl y) => iter step n y
    | some (.inr e) => some e
    | none => none

theorem iter_det {σ E : Type} {step : σ → Option (σ ⊕ E)} : ∀ {m n : Nat} {x : σ} {e e' : E}, iter step m x = some e → iter step n x = some e' → e = e'
  | 0, _, _, _, _, h, _ => by cases h
  | _ + 1, 0, _, _, _, _, h => by cases h
  | m + 1, n + 1, x, e, e', h1, h2 => by
    simp only [iter] at h1 h2
    cases hs : step x with
    | none => rw [hs] at h1; cases h1
    | some r =>
      rw [hs] at h1 h2
      cases r with
      | inl y => exact iter_det h1 h2
      | inr d => exact (Option.some.inj h1).symm.trans (Option.some.inj h2)

open Classical in
/-- The value at a loop's end. -/
noncomputable def loopVal {σ E : Type} (step : σ → Option (σ ⊕ E)) (x : σ) : Option E :=
  if h : ∃ n, (iter step n x).isSome = true then iter step (Classical.choose h) x else none

theorem loopVal_iff {σ E : Type} {step : σ → Option (σ ⊕ E)} {x : σ} {e : E} : loopVal step x = some e ↔ ∃ n, iter step n x = some e := by
  unfold loopVal
  constructor
  · intro h
    split at h
    · exact ⟨_, h⟩
    · cases h
  · rintro ⟨n, h⟩
    have hex : ∃ n, (iter step n x).isSome = true := ⟨n, by rw [h]; rfl⟩
    rw [dif_pos hex]
    obtain ⟨d, hd⟩ := Option.isSome_iff_exists.1 (Classical.choose_spec hex)
    rw [hd, iter_det hd h]

theorem loopVal_eq {σ E : Type} (step : σ → Option (σ ⊕ E)) (x : σ) : loopVal step x = match step x with
    | some (.inl y) => loopVal step y
    | some (.inr e) => some e
    | none => none := by
  have key : ∀ e, loopVal step x = some e ↔ (match step x with
    | some (.inl y) => loopVal step y
    | some (.inr e) => some e
    | none => none) = some e := by
    intro e
    rw [loopVal_iff]
    cases hs : step x with
    | none =>
      simp only [reduceCtorEq, iff_false]
      rintro ⟨n, h⟩
      cases n with
      | zero => cases h
      | succ n => simp only [iter, hs] at h; cases h
    | some r =>
      cases r with
      | inl y =>
        simp only [loopVal_iff]
        constructor
        · rintro ⟨n, h⟩
          cases n with
          | zero => cases h
          | succ n => simp only [iter, hs] at h; exact ⟨n, h⟩
        · rintro ⟨n, h⟩
          exact ⟨n + 1, by simp only [iter, hs]; exact h⟩
      | inr d =>
        simp only [Option.some.injEq]
        constructor
        · rintro ⟨n, h⟩
          cases n with
          | zero => cases h
          | succ n => simp only [iter, hs] at h; exact Option.some.inj h
        · rintro rfl
          exact ⟨1, by simp only [iter, hs]⟩
  cases h : loopVal step x with
  | some e => exact ((key e).1 h).symm
  | none =>
    cases h2 : (match step x with
      | some (.inl y) => loopVal step y
      | some (.inr e) => some e
      | none => none) with
    | none => rfl
    | some e => rw [(key e).2 h2] at h; cases h

theorem loopVal_next {σ E : Type} {step : σ → Option (σ ⊕ E)} {x y : σ} (h : step x = some (.inl y)) : loopVal step x = loopVal step y := by rw [loopVal_eq, h]
theorem loopVal_last {σ E : Type} {step : σ → Option (σ ⊕ E)} {x : σ} {e : E} (h : step x = some (.inr e)) : loopVal step x = some e := by rw [loopVal_eq, h]

@[reducible] def ExT : List (Ex × Tmpl) → Type
  | [] => Empty
  | [q] => q.2.D
  | q :: r :: l => q.2.D ⊕ ExT (r :: l)

def Ex.same : Ex → Ex → Bool
  | .exit a, .exit b => Nat.beq a b
  | .ret, .ret => true
  | _, _ => false

theorem Ex.same_eq : ∀ {a b : Ex}, a.same b = true → a = b ∧ b ≠ .normal := by
  intro a b h
  cases a <;> cases b <;> simp [Ex.same] at h <;> simp [h]

def decE : (l : List (Ex × Tmpl)) → Ex → PS → Option (ExT l)
  | [], _, _ => none
  | [q], ex, s => if q.1.same ex = true then q.2.decM s else none
  | q :: r :: l, ex, s => match (if q.1.same ex = true then q.2.decM s else none) with
    | some x => some (.inl x)
    | none => match decE (r :: l) ex s with
      | some y => some (.inr y)
      | none => none

def outE : (l : List (Ex × Tmpl)) → ExT l → Out (Ex × PS)
  | [], _ => .no
  | [q], x => .done (q.1, q.2.st x)
  | q :: r :: l, x => .sum x (fun y => .done (q.1, q.2.st y)) (fun y => outE (r :: l) y)

def kRound (T : Tmpl) (exits : List (Ex × Tmpl)) : Ex → PS → Option (T.D ⊕ ExT exits)
  | .normal, s => match T.decM s with
    | some x => some (.inl x)
    | none => none
  | ex, s => match decE exits ex s with
    | some e => some (.inr e)
    | none => none

section
variable {P : Program}

theorem decE_ok : ∀ {l : List (Ex × Tmpl)} {ex : Ex} {s : PS} {e : ExT l}, decE l ex s = some e → ∃ s1, (outE l e).at' = some (ex, s1) ∧ ex ≠ .normal ∧ ∀ B0 w0 a w, Rel B0 w0 s a w → Rel B0 w0 s1 a w
  | [], _, _, _, h => by cases h
  | [q], ex, s, e, h => by
    simp only [decE] at h
    split at h
    · rename_i hs
      obtain ⟨e1, e2⟩ := Ex.same_eq hs
      exact ⟨q.2.st e, by rw [outE, Out.at', e1], e2, fun B0 w0 a w hr => Tmpl.decM_rel h hr⟩
    · cases h
  | q :: r :: l, ex, s, e, h => by
    simp only [decE] at h
    split at h
    · rename_i x hx
      obtain rfl := Option.some.inj h
      split at hx
      · rename_i hs
        obtain ⟨e1, e2⟩ := Ex.same_eq hs
        exact ⟨q.2.st x, by rw [outE, Out.at', sumE, Out.at', e1], e2, fun B0 w0 a w hr => Tmpl.decM_rel hx hr⟩
      · cases hx
    · split at h
      · rename_i y hy
        obtain rfl := Option.some.inj h
        obtain ⟨s1, h1, h2, h3⟩ := decE_ok hy
        exact ⟨s1, by rw [outE, Out.at', sumE]; exact h1, h2, h3⟩
      · cases h

def RoundTo (P : Program) (body : Code) (T : Tmpl) (exits : List (Ex × Tmpl)) (x : T.D) : T.D ⊕ ExT exits → Prop
  | .inl y => RunsTo P body (T.st x) .normal (T.st y)
  | .inr e => ∃ ex s1, (outE exits e).at' = some (ex, s1) ∧ ex ≠ .normal ∧ RunsTo P body (T.st x) ex s1

theorem round_ok {K : Know} {U n b : Nat} {f : FuncId} {body : Code} (hns : NoSpecial P) (hm : P.follows .mixedOrders = true) (hK : KnowOk P K) (hb : LoopsOk P (K.loops f) b body) {T : Tmpl} {exits : List (Ex × Tmpl)} {x : T.D} {r : T.D ⊕ ExT exits}
    (h : exec P _ (evalK P _ K U n) (K.loops f) U b body (T.st x) (kRound T exits) = some r) : RoundTo P body T exits x r := by
  obtain ⟨ex, s', h1, h2⟩ := exec_ok hns hm (evalK_ok hns hm hK n) body b _ _ _ hb h
  have to : ∀ {s1 : PS}, (∀ B0 w0 a w, Rel B0 w0 s' a w → Rel B0 w0 s1 a w) → RunsTo P body (T.st x) ex s1 := fun hs B0 w0 a w hr Q hq => h2 B0 w0 a w hr Q fun a' w' hr' => hq a' w' (hs _ _ _ _ hr')
  have other : (∀ e, ex ≠ .normal → decE exits ex s' = some e → ∃ ex s1, (outE exits e).at' = some (ex, s1) ∧ ex ≠ .normal ∧ RunsTo P body (T.st x) ex s1) := fun e he hd => by
    obtain ⟨s1, g1, g2, g3⟩ := decE_ok hd
    exact ⟨ex, s1, g1, he, to g3⟩
  cases ex with
  | normal =>
    simp only [kRound] at h1
    split at h1
    · rename_i y hy
      obtain rfl := Option.some.inj h1
      exact to fun B0 w0 a w hr => Tmpl.decM_rel hy hr
    · cases h1
  | exit id =>
    simp only [kRound] at h1
    split at h1
    · rename_i y hy
      obtain rfl := Option.some.inj h1
      exact other y (by simp) hy
    · cases h1
  | ret =>
    simp only [kRound] at h1
    split at h1
    · rename_i y hy
      obtain rfl := Option.some.inj h1
      exact other y (by simp) hy
    · cases h1

/-- What a loop on typed data says, the loop does. -/
theorem loop_ok {body : Code} {T : Tmpl} {exits : List (Ex × Tmpl)} {step : T.D → Option (T.D ⊕ ExT exits)}
    (h : ∀ x r, step x = some r → RoundTo P body T exits x r) :
    ∀ x e, loopVal step x = some e → ∃ ex s1, (outE exits e).at' = some (ex, s1) ∧ LoopTo P body (T.st x) ex s1 := by
  intro x e hx
  obtain ⟨n, hn⟩ := loopVal_iff.1 hx
  clear hx
  induction n generalizing x with
  | zero => cases hn
  | succ n ih =>
    simp only [iter] at hn
    cases hs : step x with
    | none => rw [hs] at hn; cases hn
    | some r =>
      rw [hs] at hn
      have hr := h x r hs
      cases r with
      | inl y =>
        obtain ⟨ex, s1, h1, h2⟩ := ih y hn
        exact ⟨ex, s1, h1, .next hr h2⟩
      | inr d =>
        obtain rfl := Option.some.inj hn
        obtain ⟨ex, s1, h1, h2, h3⟩ := hr
        exact ⟨ex, s1, h1, .last h3 h2⟩
end

/-! ### Tables -/

def outPar {α : Type} : (q : Par) → q.T → (CV → Out α) → Out α
  | .ptr s, x, k => .alt x (fun y => k (.l (.iptr s y 0))) (k (.l .nilptr))
  | .d s, x, k => k (s.cv x)
  | .fn f, _, k => k (.l (.fn f))
  | .own _ _, _, k => k (.l (.full 0))
  | .tgt s, x, k => k (.l (.iptr s x 0))
def outGo {α : Type} : (l : List Par) → Pars l → (List CV → Out α) → Out α
  | [], _, k => k []
  | [q], x, k => outPar q x fun c => k [c]
  | q :: r :: l, x, k => outPar q x.1 fun c => outGo (r :: l) x.2 fun cs => k (c :: cs)
def outRV (rs : List Par) (y : Pars rs) : Out RV := outGo rs y fun cs => .done ⟨mkSV cs, ownBlk rs y⟩

inductive Item : Type 1 where
  | fn (f : FuncId) (ps rs : List Par) (spec : Pars ps → Option (Pars rs))
  | loop (f : FuncId) (b : Nat) (T : Tmpl) (exits : List (Ex × Tmpl)) (L : T.D → Option (ExT exits))

def fnsOf : List Item → FuncId → List CV → Option (Out RV)
  | [], _, _ => none
  | .fn g ps rs spec :: l, f, args => bif Nat.beq f g then (match (if owns ps = 0 then decs .free ps args else none) with
      | some x => some (.alt (spec x) (outRV rs) .no)
      | none => fnsOf l f args) else fnsOf l f args
  | .loop _ _ _ _ _ :: l, f, args => fnsOf l f args
/-- The first loop that fits. -/
def fit : List Item → FuncId → Nat → PS → Out (Ex × PS)
  | [], _, _, _ => .no
  | .fn _ _ _ _ :: l, f, b, s => fit l f b s
  | .loop g b' T exits L :: l, f, b, s => bif Nat.beq f g && Nat.beq b b' then (match T.decM s with
      | some x => .alt (L x) (outE exits) .no
      | none => fit l f b s) else fit l f b s
def hasLoop : List Item → FuncId → Nat → Bool
  | [], _, _ => false
  | .fn _ _ _ _ :: l, f, b => hasLoop l f b
  | .loop g b' _ _ _ :: l, f, b => (Nat.beq f g && Nat.beq b b') || hasLoop l f b
def loopsOf (l : List Item) (f : FuncId) (b : Nat) : Option (PS → Out (Ex × PS)) := bif hasLoop l f b then some (fit l f b) else none
def know (l : List Item) : Know := ⟨fnsOf l, loopsOf l⟩

def bodyOf (P : Program) (f : FuncId) (b : Nat) : Code :=
  match P.funcs[f]? with
  | some fn => match fn.body with
    | some c => match (loopsIn 0 c).filter (fun x => Nat.beq x.1 b) with
      | [x] => x.2
      | _ => .skip
    | none => .skip
  | none => .skip
def oneLoop (P : Program) (f : FuncId) (b : Nat) : Bool :=
  match P.funcs[f]? with
  | some fn => match fn.body with
    | some c => match (loopsIn 0 c).filter (fun x => Nat.beq x.1 b) with
      | [_] => true
      | _ => false
    | none => false
  | none => false

def ItemOk (P : Program) : Item → Prop
  | .fn f ps rs spec => MeetsT P f ps rs spec
  | .loop f b T exits L => oneLoop P f b = true ∧ ∀ x e, L x = some e → ∃ ex s1, (outE exits e).at' = some (ex, s1) ∧ LoopTo P (bodyOf P f b) (T.st x) ex s1

theorem outPar_at {α : Type} {q : Par} {x : q.T} {k : CV → Out α} : (outPar q x k).at' = (k (q.cv x)).at' := by
  cases q with
  | ptr s => cases x <;> rfl
  | _ => rfl
theorem outGo_at {α : Type} : ∀ {l : List Par} {x : Pars l} {k : List CV → Out α}, (outGo l x k).at' = (k (cvs l x)).at'
  | [], _, _ => rfl
  | [q], x, k => outPar_at
  | q :: r :: l, x, k => by rw [outGo, outPar_at, outGo_at]; rfl
theorem outRV_at {rs : List Par} {y : Pars rs} : (outRV rs y).at' = some (rvOf rs y) := by rw [outRV, outGo_at]; rfl

section
variable {P : Program}

theorem fnsOf_ok : ∀ {l : List Item}, (∀ q ∈ l, ItemOk P q) → ∀ f args g rv, fnsOf l f args = some g → g.at' = some rv → Meets P f args rv
  | [], _, f, args, g, rv, h, _ => by cases h
  | .loop g' b T exits L :: l, hl, f, args, g, rv, h, hg => fnsOf_ok (l := l) (fun q hq => hl q (List.mem_cons_of_mem _ hq)) f args g rv h hg
  | .fn g' ps rs spec :: l, hl, f, args, g, rv, h, hg => by
    have hrest := fnsOf_ok (l := l) (fun q hq => hl q (List.mem_cons_of_mem _ hq)) f args g rv
    have hme : MeetsT P g' ps rs spec := hl _ List.mem_cons_self
    unfold fnsOf at h
    cases hf : Nat.beq f g' with
    | false => rw [hf, cond_false] at h; exact hrest h hg
    | true =>
      rw [hf, cond_true] at h
      obtain rfl := Nat.eq_of_beq_eq_true hf
      split at h
      · rename_i x hx
        split at hx
        · rename_i ho
          obtain rfl := Option.some.inj h
          simp only [Out.at'] at hg
          cases hs : spec x with
          | none => rw [hs] at hg; cases hg
          | some y =>
            rw [hs] at hg
            simp only [optE, outRV_at] at hg
            obtain rfl := Option.some.inj hg
            intro w p vs hp hargs
            exact hme x y hs w p vs hp (decs_ok ho hx hargs).1
        · cases hx
      · exact hrest h hg

theorem loopsIn_sub : ∀ {c : Code} {b b' : Nat} {x : Code}, (b', x) ∈ loopsIn b c → ∀ y ∈ loopsIn b' x, y ∈ loopsIn b c := by
  intro c
  induction c with
  | seq c d ihc ihd =>
    intro b b' x h y hy
    simp only [loopsIn, List.mem_append] at h ⊢
    exact h.imp (fun h => ihc h y hy) (fun h => ihd h y hy)
  | cond c d e ihc ihd =>
    intro b b' x h y hy
    simp only [loopsIn, List.mem_append] at h ⊢
    exact h.imp (fun h => ihc h y hy) (fun h => ihd h y hy)
  | block id d ih =>
    intro b b' x h y hy
    simp only [loopsIn] at h ⊢
    exact ih h y hy
  | loop d ih =>
    intro b b' x h y hy
    simp only [loopsIn, List.mem_cons] at h ⊢
    rcases h with h | h
    · obtain ⟨rfl, rfl⟩ := Prod.mk.inj h
      exact .inr hy
    · exact .inr (ih h y hy)
  | _ => intro b b' x h; simp [loopsIn] at h

theorem bodyOf_in {f : FuncId} {b : Nat} (h : oneLoop P f b = true) {fn : Func} {c : Code} (hf : P.funcs[f]? = some fn) (hb : fn.body = some c) : (b, bodyOf P f b) ∈ loopsIn 0 c ∧ ∀ x, (b, x) ∈ loopsIn 0 c → x = bodyOf P f b := by
  unfold oneLoop at h
  rw [hf] at h
  simp only [hb] at h
  unfold bodyOf
  rw [hf]
  simp only [hb]
  split at h
  · rename_i y hy
    have hm : y ∈ (loopsIn 0 c).filter (fun x => Nat.beq x.1 b) := by rw [hy]; simp
    obtain ⟨h1, h2⟩ := List.mem_filter.1 hm
    have h2 := Nat.eq_of_beq_eq_true h2
    refine ⟨by rw [← h2]; exact h1, fun x hx => ?_⟩
    have hm2 : (b, x) ∈ (loopsIn 0 c).filter (fun x => Nat.beq x.1 b) := List.mem_filter.2 ⟨hx, by simp⟩
    rw [hy, List.mem_singleton] at hm2
    rw [← hm2]
  · cases h

theorem fit_ok : ∀ {l : List Item}, (∀ q ∈ l, ItemOk P q) → ∀ f fn c, P.funcs[f]? = some fn → fn.body = some c → ∀ b x, (b, x) ∈ loopsIn 0 c → ∀ s ex s', (fit l f b s).at' = some (ex, s') → LoopTo P x s ex s'
  | [], _, f, fn, c, hf, hc, b', x, hx, s, ex, s', hs => by cases hs
  | .fn g' ps rs spec :: l, hl, f, fn, c, hf, hc, b', x, hx, s, ex, s', hs => fit_ok (l := l) (fun q hq => hl q (List.mem_cons_of_mem _ hq)) f fn c hf hc b' x hx s ex s' hs
  | .loop g' b T exits L :: l, hl, f, fn, c, hf, hc, b', x, hx, s, ex, s', hs => by
    have hrest := fun hs => fit_ok (l := l) (fun q hq => hl q (List.mem_cons_of_mem _ hq)) f fn c hf hc b' x hx s ex s' hs
    obtain ⟨hone, hme⟩ : ItemOk P (.loop g' b T exits L) := hl _ List.mem_cons_self
    unfold fit at hs
    cases hb : Nat.beq f g' && Nat.beq b' b with
    | false => rw [hb, cond_false] at hs; exact hrest hs
    | true =>
      rw [hb, cond_true] at hs
      simp only [Bool.and_eq_true] at hb
      obtain rfl := Nat.eq_of_beq_eq_true hb.1
      obtain rfl := Nat.eq_of_beq_eq_true hb.2
      have hxb := (bodyOf_in hone hf hc).2 x hx
      subst hxb
      split at hs
      · rename_i y hy
        simp only [Out.at'] at hs
        cases he : L y with
        | none => rw [he] at hs; cases hs
        | some e =>
          rw [he] at hs
          simp only [optE] at hs
          obtain ⟨ex1, s1, h1, h2⟩ := hme y e he
          rw [h1] at hs
          obtain ⟨rfl, rfl⟩ := Prod.mk.inj (Option.some.inj hs)
          obtain ⟨n, h2⟩ := h2
          exact ⟨n, fun B0 w0 a w hr Q hq => h2 B0 w0 a w (Tmpl.decM_rel hy hr) Q hq⟩
      · exact hrest hs

theorem loopsOf_ok {l : List Item} (hl : ∀ q ∈ l, ItemOk P q) (f : FuncId) (fn : Func) (c : Code) (hf : P.funcs[f]? = some fn) (hc : fn.body = some c) : LoopsOk P (loopsOf l f) 0 c := fun b' x hx F hF s ex s' hs => by
  unfold loopsOf at hF
  cases hh : hasLoop l f b' with
  | false => rw [hh] at hF; cases hF
  | true =>
    rw [hh, cond_true] at hF
    obtain rfl := Option.some.inj hF
    exact fit_ok hl f fn c hf hc b' x hx s ex s' hs

theorem know_ok {l : List Item} (h : ∀ q ∈ l, ItemOk P q) : KnowOk P (know l) := ⟨fnsOf_ok h, loopsOf_ok h⟩

theorem know_loops {l : List Item} (h : ∀ q ∈ l, ItemOk P q) (f : FuncId) (b : Nat) (hone : oneLoop P f b = true) : LoopsOk P ((know l).loops f) b (bodyOf P f b) := by
  cases hf : P.funcs[f]? with
  | none => unfold oneLoop at hone; rw [hf] at hone; cases hone
  | some fn =>
    cases hc : fn.body with
    | none => unfold oneLoop at hone; rw [hf] at hone; simp only [hc] at hone; cases hone
    | some c =>
      have h0 := loopsOf_ok h f fn c hf hc
      intro b' x hx
      exact h0 b' x (loopsIn_sub (bodyOf_in hone hf hc).1 _ hx)

/-- A loop's item, out of one round. -/
theorem item_loop {l : List Item} (hns : NoSpecial P) (hm : P.follows .mixedOrders = true) (hl : ∀ q ∈ l, ItemOk P q) {f : FuncId} {b U n : Nat} {T : Tmpl} {exits : List (Ex × Tmpl)} {step : T.D → Option (T.D ⊕ ExT exits)} (hone : oneLoop P f b = true)
    (h : ∀ x, exec P _ (evalK P _ (know l) U n) ((know l).loops f) U b (bodyOf P f b) (T.st x) (kRound T exits) = step x) : ItemOk P (.loop f b T exits (loopVal step)) :=
  ⟨hone, loop_ok fun x _ hr => round_ok hns hm (know_ok hl) (know_loops hl f b hone) ((h x).trans hr)⟩

/-- A function's item, out of the evaluator's answer. -/
theorem item_fn {l : List Item} (hns : NoSpecial P) (hm : P.follows .mixedOrders = true) (hl : ∀ q ∈ l, ItemOk P q) {f : FuncId} {U n : Nat} {ps rs : List Par} {spec : Pars ps → Option (Pars rs)}
    (h : ∀ x, evalK P (Pars rs) (know l) U n f (cvs ps x) (canonK rs) = spec x) : ItemOk P (.fn f ps rs spec) :=
  meetsT_of_eval hns hm (know_ok hl) h

theorem item_imp {f : FuncId} {ps rs : List Par} {spec spec' : Pars ps → Option (Pars rs)} (h : ItemOk P (.fn f ps rs spec)) (hs : ∀ x y, spec' x = some y → spec x = some y) : ItemOk P (.fn f ps rs spec') := MeetsT.imp h hs
theorem item_loop_imp {f : FuncId} {b : Nat} {T : Tmpl} {exits : List (Ex × Tmpl)} {L L' : T.D → Option (ExT exits)} (h : ItemOk P (.loop f b T exits L)) (hs : ∀ x y, L' x = some y → L x = some y) : ItemOk P (.loop f b T exits L') :=
  ⟨h.1, fun x e he => h.2 x e (hs x e he)⟩

theorem items_cons {q : Item} {l : List Item} (h : ItemOk P q) (hl : ∀ q ∈ l, ItemOk P q) : ∀ r ∈ q :: l, ItemOk P r := fun r hr => by
  rcases List.mem_cons.1 hr with rfl | hr
  · exact h
  · exact hl r hr
theorem items_nil : ∀ r ∈ ([] : List Item), ItemOk P r := fun r hr => by cases hr

/-! ### Laws -/

def okAll : (l : List Sh) → Pars (l.map Par.d) → Prop
  | [], _ => True
  | [s], x => s.ok x
  | s :: r :: l, x => s.ok x.1 ∧ okAll (r :: l) x.2

theorem typed_cvs : ∀ {l : List Sh} {cs : List CV}, Typed l cs → ∃ x : Pars (l.map Par.d), cs = cvs (l.map Par.d) x ∧ okAll l x
  | [], [], _ => ⟨(), rfl, trivial⟩
  | [], _ :: _, h => h.elim
  | [s], [c], ⟨⟨y, e, h⟩, _⟩ => ⟨y, by rw [e]; rfl, h⟩
  | [s], [], h => h.elim
  | [s], _ :: _ :: _, ⟨_, h⟩ => h.elim
  | s :: r :: l, [], h => h.elim
  | s :: r :: l, c :: cs, ⟨⟨y, e, h⟩, h2⟩ => by
    obtain ⟨x, h3, h4⟩ := typed_cvs h2
    exact ⟨(y, x), by rw [e, h3]; rfl, h, h4⟩

/-- A LAW, out of its specification on typed data. -/
theorem law_of_spec {g : FuncId} {shs : List Sh} {spec : Pars (shs.map Par.d) → Option Bool} (h : ItemOk P (.fn g (shs.map Par.d) [.d .bool] spec)) (hs : ∀ x, okAll shs x → spec x = some true) : ∀ cs, Typed shs cs → Meets P g cs saysTrue := fun cs hcs => by
  obtain ⟨x, rfl, hx⟩ := typed_cvs hcs
  exact h x true (hs x hx)
end
end Go.Ev
