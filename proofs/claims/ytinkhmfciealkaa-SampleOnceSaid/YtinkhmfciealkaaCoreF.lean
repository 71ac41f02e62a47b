/- The verified evaluator: code, functions, laws. -/
import Derived.Test.YtinkhmfciealkaaCoreE
import Derived.LoopN
import Derived.Carry
import Derived.RowKit
import Derived.ProofKit
import Derived.OpenShut
set_option linter.unusedSimpArgs false

/- Code and functions: what the evaluator says is what the model does. -/
namespace Go.Ev
open Go.RowKit

def Ex.to : Ex → Exit
  | .normal => .normal
  | .exit id => .exit id
  | .ret => .ret

def RunsTo (P : Program) (c : Code) (s : PS) (ex : Ex) (s' : PS) : Prop :=
  ∀ B0 w0 a w, Rel B0 w0 s a w → ∀ Q : Exit → Act → World → Prop, (∀ a' w', Rel B0 w0 s' a' w' → Q ex.to a' w') → c.wp P Q a w

/-- A loop comes to an end, after so many rounds. -/
def LoopTo (P : Program) (x : Code) (s : PS) (ex : Ex) (s' : PS) : Prop :=
  ∃ n, ∀ B0 w0 a w, Rel B0 w0 s a w → ∀ Q : Exit → Act → World → Prop, (∀ a' w', Rel B0 w0 s' a' w' → Q ex.to a' w') → Code.rounds P x Q n a w

section
variable {P : Program} {x y : Code} {s s1 s' : PS} {ex : Ex}

theorem LoopTo.runs (h : LoopTo P x s ex s') : RunsTo P (.loop x) s ex s' := fun B0 w0 a w hr Q hq => by
  obtain ⟨n, h⟩ := h
  exact wp_loop_rounds n (h B0 w0 a w hr Q hq)

theorem LoopTo.next (h1 : RunsTo P x s .normal s1) (h2 : LoopTo P x s1 ex s') : LoopTo P x s ex s' := by
  obtain ⟨n, h2⟩ := h2
  refine ⟨n + 1, fun B0 w0 a w hr Q hq => ?_⟩
  rw [rounds_succ]
  exact h1 B0 w0 a w hr _ fun a' w' hr' => h2 B0 w0 a' w' hr' Q hq

theorem LoopTo.last (h1 : RunsTo P x s ex s') (he : ex ≠ .normal) : LoopTo P x s ex s' := by
  refine ⟨1, fun B0 w0 a w hr Q hq => ?_⟩
  rw [rounds_succ]
  refine h1 B0 w0 a w hr _ fun a' w' hr' => ?_
  cases ex with
  | normal => exact absurd rfl he
  | exit id => exact hq a' w' hr'
  | ret => exact hq a' w' hr'
end

/-- What a summary says, where its tests are decided. -/
def Out.at' {α : Type} : Out α → Option α
  | .no => none
  | .done x => some x
  | .br b x y => bif b then x.at' else y.at'
  | .alt o f g => optE o (fun x => (f x).at') g.at'
  | .sum o f g => sumE o (fun x => (f x).at') (fun x => (g x).at')

theorem Out.run_at {α R : Type} : ∀ {o : Out α} {k : α → Option R} {r : R}, o.run k = some r → ∃ x, o.at' = some x ∧ k x = some r
  | .no, _, _, h => by cases h
  | .done x, _, _, h => ⟨x, rfl, h⟩
  | .br b x y, k, r, h => by
    cases b
    · exact Out.run_at (o := y) h
    · exact Out.run_at (o := x) h
  | .alt o f g, k, r, h => by
    cases o with
    | none => exact Out.run_at (o := g) h
    | some x => exact Out.run_at (o := f x) h
  | .sum o f g, k, r, h => by
    cases o with
    | inl x => exact Out.run_at (o := f x) h
    | inr x => exact Out.run_at (o := g x) h

/-- The loops of a code, each with the block around it. -/
def loopsIn : Nat → Code → List (Nat × Code)
  | b, .seq x y => loopsIn b x ++ loopsIn b y
  | b, .cond _ x y => loopsIn b x ++ loopsIn b y
  | _, .block id x => loopsIn id x
  | b, .loop x => (b, x) :: loopsIn b x
  | _, _ => []

def LoopsOk (P : Program) (loops : Nat → Option (PS → Out (Ex × PS))) (b : Nat) (c : Code) : Prop :=
  ∀ b' x, (b', x) ∈ loopsIn b c → ∀ F, loops b' = some F → ∀ s ex s', (F s).at' = some (ex, s') → LoopTo P x s ex s'

section
variable {P : Program} {R : Type} {call : CallK R} {loops : Nat → Option (PS → Out (Ex × PS))} {U : Nat}

theorem rounds_ok {x : Code} {body : PS → Cont R → Option R} (hb : ∀ s k r, body s k = some r → ∃ ex s', k ex s' = some r ∧ RunsTo P x s ex s') : ∀ {n : Nat} {s : PS} {k : Cont R} {r : R}, rounds R body n s k = some r →
    ∃ ex s', k ex s' = some r ∧ LoopTo P x s ex s'
  | 0, s, k, r, h => by cases h
  | n + 1, s, k, r, h => by
    unfold rounds at h
    obtain ⟨ex, s1, h1, h2⟩ := hb _ _ _ h
    cases ex with
    | normal =>
      obtain ⟨ex, s', h3, h4⟩ := rounds_ok hb h1
      exact ⟨ex, s', h3, h4.next h2⟩
    | exit id => exact ⟨_, s1, h1, .last h2 (by simp)⟩
    | ret => exact ⟨_, s1, h1, .last h2 (by simp)⟩

theorem exec_ok (hns : NoSpecial P) (hm : P.follows .mixedOrders = true) (hcall : CallOk P R call) : ∀ (c : Code) (b : Nat) (s : PS) (k : Cont R) (r : R), LoopsOk P loops b c → exec P R call loops U b c s k = some r →
    ∃ ex s', k ex s' = some r ∧ RunsTo P c s ex s' := by
  intro c
  induction c with
  | skip => exact fun b s k r _ h => ⟨.normal, s, h, fun _ _ a w hr Q hq => wp_skip (hq a w hr)⟩
  | region id ops draw =>
    intro b s k r _ h
    simp only [exec] at h
    cases draw with
    | true =>
      simp only [if_true] at h
      split at h
      · rename_i hd
        obtain ⟨s', h1, h2⟩ := draw_ok hns hm hcall rfl hd h
        exact ⟨.normal, s', h1, fun B0 w0 a w hr Q hq => h2 B0 w0 a w hr Q id hq⟩
      · cases h
    | false =>
      obtain ⟨s', h1, h2⟩ := runOps_ok hns hcall (k := fun s => k .normal s) h
      exact ⟨.normal, s', h1, fun B0 w0 a w hr Q hq => wp_region_list (h2 B0 w0 a w hr Q hq)⟩
  | seq x y ihx ihy =>
    intro b s k r hl h
    simp only [exec] at h
    obtain ⟨ex, s1, h1, h2⟩ := ihx b s _ r (fun b' z hz => hl b' z (by simp [loopsIn, hz])) h
    cases ex with
    | normal =>
      obtain ⟨ex, s', h3, h4⟩ := ihy b s1 _ r (fun b' z hz => hl b' z (by simp [loopsIn, hz])) h1
      exact ⟨ex, s', h3, fun B0 w0 a w hr Q hq => wp_seq (h2 B0 w0 a w hr _ fun a' w' hr' => h4 B0 w0 a' w' hr' Q hq)⟩
    | exit id => exact ⟨_, s1, h1, fun B0 w0 a w hr Q hq => wp_seq (h2 B0 w0 a w hr _ fun a' w' hr' => hq a' w' hr')⟩
    | ret => exact ⟨_, s1, h1, fun B0 w0 a w hr Q hq => wp_seq (h2 B0 w0 a w hr _ fun a' w' hr' => hq a' w' hr')⟩
  | cond c x y ihx ihy =>
    intro b s k r hl h
    simp only [exec] at h
    split at h
    · rename_i t
      split at h
      · rename_i q hq
        cases q with
        | true =>
          obtain ⟨ex, s', h1, h2⟩ := ihx b _ _ r (fun b' z hz => hl b' z (by simp [loopsIn, hz])) h
          exact ⟨ex, s', h1, fun B0 w0 a w hr Q hQ => by
            obtain ⟨β, p, inv⟩ := hr
            exact wp_cond_true (ev_bool inv hq) (h2 B0 w0 a w (rel_setBool ⟨β, p, inv⟩ hq) Q hQ)⟩
        | false =>
          obtain ⟨ex, s', h1, h2⟩ := ihy b _ _ r (fun b' z hz => hl b' z (by simp [loopsIn, hz])) h
          exact ⟨ex, s', h1, fun B0 w0 a w hr Q hQ => by
            obtain ⟨β, p, inv⟩ := hr
            exact wp_cond_false (ev_bool inv hq) (h2 B0 w0 a w (rel_setBool ⟨β, p, inv⟩ hq) Q hQ)⟩
      · cases h
    · cases h
  | block id x ih =>
    intro b s k r hl h
    simp only [exec] at h
    obtain ⟨ex, s1, h1, h2⟩ := ih id s _ r (fun b' z hz => hl b' z (by simp [loopsIn, hz])) h
    cases ex with
    | normal => exact ⟨.normal, s1, h1, fun B0 w0 a w hr Q hq => wp_block (h2 B0 w0 a w hr _ fun a' w' hr' => hq a' w' hr')⟩
    | ret => exact ⟨.ret, s1, h1, fun B0 w0 a w hr Q hq => wp_block (h2 B0 w0 a w hr _ fun a' w' hr' => hq a' w' hr')⟩
    | exit id' =>
      simp only [] at h1
      split at h1
      · rename_i e
        exact ⟨.normal, s1, h1, fun B0 w0 a w hr Q hq => wp_block (h2 B0 w0 a w hr _ fun a' w' hr' => by
          show if id' = id then _ else _
          rw [if_pos e]; exact hq a' w' hr')⟩
      · rename_i e
        exact ⟨.exit id', s1, h1, fun B0 w0 a w hr Q hq => wp_block (h2 B0 w0 a w hr _ fun a' w' hr' => by
          show if id' = id then _ else _
          rw [if_neg e]; exact hq a' w' hr')⟩
  | loop x ih =>
    intro b s k r hl h
    simp only [exec] at h
    split at h
    · rename_i F hF
      obtain ⟨⟨ex, s'⟩, h1, h2⟩ := Out.run_at h
      exact ⟨ex, s', h2, (hl b x (by simp [loopsIn]) F hF s ex s' h1).runs⟩
    · obtain ⟨ex, s', h1, h2⟩ := rounds_ok (P := P) (x := x) (fun s k r h => ih b s k r (fun b' z hz => hl b' z (by simp [loopsIn, hz])) h) h
      exact ⟨ex, s', h1, h2.runs⟩
  | exit id => exact fun b s k r _ h => ⟨.exit id, s, h, fun _ _ a w hr Q hq => wp_exit (hq a w hr)⟩
  | label l => exact fun b s k r _ h => ⟨.normal, s, h, fun _ _ a w hr Q hq => wp_label (hq a w hr)⟩
  | ret => exact fun b s k r _ h => ⟨.ret, s, h, fun _ _ a w hr Q hq => wp_ret (hq a w hr)⟩
  | _ => intro b s k r _ h; simp [exec] at h
end
end Go.Ev

/- Functions: entered, carried out, left. -/
namespace Go.Ev
open Go.RowKit

theorem get_enterArgs : ∀ (vs : List CV) (i : Nat) (m : M SV) (t : Nat), i + vs.length ≤ 4000 → (enterArgs i vs m).get t = if i ≤ t then (match vs[t - i]? with | some v => some (.c v) | none => m.get t) else m.get t
  | [], i, m, t, _ => by simp [enterArgs]
  | v :: vs, i, m, t, h => by
    simp only [List.length_cons] at h
    rw [enterArgs, get_enterArgs vs (i + 1) _ t (by omega), M.get_set _ 12 m i t (by omega)]
    by_cases h1 : t = i
    · subst h1
      rw [if_neg (by omega), if_pos rfl, if_pos (Nat.le_refl _), Nat.sub_self]
      rfl
    · by_cases h2 : i + 1 ≤ t
      · rw [if_pos h2, if_neg h1, if_pos (by omega)]
        have : t - i = (t - (i + 1)) + 1 := by omega
        rw [this, List.getElem?_cons_succ]
      · rw [if_neg h2, if_neg h1, if_neg (by omega)]

section
variable {P : Program}

theorem enter_ok {fn : Func} {args : List CV} {w : World} {p : Nat → Prop} {vs : Array Value} (hl : args.length ≤ fn.ntmps) (hn : fn.ntmps ≤ 4000) (hp : ∀ b, p b → b < w.heap.size)
    (h : RepCs w p (fun _ => none) (fun _ => .free) args vs.toList) :
    Inv w.heap.size ⟨w, p⟩ (fun _ => none) p (enter fn args) { tmps := vs ++ Array.replicate (fn.ntmps - vs.size) undef, defers := [] } w := by
  have hvs : vs.size = args.length := by rw [h.1]; simp
  have hblk : ∀ t, (enter fn args).blk t = .free := fun t => rfl
  refine ⟨?_, hn, rfl, Below.refl _ _, Nat.le_refl _, fun b hb => ⟨hp b hb, fun t r hr => (by cases hr)⟩, fun b hb => .inl hb, fun t u r q b h1 => (by cases h1), fun t => hblk t, fun t v ht => ?_⟩
  · show (vs ++ Array.replicate (fn.ntmps - vs.size) undef).size = fn.ntmps
    rw [Array.size_append, Array.size_replicate, hvs]
    omega
  · have hg : (enter fn args).get t = match args[t]? with | some v => .c v | none => undefS := by
      unfold PS.get enter
      simp only [get_enterArgs args 0 .e t (by omega), Nat.zero_le, if_true, Nat.sub_zero]
      cases args[t]? <;> rfl
    rw [hg]
    by_cases hlt : t < args.length
    · have hv : vs.toList[t]? = some v := by
        rw [Array.getElem?_toList]
        have : (vs ++ Array.replicate (fn.ntmps - vs.size) undef)[t]? = some v := ht
        rwa [Array.getElem?_append_left (by omega)] at this
      rw [List.getElem?_eq_getElem hlt]
      exact h.2 t _ v (List.getElem?_eq_getElem hlt) hv
    · rw [List.getElem?_eq_none (by omega)]
      trivial

variable {s : PS} {B0 : Nat} {w0 : Base} {β : Nat → Option Value} {p : Nat → Prop} {a : Act} {w : World}

def resVal (a : Act) : ResultVar → Sem Value
  | .tmp t => pure (a.tmps.getD t undef)
  | .cell t T => do loadVar T (← asAddr (a.tmps.getD t undef))

/-- What a result variable holds. -/
theorem resultVar_ok (inv : Inv B0 w0 β p s a w) {r : ResultVar} {c : CV} (h : resultVar P s r = some c) :
    ∃ v, (resVal a r).run P w = .ok v w ∧ RepC w p β s.blk c v := by
  unfold resultVar at h
  split at h
  · rename_i t
    split at h
    · rename_i v hv
      obtain rfl := Option.some.inj h
      have := ev_ok inv (.tmp t)
      rw [hv] at this
      exact ⟨_, rfl, this⟩
    · cases h
  · rename_i t T
    split at h
    · rename_i u sz i off hv
      have hx := ev_ok inv (.tmp t)
      rw [hv] at hx
      obtain ⟨r, b, hr, hb, ex, hok⟩ := hx
      have ex : a.tmps.getD t undef = .pointer (some ⟨b, i * sz + off, none⟩) := ex
      simp only [resVal, ex, asAddr]
      split at h
      · rename_i cs hs
        rw [hs] at hok
        obtain ⟨vs, U, _, _, hh, hl⟩ := inv.cellsAt hr hb hs
        obtain ⟨v, h1, h2⟩ := load_ok (P := P) (T := T) (b := b) (base := 0) hl (fun j _ => by rw [Nat.zero_add]; exact cell_of hh) h
        refine ⟨v, ?_, h2⟩
        have e : i * sz + off = 0 + off := by rw [show sz = 0 from hok, Nat.mul_zero]
        rw [e]
        simpa using h1
      · rename_i e xs hs
        split at h
        · rename_i hc
          obtain ⟨hsz, hi, hoff, ha, hu, h1⟩ := hc
          obtain rfl := Option.some.inj h
          obtain ⟨d, hu⟩ := Option.isSome_iff_exists.1 hu
          obtain ⟨us, he, hrow, hcl⟩ := inv.rowsAt hr hb (.inr hs)
          have hcs := rows_cells (β := β) (H := s.blk) hrow
          have hv : partOf P T (xs.flatMap e.cells) 0 = some (.agg (((xs.flatMap e.cells).drop 0).take (P.cellsOf T))) := by
            unfold partOf
            rw [hu]
            simp only []
            rw [if_pos ha, if_pos (by rw [hcs.1, hrow.1, h1]; omega)]
          have hfull : ((xs.flatMap e.cells).drop 0).take (P.cellsOf T) = xs.flatMap e.cells := by
            rw [List.drop_zero, List.take_of_length_le (by rw [hcs.1, hrow.1, h1]; omega)]
          rw [hfull] at hv
          obtain ⟨u, hru, cu⟩ := load_ok (P := P) (T := T) (b := b) (base := 0) hcs (fun j hj => by rw [Nat.zero_add]; exact hcl j hj) hv
          refine ⟨u, ?_, cu⟩
          have hz : i * sz + off = 0 + 0 := by rw [hsz, hoff, Nat.mul_zero]
          rw [hz]
          simpa using hru
        · cases h
      · cases h
    · cases h

theorem resultVars_ok (inv : Inv B0 w0 β p s a w) : ∀ {rs : List ResultVar} {cs : List CV}, resultVars P s rs = some cs →
    ∃ vs, (rs.mapM (m := Sem) (resVal a)).run P w = .ok vs w ∧ RepCs w p β s.blk cs vs
  | [], cs, h => by
    obtain rfl := Option.some.inj h
    exact ⟨[], rfl, repCs_nil⟩
  | r :: rs, cs, h => by
    unfold resultVars at h
    split at h
    · rename_i v vs hv hvs
      obtain rfl := Option.some.inj h
      obtain ⟨u, h1, h2⟩ := resultVar_ok inv hv
      obtain ⟨us, h3, h4⟩ := resultVars_ok inv hvs
      refine ⟨u :: us, ?_, repCs_cons h2 h4⟩
      rw [List.mapM_cons, Sem.run_bind, h1]
      simp only [Result.andThen_ok, Sem.run_bind, h3, Sem.run_pure]
    · cases h

theorem results_ok (inv : Inv B0 w0 β p s a w) {fn : Func} {cs : List CV} (h : resultVars P s fn.results.toList = some cs) :
    ∃ vs v, (results fn a.tmps).run P w = .ok v w ∧ RepCs w p β s.blk cs vs ∧ ∀ (w' : World) (p' : Nat → Prop) (β' : Nat → Option Value) (H' : Nat → Blk) (cs' : List CV), RepCs w' p' β' H' cs' vs → RepS w' p' β' H' (mkSV cs') v := by
  obtain ⟨vs, h1, h2⟩ := resultVars_ok inv h
  have hm : (fn.results.mapM (m := Sem) (resVal a)).run P w = .ok vs.toArray w := by
    rw [Array.mapM_eq_mapM_toList, Sem.run_map, h1]; rfl
  have hr : (results fn a.tmps).run P w = .ok (if h : vs.toArray.size = 1 then vs.toArray[0] else .tuple vs.toArray) w := by
    show (do let vs ← fn.results.mapM (m := Sem) (resVal a); pure (if h : vs.size = 1 then vs[0] else .tuple vs) : Sem Value).run P w = _
    rw [Sem.run_bind, hm]; rfl
  refine ⟨vs, _, hr, h2, fun w' p' β' H' cs' h3 => ?_⟩
  cases vs with
  | nil =>
    have : cs' = [] := List.eq_nil_of_length_eq_zero h3.1
    subst this
    exact ⟨#[], rfl, repCs_nil⟩
  | cons v vs =>
    cases vs with
    | nil =>
      obtain ⟨c, rfl⟩ : ∃ c, cs' = [c] := by
        have := h3.1
        match cs', this with
        | [c], _ => exact ⟨c, rfl⟩
      exact h3.2 0 c v rfl rfl
    | cons u vs =>
      have := h3.1
      match cs', this with
      | c :: d :: cs', _ => exact ⟨(v :: u :: vs).toArray, by simp, h3⟩

theorem snap_to {q : Nat → Prop} {β' : Nat → Option Value} {H' : Nat → Blk} {cs : List CV} {vs : List Value} (hall : cs.all (fun v => v.all fun x => !x.behind) = true) (h : RepCs w q (fun _ => none) (fun _ => .free) cs vs) : RepCs w p β' H' cs vs :=
  RepCs.imp (fun x => !x.behind) (fun c v hc h => RepL.keep (p := p) ⟨fun b hb => ⟨hb, rfl⟩, fun _ _ h => (by cases h), fun _ h => (by cases h)⟩ (RepL.nb (by simpa using hc) h)) hall h

theorem relocOwn_ok (inv : Inv B0 w0 β p s a w) {t : Nat} {r : Value} (hr : β t = some r) {β' : Nat → Option Value} {H' : Nat → Blk} (h0 : β' 0 = some r) (hH : H' 0 = s.blk t) (hbuf : (s.blk t).isBuf) : ∀ {cs cs' : List CV} {vs : List Value},
    RepCs w p β s.blk cs vs → relocOwn s t cs = some cs' → RepCs w p β' H' cs' vs
  | [], cs', vs, hc, h => by
    unfold relocOwn at h
    obtain rfl := Option.some.inj h
    have : vs = [] := List.eq_nil_of_length_eq_zero hc.1.symm
    subst this; exact repCs_nil
  | c :: cs, cs', vs, hc, h => by
    unfold relocOwn at h
    obtain ⟨v, us, rfl, h1, h2⟩ := hc.uncons
    split at h
    · rename_i e; cases e
    · rename_i u r' e
      obtain ⟨rfl, rfl⟩ := List.cons.inj e
      split at h
      · rename_i ht
        subst ht
        split at h
        · rename_i l hl
          split at h
          · rename_i hall
            obtain rfl := Option.some.inj h
            refine repCs_cons ?_ (snap_to hall (snapCs_ok inv (.heap inv) h2 hl))
            obtain ⟨g1, g2, g3⟩ := h1
            rw [hr] at g1
            obtain rfl := Option.some.inj g1
            exact ⟨h0, by rw [hH]; exact hbuf, g3⟩
          · cases h
        · cases h
      · cases h
    · rename_i v' r' _ e
      obtain ⟨rfl, rfl⟩ := List.cons.inj e
      split at h
      · rename_i hall
        split at h
        · rename_i l hl
          obtain rfl := Option.some.inj h
          refine repCs_cons (RepC.imp (fun x => x.pure && !x.behind) (fun c v hc h => ?_) hall h1) (relocOwn_ok inv hr h0 hH hbuf h2 hl)
          simp only [Bool.and_eq_true] at hc
          exact RepL.pure hc.1 h
        · cases h
      · cases h

theorem ownOf_buf : ∀ {cs : List CV} {t : Nat}, ownOf s cs = some t → (s.blk t).isBuf
  | [], t, h => by cases h
  | c :: cs, t, h => by
    unfold ownOf at h
    split at h
    · rename_i e; cases e
    · split at h
      · rename_i e; cases h; rw [e]; trivial
      · cases h
    · rename_i e
      obtain ⟨rfl, rfl⟩ := List.cons.inj e
      exact ownOf_buf h

/-- What a function gives back. -/
theorem resultOf_ok (inv : Inv B0 w0 β p s a w) {fn : Func} {rv : RV} (h : resultOf P s fn.results.toList = some rv) :
    ∃ v, (results fn a.tmps).run P w = .ok v w ∧ RepRV B0 w w0.p rv v := by
  unfold resultOf at h
  split at h
  · cases h
  rename_i cs hcs
  obtain ⟨vs, v, hrun, hrep, hmk⟩ := results_ok inv hcs
  refine ⟨v, hrun, ?_⟩
  have plain : ∀ l, snapCs s cs = some l → RepRV B0 w w0.p ⟨mkSV l, .free⟩ v := fun l hl =>
    ⟨fun b => (p b ∨ B0 ≤ b) ∧ b < w.heap.size, fun _ => none, fun b hb => ⟨hb.1.elim (inv.conf b) .inr, hb.2⟩, fun _ _ => rfl, rfl, by
      have := snapCs_ok inv (q := fun b => (p b ∨ B0 ≤ b) ∧ b < w.heap.size) ⟨fun b hb => ⟨.inl hb, (inv.shared b hb).1⟩, fun t r b hr hb => ⟨.inr ((inv.blk hr).root b hb).1, ((inv.blk hr).root b hb).2⟩⟩ hrep hl
      exact hmk _ _ _ _ _ (RepCs.keep ⟨fun b hb => ⟨hb, rfl⟩, fun _ _ h => (by cases h), fun _ h => (by cases h)⟩ this)⟩
  have plainO : ∀ rv, (match snapCs s cs with | some l => some (⟨mkSV l, .free⟩ : RV) | none => none) = some rv → RepRV B0 w w0.p rv v := by
    intro rv h
    split at h
    · rename_i l hl; obtain rfl := Option.some.inj h; exact plain l hl
    · cases h
  simp only [] at h
  split at h
  · rename_i t ht
    split at h
    · rename_i l hl
      obtain rfl := Option.some.inj h
      have hbuf := ownOf_buf ht
      obtain ⟨r, hr⟩ := inv.root_of (t := t) (by intro e; rw [e] at hbuf; exact hbuf)
      refine ⟨p, fun u => if u = 0 then some r else none, fun b hb => ⟨inv.conf b hb, (inv.shared b hb).1⟩, fun u hu => if_neg hu, ?_, ?_⟩
      · simp only [if_true]
        refine ⟨?_, fun b hb hp => (inv.shared b hp).2 t r hr hb⟩
        have := inv.blk hr
        cases hb : s.blk t <;> rw [hb] at hbuf <;> first | exact hbuf.elim | skip
        rw [hb] at this
        exact this
      · exact hmk _ _ _ _ _ (relocOwn_ok inv hr (by simp) (by simp) hbuf hrep hl)
    · exact plainO rv h
  · exact plainO rv h
end

/-! ### All functions -/

/-- What is known of functions and loops holds. -/
structure KnowOk (P : Program) (K : Know) : Prop where
  fns : ∀ f args g rv, K.fns f args = some g → g.at' = some rv → Meets P f args rv
  loops : ∀ f fn c, P.funcs[f]? = some fn → fn.body = some c → LoopsOk P (K.loops f) 0 c

theorem evalK_ok {P : Program} {R : Type} {K : Know} {U : Nat} (hns : NoSpecial P) (hm : P.follows .mixedOrders = true) (hK : KnowOk P K) : ∀ n, CallOk P R (evalK P R K U n)
  | 0, f, args, k, r, h => by
    unfold evalK at h
    split at h
    · rename_i g hg
      obtain ⟨rv, h1, h2⟩ := Out.run_at h
      exact ⟨rv, h2, hK.fns f args g rv hg h1⟩
    · cases h
  | n + 1, f, args, k, r, h => by
    unfold evalK at h
    split at h
    · rename_i g hg
      obtain ⟨rv, h1, h2⟩ := Out.run_at h
      exact ⟨rv, h2, hK.fns f args g rv hg h1⟩
    · split at h
      · rename_i fn hf
        split at h
        · rename_i c hb
          split at h
          · rename_i hlen
            obtain ⟨ex, s', h1, h2⟩ := exec_ok hns hm (evalK_ok hns hm hK n) c 0 _ _ r (hK.loops f fn c hf hb) h
            have main : ∀ rv, resultOf P s' fn.results.toList = some rv → (ex.to = .normal ∨ ex.to = .ret) → Meets P f args rv := by
              intro rv hrv hex w p vs hp hargs
              refine calls_of_wp hf hb (h2 _ _ _ _ ⟨_, _, enter_ok hlen.1 hlen.2 hp hargs⟩ _ fun a' w' hr => ?_)
              obtain ⟨β, p', inv⟩ := hr
              obtain ⟨v, hrun, hrep⟩ := resultOf_ok inv hrv
              rcases hex with hex | hex <;> rw [hex] <;> exact ⟨inv.defers, v, hrun, v, rfl, inv.ext, hrep⟩
            cases ex with
            | exit id => cases h1
            | normal =>
              simp only [] at h1
              split at h1
              · rename_i rv hrv; exact ⟨rv, h1, main rv hrv (.inl rfl)⟩
              · cases h1
            | ret =>
              simp only [] at h1
              split at h1
              · rename_i rv hrv; exact ⟨rv, h1, main rv hrv (.inr rfl)⟩
              · cases h1
          · cases h
        · cases h
      · cases h

/-- WHAT THE EVALUATOR SAYS OF A FUNCTION, THE MODEL DOES. -/
theorem meets_of_eval {P : Program} {K : Know} {U n : Nat} (hns : NoSpecial P) (hm : P.follows .mixedOrders = true) (hK : KnowOk P K) {f : FuncId} {args : List CV} {rv : RV} (h : evalK P RV K U n f args some = some rv) : Meets P f args rv := by
  obtain ⟨rv', h1, h2⟩ := evalK_ok hns hm hK n f args some rv h
  obtain rfl := Option.some.inj h1
  exact h2
end Go.Ev

/- From 'the law returns true and leaves old memory as it was' to what the row asks. -/
namespace Go.Ev
open Go.RowKit Go.ChangeShapes Go.WideShapes Go.ChangeAt

theorem trodAll_stays {H : Type} {enc : TypeId × Value → H} {P : Program} (hl : laidOutB P = true) {W W' : World} (hb : Below W.heap.size W W') {sp : Nat → Bool} : ∀ {ts : List TypeId} {vs : List Value} {ds : List (DataW H)} {ps : List MemPlace},
    (ts.all fun t => P.readableRec t && decide (t < P.types.size)) = true → DataW.TrodAll enc P W 0 (fun _ => true) true ts vs ds ps → (∀ x ∈ ps, x.block < W.heap.size) → (∀ x ∈ ps, sp x.block = true) → DataW.TrodAll enc P W' 0 sp true ts vs ds ps
  | [], vs, ds, ps, _, h, _, _ => by
    obtain ⟨rfl, rfl, rfl⟩ := trodAll_nil h
    exact trodAll_mk0
  | t :: ts, vs, ds, ps, ht, h, hlt, hsp => by
    obtain ⟨v, vs, d, ds, p, q, rfl, rfl, rfl, h1, h2⟩ := trodAll_cons h
    simp only [List.all_cons, Bool.and_eq_true, decide_eq_true_eq] at ht
    exact trodAll_cons_mk (WideElems.Trod_stays hl ht.1.1 ht.1.2 h1 (fun x hx => hb.same (hlt x (by simp [hx]))) (fun x hx => hsp x (by simp [hx])))
      (trodAll_stays hl hb ht.2 h2 (fun x hx => hlt x (by simp [hx])) (fun x hx => hsp x (by simp [hx])))

theorem post_true {H : Type} {enc : TypeId × Value → H} {P : Program} {f : Func} {s : ChangeSpec} {apart fresh handsOn again : Bool} {W W' : World} {args : Array Value} {ds gs : List (DataW H)} {before : List MemPlace} {tb : TypeId}
    (hl : laidOutB P = true) (hread : (f.params.toList.all fun t => P.readableRec t && decide (t < P.types.size)) = true) (hres : f.resultTypes = #[tb]) (hbool : P.underlying tb = some .bool) (hvars : s.vars = [])
    (hfn : s.fn H ds = { results := [.lit (.bool true)], args := ds }) (hW : DataW.Whole enc P f.params.toList s.vars apart W args.toList ds gs before) (hb : Below W.heap.size W W') : s.post enc P f apart fresh handsOn again W args (.bool true) W' := by
  have hW' := hW
  obtain ⟨p, q, hA, hV, hpq, hfz, hnd⟩ := hW
  rw [hvars] at hV
  obtain ⟨rfl, rfl⟩ := trodVars_none hV
  rw [List.append_nil] at hpq
  subst hpq
  have hfn' : s.fn H (ds ++ []) = { results := [.lit (.bool true)], args := ds } := by rw [List.append_nil]; exact hfn
  have hold : ∀ p ∈ before, (fun b => decide (b < W.heap.size)) p.block = true := fun p hp => by simpa using hW'.lt p hp
  have hres' : ∀ (b : Nat) (sp : Nat → Bool) (hd : Bool), DataW.TrodAll enc P W' b sp hd f.resultTypes.toList ((Value.bool true).resultList f.resultTypes.size) (s.fn H (ds ++ [])).results [] := fun b sp hd => by
    rw [hfn', hres]
    exact trodAll_mk1 (shut_bool hbool _)
  have hargs : ∀ sp : Nat → Bool, (∀ p ∈ before, sp p.block = true) → DataW.TrodAll enc P W' 0 sp true f.params.toList args.toList (s.fn H (ds ++ [])).args before := fun sp hsp => by
    rw [hfn']
    exact trodAll_stays hl hb hread hA (fun x hx => hW'.lt x hx) hsp
  have hvars' : ∀ sp : Nat → Bool, DataW.TrodVars enc P W' sp s.vars (s.fn H (ds ++ [])).vars [] := fun sp => by
    rw [hfn', hvars]
    rfl
  refine ⟨ds, [], before, [], before, [], hW', hres' _ _ _, hargs _ hold, hvars' _, World.keptBut_mono (fun p hp => ⟨hp, Or.inr (by simpa using hp)⟩) (hb.frame _), fun _ => ?_⟩
  refine ⟨ok_one hres rfl (okWide_bool_mk hbool _), _, _, ([] ++ before) ++ [], ⟨[] ++ before, [], trodAll_append (hargs _ (fun _ _ => rfl)) (hres' _ _ _), hvars' _, rfl, ?_, ?_⟩, ?_⟩
  · intro b off hp
    have hp' : MemPlace.cell b off ∈ before := by simpa using hp
    rw [World.frozen?_of_block (w := W) (hb.block b (hW'.lt _ hp'))]
    exact hfz b off hp'
  · intro ha
    simpa using hnd ha
  · intro p hp _
    simpa using hp
end Go.Ev

/- An argument that reads stands for typed data. -/
namespace Go.Ev
open Go.RowKit Go.ChangeShapes Go.WideShapes Go.ChangeAt

/-- What is known of data that came in: numbers are in their kind's range, lengths are Go's. -/
def Sh.ok : (s : Sh) → s.T → Prop
  | .int k, n => (Lit.int k n).wf = true
  | .bool, _ => True
  | .str, b => b.size ≤ maxLen
  | .zf, _ => True
  | .zc, _ => True
  | .slice e, xs => xs.length ≤ maxLen ∧ ∀ (i : Nat) (x : e.T), xs[i]? = some x → e.ok x
  | .map _ _, _ => True
  | .pair a b, x => a.ok x.1 ∧ b.ok x.2
  | .agg s, x => s.ok x
  | .unit, _ => True

def Sh.plain : Sh → Bool
  | .int _ | .bool | .str | .unit => true
  | .slice e => e.plain && Nat.blt 0 e.size
  | .pair a b => a.plain && b.plain
  | .agg s => s.plain
  | _ => false

section
variable {w : World} {p : Nat → Prop} {P : Program}

theorem join_rep {f : TypeId → Option Sh} {cellsOf : TypeId → Nat} : ∀ (ts : List TypeId) {s : Sh}, joinSh f ts = some s → s.plain = true → ∀ (cs : List Value), cs.length = (ts.map cellsOf).sum →
    (∀ j t, ts[j]? = some t → ∀ s', f t = some s' → s'.plain = true → ∃ y : s'.T, RepT w p s' y ((cs.drop ((ts.take j).map cellsOf).sum).take (cellsOf t)) ∧ s'.ok y) → ∃ y : s.T, RepT w p s y cs ∧ s.ok y
  | [], s, h, _, cs, hlen, _ => by
    obtain rfl := Option.some.inj h
    have : cs = [] := List.eq_nil_of_length_eq_zero (by simpa using hlen)
    subst this
    exact ⟨(), rfl, trivial⟩
  | t :: ts, s, h, hpl, cs, hlen, hseg => by
    have hlen' : (cs.drop (cellsOf t)).length = (ts.map cellsOf).sum := by
      rw [List.length_drop, hlen]; simp
    have hsplit : cs.take (cellsOf t) ++ cs.drop (cellsOf t) = cs := List.take_append_drop _ _
    have htail : ∀ j t', ts[j]? = some t' → ∀ s', f t' = some s' → s'.plain = true → ∃ y : s'.T, RepT w p s' y (((cs.drop (cellsOf t)).drop ((ts.take j).map cellsOf).sum).take (cellsOf t')) ∧ s'.ok y := by
      intro j t' hj s' hs' hp'
      have := hseg (j + 1) t' (by simpa using hj) s' hs' hp'
      rw [List.drop_drop]
      simpa using this
    have hhead : ∀ s', f t = some s' → s'.plain = true → ∃ y : s'.T, RepT w p s' y (cs.take (cellsOf t)) ∧ s'.ok y := by
      intro s' hs' hp'
      simpa using hseg 0 t rfl s' hs' hp'
    unfold joinSh at h
    have pairup : ∀ (s1 r : Sh), joinSh f ts = some r → (∃ y : s1.T, RepT w p s1 y (cs.take (cellsOf t)) ∧ s1.ok y) → r.plain = true → ∃ y : (Sh.pair s1 r).T, RepT w p (.pair s1 r) y cs ∧ (Sh.pair s1 r).ok y := by
      intro s1 r hr ⟨y, hy, hyo⟩ hrp
      obtain ⟨z, hz, hzo⟩ := join_rep ts hr hrp _ hlen' htail
      refine ⟨(y, z), ?_, hyo, hzo⟩
      simp only [RepT]
      exact ⟨_, _, hsplit.symm, hy, hz⟩
    have single : ∀ s1 : Sh, joinSh f ts = some .unit → (∃ y : s1.T, RepT w p s1 y (cs.take (cellsOf t)) ∧ s1.ok y) → ∃ y : s1.T, RepT w p s1 y cs ∧ s1.ok y := by
      intro s1 hr ⟨y, hy, hyo⟩
      obtain ⟨z, hz, _⟩ := join_rep ts hr rfl _ hlen' htail
      have hz : cs.drop (cellsOf t) = [] := by simpa only [RepT] using hz
      rw [← hsplit, hz, List.append_nil]
      exact ⟨y, hy, hyo⟩
    split at h
    · rename_i s0 e1 e2
      obtain rfl := Option.some.inj h
      obtain ⟨y, hy, hyo⟩ := hhead _ e1 (by simpa [Sh.plain] using hpl)
      exact single _ e2 ⟨y, by simpa only [RepT] using hy, hyo⟩
    · rename_i s0 r _ e1 e2
      obtain rfl := Option.some.inj h
      simp only [Sh.plain, Bool.and_eq_true] at hpl
      obtain ⟨y, hy, hyo⟩ := hhead _ e1 (by simpa [Sh.plain] using hpl.1)
      exact pairup _ _ e2 ⟨y, by simpa only [RepT] using hy, hyo⟩ hpl.2
    · rename_i s0 _ e1 e2
      obtain rfl := Option.some.inj h
      exact single _ e2 (hhead _ e1 hpl)
    · rename_i s0 r _ _ e1 e2
      obtain rfl := Option.some.inj h
      simp only [Sh.plain, Bool.and_eq_true] at hpl
      exact pairup _ _ e2 (hhead _ e1 hpl.1) hpl.2
    · cases h

theorem row_fine (hl : laidOutB P = true) {t : TypeId} (ht : t < P.types.size) : rowFine P t = true := by
  simp only [laidOutB, Bool.and_eq_true] at hl
  exact List.all_eq_true.1 hl.1.1 t (by simpa using ht)

theorem struct_fine (hl : laidOutB P = true) {t : TypeId} (ht : t < P.types.size) {fs : Array Field} (hu : P.underlying t = some (.struct fs)) :
    (∀ f ∈ fs.toList, f.type < P.types.size) ∧ P.cellsOf t = (fs.toList.map fun f => P.cellsOf f.type).sum ∧ ∀ j f, fs.toList[j]? = some f → f.offset = ((fs.toList.take j).map fun f => P.cellsOf f.type).sum := by
  have h := row_fine hl ht
  simp only [rowFine, isVar, hu, kindOk, Bool.and_true, Bool.or_eq_true, Bool.not_eq_true', decide_eq_false_iff_not, Bool.and_eq_true, List.all_eq_true, decide_eq_true_eq, beq_iff_eq] at h
  obtain ⟨⟨h1, h2⟩, h3⟩ := h.resolve_left (fun h => h ht)
  refine ⟨fun f hf => (h1 f hf).1, h2, fun j f hj => ?_⟩
  have hlt : j < fs.toList.length := (List.getElem?_eq_some_iff.1 hj).1
  have := h3 j (by simpa using hlt)
  rw [hj] at this
  simpa using this

theorem array_fine (hl : laidOutB P = true) {t e : TypeId} {n : Nat} (ht : t < P.types.size) (hu : P.underlying t = some (.array n e)) : e < P.types.size ∧ P.cellsOf t = n * P.cellsOf e := by
  have h := row_fine hl ht
  simp only [rowFine, isVar, hu, kindOk, Bool.and_true, Bool.or_eq_true, Bool.not_eq_true', decide_eq_false_iff_not, Bool.and_eq_true, decide_eq_true_eq, beq_iff_eq] at h
  have := h.resolve_left (fun h => h ht)
  exact ⟨this.1.1, this.2⟩

theorem slice_fine (hl : laidOutB P = true) {t e : TypeId} (ht : t < P.types.size) (hu : P.underlying t = some (.slice e)) : e < P.types.size := by
  have h := row_fine hl ht
  simp only [rowFine, isVar, hu, kindOk, Bool.and_true, Bool.or_eq_true, Bool.not_eq_true', decide_eq_false_iff_not, Bool.and_eq_true, decide_eq_true_eq, beq_iff_eq] at h
  exact (h.resolve_left (fun h => h ht)).1.1

theorem sum_replicate' (n k : Nat) : (List.replicate n k).sum = n * k := by
  induction n with
  | zero => simp
  | succ n ih => rw [List.replicate_succ, List.sum_cons, ih, Nat.succ_mul, Nat.add_comm]

theorem list_of_each {α : Type} {Q : Nat → α → Prop} : ∀ n, (∀ i, i < n → ∃ y, Q i y) → ∃ l : List α, l.length = n ∧ ∀ i y, l[i]? = some y → Q i y
  | 0, _ => ⟨[], rfl, fun i y h => by simp at h⟩
  | n + 1, h => by
    obtain ⟨l, hl, hq⟩ := list_of_each n fun i hi => h i (by omega)
    obtain ⟨y, hy⟩ := h n (by omega)
    refine ⟨l ++ [y], by simp [hl], fun i z hz => ?_⟩
    rw [List.getElem?_append] at hz
    split at hz
    · exact hq i z hz
    · rename_i hge
      have hi : i - l.length = 0 := by
        have := (List.getElem?_eq_some_iff.1 hz).1
        simp at this; omega
      rw [hi] at hz
      obtain rfl : y = z := by simpa using hz
      have : i = n := by omega
      rw [this]; exact hy

theorem addr_add {b o i : Nat} : (Addr.mk b o none).add i = ⟨b, o + i, none⟩ := by
  unfold Addr.add
  split
  · rename_i h; simp [h]
  · rfl

/-- WHAT READS STANDS FOR TYPED DATA. -/
theorem trod_rep {H : Type} {enc : TypeId × Value → H} {sp : Nat → Bool} {held : Bool} (hl : laidOutB P = true) : ∀ (fuel : Nat) (t : TypeId) (cs : List Value) (x : DataW H × List MemPlace), DataW.trod enc P w 0 sp held fuel t cs = some x →
    ∀ d s, shOf P d t = some s → s.plain = true → t < P.types.size → ∃ y : s.T, RepT w (fun b => b < w.heap.size) s y cs ∧ s.ok y := by
  intro fuel
  induction fuel using Nat.strongRecOn with
  | _ fuel ih =>
    intro t cs x h d s hs hpl ht
    cases d with
    | zero => cases hs
    | succ d =>
    unfold shOf at hs
    split at hs
    · rename_i k hu
      obtain rfl := Option.some.inj hs
      obtain ⟨n, rfl, _, hw⟩ := DataW.trod_int hu h
      exact ⟨(n : Int), rfl, hw⟩
    · rename_i hu
      obtain rfl := Option.some.inj hs
      obtain ⟨b, rfl, _⟩ := DataW.trod_bool hu h
      exact ⟨(b : Bool), rfl, trivial⟩
    · rename_i hu
      obtain rfl := Option.some.inj hs
      obtain ⟨b, rfl, _, hw⟩ := DataW.trod_string hu h
      exact ⟨(b : ByteArray), rfl, hw⟩
    · obtain rfl := Option.some.inj hs; cases hpl
    · obtain rfl := Option.some.inj hs; cases hpl
    · rename_i e hu
      split at hs
      · rename_i s0 hs0
        obtain rfl := Option.some.inj hs
        simp only [Sh.plain, Bool.and_eq_true] at hpl
        have hpos : 0 < s0.size := by have := hpl.2; rw [Nat.blt_eq] at this; exact this
        have he := slice_fine hl ht hu
        rcases DataW.trod_slice hu h with ⟨rfl, _⟩ | ⟨a, len, cap, elems, rest, n, hf, rfl, _, _, hlc, hcm, hel, hget, _⟩
        · exact ⟨([] : List s0.T), ⟨none, 0, rfl, ⟨Nat.le_refl _, fun _ => rfl⟩, .inl rfl⟩, by simp, fun i x h => by simp at h⟩
        · have each : ∀ i, i < len → ∃ y : s0.T, (∃ us, RepT w (fun b => b < w.heap.size) s0 y us ∧ us.length = P.cellsOf e ∧ a.block < w.heap.size ∧ ∀ j, j < P.cellsOf e → w.cell? ((a.add (i * P.cellsOf e)).add j) = us[j]?) ∧ s0.ok y := by
            intro i hi
            have h1 := hget i hi
            rw [List.getElem?_eq_getElem (by omega)] at h1
            cases hc : w.cells? 0 (a.add (i * P.cellsOf e)) (P.cellsOf e) with
            | none => rw [hc] at h1; cases h1
            | some us =>
              rw [hc] at h1
              obtain ⟨y, hy, hyo⟩ := ih n (by omega) e us _ h1 d s0 hs0 hpl.1 he
              obtain ⟨_, g2, g3⟩ := World.cells?_some hc
              have hlen := hy.length
              have hb := World.cells?_block hc (by omega)
              have hbb : (a.add (i * P.cellsOf e)).block = a.block := by unfold Addr.add; split <;> rfl
              exact ⟨y, ⟨us, hy, g2, by rw [← hbb]; exact hb, g3⟩, hyo⟩
          obtain ⟨xs, hxl, hxq⟩ := list_of_each len each
          refine ⟨xs, ⟨some a, cap, by rw [hxl], ⟨by rw [hxl]; exact hlc, fun h => by cases h⟩, ?_⟩, by omega, fun i y hy => (hxq i y hy).2⟩
          by_cases h0 : len = 0
          · left; exact List.eq_nil_of_length_eq_zero (by omega)
          · right
            have hx0 : xs[0]? = some (xs[0]'(by omega)) := List.getElem?_eq_getElem (by omega)
            obtain ⟨⟨us0, q1, q2, q3, q4⟩, _⟩ := hxq 0 _ hx0
            have hl0 := q1.length
            have hc0 := q4 0 (by omega)
            have hspot : a.spot = none := by
              rw [Nat.zero_mul] at hc0
              have e1 : (a.add 0).add 0 = a := by simp [Addr.add]
              rw [e1, List.getElem?_eq_getElem (by omega)] at hc0
              unfold World.cell? at hc0
              split at hc0
              · split at hc0
                · cases hc0
                · rename_i hsn; simpa using hsn
              · cases hc0
            obtain ⟨b, o, spot⟩ := a
            obtain rfl : spot = none := hspot
            refine ⟨b, o, rfl, q3, fun i y hy => ?_⟩
            obtain ⟨⟨us, r1, r2, r3, r4⟩, _⟩ := hxq i y hy
            have hsz := r1.length
            refine ⟨us, r1, hsz, fun j hj => ?_⟩
            have := r4 j (by omega)
            rw [addr_add, addr_add, ← r2, hsz] at this
            exact this
      · cases hs
    · split at hs
      · obtain rfl := Option.some.inj hs; cases hpl
      · cases hs
    · rename_i fs hu
      split at hs
      · rename_i s0 hs0
        obtain rfl := Option.some.inj hs
        obtain ⟨xs, n, hf, _, hlen, hxl, hget⟩ := DataW.trod_struct hu h
        obtain ⟨g1, g2, g3⟩ := struct_fine hl ht hu
        have := join_rep (w := w) (p := fun b => b < w.heap.size) (cellsOf := P.cellsOf) (fs.toList.map (·.type)) hs0 (by simpa [Sh.plain] using hpl) cs (by rw [hlen, g2, List.map_map]; rfl) fun j t' hj s' hs' hp' => ?_
        · obtain ⟨y, hy, hyo⟩ := this
          exact ⟨y, by simpa only [RepT] using hy, hyo⟩
        · rw [List.getElem?_map] at hj
          cases hfj : fs.toList[j]? with
          | none => rw [hfj] at hj; cases hj
          | some f =>
            rw [hfj] at hj
            obtain rfl : f.type = t' := by simpa using hj
            have hfa : fs[j]? = some f := by rw [← Array.getElem?_toList]; exact hfj
            have hjlt : j < xs.length := by rw [hxl]; exact (Array.getElem?_eq_some_iff.1 hfa).1
            have h1 := hget j f hfa
            rw [List.getElem?_eq_getElem hjlt] at h1
            have hoff := g3 j f hfj
            have e1 : (((fs.toList.map (·.type)).take j).map P.cellsOf).sum = f.offset := by
              rw [hoff, ← List.map_take, List.map_map]; rfl
            rw [e1]
            exact ih n (by omega) f.type _ _ h1 d s' hs' hp' (g1 f (List.mem_of_getElem? hfj))
      · cases hs
    · rename_i n e hu
      split at hs
      · rename_i s0 hs0
        obtain rfl := Option.some.inj hs
        obtain ⟨he, hsz⟩ := array_fine hl ht hu
        have hcl : cs.length = P.cellsOf t ∧ ∀ i, i < n → ∃ m y, m < fuel ∧ DataW.trod enc P w 0 sp held m e ((cs.drop (i * P.cellsOf e)).take (P.cellsOf e)) = some y := by
          obtain ⟨xs, m, hf, _, hlen, hxl, hget⟩ := DataW.trod_array hu h
          refine ⟨hlen, fun i hi => ⟨m, xs[i]'(by omega), by omega, ?_⟩⟩
          rw [hget i hi, List.getElem?_eq_getElem (by omega)]
        have := join_rep (w := w) (p := fun b => b < w.heap.size) (cellsOf := P.cellsOf) (List.replicate n e) hs0 (by simpa [Sh.plain] using hpl) cs (by rw [hcl.1, hsz, List.map_replicate, sum_replicate']) fun j t' hj s' hs' hp' => ?_
        · obtain ⟨y, hy, hyo⟩ := this
          exact ⟨y, by simpa only [RepT] using hy, hyo⟩
        · have hjn : j < n := by have := (List.getElem?_eq_some_iff.1 hj).1; simpa using this
          obtain rfl : e = t' := by simpa [List.getElem?_replicate, hjn] using hj
          obtain ⟨m, y, hm, h1⟩ := hcl.2 j hjn
          rw [List.take_replicate, List.map_replicate, sum_replicate', Nat.min_eq_left (by omega)]
          exact ih m hm e _ _ h1 d s' hs' hp' he
      · cases hs
    · cases hs

/-- The value of a type, as data. -/
theorem value_rep {H : Type} {enc : TypeId × Value → H} {sp : Nat → Bool} {held : Bool} (hl : laidOutB P = true) {t : TypeId} {v : Value} {d : DataW H} {ps : List MemPlace} (h : DataW.Trod enc P w 0 sp held t v d ps) {r : Reach} {base : Nat} (hv : Value.okWide P w r base t v)
    {s : Sh} (hs : shapeOf P t = some s) (hpl : s.plain = true) (ht : t < P.types.size) : ∃ y : s.T, RepC w (fun b => b < w.heap.size) (fun _ => none) (fun _ => .free) (s.cv y) v ∧ s.ok y := by
  obtain ⟨fuel, hf⟩ := h
  unfold shapeOf at hs
  split at hs
  · rename_i s0 hs0
    split at hs
    · obtain rfl := Option.some.inj hs
      obtain ⟨y, hy, hyo⟩ := trod_rep hl fuel t _ _ hf 8 s0 hs0 hpl ht
      refine ⟨y, cv_ok (us := v.cells.toList) hy ?_, hyo⟩
      have hone : s0.isAgg = false → v.cells.toList = [v] := by
        intro hna
        unfold Value.okWide at hv
        split at hv
        · rename_i fs hu
          unfold shOf at hs0
          rw [hu] at hs0
          simp only [] at hs0
          split at hs0
          · obtain rfl := Option.some.inj hs0; cases hna
          · cases hs0
        · rename_i n e hu
          unfold shOf at hs0
          rw [hu] at hs0
          simp only [] at hs0
          split at hs0
          · obtain rfl := Option.some.inj hs0; cases hna
          · cases hs0
        · cases v <;> first | rfl | (simp [Cell.okWide, Cell.ok] at hv)
          all_goals (revert hv; split <;> simp [Cell.ok] <;> (try (split <;> simp)))
      unfold VOf
      split
      · rename_i hag
        have : ∃ cs, v = .agg cs := by
          unfold Value.okWide at hv
          split at hv
          · obtain ⟨cs, rfl, _⟩ := hv; exact ⟨cs, rfl⟩
          · obtain ⟨cs, rfl, _⟩ := hv; exact ⟨cs, rfl⟩
          · rename_i h1 h2
            exfalso
            unfold shOf at hs0
            split at hs0 <;> simp_all <;> (try (split at hs0 <;> simp_all)) <;> (try (subst hs0; cases hag))
        obtain ⟨cs, rfl⟩ := this
        simp [Value.cells]
      · rename_i hag
        exact hone (by simpa using hag)
    · cases hs
  · cases hs
end
end Go.Ev

/- From a law on typed data to the row's contract. -/
namespace Go.Ev
open Go.RowKit Go.ChangeShapes Go.WideShapes Go.ChangeAt

/-- Values of these shapes, within their kinds' ranges. -/
def Typed : List Sh → List CV → Prop
  | [], [] => True
  | s :: ss, c :: cs => (∃ y : s.T, c = s.cv y ∧ s.ok y) ∧ Typed ss cs
  | _, _ => False

/-- What the laws give back. -/
def saysTrue : RV := ⟨.c (.l (.bool true)), .free⟩

theorem args_rep {H : Type} {enc : TypeId × Value → H} {P : Program} {w : World} {r : Reach} {base : Nat} (hl : laidOutB P = true) : ∀ {ts : List TypeId} {shs : List Sh} {vs : List Value} {ds : List (DataW H)} {ps : List MemPlace},
    DataW.TrodAll enc P w 0 (fun _ => true) true ts vs ds ps → (∀ (j : Nat) t v, ts[j]? = some t → vs[j]? = some v → Value.okWide P w r base t v) → ts.map (shapeOf P) = shs.map some → shs.all Sh.plain = true →
    (ts.all fun t => P.readableRec t && decide (t < P.types.size)) = true → ∃ cs, Typed shs cs ∧ RepCs w (fun b => b < w.heap.size) (fun _ => none) (fun _ => .free) cs vs
  | [], shs, vs, ds, ps, h, _, hs, _, _ => by
    obtain ⟨rfl, _, _⟩ := trodAll_nil h
    cases shs with
    | nil => exact ⟨[], trivial, repCs_nil⟩
    | cons s shs => cases hs
  | t :: ts, shs, vs, ds, ps, h, hv, hs, hpl, ht => by
    obtain ⟨v, vs, d, ds, p, q, rfl, rfl, rfl, h1, h2⟩ := trodAll_cons h
    cases shs with
    | nil => cases hs
    | cons s shs =>
      simp only [List.map_cons, List.cons.injEq] at hs
      simp only [List.all_cons, Bool.and_eq_true, decide_eq_true_eq] at hpl ht
      obtain ⟨y, hy, hyo⟩ := value_rep hl h1 (hv 0 t v rfl rfl) hs.1 hpl.1 ht.1.2
      obtain ⟨cs, g1, g2⟩ := args_rep hl h2 (fun j t' v' a b => hv (j + 1) t' v' (by simpa using a) (by simpa using b)) hs.2 hpl.2 ht.2
      exact ⟨s.cv y :: cs, ⟨⟨y, rfl, hyo⟩, g1⟩, repCs_cons hy g2⟩

/-- THE CONTRACT OF A LAW, out of what it is on typed data. -/
theorem contract_of_law {H : Type} {enc : TypeId × Value → H} {P : Program} {f : Func} {g : FuncId} {s : ChangeSpec} {apart fresh handsOn again : Bool} {tb : TypeId} {shs : List Sh}
    (hl : laidOutB P = true) (hread : (f.params.toList.all fun t => P.readableRec t && decide (t < P.types.size)) = true) (hsh : f.params.toList.map (shapeOf P) = shs.map some) (hpl : shs.all Sh.plain = true)
    (hres : f.resultTypes = #[tb]) (hbool : P.underlying tb = some .bool) (hvars : s.vars = []) (hfn : ∀ ds : List (DataW H), ds.length = shs.length → s.fn H ds = { results := [.lit (.bool true)], args := ds })
    (law : ∀ cs, Typed shs cs → Meets P g cs saysTrue)
    {W : World} {base : Nat} {args : Array Value} {ds gs : List (DataW H)} {before : List MemPlace} (hval : ∀ (j : Nat) t v, f.params[j]? = some t → args[j]? = some v → Value.okWide P W .any base t v)
    (hW : DataW.Whole enc P f.params.toList s.vars apart W args.toList ds gs before) :
    Calls P g args W fun e W' => ∃ v, e = .returned v ∧ s.post enc P f apart fresh handsOn again W args v W' := by
  have hW' := hW
  obtain ⟨p, q, hA, _⟩ := hW
  have hlen : ∀ {ts : List TypeId} {vs : List Value} {ds : List (DataW H)} {ps : List MemPlace}, DataW.TrodAll enc P W 0 (fun _ => true) true ts vs ds ps → ds.length = ts.length := by
    intro ts
    induction ts with
    | nil => intro vs ds ps h; obtain ⟨_, rfl, _⟩ := trodAll_nil h; rfl
    | cons t ts ih =>
      intro vs ds ps h
      obtain ⟨v, vs, d, ds, p, q, rfl, rfl, rfl, _, h2⟩ := trodAll_cons h
      simp [ih h2]
  obtain ⟨cs, h1, h2⟩ := args_rep hl hA (fun j t v a b => hval j t v (by rwa [Array.getElem?_toList] at a) (by rwa [Array.getElem?_toList] at b)) hsh hpl hread
  refine (law cs h1 W _ args (fun b h => h) h2).mono fun e W' ⟨v, he, hb, p', β, _, hn, hr, hv⟩ => ?_
  refine ⟨v, he, ?_⟩
  obtain rfl : v = .bool true := hv
  have hl1 := hlen hA
  have hl2 := congrArg List.length hsh
  simp only [List.length_map] at hl2
  exact post_true hl hread hres hbool hvars (hfn ds (by rw [hl1]; exact hl2)) hW' hb
end Go.Ev

/- A state of which only some slots and blocks are kept. -/
namespace Go.Ev
open Go.RowKit

theorem get_ofList {α : Type} (f : Nat → α) : ∀ (ts : List Nat) (m : M α) (u : Nat), (∀ t ∈ ts, t < 4000) → (ofList (ts.map fun t => (t, f t)) m).get u = if u ∈ ts then some (f u) else m.get u
  | [], m, u, _ => by simp [ofList]
  | t :: ts, m, u, h => by
    rw [List.map_cons, ofList, get_ofList f ts _ u (fun x hx => h x (by simp [hx])), M.get_set _ 12 m t u (by have := h t (by simp); omega)]
    by_cases h1 : u ∈ ts
    · simp [h1]
    · by_cases h2 : u = t
      · simp [h2]
      · simp [h1, h2]

section
variable {w : World} {p : Nat → Prop} {β β' : Nat → Option Value} {H H' : Nat → Blk} {bs : List Nat}

theorem RepL.mask (hβ : ∀ t r, t ∈ bs → β t = some r → β' t = some r) (hH : ∀ t, t ∈ bs → BlkSim (H t) (H' t)) {c : LV} {v : Value} (h : RepL w p β H c v) : RepL w p β' H' (c.keep bs) v := by
  have hu := h.undef_of
  have hu' : RepL w p β' H' .undef v := hu
  cases c <;> simp only [LV.keep]
  case ref t sz i o =>
    split
    · rename_i hb
      have hb : t ∈ bs := by simpa using hb
      obtain ⟨r, b, h1, h2, h3, h4⟩ := h
      exact ⟨r, b, hβ t r hb h1, h2, h3, h4.sim (hH t hb)⟩
    · exact hu'
  case full t =>
    split
    · rename_i hb
      have hb : t ∈ bs := by simpa using hb
      exact ⟨hβ t v hb h.1, h.2.1.sim (hH t hb), h.2.2⟩
    · exact hu'
  case sref t sz off len =>
    split
    · rename_i hb
      have hb : t ∈ bs := by simpa using hb
      obtain ⟨a, c, r, h1, h2, h3, h4, h5⟩ := h
      exact ⟨a, c, r, h1, h2, hβ t r hb h3, h4.sim (hH t hb), h5⟩
    · exact hu'
  case cref t o len e =>
    split
    · rename_i hb
      have hb : t ∈ bs := by simpa using hb
      obtain ⟨a, c, r, h1, h2, h3, h4, h5⟩ := h
      exact ⟨a, c, r, h1, h2, hβ t r hb h3, h4.sim (hH t hb), h5⟩
    · exact hu'
  case mref t =>
    split
    · rename_i hb
      have hb : t ∈ bs := by simpa using hb
      exact ⟨hβ t v hb h.1, h.2.1.sim (hH t hb), h.2.2⟩
    · exact hu'
  all_goals exact RepL.pure rfl h
end

section
variable {s : PS} {B0 : Nat} {w0 : Base} {a : Act} {w : World}

theorem keep_sim (bs : List Nat) (b : Blk) : BlkSim b (b.keep bs) := by
  cases b <;> simp [Blk.keep, BlkSim]

theorem mask_rel {ts bs : List Nat} (hts : ∀ t ∈ ts, t < 4000) (hbs : ∀ t ∈ bs, t < 4000) (h : Rel B0 w0 s a w) : Rel B0 w0 (s.mask ts bs) a w := by
  obtain ⟨β, p, inv⟩ := h
  have hget : ∀ u, (s.mask ts bs).get u = if u ∈ ts then (s.get u).keep bs else undefS := by
    intro u
    show (match (ofList (ts.map fun t => (t, (s.get t).keep bs)) .e).get u with | some v => v | none => undefS) = _
    rw [get_ofList (fun t => (s.get t).keep bs) ts .e u hts]
    by_cases hu : u ∈ ts
    · simp [hu]
    · simp [hu, M.get]
  have hblk : ∀ u, (s.mask ts bs).blk u = if u ∈ bs then (s.blk u).keep bs else .free := by
    intro u
    show (match (ofList (bs.map fun t => (t, (s.blk t).keep bs)) .e).get u with | some b => b | none => .free) = _
    rw [get_ofList (fun t => (s.blk t).keep bs) bs .e u hbs]
    by_cases hu : u ∈ bs
    · simp [hu]
    · simp [hu, M.get]
  have hβ : ∀ t r, t ∈ bs → β t = some r → (fun t => if t ∈ bs then β t else none) t = some r := fun t r ht hr => by simp [ht, hr]
  have hH : ∀ t, t ∈ bs → BlkSim (s.blk t) ((s.mask ts bs).blk t) := fun t ht => by rw [hblk t, if_pos ht]; exact keep_sim bs _
  have leaf : ∀ c v, RepL w p β s.blk c v → RepL w p (fun t => if t ∈ bs then β t else none) (s.mask ts bs).blk (c.keep bs) v := fun c v h => RepL.mask hβ hH h
  refine ⟨fun t => if t ∈ bs then β t else none, p, inv.size, inv.deep, inv.defers, inv.ext, inv.base, fun b hb => ⟨(inv.shared b hb).1, fun t r hr => ?_⟩, inv.conf, fun t u r q b h1 h2 h3 h4 => ?_, fun t => ?_, fun t v hv => ?_⟩
  · by_cases ht : t ∈ bs
    · simp [ht] at hr; exact (inv.shared b hb).2 t r hr
    · simp [ht] at hr
  · by_cases ht : t ∈ bs
    · by_cases hu : u ∈ bs
      · simp [ht] at h1; simp [hu] at h2; exact inv.inj t u r q b h1 h2 h3 h4
      · simp [hu] at h2
    · simp [ht] at h1
  · by_cases ht : t ∈ bs
    · simp only [ht, if_true]
      have := inv.blks t
      cases hr : β t with
      | none => rw [hr] at this; simp only []; rw [hblk t, if_pos ht, this]; rfl
      | some r =>
        rw [hr] at this
        simp only []
        refine ⟨?_, this.2⟩
        rw [hblk t, if_pos ht]
        have kb : ∀ b, RepB w p β s.blk B0 b r → RepB w p (fun t => if t ∈ bs then β t else none) (s.mask ts bs).blk B0 (b.keep bs) r := fun b hb => by
          have h2 := RepB.of (f := LV.keep bs) leaf (fun b hb => ⟨hb, rfl⟩) (fun _ _ => rfl) hb
          cases b <;> exact h2
        exact kb _ this.1
    · simp only [ht, if_false]
      rw [hblk t, if_neg ht]
  · rw [hget t]
    split
    · have h0 := inv.slots t v hv
      cases hx : s.get t with
      | c c =>
        rw [hx] at h0
        have := RepC.of (f := LV.keep bs) rfl leaf h0
        cases c <;> exact this
      | tup cs =>
        rw [hx] at h0
        obtain ⟨vs, rfl, h1⟩ := h0
        refine ⟨vs, rfl, RepCs.of (fun c v hc => ?_) h1⟩
        have := RepC.of (f := LV.keep bs) rfl leaf hc
        cases c <;> exact this
    · trivial

/-- A loop from a state of which part is forgotten. -/
theorem LoopTo.masked {P : Program} {x : Code} {ex : Ex} {s' : PS} {ts bs : List Nat} (hts : ∀ t ∈ ts, t < 4000) (hbs : ∀ t ∈ bs, t < 4000) (h : LoopTo P x (s.mask ts bs) ex s') : LoopTo P x s ex s' := by
  obtain ⟨n, h⟩ := h
  exact ⟨n, fun B0 w0 a w hr Q hq => h B0 w0 a w (mask_rel hts hbs hr) Q hq⟩

theorem RunsTo.masked {P : Program} {x : Code} {ex : Ex} {s' : PS} {ts bs : List Nat} (hts : ∀ t ∈ ts, t < 4000) (hbs : ∀ t ∈ bs, t < 4000) (h : RunsTo P x s ex s') : RunsTo P x s ex (s'.mask ts bs) :=
  fun B0 w0 a w hr Q hq => h B0 w0 a w hr Q fun a' w' hr' => hq a' w' (mask_rel hts hbs hr')
end
end Go.Ev
