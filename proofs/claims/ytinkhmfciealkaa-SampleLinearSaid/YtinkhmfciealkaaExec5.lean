/- Functions: entered, carried out, left. -/
import Derived.Test.YtinkhmfciealkaaExec4
set_option linter.unusedSimpArgs false
namespace Go.Ev
open Go.RowKit

theorem get_enterArgs : ∀ (vs : List CV) (i : Nat) (m : M SV) (t : Nat), i + vs.length ≤ 4000 → (enterArgs i vs m).get t = if i ≤ t then (match vs[t - i]? with | some v => some (.c v) | none => m.get t) else m.get t
  | [], i, m, t, _ => by simp [enterArgs]
  | v :: vs, i, m, t, h => by
    simp only [List.length_cons] at h
    rw [enterArgs, get_enterArgs vs (i + 1) _ t (by omega), M.get_set _ 12 m i t (by omega)]
    by_cases h1 : t = i
    · subst h1
      rw [if_neg (by omega), if_pos rfl, if_pos (Nat.le_refl _), Nat.sub_self]
      rfl
    · by_cases h2 : i + 1 ≤ t
      · rw [if_pos h2, if_neg h1, if_pos (by omega)]
        have : t - i = (t - (i + 1)) + 1 := by omega
        rw [this, List.getElem?_cons_succ]
      · rw [if_neg h2, if_neg h1, if_neg (by omega)]

section
variable {P : Program}

theorem enter_ok {fn : Func} {args : List CV} {w : World} {p : Nat → Prop} {vs : Array Value} (hl : args.length ≤ fn.ntmps) (hn : fn.ntmps ≤ 4000) (hp : ∀ b, p b → b < w.heap.size)
    (h : RepCs w p (fun _ => none) (fun _ => .free) args vs.toList) :
    Inv w.heap.size ⟨w, p⟩ (fun _ => none) p (enter fn args) { tmps := vs ++ Array.replicate (fn.ntmps - vs.size) undef, defers := [] } w := by
  have hvs : vs.size = args.length := by rw [h.1]; simp
  have hblk : ∀ t, (enter fn args).blk t = .free := fun t => rfl
  refine ⟨?_, hn, rfl, Below.refl _ _, Nat.le_refl _, fun b hb => ⟨hp b hb, fun t r hr => (by cases hr)⟩, fun b hb => .inl hb, fun t u r q b h1 => (by cases h1), fun t => hblk t, fun t v ht => ?_⟩
  · show (vs ++ Array.replicate (fn.ntmps - vs.size) undef).size = fn.ntmps
    rw [Array.size_append, Array.size_replicate, hvs]
    omega
  · have hg : (enter fn args).get t = match args[t]? with | some v => .c v | none => undefS := by
      unfold PS.get enter
      simp only [get_enterArgs args 0 .e t (by omega), Nat.zero_le, if_true, Nat.sub_zero]
      cases args[t]? <;> rfl
    rw [hg]
    by_cases hlt : t < args.length
    · have hv : vs.toList[t]? = some v := by
        rw [Array.getElem?_toList]
        have : (vs ++ Array.replicate (fn.ntmps - vs.size) undef)[t]? = some v := ht
        rwa [Array.getElem?_append_left (by omega)] at this
      rw [List.getElem?_eq_getElem hlt]
      exact h.2 t _ v (List.getElem?_eq_getElem hlt) hv
    · rw [List.getElem?_eq_none (by omega)]
      trivial

variable {s : PS} {B0 : Nat} {w0 : Base} {β : Nat → Option Value} {p : Nat → Prop} {a : Act} {w : World}

def resVal (a : Act) : ResultVar → Sem Value
  | .tmp t => pure (a.tmps.getD t undef)
  | .cell t T => do loadVar T (← asAddr (a.tmps.getD t undef))

/-- What a result variable holds. -/
theorem resultVar_ok (inv : Inv B0 w0 β p s a w) {r : ResultVar} {c : CV} (h : resultVar P s r = some c) :
    ∃ v, (resVal a r).run P w = .ok v w ∧ RepC w p β s.blk c v := by
  unfold resultVar at h
  split at h
  · rename_i t
    split at h
    · rename_i v hv
      obtain rfl := Option.some.inj h
      have := ev_ok inv (.tmp t)
      rw [hv] at this
      exact ⟨_, rfl, this⟩
    · cases h
  · rename_i t T
    split at h
    · rename_i u sz i off hv
      have hx := ev_ok inv (.tmp t)
      rw [hv] at hx
      obtain ⟨r, b, hr, hb, ex, hok⟩ := hx
      have ex : a.tmps.getD t undef = .pointer (some ⟨b, i * sz + off, none⟩) := ex
      simp only [resVal, ex, asAddr]
      split at h
      · rename_i cs hs
        rw [hs] at hok
        obtain ⟨vs, U, _, _, hh, hl⟩ := inv.cellsAt hr hb hs
        obtain ⟨v, h1, h2⟩ := load_ok (P := P) (T := T) (b := b) (base := 0) hl (fun j _ => by rw [Nat.zero_add]; exact cell_of hh) h
        refine ⟨v, ?_, h2⟩
        have e : i * sz + off = 0 + off := by rw [show sz = 0 from hok, Nat.mul_zero]
        rw [e]
        simpa using h1
      · rename_i e xs hs
        split at h
        · rename_i hc
          obtain ⟨hsz, hi, hoff, ha, hu, h1⟩ := hc
          obtain rfl := Option.some.inj h
          obtain ⟨d, hu⟩ := Option.isSome_iff_exists.1 hu
          obtain ⟨us, he, hrow, hcl⟩ := inv.rowsAt hr hb (.inr hs)
          have hcs := rows_cells (β := β) (H := s.blk) hrow
          have hv : partOf P T (xs.flatMap e.cells) 0 = some (.agg (((xs.flatMap e.cells).drop 0).take (P.cellsOf T))) := by
            unfold partOf
            rw [hu]
            simp only []
            rw [if_pos ha, if_pos (by rw [hcs.1, hrow.1, h1]; omega)]
          have hfull : ((xs.flatMap e.cells).drop 0).take (P.cellsOf T) = xs.flatMap e.cells := by
            rw [List.drop_zero, List.take_of_length_le (by rw [hcs.1, hrow.1, h1]; omega)]
          rw [hfull] at hv
          obtain ⟨u, hru, cu⟩ := load_ok (P := P) (T := T) (b := b) (base := 0) hcs (fun j hj => by rw [Nat.zero_add]; exact hcl j hj) hv
          refine ⟨u, ?_, cu⟩
          have hz : i * sz + off = 0 + 0 := by rw [hsz, hoff, Nat.mul_zero]
          rw [hz]
          simpa using hru
        · cases h
      · cases h
    · cases h

theorem resultVars_ok (inv : Inv B0 w0 β p s a w) : ∀ {rs : List ResultVar} {cs : List CV}, resultVars P s rs = some cs →
    ∃ vs, (rs.mapM (m := Sem) (resVal a)).run P w = .ok vs w ∧ RepCs w p β s.blk cs vs
  | [], cs, h => by
    obtain rfl := Option.some.inj h
    exact ⟨[], rfl, repCs_nil⟩
  | r :: rs, cs, h => by
    unfold resultVars at h
    split at h
    · rename_i v vs hv hvs
      obtain rfl := Option.some.inj h
      obtain ⟨u, h1, h2⟩ := resultVar_ok inv hv
      obtain ⟨us, h3, h4⟩ := resultVars_ok inv hvs
      refine ⟨u :: us, ?_, repCs_cons h2 h4⟩
      rw [List.mapM_cons, Sem.run_bind, h1]
      simp only [Result.andThen_ok, Sem.run_bind, h3, Sem.run_pure]
    · cases h

theorem results_ok (inv : Inv B0 w0 β p s a w) {fn : Func} {cs : List CV} (h : resultVars P s fn.results.toList = some cs) :
    ∃ vs v, (results fn a.tmps).run P w = .ok v w ∧ RepCs w p β s.blk cs vs ∧ ∀ (w' : World) (p' : Nat → Prop) (β' : Nat → Option Value) (H' : Nat → Blk) (cs' : List CV), RepCs w' p' β' H' cs' vs → RepS w' p' β' H' (mkSV cs') v := by
  obtain ⟨vs, h1, h2⟩ := resultVars_ok inv h
  have hm : (fn.results.mapM (m := Sem) (resVal a)).run P w = .ok vs.toArray w := by
    rw [Array.mapM_eq_mapM_toList, Sem.run_map, h1]; rfl
  have hr : (results fn a.tmps).run P w = .ok (if h : vs.toArray.size = 1 then vs.toArray[0] else .tuple vs.toArray) w := by
    show (do let vs ← fn.results.mapM (m := Sem) (resVal a); pure (if h : vs.size = 1 then vs[0] else .tuple vs) : Sem Value).run P w = _
    rw [Sem.run_bind, hm]; rfl
  refine ⟨vs, _, hr, h2, fun w' p' β' H' cs' h3 => ?_⟩
  cases vs with
  | nil =>
    have : cs' = [] := List.eq_nil_of_length_eq_zero h3.1
    subst this
    exact ⟨#[], rfl, repCs_nil⟩
  | cons v vs =>
    cases vs with
    | nil =>
      obtain ⟨c, rfl⟩ : ∃ c, cs' = [c] := by
        have := h3.1
        match cs', this with
        | [c], _ => exact ⟨c, rfl⟩
      exact h3.2 0 c v rfl rfl
    | cons u vs =>
      have := h3.1
      match cs', this with
      | c :: d :: cs', _ => exact ⟨(v :: u :: vs).toArray, by simp, h3⟩

theorem snap_to {q : Nat → Prop} {β' : Nat → Option Value} {H' : Nat → Blk} {cs : List CV} {vs : List Value} (hall : cs.all (fun v => v.all fun x => !x.behind) = true) (h : RepCs w q (fun _ => none) (fun _ => .free) cs vs) : RepCs w p β' H' cs vs :=
  RepCs.imp (fun x => !x.behind) (fun c v hc h => RepL.keep (p := p) ⟨fun b hb => ⟨hb, rfl⟩, fun _ _ h => (by cases h), fun _ h => (by cases h)⟩ (RepL.nb (by simpa using hc) h)) hall h

theorem relocOwn_ok (inv : Inv B0 w0 β p s a w) {t : Nat} {r : Value} (hr : β t = some r) {β' : Nat → Option Value} {H' : Nat → Blk} (h0 : β' 0 = some r) (hH : H' 0 = s.blk t) (hbuf : (s.blk t).isBuf) : ∀ {cs cs' : List CV} {vs : List Value},
    RepCs w p β s.blk cs vs → relocOwn s t cs = some cs' → RepCs w p β' H' cs' vs
  | [], cs', vs, hc, h => by
    unfold relocOwn at h
    obtain rfl := Option.some.inj h
    have : vs = [] := List.eq_nil_of_length_eq_zero hc.1.symm
    subst this; exact repCs_nil
  | c :: cs, cs', vs, hc, h => by
    unfold relocOwn at h
    obtain ⟨v, us, rfl, h1, h2⟩ := hc.uncons
    split at h
    · rename_i e; cases e
    · rename_i u r' e
      obtain ⟨rfl, rfl⟩ := List.cons.inj e
      split at h
      · rename_i ht
        subst ht
        split at h
        · rename_i l hl
          split at h
          · rename_i hall
            obtain rfl := Option.some.inj h
            refine repCs_cons ?_ (snap_to hall (snapCs_ok inv (.heap inv) h2 hl))
            obtain ⟨g1, g2, g3⟩ := h1
            rw [hr] at g1
            obtain rfl := Option.some.inj g1
            exact ⟨h0, by rw [hH]; exact hbuf, g3⟩
          · cases h
        · cases h
      · cases h
    · rename_i v' r' _ e
      obtain ⟨rfl, rfl⟩ := List.cons.inj e
      split at h
      · rename_i hall
        split at h
        · rename_i l hl
          obtain rfl := Option.some.inj h
          refine repCs_cons (RepC.imp (fun x => x.pure && !x.behind) (fun c v hc h => ?_) hall h1) (relocOwn_ok inv hr h0 hH hbuf h2 hl)
          simp only [Bool.and_eq_true] at hc
          exact RepL.pure hc.1 h
        · cases h
      · cases h

theorem ownOf_buf : ∀ {cs : List CV} {t : Nat}, ownOf s cs = some t → (s.blk t).isBuf
  | [], t, h => by cases h
  | c :: cs, t, h => by
    unfold ownOf at h
    split at h
    · rename_i e; cases e
    · split at h
      · rename_i e; cases h; rw [e]; trivial
      · cases h
    · rename_i e
      obtain ⟨rfl, rfl⟩ := List.cons.inj e
      exact ownOf_buf h

/-- What a function gives back. -/
theorem resultOf_ok (inv : Inv B0 w0 β p s a w) {fn : Func} {rv : RV} (h : resultOf P s fn.results.toList = some rv) :
    ∃ v, (results fn a.tmps).run P w = .ok v w ∧ RepRV B0 w w0.p rv v := by
  unfold resultOf at h
  split at h
  · cases h
  rename_i cs hcs
  obtain ⟨vs, v, hrun, hrep, hmk⟩ := results_ok inv hcs
  refine ⟨v, hrun, ?_⟩
  have plain : ∀ l, snapCs s cs = some l → RepRV B0 w w0.p ⟨mkSV l, .free⟩ v := fun l hl =>
    ⟨fun b => (p b ∨ B0 ≤ b) ∧ b < w.heap.size, fun _ => none, fun b hb => ⟨hb.1.elim (inv.conf b) .inr, hb.2⟩, fun _ _ => rfl, rfl, by
      have := snapCs_ok inv (q := fun b => (p b ∨ B0 ≤ b) ∧ b < w.heap.size) ⟨fun b hb => ⟨.inl hb, (inv.shared b hb).1⟩, fun t r b hr hb => ⟨.inr ((inv.blk hr).root b hb).1, ((inv.blk hr).root b hb).2⟩⟩ hrep hl
      exact hmk _ _ _ _ _ (RepCs.keep ⟨fun b hb => ⟨hb, rfl⟩, fun _ _ h => (by cases h), fun _ h => (by cases h)⟩ this)⟩
  have plainO : ∀ rv, (match snapCs s cs with | some l => some (⟨mkSV l, .free⟩ : RV) | none => none) = some rv → RepRV B0 w w0.p rv v := by
    intro rv h
    split at h
    · rename_i l hl; obtain rfl := Option.some.inj h; exact plain l hl
    · cases h
  simp only [] at h
  split at h
  · rename_i t ht
    split at h
    · rename_i l hl
      obtain rfl := Option.some.inj h
      have hbuf := ownOf_buf ht
      obtain ⟨r, hr⟩ := inv.root_of (t := t) (by intro e; rw [e] at hbuf; exact hbuf)
      refine ⟨p, fun u => if u = 0 then some r else none, fun b hb => ⟨inv.conf b hb, (inv.shared b hb).1⟩, fun u hu => if_neg hu, ?_, ?_⟩
      · simp only [if_true]
        refine ⟨?_, fun b hb hp => (inv.shared b hp).2 t r hr hb⟩
        have := inv.blk hr
        cases hb : s.blk t <;> rw [hb] at hbuf <;> first | exact hbuf.elim | skip
        rw [hb] at this
        exact this
      · exact hmk _ _ _ _ _ (relocOwn_ok inv hr (by simp) (by simp) hbuf hrep hl)
    · exact plainO rv h
  · exact plainO rv h
end

/-! ### All functions -/

/-- What is known of functions and loops holds. -/
structure KnowOk (P : Program) (K : Know) : Prop where
  fns : ∀ f args g rv, K.fns f args = some g → g.at' = some rv → Meets P f args rv
  loops : ∀ f fn c, P.funcs[f]? = some fn → fn.body = some c → LoopsOk P (K.loops f) 0 c

theorem evalK_ok {P : Program} {R : Type} {K : Know} {U : Nat} (hns : NoSpecial P) (hm : P.follows .mixedOrders = true) (hK : KnowOk P K) : ∀ n, CallOk P R (evalK P R K U n)
  | 0, f, args, k, r, h => by
    unfold evalK at h
    split at h
    · rename_i g hg
      obtain ⟨rv, h1, h2⟩ := Out.run_at h
      exact ⟨rv, h2, hK.fns f args g rv hg h1⟩
    · cases h
  | n + 1, f, args, k, r, h => by
    unfold evalK at h
    split at h
    · rename_i g hg
      obtain ⟨rv, h1, h2⟩ := Out.run_at h
      exact ⟨rv, h2, hK.fns f args g rv hg h1⟩
    · split at h
      · rename_i fn hf
        split at h
        · rename_i c hb
          split at h
          · rename_i hlen
            obtain ⟨ex, s', h1, h2⟩ := exec_ok hns hm (evalK_ok hns hm hK n) c 0 _ _ r (hK.loops f fn c hf hb) h
            have main : ∀ rv, resultOf P s' fn.results.toList = some rv → (ex.to = .normal ∨ ex.to = .ret) → Meets P f args rv := by
              intro rv hrv hex w p vs hp hargs
              refine calls_of_wp hf hb (h2 _ _ _ _ ⟨_, _, enter_ok hlen.1 hlen.2 hp hargs⟩ _ fun a' w' hr => ?_)
              obtain ⟨β, p', inv⟩ := hr
              obtain ⟨v, hrun, hrep⟩ := resultOf_ok inv hrv
              rcases hex with hex | hex <;> rw [hex] <;> exact ⟨inv.defers, v, hrun, v, rfl, inv.ext, hrep⟩
            cases ex with
            | exit id => cases h1
            | normal =>
              simp only [] at h1
              split at h1
              · rename_i rv hrv; exact ⟨rv, h1, main rv hrv (.inl rfl)⟩
              · cases h1
            | ret =>
              simp only [] at h1
              split at h1
              · rename_i rv hrv; exact ⟨rv, h1, main rv hrv (.inr rfl)⟩
              · cases h1
          · cases h
        · cases h
      · cases h

/-- WHAT THE EVALUATOR SAYS OF A FUNCTION, THE MODEL DOES. -/
theorem meets_of_eval {P : Program} {K : Know} {U n : Nat} (hns : NoSpecial P) (hm : P.follows .mixedOrders = true) (hK : KnowOk P K) {f : FuncId} {args : List CV} {rv : RV} (h : evalK P RV K U n f args some = some rv) : Meets P f args rv := by
  obtain ⟨rv', h1, h2⟩ := evalK_ok hns hm hK n f args some rv h
  obtain rfl := Option.some.inj h1
  exact h2
end Go.Ev
