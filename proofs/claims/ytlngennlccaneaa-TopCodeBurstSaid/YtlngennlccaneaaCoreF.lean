/- The verified evaluator: code, functions, laws. -/
import Derived.Test.YtlngennlccaneaaCoreE
import Derived.LoopNIn
import Derived.RangeFuncIn
import Derived.RangeFuncLeaves
import Derived.RangeFuncRecord
import Derived.Carry
import Derived.RowKit
import Derived.ProofKit
import Derived.OpenShut
set_option linter.unusedSimpArgs false
noncomputable section
namespace Go.Ev
open Go.RowKit
def Ex.to : Ex → Exit
 | .normal => .normal
 | .exit id => .exit id
 | .ret => .ret
def RunsTo (P : Program) (inR : Bool) (c : Code) (s : PS) (ex : Ex) (s' : PS) : Prop :=
 ∀ B0 (w0 : Base) a w, Rel B0 w0 s a w → (inR = false → w0.ro = none) → ∀ Q : Exit → Act → World → Prop, (∀ a' w', Rel B0 w0 s' a' w' → Q ex.to a' w') → c.wpIn (FR w0.ro) 0 P Q a w
def LoopTo (P : Program) (inR : Bool) (x : Code) (s : PS) (ex : Ex) (s' : PS) : Prop :=
 ∃ n, ∀ B0 (w0 : Base) a w, Rel B0 w0 s a w → (inR = false → w0.ro = none) → ∀ Q : Exit → Act → World → Prop, (∀ a' w', Rel B0 w0 s' a' w' → Q ex.to a' w') → Code.roundsIn (FR w0.ro) 0 P x Q n a w
section
variable {P : Program} {inR : Bool} {x y : Code} {s s1 s' : PS} {ex : Ex}
theorem LoopTo.runs (h : LoopTo P inR x s ex s') : RunsTo P inR (.loop x) s ex s' := fun B0 w0 a w hr hro Q hq => by
 obtain ⟨n, h⟩ := h
 exact wpIn_loop_rounds n (h B0 w0 a w hr hro Q hq)
theorem LoopTo.next (h1 : RunsTo P inR x s .normal s1) (h2 : LoopTo P inR x s1 ex s') : LoopTo P inR x s ex s' := by
 obtain ⟨n, h2⟩ := h2
 refine ⟨n + 1, fun B0 w0 a w hr hro Q hq => ?_⟩
 rw [roundsIn_succ]
 exact h1 B0 w0 a w hr hro _ fun a' w' hr' => h2 B0 w0 a' w' hr' hro Q hq
theorem LoopTo.last (h1 : RunsTo P inR x s ex s') (he : ex ≠ .normal) : LoopTo P inR x s ex s' := by
 refine ⟨1, fun B0 w0 a w hr hro Q hq => ?_⟩
 rw [roundsIn_succ]
 refine h1 B0 w0 a w hr hro _ fun a' w' hr' => ?_
 cases ex with
 | normal => exact absurd rfl he
 | exit id => exact hq a' w' hr'
 | ret => exact hq a' w' hr'
end
def Out.at' {α : Type} : Out α → Option α
 | .no => none
 | .done x => some x
 | .br b x y => bif b then x.at' else y.at'
 | .alt o f g => optE o (fun x => (f x).at') g.at'
 | .sum o f g => sumE o (fun x => (f x).at') (fun x => (g x).at')
theorem Out.run_at {α R : Type} : ∀ {o : Out α} {k : α → Option R} {r : R}, o.run k = some r → ∃ x, o.at' = some x ∧ k x = some r
 | .no, _, _, h => by cases h
 | .done x, _, _, h => ⟨x, rfl, h⟩
 | .br b x y, k, r, h => by
   cases b
   ·exact Out.run_at (o := y) h
   ·exact Out.run_at (o := x) h
 | .alt o f g, k, r, h => by
   cases o with
   | none => exact Out.run_at (o := g) h
   | some x => exact Out.run_at (o := f x) h
 | .sum o f g, k, r, h => by
   cases o with
   | inl x => exact Out.run_at (o := f x) h
   | inr x => exact Out.run_at (o := g x) h
def loopsIn : Nat → Code → List (Nat × Code)
 | b, .seq x y => loopsIn b x ++ loopsIn b y
 | b, .cond _ x y => loopsIn b x ++ loopsIn b y
 | _, .block id x => loopsIn id x
 | b, .loop x => (b, x) :: loopsIn b x
 | b, .scope x => loopsIn b x
 | _, _ => []
def LoopsOk (P : Program) (inR : Bool) (loops : Nat → Option (PS → Out (Ex × PS))) (b : Nat) (c : Code) : Prop :=
 ∀ b' x, (b', x) ∈ loopsIn b c → ∀ F, loops b' = some F → ∀ s ex s', (F s).at' = some (ex, s') → LoopTo P inR x s ex s'
section
variable {P : Program} {F : Fence} {n : Nat} {b : Frame} {a : Act} {k : List Item} {cs : List Frame} {w : World} {Q : Exit → Act → World → Prop}
def noJump (Q : Exit → Act → World → Prop) : Exit → Act → World → Prop
 | .goto _, _, _ => False
 | e, a, w => Q e a w
theorem stepR_scope {c : Code} : step P (lone (b.atR a (.code (.scope c) :: k)) cs w) = .next (lone (b.atR a (.code c :: .inScope c :: k)) cs w) :=
 step_lone_go (by simp [stepG, stepG.exec, Frame.atR])
theorem stepR_inScope {c : Code} : step P (lone (b.atR a (.inScope c :: k)) cs w) = .next (lone (b.atR a k) cs w) :=
 step_lone_go (by simp [stepG, stepG.exec, Frame.atR])
theorem wpIn_scope {c : Code} (h : c.wpIn F n P (noJump Q) a w) : (Code.scope c).wpIn F n P Q a w := by
 intro b k cs hro hb hr
 have h0 : (lone (b.atR a (.code (.scope c) :: k)) cs w).fenced P F := fenced_calm hb hr rfl
 obtain ⟨e, a₁, w₁, hq, harr⟩ := h b (.inScope c :: k) cs hro hb hr
 cases e with
 | normal => exact ⟨.normal, a₁, w₁, hq, .head h0 stepR_scope (StepsIn.trans harr (.one (fenced_calm hb hr rfl) stepR_inScope))⟩
 | exit id =>
   have hx : exitTo id (.inScope c :: k) = exitTo id k := by simp [exitTo]
   exact ⟨.exit id, a₁, w₁, hq, fun k' hk => .head h0 stepR_scope (harr.1 k' (by rw [hx]; exact hk)),
    fun hr' hk => let ⟨k₁, h1, h2⟩ := harr.2 hr' (by rw [hx]; exact hk); ⟨k₁, h1, .head h0 stepR_scope h2⟩⟩
 | goto l => exact hq.elim
 | ret => exact ⟨_, a₁, w₁, hq, .of_steps (.one h0 stepR_scope) harr⟩
 | panic ch => exact ⟨_, a₁, w₁, hq, .of_steps (.one h0 stepR_scope) harr⟩
 | outgrown => exact ⟨_, a₁, w₁, hq, .of_steps (.one h0 stepR_scope) harr⟩
end
section
variable {P : Program} {R : Type} {call : CallK R} {loops : Nat → Option (PS → Out (Ex × PS))} {U : Nat}
theorem rounds_ok {inR : Bool} {x : Code} {body : PS → Cont R → Option R} (hb : ∀ s k r, body s k = some r → ∃ ex s', k ex s' = some r ∧ RunsTo P inR x s ex s') : ∀ {n : Nat} {s : PS} {k : Cont R} {r : R}, rounds R body n s k = some r →
 ∃ ex s', k ex s' = some r ∧ LoopTo P inR x s ex s'
 | 0, s, k, r, h => by cases h
 | n + 1, s, k, r, h => by
   unfold rounds at h
   obtain ⟨ex, s1, h1, h2⟩ := hb _ _ _ h
   cases ex with
   | normal =>
     obtain ⟨ex, s', h3, h4⟩ := rounds_ok hb h1
     exact ⟨ex, s', h3, h4.next h2⟩
   | exit id => exact ⟨_, s1, h1, .last h2 (by simp)⟩
   | ret => exact ⟨_, s1, h1, .last h2 (by simp)⟩
theorem freeHome_spec {s : PS} : ∀ {n y K : Nat}, freeHome s n y = some K → s.blk K = .free ∧ K < y + n
 | 0, _, _, h => by cases h
 | n + 1, y, K, h => by
   unfold freeHome at h
   split at h
   ·rename_i hf
    obtain rfl := Option.some.inj h
    exact ⟨Blk.isFree_iff.1 hf, by omega⟩
   ·obtain ⟨h1, h2⟩ := freeHome_spec h
    exact ⟨h1, by omega⟩
abbrev yv (l : Nat) : Value := .func (.yield l) #[] #[]
section
variable {B0 : Nat} {w0 : Base} {β : Nat → Option Value} {p : Nat → Prop} {s : PS} {a : Act} {w : World}
theorem lpAt_ok (inv : Inv B0 w0 β p s a w) {x : SV} {v : Value} (hx : RepS w p β s.blk x v) {T : Nat} {q : LpSt} {i : LpI} {m : M SV} (h : lpAt s x = some (T, q, i, m)) :
 β T = some v ∧ s.blk T = .lp q i m ∧ RepB w p β s.blk B0 (.lp q i m) v := by
 unfold lpAt at h
 split at h
 ·rename_i T'
  split at h
  ·rename_i q' i' m' hb
   simp only [Option.some.injEq, Prod.mk.injEq] at h
   obtain ⟨rfl, rfl, rfl, rfl⟩ := h
   have h1 : β T' = some v := hx.1
   have := inv.blk h1
   rw [hb] at this
   exact ⟨h1, hb, this⟩
  ·cases h
 ·cases h
theorem below_putObj {l : Nat} {o : Obj} (hl : B0 ≤ l) : Below B0 w (w.putObj l o) :=
 ⟨rfl, rfl, rfl, by rw [World.putObj_size]; exact Nat.le_refl _, fun k hk => World.putObj_heap_other (by omega)⟩
theorem Inv.setLp (inv : Inv B0 w0 β p s a w) {T : Nat} {q q' : LpSt} {i : LpI} {m : M SV} {l : Nat} {rec : Loop} {st : LoopState} {pd : Option Code} (hβ : β T = some (yv l)) (hb : s.blk T = .lp q i m) (hl : w.heap[l]? = some (.loop rec)) (hok : LpOk q' st pd) :
 Inv B0 w0 β p (s.setB T (.lp q' i m)) a (w.putObj l (.loop { rec with state := st, pending := pd })) := by
 have hrep := inv.blk hβ
 rw [hb] at hrep
 obtain ⟨l', rec', e, h1, h2, h3, h4, h5, h6, h7, h8, h9⟩ := hrep
 have hl' : l = l' := by injection e with e; injection e
 subst hl'
 rw [hl] at h2
 obtain rfl : rec = rec' := by injection h2 with h2; injection h2
 refine inv.write hβ (below_putObj h1) (fun b hne => World.putObj_heap_other fun e => hne (by rw [e]; rfl)) (by rw [hb]; exact ⟨_, _, _, rfl⟩) fun hk => ?_
 exact ⟨l, _, rfl, h1, World.putObj_heap_same (Array.getElem?_eq_some_iff.1 hl).1, hok, h4, h5, h6, h7, h8, fun t v hv => RepS.keep hk (h9 t v hv)⟩
theorem size_push (a : Array Value) (v : Value) : (a.push v).size = a.size + 1 := by simp
theorem Inv.shrink {tm : Array Value} {v : Value} {ds : List Deferred} (inv : Inv B0 w0 β p s { tmps := tm.push v, defers := ds } w) {n : Nat} (hn : tm.size = n) : Inv B0 w0 β p { s with n := n } { tmps := tm, defers := ds } w := by
 have hs := inv.size
 have hd := inv.deep
 simp only [Array.size_push] at hs
 refine ⟨hn, by show n ≤ 16000; omega, inv.defers, inv.ext, inv.base, inv.shared, inv.conf, inv.inj, inv.blks, fun t v' hv => ?_, inv.ups⟩
 refine inv.slots t v' ?_
 have : t < tm.size := (Array.getElem?_eq_some_iff.1 hv).1
 show (tm.push v)[t]? = some v'
 rw [Array.getElem?_push, if_neg (by omega)]
 exact hv
theorem Inv.enterLp (inv : Inv B0 w0 β p s a w) {K : Nat} (hfree : s.blk K = .free) (hK : K < 16000) (hn : s.n < 16000) {i : LpI} (hi : i.n = s.n) {fn : FuncId} {w1 : World}
 (hw : w1 = (w.alloc (.deferred (some []))).alloc (.loop { state := .ready, pending := none, fn, tmps := a.tmps, params := i.params, assign := i.assign, body := i.body, defers := w.heap.size })) :
 ∃ β', Inv B0 w0 β' p (s.enterLp K i) { tmps := a.tmps.push (yv (w.heap.size + 1)), defers := markOf w.heap.size :: a.defers } w1 ∧ β' K = some (yv (w.heap.size + 1)) ∧
  ∀ c v, RepC w p β s.blk c v → RepC w1 p β' (s.enterLp K i).blk c v := by
 have hdep := key_depth hK
 have hnone : β K = none := by
  cases hr : β K with
  | none => rfl
  | some r => have := inv.blk hr; rw [hfree] at this; exact this.elim
 have hsz : w1.heap.size = w.heap.size + 2 := by rw [hw]; simp [World.size_alloc]
 have hold : ∀ b, b < w.heap.size → w1.heap[b]? = w.heap[b]? := fun b hb => by
  rw [hw]
  show ((w.heap.push _).push _)[b]? = _
  rw [Array.getElem?_push, if_neg (by simp; omega), Array.getElem?_push, if_neg (by omega)]
 have hD : w1.heap[w.heap.size]? = some (.deferred (some [])) := by
  rw [hw]
  show ((w.heap.push _).push _)[w.heap.size]? = _
  rw [Array.getElem?_push, if_neg (by simp), Array.getElem?_push, if_pos rfl]
 have hl : w1.heap[w.heap.size + 1]? = some (.loop { state := .ready, pending := none, fn, tmps := a.tmps, params := i.params, assign := i.assign, body := i.body, defers := w.heap.size }) := by
  rw [hw]
  show ((w.heap.push _).push _)[w.heap.size + 1]? = _
  rw [Array.getElem?_push, if_pos (by simp)]
 have hbel : Below w.heap.size w w1 := ⟨by rw [hw]; rfl, by rw [hw]; rfl, by rw [hw]; rfl, by omega, fun k hk => hold k hk⟩
 have inv1 := inv.world hbel
 have eb : ∀ t, (s.enterLp K i).blk t = if t = K then .lp .ready i s.tmps else s.blk t := by
  exact PS.blk_setB (s := s) _ hK
 have eg : ∀ t, (s.enterLp K i).get t = if t = s.n then .c (.l (.mref K)) else s.get t := by
  intro t
  simp only [PS.get, PS.enterLp, M.get_set _ 14 _ s.n t (deep14 hn)]
  by_cases e : t = s.n <;> simp [e]
 let β' : Nat → Option Value := fun t => if t = K then some (yv (w.heap.size + 1)) else β t
 have hk : Keeps w1 w1 p p β β' s.blk (s.enterLp K i).blk := by
  refine ⟨fun b hb => ⟨hb, rfl⟩, fun t v hv => ?_, fun t hs => ?_⟩
  ·have : t ≠ K := fun e => by rw [e, hnone] at hv; cases hv
   simp [β', this, hv]
  ·have : t ≠ K := fun e => by rw [e, hnone] at hs; cases hs
   rw [eb t, if_neg this]; exact BlkSim.refl _
 have hnew : ∀ t r, β t = some r → ∀ b, rootBlock r = some b → b < w.heap.size := fun t r hr b hb => ((inv.blk hr).root b hb).2
 refine ⟨β', ⟨?_, by show s.n + 1 ≤ 16000; omega, ?_, inv1.ext, inv1.base, fun b hb => ⟨(inv1.shared b hb).1, fun t r hr => ?_⟩, inv.conf, fun t u r q b h1 h2 h3 h4 => ?_, fun t => ?_, fun t v hv => ?_, ?_⟩, by simp [β'], fun c v hc => ?_⟩
 ·show (a.tmps.push _).size = s.n + 1
  rw [Array.size_push, inv.size]
 ·obtain ⟨hg, L, hnd, he, hp⟩ := inv.defers
  refine ⟨hg.mono fun b hb => ⟨hb, hold b (inv.shared b hb).1⟩, w.heap.size :: L, ?_, by simp [he], fun D hDm => ?_⟩
  ·rw [List.nodup_cons]
   exact ⟨fun hm => by have := (hp _ hm).lt; omega, hnd⟩
  ·rcases List.mem_cons.1 hDm with rfl | hm
   ·exact ⟨hD, inv.base, fun hpp => by have := (inv.shared _ hpp).1; omega⟩
   ·have pin := hp D hm
    exact ⟨by rw [hold D pin.lt]; exact pin.obj, pin.base, pin.data⟩
 ·by_cases e : t = K
  ·simp only [β', e, if_true, Option.some.injEq] at hr
   subst hr
   intro hb'
   have := (inv.shared b hb).1
   obtain rfl : w.heap.size + 1 = b := by simpa [rootBlock] using hb'
   omega
  ·simp only [β', e, if_false] at hr
   exact (inv.shared b hb).2 t r hr
 ·by_cases e1 : t = K
  ·by_cases e2 : u = K
   ·rw [e1, e2]
   ·simp only [β', e1, if_true, Option.some.injEq] at h1
    simp only [β', e2, if_false] at h2
    subst h1
    have := hnew u q h2 b h4
    obtain rfl : w.heap.size + 1 = b := by simpa [rootBlock] using h3
    omega
  ·by_cases e2 : u = K
   ·simp only [β', e2, if_true, Option.some.injEq] at h2
    simp only [β', e1, if_false] at h1
    subst h2
    have := hnew t r h1 b h3
    obtain rfl : w.heap.size + 1 = b := by simpa [rootBlock] using h4
    omega
   ·simp only [β', e1, if_false] at h1
    simp only [β', e2, if_false] at h2
    exact inv.inj t u r q b h1 h2 h3 h4
 ·by_cases e : t = K
  ·simp only [β', e, if_true]
   rw [eb K, if_pos rfl]
   refine ⟨⟨w.heap.size + 1, _, rfl, by have := inv.base; omega, hl, ⟨rfl, rfl⟩, rfl, rfl, rfl, by rw [hi]; exact inv.size, by rw [hi]; omega, fun t v hv => ?_⟩, .inl hK⟩
   exact RepS.keep hk (inv1.slots t v hv)
  ·simp only [β', e, if_false]
   have := inv1.blks t
   cases hr : β t with
   | none => rw [hr] at this; simp only []; rw [eb t, if_neg e]; exact this
   | some r =>
     rw [hr] at this
     simp only []
     rw [eb t, if_neg e]
     exact ⟨RepB.keep hk (fun _ _ => rfl) this.1, this.2⟩
 ·rw [eg t]
  have hv : (a.tmps.push (yv (w.heap.size + 1)))[t]? = some v := hv
  rw [Array.getElem?_push] at hv
  by_cases e : t = s.n
  ·rw [if_pos (by rw [inv.size]; exact e)] at hv
   obtain rfl := Option.some.inj hv
   rw [if_pos e]
   exact ⟨by simp [β'], by rw [eb K, if_pos rfl]; trivial, rfl⟩
  ·rw [if_neg (by rw [inv.size]; exact e)] at hv
   rw [if_neg e]
   exact RepS.keep hk (inv1.slots t v hv)
 ·exact UpsRep.keep (fun _ _ h => RepS.keep hk h) inv1.ups
 ·have hk0 : Keeps w w1 p p β β' s.blk (s.enterLp K i).blk := ⟨fun b hb => ⟨hb, hold b (inv.shared b hb).1⟩, hk.roots, hk.sim⟩
  exact RepC.keep hk0 hc
end
theorem rangeFunc_ok {P : Program} {s0 s s' s'' : PS} {kp : Option (List Nat)} (hs : s = s0.trim kp) {ex : Ex} {cs caps : List CV} (hns : NoSpecial P) {g : Operand} {ps : Array Tmp} {assign body : Code} {cut : Bool} {f : FuncId} {K : Nat} (hf : calleeAll (evL s0 g) = some (f, caps)) (hc : callable P f = true) (hn : s.n < 16000)
 (hfree : s.blk K = .free) (hK : K < 16000) (hm : OwnMeets P f (.l (.mref K) :: caps) (s.enterLp K ⟨s.n, ps, assign, body, cut⟩) cs s') (hl : s'.leaveLp s.n = some (ex, s'')) : RunsTo P false (.rangeFunc g ps assign body) s0 ex s'' := by
 intro B0 w0 a w ⟨β, p, inv0⟩ hro Q hq
 obtain ⟨cv, he, hcap⟩ := calleeAll_ok inv0 hf
 have inv : Inv B0 w0 β p s a w := hs ▸ inv0.trim kp
 rw [show s0.blk = s.blk by rw [hs, trim_blk]] at hcap
 refine wpIn_rangeFunc fun fn _ => ?_
 have hro : (FR w0.ro).round = none := hro rfl
 let w1 := (w.alloc (.deferred (some []))).alloc (.loop { state := .ready, pending := none, fn, tmps := a.tmps, params := ps, assign, body, defers := w.heap.size })
 have hres : (resolve a.eval (rangeCall g (w.heap.size + 1)) 0).run P w1 = .ok { target := .fn (.func f) cv, args := #[yv (w.heap.size + 1)] } w1 := by
  have hcst : a.eval (.const (yv (w.heap.size + 1))) = yv (w.heap.size + 1) := rfl
  simp [resolve, rangeCall, Deferred.ofValue, he, hcst]
 have hinv : (invoke (.fn (.func f) cv) #[yv (w.heap.size + 1)]).run P w1 = .ok (.enter f (#[yv (w.heap.size + 1)] ++ cv)) w1 := by
  obtain ⟨fd, c, h1, h2⟩ := callable_iff hc
  have h3 : fd.name ≠ "runtime.NumGoroutine" := by simpa using hns f fd h1
  simp [invoke, callFunc, h1, h2, h3]
 obtain ⟨β1, inv1, hβ1, tr⟩ := inv.enterLp hfree hK hn (i := ⟨s.n, ps, assign, body, cut⟩) rfl (fn := fn) (w1 := w1) rfl
 refine ⟨w.heap.size + 1, _, w1, _, w1, f, _, w1, by rw [hro]; exact run_enterLoop_outer (P := P) fn a.tmps ps assign body, hres, fun _ _ => trivial, hinv, fun e => (by cases e), ?_⟩
 have hcall := hm B0 w0 β1 p _ w1 (#[yv (w.heap.size + 1)] ++ cv) inv1 (by
  have : (#[yv (w.heap.size + 1)] ++ cv).toList = yv (w.heap.size + 1) :: cv.toList := by simp
  rw [this]
  refine repCs_append (cs := [.l (.mref K)]) (vs := [yv (w.heap.size + 1)]) ⟨rfl, fun j c v h1 h2 => ?_⟩ (RepCs.of (f := id) tr hcap |> fun h => by simpa using h)
  cases j with
  | zero =>
    obtain rfl := Option.some.inj h1
    obtain rfl := Option.some.inj h2
    have h2 := inv1.blk hβ1
    refine ⟨hβ1, ?_, rfl⟩
    have eb : (s.enterLp K ⟨s.n, ps, assign, body, cut⟩).blk K = .lp .ready ⟨s.n, ps, assign, body, cut⟩ s.tmps := by
     exact (PS.blk_setB (s := s) _ hK K).trans (if_pos rfl)
    rw [eb]; trivial
  | succ j => simp at h1)
 refine ⟨trivial, fun cs' hr => ((callsIn_wide (n := 0)).2 (hcall.mono fun e w3 ⟨v, he, β', p', inv3, _⟩ => ?_)).2 cs' (fun _ e => by cases e)⟩
 subst he
 have hslot := inv3.slots s.n (yv (w.heap.size + 1)) (by
  show (a.tmps.push _)[s.n]? = _
  rw [Array.getElem?_push, if_pos inv.size.symm])
 unfold PS.leaveLp at hl
 split at hl
 ·rename_i T q i m hat
  obtain ⟨h1, h2, h3⟩ := lpAt_ok inv3 hslot hat
  obtain ⟨l', rec, el, g1, g2, g3, _⟩ := h3
  obtain rfl : w.heap.size + 1 = l' := by injection el with el; injection el
  have hout : ∀ pd, rec.pending = pd → rec.state ≠ .busy → Rel B0 w0 { (s'.setB T (.lp .gone i m)).drop T with n := s.n } { a with defers := markOf w.heap.size :: a.defers } (w3.putObj (w.heap.size + 1) (.loop { rec with state := .exhausted })) := fun pd _ _ => by
   have i4 := inv3.setLp (q' := .gone) (st := .exhausted) (pd := rec.pending) h1 h2 g2 trivial
   exact ⟨_, _, ((i4.drop T (inv3.lt h1 (by rw [h2]; exact id))).1).shrink inv.size⟩
  cases q with
  | ready =>
    obtain ⟨rfl, rfl⟩ := Prod.mk.inj (Option.some.inj hl)
    exact ⟨none, _, (run_endLoop g2 (by rw [g3.1]; simp)).trans (congrArg (fun x => Result.ok x _) g3.2), hq _ _ (hout _ rfl (by rw [g3.1]; simp))⟩
  | busy => cases hl
  | gone => cases hl
  | done e =>
    cases e with
    | none =>
      obtain ⟨rfl, rfl⟩ := Prod.mk.inj (Option.some.inj hl)
      exact ⟨some .ret, _, (run_endLoop g2 (by rw [g3.1]; simp)).trans (congrArg (fun x => Result.ok x _) g3.2), wpIn_ret (hq _ _ (hout _ rfl (by rw [g3.1]; simp)))⟩
    | some id =>
      obtain ⟨rfl, rfl⟩ := Prod.mk.inj (Option.some.inj hl)
      exact ⟨some (.exit id), _, (run_endLoop g2 (by rw [g3.1]; simp)).trans (congrArg (fun x => Result.ok x _) g3.2), wpIn_exit (hq _ _ (hout _ rfl (by rw [g3.1]; simp)))⟩
 ·cases hl
theorem exec_ok (hns : NoSpecial P) (hm : P.follows .mixedOrders = true) (hcall : CallOk P R call) {inR : Bool} (hR : call.inR = inR) : ∀ (c : Code) (b : Nat) (s : PS) (k : Cont R) (r : R), LoopsOk P inR loops b c → exec P R call loops U b c s k = some r →
 ∃ ex s', k ex s' = some r ∧ RunsTo P inR c s ex s' := by
 intro c
 induction c with
 | skip => exact fun b s k r _ h => ⟨.normal, s, h, fun _ _ a w hr _ Q hq => wpIn_skip (hq a w hr)⟩
 | region id ops draw =>
   intro b s k r _ h
   simp only [exec] at h
   cases draw with
   | true =>
     simp only [if_true] at h
     split at h
     ·rename_i hd
      obtain ⟨s', h1, h2⟩ := draw_ok hns hm hcall rfl (.inl rfl) hd h
      exact ⟨.normal, s', h1, fun B0 w0 a w hr hro Q hq => h2 B0 w0 a w (aheadDraw_rel hr) (fun h => absurd rfl h) Q id hq⟩
     ·split at h
      ·rename_i hd
       obtain ⟨s', h1, h2⟩ := draw_ok hns hm hcall rfl (.inl rfl) hd h
       exact ⟨.normal, s', h1, fun B0 w0 a w hr hro Q hq => h2 B0 w0 a w (aheadDraw_rel hr) (fun h => absurd rfl h) Q id hq⟩
      ·split at h
       ·rename_i hd
        obtain ⟨s', h1, h2⟩ := draw_ok hns hm hcall rfl (.inr ⟨hd.2.1, rfl⟩) hd.2.2 h
        exact ⟨.normal, s', h1, fun B0 w0 a w hr hro Q hq => h2 B0 w0 a w (aheadDraw_rel hr) (fun _ => hro (hR.symm.trans hd.1)) Q id hq⟩
       ·split at h
        ·rename_i hd
         obtain ⟨s', h1, h2⟩ := sort_ok hns hm hcall hd.2.1 (.inr ⟨hd.2.2.1, rfl⟩) hd.2.2.2 h
         exact ⟨.normal, s', h1, fun B0 w0 a w hr hro Q hq => h2 B0 w0 a w (aheadDraw_rel hr) (fun _ => hro (hR.symm.trans hd.1)) Q id hq⟩
        ·cases h
   | false =>
     simp only [Bool.false_eq_true, if_false] at h
     split at h
     ·rename_i g s1 rest hx
      cases g with
      | false => cases h
      | true =>
        obtain ⟨s', h1, h2⟩ := runOps_ok hns hcall (k := fun s => k .normal s) h
        exact ⟨.normal, s', h1, fun B0 w0 a w hr hro Q hq => wpIn_region_list (mxAt_ok hns hcall.mx hx h2 B0 w0 a w hr Q hq)⟩
     ·obtain ⟨s', h1, h2⟩ := runOps_ok hns hcall (k := fun s => k .normal s) h
      exact ⟨.normal, s', h1, fun B0 w0 a w hr hro Q hq => wpIn_region_list (h2 B0 w0 a w hr Q hq)⟩
 | seq x y ihx ihy =>
   intro b s k r hl h
   simp only [exec] at h
   obtain ⟨ex, s1, h1, h2⟩ := ihx b s _ r (fun b' z hz => hl b' z (by simp [loopsIn, hz])) h
   cases ex with
   | normal =>
     obtain ⟨ex, s', h3, h4⟩ := ihy b s1 _ r (fun b' z hz => hl b' z (by simp [loopsIn, hz])) h1
     exact ⟨ex, s', h3, fun B0 w0 a w hr hro Q hq => wpIn_seq (h2 B0 w0 a w hr hro _ fun a' w' hr' => h4 B0 w0 a' w' hr' hro Q hq)⟩
   | exit id => exact ⟨_, s1, h1, fun B0 w0 a w hr hro Q hq => wpIn_seq (h2 B0 w0 a w hr hro _ fun a' w' hr' => hq a' w' hr')⟩
   | ret => exact ⟨_, s1, h1, fun B0 w0 a w hr hro Q hq => wpIn_seq (h2 B0 w0 a w hr hro _ fun a' w' hr' => hq a' w' hr')⟩
 | cond c x y ihx ihy =>
   intro b s k r hl h
   simp only [exec] at h
   split at h
   ·rename_i t
    split at h
    ·rename_i q hq
     cases q with
     | true =>
       obtain ⟨ex, s', h1, h2⟩ := ihx b _ _ r (fun b' z hz => hl b' z (by simp [loopsIn, hz])) h
       exact ⟨ex, s', h1, fun B0 w0 a w hr hro Q hQ => by
        obtain ⟨β, p, inv⟩ := hr
        exact wpIn_cond_true (ev_bool inv hq) (h2 B0 w0 a w (rel_setBool ⟨β, p, inv⟩ hq) hro Q hQ)⟩
     | false =>
       obtain ⟨ex, s', h1, h2⟩ := ihy b _ _ r (fun b' z hz => hl b' z (by simp [loopsIn, hz])) h
       exact ⟨ex, s', h1, fun B0 w0 a w hr hro Q hQ => by
        obtain ⟨β, p, inv⟩ := hr
        exact wpIn_cond_false (ev_bool inv hq) (h2 B0 w0 a w (rel_setBool ⟨β, p, inv⟩ hq) hro Q hQ)⟩
    ·cases h
   ·rename_i q
    cases q with
    | true =>
      obtain ⟨ex, s', h1, h2⟩ := ihx b _ _ r (fun b' z hz => hl b' z (by simp [loopsIn, hz])) h
      exact ⟨ex, s', h1, fun B0 w0 a w hr hro Q hQ => wpIn_cond_true rfl (h2 B0 w0 a w hr hro Q hQ)⟩
    | false =>
      obtain ⟨ex, s', h1, h2⟩ := ihy b _ _ r (fun b' z hz => hl b' z (by simp [loopsIn, hz])) h
      exact ⟨ex, s', h1, fun B0 w0 a w hr hro Q hQ => wpIn_cond_false rfl (h2 B0 w0 a w hr hro Q hQ)⟩
   ·cases h
 | block id x ih =>
   intro b s k r hl h
   simp only [exec] at h
   obtain ⟨ex, s1, h1, h2⟩ := ih id s _ r (fun b' z hz => hl b' z (by simp [loopsIn, hz])) h
   cases ex with
   | normal => exact ⟨.normal, s1, h1, fun B0 w0 a w hr hro Q hq => wpIn_block (h2 B0 w0 a w hr hro _ fun a' w' hr' => hq a' w' hr')⟩
   | ret => exact ⟨.ret, s1, h1, fun B0 w0 a w hr hro Q hq => wpIn_block (h2 B0 w0 a w hr hro _ fun a' w' hr' => hq a' w' hr')⟩
   | exit id' =>
     simp only [] at h1
     split at h1
     ·rename_i e
      exact ⟨.normal, s1, h1, fun B0 w0 a w hr hro Q hq => wpIn_block (h2 B0 w0 a w hr hro _ fun a' w' hr' => by
       show if id' = id then _ else _
       rw [if_pos e]; exact hq a' w' hr')⟩
     ·rename_i e
      exact ⟨.exit id', s1, h1, fun B0 w0 a w hr hro Q hq => wpIn_block (h2 B0 w0 a w hr hro _ fun a' w' hr' => by
       show if id' = id then _ else _
       rw [if_neg e]; exact hq a' w' hr')⟩
 | loop x ih =>
   intro b s k r hl h
   simp only [exec] at h
   split at h
   ·rename_i F hF
    obtain ⟨⟨ex, s'⟩, h1, h2⟩ := Out.run_at h
    exact ⟨ex, s', h2, (hl b x (by simp [loopsIn]) F hF s ex s' h1).runs⟩
   ·obtain ⟨ex, s', h1, h2⟩ := rounds_ok (P := P) (x := x) (fun s k r h => ih b s k r (fun b' z hz => hl b' z (by simp [loopsIn, hz])) (by rwa [PS.forceTop_eq] at h)) h
    exact ⟨ex, s', h1, h2.runs⟩
 | rangeFunc g ps assign body _ _ =>
   intro b s k r _ h
   simp only [exec, hR] at h
   cases inR with
   | true => cases h
   | false =>
     simp only [cond_false, rangeOp] at h
     split at h
     ·rename_i f caps hf
      unfold rangeAt at h
      split at h
      ·rename_i K hK
       split at h
       ·rename_i hc
        obtain ⟨cs, s', h1, h2⟩ := hcall.own _ _ _ _ _ h
        split at h1
        ·rename_i ex s'' hl
         obtain ⟨hfree, hlt⟩ := freeHome_spec hK
         exact ⟨ex, s'', h1, fun B0 w0 a w hr => rangeFunc_ok rfl hns hf hc.1 hc.2 hfree (by omega) h2 hl B0 w0 a w (aheadBig_rel hr)⟩
        ·cases h1
       ·cases h
      ·cases h
     ·cases h
 | exit id => exact fun b s k r _ h => ⟨.exit id, s, h, fun _ _ a w hr _ Q hq => wpIn_exit (hq a w hr)⟩
 | scope x ih =>
   intro b s k r hl h
   simp only [exec] at h
   obtain ⟨ex, s1, h1, h2⟩ := ih b s k r (fun b' z hz => hl b' z (by simpa [loopsIn] using hz)) h
   refine ⟨ex, s1, h1, fun B0 w0 a w hr hro Q hq => wpIn_scope (h2 B0 w0 a w hr hro _ fun a' w' hr' => ?_)⟩
   have := hq a' w' hr'
   cases ex <;> exact this
 | label l => exact fun b s k r _ h => ⟨.normal, s, h, fun _ _ a w hr _ Q hq => wpIn_label (hq a w hr)⟩
 | ret => exact fun b s k r _ h => ⟨.ret, s, h, fun _ _ a w hr _ Q hq => wpIn_ret (hq a w hr)⟩
 | _ => intro b s k r _ h; simp [exec] at h
end
end Go.Ev
namespace Go.Ev
open Go.RowKit
theorem get_enterArgs : ∀ (vs : List CV) (i : Nat) (m : M SV) (t : Nat), i + vs.length ≤ 16000 → (enterArgs i vs m).get t = if i ≤ t then (match vs[t - i]? with | some v => some (.c v) | none => m.get t) else m.get t
 | [], i, m, t, _ => by simp [enterArgs]
 | v :: vs, i, m, t, h => by
   simp only [List.length_cons] at h
   rw [enterArgs, get_enterArgs vs (i + 1) _ t (by omega), M.get_set _ 14 m i t (by omega)]
   by_cases h1 : t = i
   ·subst h1
    rw [if_neg (by omega), if_pos rfl, if_pos (Nat.le_refl _), Nat.sub_self]
    rfl
   ·by_cases h2 : i + 1 ≤ t
    ·rw [if_pos h2, if_neg h1, if_pos (by omega)]
     have : t - i = (t - (i + 1)) + 1 := by omega
     rw [this, List.getElem?_cons_succ]
    ·rw [if_neg h2, if_neg h1, if_neg (by omega)]
section
variable {P : Program}
theorem enter_ok {fn : Func} {args : List CV} {w : World} {p : Nat → Prop} {vs : Array Value} (hl : args.length ≤ fn.ntmps) (hn : fn.ntmps ≤ 16000) (hp : ∀ b, p b → b < w.heap.size) (hg : GlobsOk w p)
 (h : RepCs w p (fun _ => none) (fun _ => .free) args vs.toList) :
 Inv w.heap.size { w := w, p := p } (fun _ => none) p (enter fn args) { tmps := vs ++ Array.replicate (fn.ntmps - vs.size) undef, defers := [] } w := by
 have hvs : vs.size = args.length := by rw [h.1]; simp
 have hblk : ∀ t, (enter fn args).blk t = .free := fun t => by
  rcases Nat.lt_or_ge t 16000 with h | h
  ·rw [PS.blk_low h]; rfl
  ·rw [PS.blk_high h]; rfl
 refine ⟨?_, hn, .nil hg, Below.refl _ _, Nat.le_refl _, fun b hb => ⟨hp b hb, fun t r hr => (by cases hr)⟩, fun b hb => .inl hb, fun t u r q b h1 => (by cases h1), fun t => hblk t, fun t v ht => ?_, trivial⟩
 ·show (vs ++ Array.replicate (fn.ntmps - vs.size) undef).size = fn.ntmps
  rw [Array.size_append, Array.size_replicate, hvs]
  omega
 ·have hg : (enter fn args).get t = match args[t]? with | some v => .c v | none => undefS := by
   unfold PS.get enter
   simp only [get_enterArgs args 0 .e t (by omega), Nat.zero_le, if_true, Nat.sub_zero]
   cases args[t]? <;> rfl
  rw [hg, show (enter fn args).blk = fun _ => .free from funext hblk]
  by_cases hlt : t < args.length
  ·have hv : vs.toList[t]? = some v := by
    rw [Array.getElem?_toList]
    have : (vs ++ Array.replicate (fn.ntmps - vs.size) undef)[t]? = some v := ht
    rwa [Array.getElem?_append_left (by omega)] at this
   rw [List.getElem?_eq_getElem hlt]
   exact h.2 t _ v (List.getElem?_eq_getElem hlt) hv
  ·rw [List.getElem?_eq_none (by omega)]
   trivial
variable {s : PS} {B0 : Nat} {w0 : Base} {β : Nat → Option Value} {p : Nat → Prop} {a : Act} {w : World}
def resVal (a : Act) : ResultVar → Sem Value
 | .tmp t => pure (a.tmps.getD t undef)
 | .cell t T => do loadVar T (← asAddr (a.tmps.getD t undef))
theorem resultVar_ok (inv : Inv B0 w0 β p s a w) {r : ResultVar} {c : CV} (h : resultVar P s r = some c) :
 ∃ v, (resVal a r).run P w = .ok v w ∧ RepC w p β s.blk c v := by
 unfold resultVar at h
 split at h
 ·rename_i t
  split at h
  ·rename_i v hv
   obtain rfl := Option.some.inj h
   have := ev_ok inv (.tmp t)
   rw [hv] at this
   exact ⟨_, rfl, this⟩
  ·cases h
 ·rename_i t T
  split at h
  ·rename_i u sz i off hv
   have hx := ev_ok inv (.tmp t)
   rw [hv] at hx
   obtain ⟨r, b, hr, hb, ex, hok⟩ := hx
   have ex : a.tmps.getD t undef = .pointer (some ⟨b, rootOff r + (i * sz + off), none⟩) := ex
   simp only [resVal, ex, asAddr]
   split at h
   ·rename_i cs hs
    rw [hs] at hok
    obtain ⟨us, hh, hl⟩ := inv.cellsAt hr hb hs
    obtain ⟨v, h1, h2⟩ := load_ok (P := P) (T := T) (b := b) (base := 0) hl (fun j hj => by rw [Nat.zero_add]; exact hh j hj) h
    refine ⟨v, ?_, h2⟩
    have e : rootOff r + (i * sz + off) = 0 + off := by rw [inv.off0 hr (.inl ⟨cs, hs⟩), show sz = 0 from hok, Nat.mul_zero, Nat.zero_add]
    rw [e]
    simpa using h1
   ·rename_i e xs hs
    split at h
    ·rename_i hc
     obtain ⟨hsz, hi, hoff, ha, hu, h1⟩ := hc
     obtain rfl := Option.some.inj h
     obtain ⟨d, hu⟩ := Option.isSome_iff_exists.1 hu
     obtain ⟨us, he, hrow, hcl⟩ := inv.rowsAt hr hb (.inr hs)
     have h0 := inv.off0 hr (.inr ⟨e, xs, hs⟩)
     rw [h0] at hcl
     have hcs := rows_cells (β := β) (H := s.blk) hrow
     have hv : partOf P T (xs.flatMap e.cells) 0 = some (.agg (((xs.flatMap e.cells).drop 0).take (P.cellsOf T))) := by
      unfold partOf
      rw [hu]
      simp only []
      rw [if_pos ha, if_pos (by rw [hcs.1, hrow.1, h1]; omega)]
     have hfull : ((xs.flatMap e.cells).drop 0).take (P.cellsOf T) = xs.flatMap e.cells := by
      rw [List.drop_zero, List.take_of_length_le (by rw [hcs.1, hrow.1, h1]; omega)]
     rw [hfull] at hv
     obtain ⟨u, hru, cu⟩ := load_ok (P := P) (T := T) (b := b) (base := 0) hcs (fun j hj => hcl j hj) hv
     refine ⟨u, ?_, cu⟩
     have hz : rootOff r + (i * sz + off) = 0 + 0 := by rw [h0, hsz, hoff, Nat.mul_zero]
     rw [hz]
     simpa using hru
    ·cases h
   ·cases h
  ·cases h
theorem resultVars_ok (inv : Inv B0 w0 β p s a w) : ∀ {rs : List ResultVar} {cs : List CV}, resultVars P s rs = some cs →
 ∃ vs, (rs.mapM (m := Sem) (resVal a)).run P w = .ok vs w ∧ RepCs w p β s.blk cs vs
 | [], cs, h => by
   obtain rfl := Option.some.inj h
   exact ⟨[], rfl, repCs_nil⟩
 | r :: rs, cs, h => by
   unfold resultVars at h
   split at h
   ·rename_i v vs hv hvs
    obtain rfl := Option.some.inj h
    obtain ⟨u, h1, h2⟩ := resultVar_ok inv hv
    obtain ⟨us, h3, h4⟩ := resultVars_ok inv hvs
    refine ⟨u :: us, ?_, repCs_cons h2 h4⟩
    rw [List.mapM_cons, Sem.run_bind, h1]
    simp only [Result.andThen_ok, Sem.run_bind, h3, Sem.run_pure]
   ·cases h
theorem results_ok (inv : Inv B0 w0 β p s a w) {fn : Func} {cs : List CV} (h : resultVars P s fn.results.toList = some cs) :
 ∃ vs v, (results fn a.tmps).run P w = .ok v w ∧ RepCs w p β s.blk cs vs ∧ ∀ (w' : World) (p' : Nat → Prop) (β' : Nat → Option Value) (H' : Nat → Blk) (cs' : List CV), RepCs w' p' β' H' cs' vs → RepS w' p' β' H' (mkSV cs') v := by
 obtain ⟨vs, h1, h2⟩ := resultVars_ok inv h
 have hm : (fn.results.mapM (m := Sem) (resVal a)).run P w = .ok vs.toArray w := by
  rw [Array.mapM_eq_mapM_toList, Sem.run_map, h1]; rfl
 have hr : (results fn a.tmps).run P w = .ok (if h : vs.toArray.size = 1 then vs.toArray[0] else .tuple vs.toArray) w := by
  show (do let vs ← fn.results.mapM (m := Sem) (resVal a); pure (if h : vs.size = 1 then vs[0] else .tuple vs) : Sem Value).run P w = _
  rw [Sem.run_bind, hm]; rfl
 refine ⟨vs, _, hr, h2, fun w' p' β' H' cs' h3 => ?_⟩
 cases vs with
 | nil =>
   have : cs' = [] := List.eq_nil_of_length_eq_zero h3.1
   subst this
   exact ⟨#[], rfl, repCs_nil⟩
 | cons v vs =>
   cases vs with
   | nil =>
     obtain ⟨c, rfl⟩ : ∃ c, cs' = [c] := by
      have := h3.1
      match cs', this with
      | [c], _ => exact ⟨c, rfl⟩
     exact h3.2 0 c v rfl rfl
   | cons u vs =>
     have := h3.1
     match cs', this with
     | c :: d :: cs', _ => exact ⟨(v :: u :: vs).toArray, by simp, h3⟩
theorem snap_to {q : Nat → Prop} {β' : Nat → Option Value} {H' : Nat → Blk} {cs : List CV} {vs : List Value} (hall : cs.all (fun v => v.all fun x => !x.behind) = true) (h : RepCs w q (fun _ => none) (fun _ => .free) cs vs) : RepCs w p β' H' cs vs :=
 RepCs.imp (fun x => !x.behind) (fun c v hc h => RepL.keep (p := p) ⟨fun b hb => ⟨hb, rfl⟩, fun _ _ h => (by cases h), fun _ h => (by cases h)⟩ (RepL.nb (by simpa using hc) h)) hall h
theorem relocOwn_ok (inv : Inv B0 w0 β p s a w) {t : Nat} {r : Value} (hr : β t = some r) {β' : Nat → Option Value} {H' : Nat → Blk} (h0 : β' 0 = some r) (hH : H' 0 = s.blk t) (hbuf : (s.blk t).isBuf) : ∀ {cs cs' : List CV} {vs : List Value},
 RepCs w p β s.blk cs vs → relocOwn s t cs = some cs' → RepCs w p β' H' cs' vs
 | [], cs', vs, hc, h => by
   unfold relocOwn at h
   obtain rfl := Option.some.inj h
   have : vs = [] := List.eq_nil_of_length_eq_zero hc.1.symm
   subst this; exact repCs_nil
 | c :: cs, cs', vs, hc, h => by
   unfold relocOwn at h
   obtain ⟨v, us, rfl, h1, h2⟩ := hc.uncons
   split at h
   ·rename_i e; cases e
   ·rename_i u r' e
    obtain ⟨rfl, rfl⟩ := List.cons.inj e
    split at h
    ·rename_i ht
     subst ht
     split at h
     ·rename_i l hl
      split at h
      ·rename_i hall
       obtain rfl := Option.some.inj h
       refine repCs_cons ?_ (snap_to hall (snapCs_ok inv (.heap inv) h2 hl))
       obtain ⟨g1, g2, g3⟩ := h1
       rw [hr] at g1
       obtain rfl := Option.some.inj g1
       exact ⟨h0, by rw [hH]; exact hbuf, g3⟩
      ·cases h
     ·cases h
    ·cases h
   ·rename_i v' r' _ e
    obtain ⟨rfl, rfl⟩ := List.cons.inj e
    split at h
    ·rename_i hall
     split at h
     ·rename_i l hl
      obtain rfl := Option.some.inj h
      refine repCs_cons (RepC.imp (fun x => x.pure && !x.behind) (fun c v hc h => ?_) hall h1) (relocOwn_ok inv hr h0 hH hbuf h2 hl)
      simp only [Bool.and_eq_true] at hc
      exact RepL.pure hc.1 h
     ·cases h
    ·cases h
theorem ownOf_buf : ∀ {cs : List CV} {t : Nat}, ownOf s cs = some t → ∃ T e xs, s.blk t = .buf T e xs
 | [], t, h => by cases h
 | c :: cs, t, h => by
   unfold ownOf at h
   split at h
   ·rename_i e; cases e
   ·split at h
    ·rename_i e; cases h; exact ⟨_, _, _, e⟩
    ·cases h
   ·rename_i e
    obtain ⟨rfl, rfl⟩ := List.cons.inj e
    exact ownOf_buf h
theorem resultOf_ok (inv : Inv B0 w0 β p s a w) {fn : Func} {rv : RV} (h : resultOf P s fn.results.toList = some rv) :
 ∃ v, (results fn a.tmps).run P w = .ok v w ∧ RepRV B0 w w0.p rv v := by
 unfold resultOf at h
 split at h
 ·cases h
 rename_i cs hcs
 obtain ⟨vs, v, hrun, hrep, hmk⟩ := results_ok inv hcs
 refine ⟨v, hrun, ?_⟩
 have plain : ∀ l, snapCs s cs = some l → RepRV B0 w w0.p ⟨mkSV l, .free⟩ v := fun l hl =>
  ⟨fun b => (p b ∨ B0 ≤ b) ∧ b < w.heap.size, fun _ => none, fun b hb => ⟨hb.1.elim (inv.conf b) .inr, hb.2⟩, fun _ _ => rfl, rfl, by
    have := snapCs_ok inv (q := fun b => (p b ∨ B0 ≤ b) ∧ b < w.heap.size) ⟨fun b hb => ⟨.inl hb, (inv.shared b hb).1⟩, fun t r b hr hb => ⟨.inr ((inv.blk hr).root b hb).1, ((inv.blk hr).root b hb).2⟩⟩ hrep hl
    exact hmk _ _ _ _ _ (RepCs.keep ⟨fun b hb => ⟨hb, rfl⟩, fun _ _ h => (by cases h), fun _ h => (by cases h)⟩ this)⟩
 have plainO : ∀ rv, (match snapCs s cs with | some l => some (⟨mkSV l, .free⟩ : RV) | none => none) = some rv → RepRV B0 w w0.p rv v := by
  intro rv h
  split at h
  ·rename_i l hl; obtain rfl := Option.some.inj h; exact plain l hl
  ·cases h
 simp only [] at h
 split at h
 ·rename_i t ht
  split at h
  ·rename_i l hl
   obtain rfl := Option.some.inj h
   obtain ⟨T, e, xs, hb0⟩ := ownOf_buf ht
   have hbuf : (s.blk t).isBuf := by rw [hb0]; trivial
   obtain ⟨r, hr⟩ := inv.root_of (t := t) (by intro e; rw [e] at hbuf; exact hbuf)
   refine ⟨p, fun u => if u = 0 then some r else none, fun b hb => ⟨inv.conf b hb, (inv.shared b hb).1⟩, fun u hu => if_neg hu, ?_, ?_⟩
   ·simp only [if_true]
    refine ⟨?_, fun b hb hp => (inv.shared b hp).2 t r hr hb⟩
    have := inv.blk hr
    rw [hb0] at this ⊢
    exact this
   ·exact hmk _ _ _ _ _ (relocOwn_ok inv hr (by simp) (by simp) hbuf hrep hl)
  ·exact plainO rv h
 ·exact plainO rv h
end
structure KnowOk (P : Program) (K : Know) : Prop where
 mx : MxOk P K.md.mx
 ext : ∀ g e xs sv, K.md.ext g = some e → e xs = some (true, sv) → ExtOk P g xs sv
 fns : ∀ f args g rv, K.fns f args = some g → g.at' = some rv → Meets P f args rv
 loops : ∀ f fn c, P.funcs[f]? = some fn → fn.body = some c → LoopsOk P false (K.loops f) 0 c
 loopsR : ∀ i, LoopsOk P true (K.loopsR i) 0 i.body
theorem ofList_get {α : Type} : ∀ (l : List (Nat × α)) (m : M α) (u : Nat), (∀ x ∈ l, x.1 < 16000) → (∃ v, (u, v) ∈ l ∧ (ofList l m).get u = some v) ∨ ((∀ v, (u, v) ∉ l) ∧ (ofList l m).get u = m.get u)
 | [], m, u, _ => .inr ⟨by simp, rfl⟩
 | (t, v) :: l, m, u, h => by
   have ht : t < 16000 := h (t, v) (by simp)
   rw [ofList]
   rcases ofList_get l (M.set v 14 m t) u (fun x hx => h x (by simp [hx])) with ⟨v', h1, h2⟩ | ⟨h1, h2⟩
   ·exact .inl ⟨v', by simp [h1], h2⟩
   ·rw [M.get_set v 14 m t u (by omega)] at h2
    by_cases hu : u = t
    ·subst hu; exact .inl ⟨v, by simp, by rw [h2, if_pos rfl]⟩
    ·refine .inr ⟨fun v' hv => ?_, by rw [h2, if_neg hu]⟩
     rcases List.mem_cons.1 hv with e | e
     ·exact hu (Prod.mk.inj e).1
     ·exact h1 v' e
section
variable {P : Program} {s : PS} {B0 : Nat} {w0 : Base} {β : Nat → Option Value} {p : Nat → Prop} {a : Act} {w : World} {ρ : Nat → Option Nat}
theorem lowR_low {t : Nat} (h : t < 16000) : lowR ρ t = ρ t := by
 have : Nat.blt t 16000 = true := by rw [Nat.blt_eq]; exact h
 simp only [lowR, this, cond_true]
theorem lowR_some {t u : Nat} (h : lowR ρ t = some u) : t < 16000 ∧ ρ t = some u := by
 unfold lowR at h
 cases hb : Nat.blt t 16000 with
 | false => rw [hb] at h; cases h
 | true => rw [hb] at h; exact ⟨by rw [Nat.blt_eq] at hb; exact hb, h⟩
theorem blk_ren (hinj : ∀ t t' u, ρ t = some u → ρ t' = some u → t = t') {u : Nat} (hu : u < 16000) :
 (∀ t, t < 16000 → ρ t = some u → (s.ren ρ).blk u = (s.blk t).ren ρ) ∧ ((∀ t, t < 16000 → ρ t = some u → s.blk t = .free) → (s.ren ρ).blk u = .free) := by
 have hinj' : ∀ t t' u, lowR ρ t = some u → lowR ρ t' = some u → t = t' := fun t t' u h1 h2 => hinj t t' u (lowR_some h1).2 (lowR_some h2).2
 have key : ∀ t, t < 16000 → ρ t = some u → (s.ren ρ).blk u = (s.blk t).ren ρ := fun t ht h => by
  rw [PS.blk_low hu, PS.blk_low ht, PS.raw, PS.raw]
  show Blk.shown (match (H.ren (lowR ρ) (Blk.ren ρ) s.hp).get u with | some b => b | none => Blk.free) = _
  rw [H.get_ren hinj' s.hp t u (by rw [lowR_low ht]; exact h)]
  cases s.hp.get t <;> rfl
 refine ⟨key, fun h => ?_⟩
 by_cases hu' : ∃ t, lowR ρ t = some u
 ·obtain ⟨t, ht⟩ := hu'
  obtain ⟨h1, h2⟩ := lowR_some ht
  rw [key t h1 h2, h t h1 h2]; rfl
 ·rw [PS.blk_low hu, PS.raw]
  show Blk.shown (match (H.ren (lowR ρ) (Blk.ren ρ) s.hp).get u with | some b => b | none => Blk.free) = _
  rw [H.get_ren_none (fun t ht => hu' ⟨t, ht⟩)]
  rfl
theorem blk_ren_high {u : Nat} (hu : 16000 ≤ u) : (s.ren ρ).blk u = s.blk u := by
 rw [PS.blk_high hu, PS.blk_high hu]; rfl
theorem rowB_ren (i : Nat) : (s.rowB i).ren ρ = s.rowB i := by
 unfold PS.rowB
 split
 ·split <;> rfl
 ·rfl
theorem renCaps_get : ∀ {cs l : List Cap}, renCaps ρ cs = some l → l.length = cs.length ∧ ∀ (i : Nat) (c' : Cap), l[i]? = some c' → ∃ c, cs[i]? = some c ∧ ((∃ t u, c = .ref t ∧ c' = .ref u ∧ ρ t = some u) ∨ (c = c' ∧ ∃ s x, c = .dat s x))
 | [], l, h => by
   obtain rfl := Option.some.inj h
   exact ⟨rfl, fun i c' h => by simp at h⟩
 | .ref t :: r, l, h => by
   simp only [renCaps] at h
   split at h
   ·rename_i u l' hu hl
    obtain rfl := Option.some.inj h
    obtain ⟨h1, h2⟩ := renCaps_get hl
    refine ⟨by simp [h1], fun i c' hi => ?_⟩
    cases i with
    | zero => obtain rfl := Option.some.inj hi; exact ⟨_, rfl, .inl ⟨t, u, rfl, rfl, hu⟩⟩
    | succ i => exact h2 i c' (by simpa using hi)
   ·cases h
 | .dat sh x :: r, l, h => by
   simp only [renCaps] at h
   split at h
   ·rename_i l' hl
    obtain rfl := Option.some.inj h
    obtain ⟨h1, h2⟩ := renCaps_get hl
    refine ⟨by simp [h1], fun i c' hi => ?_⟩
    cases i with
    | zero => obtain rfl := Option.some.inj hi; exact ⟨_, rfl, .inr ⟨rfl, sh, x, rfl⟩⟩
    | succ i => exact h2 i c' (by simpa using hi)
   ·cases h
theorem RepL.ren {β' : Nat → Option Value} {H H' : Nat → Blk} (to : ∀ t u r, ρ t = some u → β t = some r → ¬ (H t).isRow → β' u = some r ∧ BlkSim (H t) (H' u)) (tor : ∀ j r, β (16000 + j) = some r → β' (16000 + j) = some r ∧ BlkSim (H (16000 + j)) (H' (16000 + j))) {c : LV} {v : Value} (h : RepL w p β H c v) : RepL w p β' H' (c.ren ρ) v := by
 have hu : RepL w p β' H' .undef v := h.oneCell
 cases c <;> simp only [LV.ren]
 case ref t sz i o =>
  obtain ⟨r, b, h1, h2, h3, h4⟩ := h
  cases hr : ρ t with
  | none => exact hu
  | some u => obtain ⟨g1, g2⟩ := to t u r hr h1 h4.low; exact ⟨r, b, g1, h2, h3, h4.sim g2⟩
 case full t =>
  cases hr : ρ t with
  | none => exact hu
  | some u => obtain ⟨g1, g2⟩ := to t u v hr h.1 h.2.1.low; exact ⟨g1, h.2.1.sim g2, h.2.2⟩
 case sref t sz off len =>
  obtain ⟨a, c, r, h1, h2, h3, h4, h5⟩ := h
  cases hr : ρ t with
  | none => exact hu
  | some u => obtain ⟨g1, g2⟩ := to t u r hr h3 h4.low; exact ⟨a, c, r, h1, h2, g1, h4.sim g2, h5⟩
 case cref t o len e =>
  obtain ⟨a, c, r, h1, h2, h3, h4, h5⟩ := h
  cases hr : ρ t with
  | none => exact hu
  | some u => obtain ⟨g1, g2⟩ := to t u r hr h3 h4.low; exact ⟨a, c, r, h1, h2, g1, h4.sim g2, h5⟩
 case mref t =>
  cases hr : ρ t with
  | none => exact hu
  | some u => obtain ⟨g1, g2⟩ := to t u v hr h.1 h.2.1.low; exact ⟨g1, h.2.1.sim g2, h.2.2⟩
 case cloR f cs =>
  cases hl : renCaps ρ cs with
  | none => exact hu
  | some l =>
    obtain ⟨cv, h1, h2, h3⟩ := h
    obtain ⟨k1, k2⟩ := renCaps_get hl
    refine ⟨cv, h1, k1.trans h2, fun i c' u hi hv => ?_⟩
    obtain ⟨c, hc, hk⟩ := k2 i c' hi
    have hrep := h3 i c u hc hv
    rcases hk with ⟨t, u', rfl, rfl, hr⟩ | ⟨rfl, sh, x, rfl⟩
    ·obtain ⟨r, b, g1, g2, g3, g4⟩ := hrep
     obtain ⟨e1, e2⟩ := to t u' r hr g1 g4.low
     exact ⟨r, b, e1, g2, g3, g4.sim e2⟩
    ·exact hrep
 case row j => obtain ⟨g1, g2⟩ := tor j v h.1; exact ⟨g1, h.2.1.sim g2, h.2.2⟩
 case rel j k =>
  obtain ⟨r, b, h1, h2, h3, h4⟩ := h
  obtain ⟨g1, g2⟩ := tor j r h1
  exact ⟨r, b, g1, h2, h3, h4.sim g2⟩
 all_goals exact RepL.pure rfl h
theorem Inv.ren (inv : Inv B0 w0 β p s a w) (hinj : ∀ t t' u, ρ t = some u → ρ t' = some u → t = t') (hlt : ∀ t u, t < 16000 → ρ t = some u → s.blk t ≠ .free → u < 16000) :
 ∃ β', Inv B0 w0 β' p (s.ren ρ) a w ∧ ∀ c v, RepC w p β s.blk c v → RepC w p β' (s.ren ρ).blk (c.ren ρ) v := by
 classical
 let β' : Nat → Option Value := fun u => if 16000 ≤ u then β u else if h : ∃ t, t < 16000 ∧ ρ t = some u then β (Classical.choose h) else none
 have hβ : ∀ t u, t < 16000 → u < 16000 → ρ t = some u → β' u = β t := fun t u ht hu h => by
  have hex : ∃ t, t < 16000 ∧ ρ t = some u := ⟨t, ht, h⟩
  show (if 16000 ≤ u then β u else _) = _
  rw [if_neg (by omega), dif_pos hex, hinj _ _ u (Classical.choose_spec hex).2 h]
 have hβh : ∀ u, 16000 ≤ u → β' u = β u := fun u hu => if_pos hu
 have hfrom : ∀ u r, β' u = some r → (16000 ≤ u ∧ β u = some r) ∨ (u < 16000 ∧ ∃ t, t < 16000 ∧ ρ t = some u ∧ β t = some r) := fun u r h => by
  have h : (if 16000 ≤ u then β u else if h : ∃ t, t < 16000 ∧ ρ t = some u then β (Classical.choose h) else none) = some r := h
  split at h
  ·rename_i hu; exact .inl ⟨hu, h⟩
  ·rename_i hu
   split at h
   ·rename_i hex; exact .inr ⟨by omega, _, (Classical.choose_spec hex).1, (Classical.choose_spec hex).2, h⟩
   ·cases h
 have hne : ∀ t r, β t = some r → s.blk t ≠ .free := fun t r h e => by have := inv.blk h; rw [e] at this; exact this
 have simr : ∀ b : Blk, BlkSim b (b.ren ρ) := by
  intro b; cases b <;> simp [Blk.ren, BlkSim]
 have to : ∀ t u r, ρ t = some u → β t = some r → ¬ (s.blk t).isRow → β' u = some r ∧ BlkSim (s.blk t) ((s.ren ρ).blk u) := fun t u r h1 h2 h3 => by
  have ht := inv.lt h2 h3
  have hu := hlt t u ht h1 (hne t r h2)
  refine ⟨by rw [hβ t u ht hu h1]; exact h2, ?_⟩
  rw [(blk_ren hinj hu).1 t ht h1]
  exact simr _
 have tor : ∀ j r, β (16000 + j) = some r → β' (16000 + j) = some r ∧ BlkSim (s.blk (16000 + j)) ((s.ren ρ).blk (16000 + j)) := fun j r h => by
  have hj : 16000 ≤ 16000 + j := Nat.le_add_right _ _
  rw [hβh _ hj, blk_ren_high hj]
  exact ⟨h, BlkSim.refl _⟩
 have leaf : ∀ c v, RepL w p β s.blk c v → RepL w p β' (s.ren ρ).blk (c.ren ρ) v := fun c v h => RepL.ren to tor h
 have part : ∀ c u, RepC w p β s.blk c u → RepC w p β' (s.ren ρ).blk (c.ren ρ) u := by
  intro c u hc
  have := RepC.of (f := LV.ren ρ) rfl leaf hc
  cases c <;> exact this
 have partS : ∀ z u, RepS w p β s.blk z u → RepS w p β' (s.ren ρ).blk (z.ren ρ) u := by
  intro z u h0
  cases z with
  | c c => exact part c u h0
  | tup cs =>
    obtain ⟨vs, rfl, h1⟩ := h0
    exact ⟨vs, rfl, RepCs.of part h1⟩
 have rb : ∀ b r, RepB w p β s.blk B0 b r → RepB w p β' (s.ren ρ).blk B0 (b.ren ρ) r := by
  intro b r hb
  have h2 := RepB.of (f := LV.ren ρ) leaf (fun b hb => ⟨hb, rfl⟩) (fun _ _ => rfl) hb
  cases b <;> exact h2
 have eg : ∀ t, (s.ren ρ).get t = (s.get t).ren ρ := by
  intro t
  simp only [PS.get, PS.ren, M.get_map]
  cases hh : s.tmps.get t <;> simp [SV.ren, CV.ren, LV.ren, undefS]
 refine ⟨β', ⟨inv.size, inv.deep, inv.defers, inv.ext, inv.base, fun b hb => ⟨(inv.shared b hb).1, fun u r hr => ?_⟩, inv.conf, fun t u r q b h1 h2 h3 h4 => ?_, fun u => ?_, fun t v hv => ?_, UpsRep.of rfl partS inv.ups⟩, part⟩
 ·rcases hfrom u r hr with ⟨_, ht⟩ | ⟨_, t, _, _, ht⟩
  ·exact (inv.shared b hb).2 u r ht
  ·exact (inv.shared b hb).2 t r ht
 ·rcases hfrom t r h1 with ⟨a1, a2⟩ | ⟨a1, t', a0, g1, g2⟩ <;> rcases hfrom u q h2 with ⟨b1, b2⟩ | ⟨b1, u', b0, g3, g4⟩
  ·exact inv.inj t u r q b a2 b2 h3 h4
  ·have := inv.inj t u' r q b a2 g4 h3 h4
   omega
  ·have := inv.inj t' u r q b g2 b2 h3 h4
   omega
  ·have := inv.inj t' u' r q b g2 g4 h3 h4
   subst this
   exact Option.some.inj (g1.symm.trans g3)
 ·rcases Nat.lt_or_ge u 16000 with hu | hu
  ·cases hr : β' u with
   | none =>
     refine (blk_ren hinj hu).2 fun t ht h => ?_
     have := inv.blks t
     rw [← hβ t u ht hu h, hr] at this
     exact this
   | some r =>
     rcases hfrom u r hr with ⟨h0, _⟩ | ⟨_, t, ht, h1, h2⟩
     ·omega
     ·refine ⟨?_, .inl hu⟩
      rw [(blk_ren hinj hu).1 t ht h1]
      exact rb _ _ (inv.blk h2)
  ·rw [hβh u hu, blk_ren_high hu]
   have := inv.blks u
   cases hr : β u with
   | none => rw [hr] at this; exact this
   | some r =>
     rw [hr] at this
     refine ⟨?_, .inr hu⟩
     have h2 := rb _ _ this.1
     rw [PS.blk_high hu] at h2 ⊢
     rwa [rowB_ren] at h2
 ·rw [eg t]
  exact partS _ _ (inv.slots t v hv)
theorem push_frame (inv : Inv B0 w0 β p s a w) {n : Nat} {args : List CV} {vals : Array Value} (hl : args.length ≤ n) (hn : n ≤ 16000) (h : RepCs w p β s.blk args vals.toList) :
 Inv B0 { w0 with up := a.tmps :: w0.up, defs := a.defers ++ w0.defs, ro := none } β p { n := n, tmps := enterArgs 0 args .e, hp := s.hp, up := (s.n, s.tmps) :: s.up, pl := s.pl } { tmps := vals ++ Array.replicate (n - vals.size) undef, defers := [] } w := by
 have hvs : vals.size = args.length := by rw [h.1]; simp
 refine ⟨?_, hn, inv.defers, inv.ext, inv.base, inv.shared, inv.conf, inv.inj, inv.blks, fun t v ht => ?_, ⟨⟨inv.size, inv.deep, inv.slots⟩, inv.ups⟩⟩
 ·show (vals ++ Array.replicate (n - vals.size) undef).size = n
  rw [Array.size_append, Array.size_replicate, hvs]
  omega
 ·have hg : (PS.mk n (enterArgs 0 args .e) s.hp ((s.n, s.tmps) :: s.up) s.pl).get t = match args[t]? with | some v => .c v | none => undefS := by
   unfold PS.get
   simp only [get_enterArgs args 0 .e t (by omega), Nat.zero_le, if_true, Nat.sub_zero]
   cases args[t]? <;> rfl
  show RepS w p β s.blk _ _
  rw [hg]
  by_cases hlt : t < args.length
  ·have hv : vals.toList[t]? = some v := by
    rw [Array.getElem?_toList]
    have : (vals ++ Array.replicate (n - vals.size) undef)[t]? = some v := ht
    rwa [Array.getElem?_append_left (by omega)] at this
   rw [List.getElem?_eq_getElem hlt]
   exact h.2 t _ v (List.getElem?_eq_getElem hlt) hv
  ·rw [List.getElem?_eq_none (by omega)]
   trivial
theorem pop_frame {tm : Array Value} {u : List (Array Value)} {ds : List Deferred} {ro : Option Nat} {n : Nat} {m : M SV} {r : List (Nat × M SV)} (inv : Inv B0 { w0 with up := tm :: u, defs := ds ++ w0.defs, ro := ro } β p s { a with defers := [] } w) (hu : s.up = (n, m) :: r) :
 Inv B0 { w0 with up := u } β p { n := n, tmps := m, hp := s.hp, up := r, pl := s.pl } { tmps := tm, defers := ds } w := by
 have h := inv.ups
 rw [hu] at h
 obtain ⟨⟨h1, h2, h3⟩, h4⟩ := h
 exact ⟨h1, h2, inv.defers, inv.ext, inv.base, inv.shared, inv.conf, inv.inj, inv.blks, h3, h4⟩
theorem Inv.unmark {D : Nat} {tm : Array Value} {ds : List Deferred} (h : Inv B0 w0 β p s { tmps := tm, defers := markOf D :: ds } w) :
 w.heap[D]? = some (.deferred (some [])) ∧ Inv B0 w0 β p s { tmps := tm, defers := ds } (w.putObj D (.deferred none)) := by
 obtain ⟨hg, l, hnd, hl, hpin⟩ := h.defers
 cases l with
 | nil => cases hl
 | cons D' l =>
   simp only [List.cons_append, List.map_cons, List.cons.injEq] at hl
   obtain ⟨hD, hl⟩ := hl
   have hD : D = D' := by injection hD with hD; injection hD
   subst hD
   have pin := hpin D (by simp)
   have hoth : ∀ b, b ≠ D → (w.putObj D (.deferred none)).heap[b]? = w.heap[b]? := fun b hb => World.putObj_heap_other hb
   have hpb : ∀ b, p b → (w.putObj D (.deferred none)).heap[b]? = w.heap[b]? := fun b hb => hoth b fun e => pin.data (e ▸ hb)
   have hk : Keeps w (w.putObj D (.deferred none)) p p β β s.blk s.blk := ⟨fun b hb => ⟨hb, hpb b hb⟩, fun _ _ h => h, fun _ _ => BlkSim.refl _⟩
   have hsz : (w.putObj D (.deferred none)).heap.size = w.heap.size := World.putObj_size
   refine ⟨pin.obj, h.size, h.deep, ⟨hg.mono fun b hb => ⟨hb, hpb b hb⟩, l, (List.nodup_cons.1 hnd).2, hl, fun D2 h2 => ?_⟩, h.ext.trans ⟨rfl, rfl, rfl, by rw [hsz]; exact Nat.le_refl _, fun k hk' => hoth k fun e => by have := pin.base; omega⟩, by rw [hsz]; exact h.base, fun b hb => ⟨by rw [hsz]; exact (h.shared b hb).1, (h.shared b hb).2⟩, h.conf, h.inj, fun t => ?_, fun t v hv => RepS.keep hk (h.slots t v hv), UpsRep.keep (fun _ _ h => RepS.keep hk h) h.ups⟩
   ·have p2 := hpin D2 (by simp [h2])
    exact ⟨by rw [hoth D2 fun e => (List.nodup_cons.1 hnd).1 (e ▸ h2)]; exact p2.obj, p2.base, p2.data⟩
   ·have := h.blks t
    cases hr : β t with
    | none => rw [hr] at this; exact this
    | some r =>
      rw [hr] at this
      exact ⟨RepB.keep hk (fun g hg => hoth g fun e => this.1.kind g (some []) hg (by rw [e]; exact pin.obj)) this.1, this.2⟩
theorem marks_out {fn : Func} {R : Ending → World → Prop} {tm : Array Value} : ∀ {ds : List Deferred} {w : World}, Inv B0 w0 β p s { tmps := tm, defers := ds } w → (∀ w', Inv B0 w0 β p s { tmps := tm, defers := [] } w' → ∃ v, (results fn tm).run P w' = .ok v w' ∧ R (.returned v) w') →
 LeavesInM Fence.wide 0 P fn tm R ds .returning w
 | [], w, h, hR => hR w h
 | d :: ds, w, h, hR => by
   obtain ⟨D, rfl⟩ : ∃ D, d = markOf D := by
    obtain ⟨_, l, _, hl, _⟩ := h.defers
    cases l with
    | nil => cases hl
    | cons D l => simp only [List.cons_append, List.map_cons, List.cons.injEq] at hl; exact ⟨D, hl.1⟩
   obtain ⟨h1, h2⟩ := h.unmark
   exact ⟨by simp, .inl ⟨D, _, rfl, run_takeDeferred h1, marks_out h2 hR⟩⟩
theorem calls_of_wpM {P : Program} {f : FuncId} {fn : Func} {c : Code} {args : Array Value} {w : World} {R : Ending → World → Prop} (hf : P.funcs[f]? = some fn) (hb : fn.body = some c)
 (h : c.wpIn (FR none) 0 P (bodyPostM Fence.wide 0 P fn R) { tmps := args ++ Array.replicate (fn.ntmps - args.size) undef, defers := [] } w) : Calls P f args w R :=
 (callsIn_wide (n := 0)).1 (callsIn_of_wp_marks hf hb trivial h)
theorem homes_rel {rs : List ResultVar} {res : PS → List ResultVar → Option (List CV)} : ∀ {l : List Nat} {s : PS}, Rel B0 w0 s a w → Rel B0 w0 (homes P rs res l s) a w
 | [], _, h => h
 | x :: l, s, h => by
   unfold homes
   split
   ·split
    ·exact homes_rel (move_rel h _ _)
    ·exact homes_rel h
   ·exact homes_rel h
theorem own_ok {fn : Func} {c : Code} {f : FuncId} {args : List CV} {ex : Ex} {s3 s' : PS} {cs : List CV} (hf : P.funcs[f]? = some fn) (hb : fn.body = some c) (hl : args.length ≤ fn.ntmps) (hn : fn.ntmps ≤ 900) (hk : keysLow s = true)
 (hruns : RunsTo P false c (s.push fn.ntmps args) ex s3) (hex : ex.to = .normal ∨ ex.to = .ret) (he : ownEnd P fn.results.toList s3 = some (cs, s')) : OwnMeets P f args s cs s' := by
 intro B0 w0 β p a w vals inv hargs
 obtain ⟨β1, inv1, tr1⟩ := inv.ren (ρ := above) (fun t t' u h1 h2 => by simp only [above, Option.some.injEq] at h1 h2; omega) (fun t u ht h1 h2 => by
  have hg : s.hp.get t = some (s.blk t) := by
   rw [PS.blk_low ht, PS.raw] at h2 ⊢
   cases h : s.hp.get t with
   | none => rw [h] at h2; exact absurd rfl h2
   | some b => rfl
  have := List.all_eq_true.1 hk (t, s.blk t) (H.mem_of_get hg)
  simp only [Nat.blt_eq] at this
  simp only [above, Option.some.injEq] at h1
  omega)
 have hargs1 : RepCs w p β1 (s.ren above).blk (args.map (CV.ren above)) vals.toList := RepCs.of tr1 hargs
 have inv2 := push_frame inv1 (n := fn.ntmps) (by rw [List.length_map]; exact hl) (by omega) hargs1
 refine calls_of_wpM hf hb (hruns _ _ _ _ ⟨_, _, inv2⟩ (fun _ => rfl) _ fun a3 w3 hr => ?_)
 have goal : ∀ R : Ending → World → Prop, LeavesInM Fence.wide 0 P fn a3.tmps R a3.defers .returning w3 → bodyPostM Fence.wide 0 P fn R ex.to a3 w3 := fun R h => by
  rcases hex with hex | hex <;> rw [hex] <;> exact h
 refine goal _ ?_
 unfold ownEnd at he
 simp only [] at he
 obtain ⟨β4, p4, inv4⟩ := homes_rel (P := P) (rs := fn.results.toList) (res := resultVars P) (l := lowKeys (homes P fn.results.toList (resultVars P) (lowKeys s3) s3)) (homes_rel (P := P) (rs := fn.results.toList) (res := resultVars P) (l := lowKeys s3) hr)
 split at he
 ·rename_i cs4 hcs
  refine marks_out (s := homes P fn.results.toList (resultVars P) (lowKeys (homes P fn.results.toList (resultVars P) (lowKeys s3) s3)) (homes P fn.results.toList (resultVars P) (lowKeys s3) s3)) inv4 fun w3 inv4 => ?_
  obtain ⟨vs, v, hrun, hrep, hmk⟩ := results_ok inv4 hcs
  unfold PS.pop at he
  split at he
  ·cases he
  ·rename_i n5 m5 r5 hup
   obtain ⟨rfl, rfl⟩ := Prod.mk.inj (Option.some.inj he)
   have inv5 := pop_frame inv4 hup
   obtain ⟨β6, inv6, tr6⟩ := inv5.ren (ρ := beneath) (fun t t' u h1 h2 => by
    simp only [beneath] at h1 h2
    split at h1 <;> split at h2 <;> simp at h1 h2
    omega) (fun t u ht h1 h2 => by
    simp only [beneath] at h1
    split at h1 <;> simp at h1
    omega)
   have hcs6 := RepCs.of (f := CV.ren beneath) tr6 hrep
   exact ⟨v, hrun, v, rfl, β6, p4, inv6, hmk _ _ _ _ _ hcs6⟩
 ·cases he
theorem setParams_ok {w : World} {p : Nat → Prop} {β : Nat → Option Value} {H : Nat → Blk} {n : Nat} (hn : n ≤ 16000) : ∀ {ps : List Tmp} {vs : List CV} {us : List Value} {m : M SV} {tm : Array Value}, (∀ q ∈ ps, q < n) → RepCs w p β H vs us → vs.length = ps.length → tm.size = n →
 (∀ t v, tm[t]? = some v → RepS w p β H (getM m t) v) →
 ((ps.zip us).foldl (fun tmps (x : Tmp × Value) => tmps.setIfInBounds x.1 x.2) tm).size = n ∧ ∀ t v, ((ps.zip us).foldl (fun tmps (x : Tmp × Value) => tmps.setIfInBounds x.1 x.2) tm)[t]? = some v → RepS w p β H (getM (setParams ps vs m) t) v
 | [], vs, us, m, tm, _, _, _, hs, h => by
   cases vs <;> exact ⟨hs, h⟩
 | q :: ps, [], us, m, tm, _, _, hl, _, _ => by cases hl
 | q :: ps, v :: vs, us, m, tm, hps, hr, hl, hs, h => by
   cases us with
   | nil => cases hr.1
   | cons u us =>
     simp only [List.zip_cons_cons, List.foldl_cons, setParams]
     have hq : q < n := hps q (by simp)
     refine setParams_ok hn (fun x hx => hps x (by simp [hx])) ⟨by have := hr.1; simpa using this, fun i c v h1 h2 => hr.2 (i + 1) c v (by simpa using h1) (by simpa using h2)⟩ (by simpa using hl) (by simpa using hs) fun t x hx => ?_
     have e : getM (M.set (.c v) 14 m q) t = if t = q then .c v else getM m t := by
      simp only [getM, M.get_set _ 14 m q t (deep14 (lt_depth hq hn))]
      by_cases e : t = q <;> simp [e]
     rw [e]
     simp only [Array.getElem?_setIfInBounds] at hx
     by_cases e : t = q
     ·subst e
      rw [if_pos rfl] at hx ⊢
      split at hx
      ·obtain rfl := Option.some.inj hx
       exact hr.2 0 v _ rfl rfl
      ·cases hx
     ·rw [if_neg e]
      rw [if_neg (fun h => e h.symm)] at hx
      exact h t x hx
theorem isLp_of_yield {B : Nat} {H : Nat → Blk} {b : Blk} {l : Nat} (h : RepB w p β H B b (yv l)) : b.isMap := by
 cases b with
 | free => exact h.elim
 | cells cs => obtain ⟨_, _, _, e, _⟩ := h; rcases e with ⟨e, _⟩ | ⟨_, e, _⟩ <;> cases e
 | arr e xs => obtain ⟨_, _, _, e, _⟩ := h; cases e
 | map k v es => obtain ⟨_, _, _, e, _⟩ := h; cases e
 | lp q i m => trivial
 | buf T e xs =>
   obtain ⟨us, h1, _⟩ := h
   rcases h1.2 with ⟨e, _⟩ | ⟨_, _, _, _, e, _⟩ <;> cases e
 | rowb T xs =>
   obtain ⟨us, h1, _⟩ := h
   rcases h1.2 with ⟨e, _⟩ | ⟨_, _, _, _, e, _⟩ <;> cases e
 | ids T l =>
   obtain ⟨us, h1, _⟩ := h
   rcases h1.2 with ⟨e, _⟩ | ⟨_, _, _, _, e, _⟩ <;> cases e
theorem MarksOk.suffix {ds es : List Deferred} (h : MarksOk B0 w p (ds ++ es)) : MarksOk B0 w p es := by
 obtain ⟨h0, L, h1, h2, h3⟩ := h
 obtain ⟨L1, L2, rfl, e1, e2⟩ := List.map_eq_append_iff.1 h2.symm
 exact ⟨h0, L2, (List.nodup_append.1 h1).2.1, e2.symm, fun D hD => h3 D (List.mem_append_right _ hD)⟩
theorem pop_round {tm : Array Value} {v : Value} {u : List (Array Value)} {ds : List Deferred} {ro : Option Nat} {x : Nat × M SV} {r : List (Nat × M SV)} (inv : Inv B0 { w0 with up := tm.push v :: u, defs := ds ++ w0.defs, ro := ro } β p s a w) (hu : s.up = x :: r) :
 Inv B0 { w0 with up := u } β p { n := x.1 - 1, tmps := x.2, hp := s.hp, up := r, pl := s.pl } { tmps := tm, defers := ds } w := by
 have h := inv.ups
 rw [hu] at h
 obtain ⟨⟨h1, h2, h3⟩, h4⟩ := h
 rw [Array.size_push] at h1
 refine ⟨by show tm.size = x.1 - 1; omega, by show x.1 - 1 ≤ 16000; omega, inv.defers.suffix, inv.ext, inv.base, inv.shared, inv.conf, inv.inj, inv.blks, fun t y hy => h3 t y ?_, h4⟩
 have hy : tm[t]? = some y := hy
 have : t < tm.size := (Array.getElem?_eq_some_iff.1 hy).1
 rw [Array.getElem?_push, if_neg (by omega)]
 exact hy
theorem up_handle {tm : Array Value} {v : Value} {u : List (Array Value)} {ds : List Deferred} {ro : Option Nat} {x : Nat × M SV} {r : List (Nat × M SV)} (inv : Inv B0 { w0 with up := tm.push v :: u, defs := ds, ro := ro } β p s a w) (hu : s.up = x :: r) : RepS w p β s.blk (getM x.2 (x.1 - 1)) v := by
 have h := inv.ups
 rw [hu] at h
 obtain ⟨⟨h1, h2, h3⟩, h4⟩ := h
 rw [Array.size_push] at h1
 refine h3 _ _ ?_
 rw [Array.getElem?_push, if_pos (by omega)]
theorem yld_ok {P : Program} {t : Nat} {vs : List CV} {s s1 s2 s3 s4 s5 : PS} {i : LpI} {ex : Ex} {b : Bool} (hpush : s.pushRound t vs = some (i, s1)) (h2 : RunsTo P true i.assign s1 .normal s2) (hb : s2.beginR = some s3) (h4 : RunsTo P true i.body s3 ex s4) (he : s4.endR P ex = some (b, s5)) :
 YldMeets P t vs s b s5 := by
 intro B0 w0 β p a w vals l inv hβ hvs
 unfold PS.pushRound at hpush
 split at hpush
 ·rename_i i' m hblk
  split at hpush
  ·rename_i hc
   obtain ⟨hlen, hin, hsn, hps, hkeys⟩ := hc
   obtain ⟨rfl, rfl⟩ := Prod.mk.inj (Option.some.inj hpush)
   obtain ⟨β1, inv1, tr1⟩ := inv.ren (ρ := above) (fun t t' u h1 h2 => by simp only [above, Option.some.injEq] at h1 h2; omega) (fun t u ht h1 h2 => by
    have hg : s.hp.get t = some (s.blk t) := by
     rw [PS.blk_low ht, PS.raw] at h2 ⊢
     cases h : s.hp.get t with
     | none => rw [h] at h2; exact absurd rfl h2
     | some b => rfl
    have := List.all_eq_true.1 hkeys (t, s.blk t) (H.mem_of_get hg)
    simp only [Nat.blt_eq] at this
    simp only [above, Option.some.injEq] at h1
    omega)
   have hm1 : RepC w p β1 (s.ren above).blk (.l (.mref (t + 1000))) (yv l) := tr1 (.l (.mref t)) (yv l) ⟨hβ, isLp_of_yield (inv.blk hβ), rfl⟩
   obtain ⟨hβ1, _, _⟩ := hm1
   have hrep := inv1.blk hβ1
   rw [hblk] at hrep
   obtain ⟨l', rec, el, g1, g2, g3, g4, g5, g6, g7, g8, g9⟩ := hrep
   obtain rfl : l = l' := by injection el with el; injection el
   have hvs1 : RepCs w p β1 (s.ren above).blk (vs.map (CV.ren above)) vals.toList := RepCs.of tr1 hvs
   have hsz : vals.size = rec.params.size := by
    rw [g4, ← hlen]
    have := hvs.1
    simpa using this.symm
   refine ⟨rec, g2, hsz, roundIn_of_wpIn trivial ?_⟩
   rw [g5, g6]
   have hfold : (rec.params.zip vals).foldl (fun tmps (x : Tmp × Value) => tmps.setIfInBounds x.1 x.2) rec.tmps = (rec.params.toList.zip vals.toList).foldl (fun tmps (x : Tmp × Value) => tmps.setIfInBounds x.1 x.2) rec.tmps := by
    rw [← Array.foldl_toList, Array.toList_zip]
   obtain ⟨k1, k2⟩ := setParams_ok (n := i'.n) (by omega) (ps := i'.params.toList) (m := m) (tm := rec.tmps) (fun q hq => by have := List.all_eq_true.1 hps q hq; simpa using this) hvs1 (by simpa using hlen) g7 g9
   rw [← g4, ← hfold] at k1 k2
   let w0' : Base := { w0 with up := a.tmps.push (yv l) :: w0.up, defs := a.defers ++ w0.defs, ro := some l }
   have hsz1 : a.tmps.size = s.n := inv.size
   have inv2 : Inv B0 w0' β1 p { n := i'.n, tmps := setParams i'.params.toList (vs.map (CV.ren above)) m, hp := (s.ren above).hp, up := (s.n + 1, M.set (.c (.l (.mref (t + 1000)))) 14 (s.ren above).tmps s.n) :: (s.ren above).up, pl := s.pl }
    { tmps := (rec.params.zip vals).foldl (fun tmps (x : Tmp × Value) => tmps.setIfInBounds x.1 x.2) rec.tmps, defers := [] } w := by
    refine ⟨k1, by show i'.n ≤ 16000; omega, inv1.defers, inv1.ext, inv1.base, inv1.shared, inv1.conf, inv1.inj, inv1.blks, fun t v hv => ?_, ⟨⟨by rw [Array.size_push, hsz1], by omega, fun u v hv => ?_⟩, inv1.ups⟩⟩
    ·have := k2 t v hv
     rw [g4] at this
     exact this
    ·have e : getM (M.set (.c (.l (.mref (t + 1000)))) 14 (s.ren above).tmps s.n) u = if u = s.n then .c (.l (.mref (t + 1000))) else (s.ren above).get u := by
      simp only [getM, M.get_set _ 14 _ s.n u (deep14 hsn), PS.get]
      by_cases e : u = s.n <;> simp [e]
     show RepS w p β1 (s.ren above).blk (getM (M.set (.c (.l (.mref (t + 1000)))) 14 (s.ren above).tmps s.n) u) v
     rw [e]
     rw [Array.getElem?_push] at hv
     by_cases e : u = s.n
     ·rw [if_pos (by omega)] at hv
      obtain rfl := Option.some.inj hv
      rw [if_pos e]
      exact ⟨hβ1, by rw [hblk]; trivial, rfl⟩
     ·rw [if_neg (by omega)] at hv
      rw [if_neg e]
      exact inv1.slots u v hv
   refine h2 B0 w0' _ w ⟨_, _, inv2⟩ (fun e => by cases e) _ fun a3 w3 hr3 => ?_
   obtain ⟨β3, p3, inv3⟩ := hr3
   show ∃ w₂, (Instr.beginRound l).run P w3 = .ok () w₂ ∧ _
   unfold PS.beginR at hb
   split at hb
   ·rename_i x3 r3 hup3
    split at hb
    ·rename_i T3 i3 m3 hat3
     obtain rfl := Option.some.inj hb
     obtain ⟨n1, n2, n3⟩ := lpAt_ok inv3 (up_handle inv3 hup3) hat3
     obtain ⟨l3, rec3, el3, q1, q2, q3, _⟩ := n3
     obtain rfl : l = l3 := by injection el3 with el3; injection el3
     refine ⟨_, run_beginRound q2 q3.1, ?_⟩
     have inv4 := inv3.setLp (q' := .busy) (st := .busy) (pd := rec3.pending) n1 n2 q2 rfl
     refine h4 B0 w0' a3 _ ⟨β3, p3, inv4⟩ (fun e => by cases e) _ fun a5 w5 hr5 => ?_
     have goal : ∀ (st : LoopState) (pd : Option Code) (bb : Bool), LpOk ex.lp st pd → ex.isNormal = bb → ∀ {x : Nat × M SV} {r : List (Nat × M SV)} {T : Nat} {i : LpI} {m : M SV} {sh : PS} {β5 : Nat → Option Value} {p5 : Nat → Prop} {rec5 : Loop}, Inv B0 w0' β5 p5 sh a5 w5 → sh.up = x :: r → β5 T = some (yv l) → sh.blk T = .lp .busy i m → w5.heap[l]? = some (.loop rec5) →
      ∃ β' p', Inv B0 w0 β' p' (({ n := x.1 - 1, tmps := x.2, hp := (sh.setB T (.lp ex.lp i m)).hp, up := r, pl := sh.pl } : PS).ren beneath) a (w5.putObj l (.loop { rec5 with state := st, pending := pd })) := by
      intro st pd bb hok _ x r T i m sh β5 p5 rec5 inv5 hup hβ5 hb5 hl5
      have inv6 := inv5.setLp (q' := ex.lp) (st := st) (pd := pd) hβ5 hb5 hl5 hok
      have inv7 := pop_round (w0 := w0) inv6 (x := x) (r := r) hup
      obtain ⟨β8, inv8, _⟩ := inv7.ren (ρ := beneath) (fun t t' u h1 h2 => by
       simp only [beneath] at h1 h2
       split at h1 <;> split at h2 <;> simp at h1 h2
       omega) (fun t u ht h1 h2 => by
       simp only [beneath] at h1
       split at h1 <;> simp at h1
       omega)
      exact ⟨β8, p5, inv8⟩
     unfold PS.endR at he
     simp only [] at he
     obtain ⟨β5, p5, inv5⟩ := homes_rel (P := P) (rs := []) (res := fun _ _ => some []) (l := lowKeys (homes P [] (fun _ _ => some []) (lowKeys s4) s4)) (homes_rel (P := P) (rs := []) (res := fun _ _ => some []) (l := lowKeys s4) hr5)
     split at he
     ·rename_i x5 r5 hup5
      split at he
      ·rename_i T5 i5 m5 hat5
       obtain ⟨rfl, rfl⟩ := Prod.mk.inj (Option.some.inj he)
       obtain ⟨o1, o2, o3⟩ := lpAt_ok inv5 (up_handle inv5 hup5) hat5
       obtain ⟨l5, rec5, el5, u1, u2, u3, _⟩ := o3
       obtain rfl : l = l5 := by injection el5 with el5; injection el5
       cases ex with
       | normal => exact ⟨_, _, run_endRound none u2, rfl, goal .ready none true ⟨rfl, rfl⟩ rfl inv5 hup5 o1 o2 u2⟩
       | ret => exact ⟨_, _, run_endRound (some .ret) u2, rfl, goal .done (some .ret) false ⟨rfl, rfl⟩ rfl inv5 hup5 o1 o2 u2⟩
       | exit id => exact ⟨_, _, run_endRound (some (.exit id)) u2, rfl, goal .done (some (.exit id)) false ⟨rfl, rfl⟩ rfl inv5 hup5 o1 o2 u2⟩
      ·cases he
     ·cases he
    ·cases hb
   ·cases hb
  ·cases hpush
 ·cases hpush
end
theorem evalC_inR {P : Program} {R : Type} {K : Know} {U : Nat} : ∀ n, (evalC P R K U n).inR = false
 | 0 => rfl
 | _ + 1 => rfl
theorem evalC_ok {P : Program} {R : Type} {K : Know} {U : Nat} (hns : NoSpecial P) (hm : P.follows .mixedOrders = true) (hK : KnowOk P K) : ∀ n, CallOk P R (evalC P R K U n)
 | 0 => ⟨hK.mx, hK.ext, fun f args k r h => (by
    simp only [evalC] at h
    split at h
    ·rename_i g hg
     obtain ⟨rv, h1, h2⟩ := Out.run_at h
     exact ⟨rv, h2, hK.fns f args g rv hg h1⟩
    ·cases h), fun f args s k r h => (by cases h), fun t vs s k r h => (by cases h)⟩
 | n + 1 => ⟨hK.mx, hK.ext, fun f args k r h => (by
   simp only [evalC, PS.force_eq] at h
   split at h
   ·rename_i g hg
    obtain ⟨rv, h1, h2⟩ := Out.run_at h
    exact ⟨rv, h2, hK.fns f args g rv hg h1⟩
   ·split at h
    ·rename_i fn hf
     split at h
     ·rename_i c hb
      split at h
      ·rename_i hlen
       obtain ⟨ex, s', h1, h2⟩ := exec_ok hns hm ((evalC_ok hns hm hK n).kept (K.md.cut f) (K.md.keep f)) (evalC_inR n) c 0 _ _ r (hK.loops f fn c hf hb) h
       have main : ∀ rv, resultOf P s' fn.results.toList = some rv → (ex.to = .normal ∨ ex.to = .ret) → Meets P f args rv := by
        intro rv hrv hex w p vs hp hg hargs
        refine calls_of_wpM hf hb (h2 _ _ _ _ ⟨_, _, enter_ok hlen.1 hlen.2 hp hg hargs⟩ (fun _ => rfl) _ fun a' w' hr => ?_)
        obtain ⟨β, p', inv⟩ := hr
        have goal : ∀ R : Ending → World → Prop, LeavesInM Fence.wide 0 P fn a'.tmps R a'.defers .returning w' → bodyPostM Fence.wide 0 P fn R ex.to a' w' := fun R h => by
         rcases hex with hex | hex <;> rw [hex] <;> exact h
        refine goal _ (marks_out inv fun w' inv => ?_)
        obtain ⟨v, hrun, hrep⟩ := resultOf_ok inv hrv
        exact ⟨v, hrun, v, rfl, inv.ext, hrep⟩
       cases ex with
       | exit id => cases h1
       | normal =>
         simp only [] at h1
         split at h1
         ·rename_i rv hrv; exact ⟨rv, h1, main rv hrv (.inl rfl)⟩
         ·cases h1
       | ret =>
         simp only [] at h1
         split at h1
         ·rename_i rv hrv; exact ⟨rv, h1, main rv hrv (.inr rfl)⟩
         ·cases h1
      ·cases h
     ·cases h
    ·cases h), fun f args s k r h => (by
   simp only [evalC, PS.force_eq] at h
   split at h
   ·rename_i fn hf
    split at h
    ·rename_i c hb
     split at h
     ·rename_i hlen
      obtain ⟨ex, s3, h1, h2⟩ := exec_ok hns hm ((evalC_ok hns hm hK n).kept (K.md.cut f) (K.md.keep f)) (evalC_inR n) c 0 _ _ r (hK.loops f fn c hf hb) h
      cases ex with
      | exit id => cases h1
      | normal =>
        simp only [] at h1
        split at h1
        ·rename_i cs s' he; exact ⟨cs, s', h1, own_ok hf hb hlen.1 hlen.2.1 hlen.2.2 h2 (.inl rfl) he⟩
        ·cases h1
      | ret =>
        simp only [] at h1
        split at h1
        ·rename_i cs s' he; exact ⟨cs, s', h1, own_ok hf hb hlen.1 hlen.2.1 hlen.2.2 h2 (.inr rfl) he⟩
        ·cases h1
     ·cases h
    ·cases h
   ·cases h), fun t vs s k r h => (by
   simp only [evalC, PS.force_eq] at h
   split at h
   ·rename_i i s1 hpush
    obtain ⟨ex, s2, h1, h2⟩ := exec_ok hns hm ((evalC_ok hns hm hK n).round i.cut true) rfl i.assign 0 _ _ r (fun _ _ _ _ h => by cases h) h
    cases ex with
    | exit id => cases h1
    | ret => cases h1
    | normal =>
      simp only [] at h1
      split at h1
      ·rename_i s3 hb
       obtain ⟨ex, s4, h3, h4⟩ := exec_ok hns hm ((evalC_ok hns hm hK n).round i.cut true) rfl i.body 0 _ _ r (hK.loopsR i) h1
       split at h3
       ·rename_i b s5 he
        exact ⟨b, s5, h3, yld_ok hpush h2 hb h4 he⟩
       ·cases h3
      ·cases h1
   ·cases h)⟩
end Go.Ev
namespace Go.Ev
open Go.RowKit Go.ChangeShapes Go.WideShapes Go.ChangeAt
theorem trodAll_stays {H : Type} {enc : TypeId × Value → H} {P : Program} (hl : laidOutB P = true) {W W' : World} (hb : Below W.heap.size W W') {sp : Nat → Bool} : ∀ {ts : List TypeId} {vs : List Value} {ds : List (DataW H)} {ps : List MemPlace},
 (ts.all fun t => P.readableRec t && decide (t < P.types.size)) = true → DataW.TrodAll enc P W 0 (fun _ => true) true ts vs ds ps → (∀ x ∈ ps, x.block < W.heap.size) → (∀ x ∈ ps, sp x.block = true) → DataW.TrodAll enc P W' 0 sp true ts vs ds ps
 | [], vs, ds, ps, _, h, _, _ => by
   obtain ⟨rfl, rfl, rfl⟩ := trodAll_nil h
   exact trodAll_mk0
 | t :: ts, vs, ds, ps, ht, h, hlt, hsp => by
   obtain ⟨v, vs, d, ds, p, q, rfl, rfl, rfl, h1, h2⟩ := trodAll_cons h
   simp only [List.all_cons, Bool.and_eq_true, decide_eq_true_eq] at ht
   exact trodAll_cons_mk (WideElems.Trod_stays hl ht.1.1 ht.1.2 h1 (fun x hx => hb.same (hlt x (by simp [hx]))) (fun x hx => hsp x (by simp [hx])))
    (trodAll_stays hl hb ht.2 h2 (fun x hx => hlt x (by simp [hx])) (fun x hx => hsp x (by simp [hx])))
theorem post_true {H : Type} {enc : TypeId × Value → H} {P : Program} {f : Func} {s : ChangeSpec} {apart fresh handsOn again : Bool} {W W' : World} {args : Array Value} {ds gs : List (DataW H)} {before : List MemPlace} {tb : TypeId}
 (hl : laidOutB P = true) (hread : (f.params.toList.all fun t => P.readableRec t && decide (t < P.types.size)) = true) (hres : f.resultTypes = #[tb]) (hbool : P.underlying tb = some .bool) (hvars : s.vars = [])
 (hfn : s.fn H ds = { results := [.lit (.bool true)], args := ds }) (hW : DataW.Whole enc P f.params.toList s.vars apart W args.toList ds gs before) (hb : Below W.heap.size W W') : s.post enc P f apart fresh handsOn again W args (.bool true) W' := by
 have hW' := hW
 obtain ⟨p, q, hA, hV, hpq, hfz, hnd⟩ := hW
 rw [hvars] at hV
 obtain ⟨rfl, rfl⟩ := trodVars_none hV
 rw [List.append_nil] at hpq
 subst hpq
 have hfn' : s.fn H (ds ++ []) = { results := [.lit (.bool true)], args := ds } := by rw [List.append_nil]; exact hfn
 have hold : ∀ p ∈ before, (fun b => decide (b < W.heap.size)) p.block = true := fun p hp => by simpa using hW'.lt p hp
 have hres' : ∀ (b : Nat) (sp : Nat → Bool) (hd : Bool), DataW.TrodAll enc P W' b sp hd f.resultTypes.toList ((Value.bool true).resultList f.resultTypes.size) (s.fn H (ds ++ [])).results [] := fun b sp hd => by
  rw [hfn', hres]
  exact trodAll_mk1 (shut_bool hbool _)
 have hargs : ∀ sp : Nat → Bool, (∀ p ∈ before, sp p.block = true) → DataW.TrodAll enc P W' 0 sp true f.params.toList args.toList (s.fn H (ds ++ [])).args before := fun sp hsp => by
  rw [hfn']
  exact trodAll_stays hl hb hread hA (fun x hx => hW'.lt x hx) hsp
 have hvars' : ∀ sp : Nat → Bool, DataW.TrodVars enc P W' sp s.vars (s.fn H (ds ++ [])).vars [] := fun sp => by
  rw [hfn', hvars]
  rfl
 refine ⟨ds, [], before, [], before, [], hW', hres' _ _ _, hargs _ hold, hvars' _, World.keptBut_mono (fun p hp => ⟨hp, Or.inr (by simpa using hp)⟩) (hb.frame _), fun _ => ?_⟩
 refine ⟨ok_one hres rfl (okWide_bool_mk hbool _), _, _, ([] ++ before) ++ [], ⟨[] ++ before, [], trodAll_append (hargs _ (fun _ _ => rfl)) (hres' _ _ _), hvars' _, rfl, ?_, ?_⟩, ?_⟩
 ·intro b off hp
  have hp' : MemPlace.cell b off ∈ before := by simpa using hp
  rw [World.frozen?_of_block (w := W) (hb.block b (hW'.lt _ hp'))]
  exact hfz b off hp'
 ·intro ha
  simpa using hnd ha
 ·intro p hp _
  simpa using hp
end Go.Ev
namespace Go.Ev
open Go.RowKit Go.ChangeShapes Go.WideShapes Go.ChangeAt
def Sh.ok : (s : Sh) → s.T → Prop
 | .int k, n => (Lit.int k n).wf = true
 | .bool, _ => True
 | .str, b => b.size ≤ maxLen
 | .zf, _ => True
 | .zc, _ => True
 | .slice e, xs => xs.length ≤ maxLen ∧ ∀ (i : Nat) (x : e.T), xs[i]? = some x → e.ok x
 | .map _ _, _ => True
 | .pair a b, x => a.ok x.1 ∧ b.ok x.2
 | .agg s, x => s.ok x
 | .unit, _ => True
 | .ptr _, _ => True
 | .optr _, _ => True
 | .clo _ _, _ => True
 | .err, _ => True
def Sh.plain : Sh → Bool
 | .int _ | .bool | .str | .unit => true
 | .slice e => e.plain && Nat.blt 0 e.size
 | .pair a b => a.plain && b.plain
 | .agg s => s.plain
 | _ => false
section
variable {w : World} {p : Nat → Prop} {P : Program}
theorem join_rep {f : TypeId → Option Sh} {cellsOf : TypeId → Nat} : ∀ (ts : List TypeId) {s : Sh}, joinSh f ts = some s → s.plain = true → ∀ (cs : List Value), cs.length = (ts.map cellsOf).sum →
 (∀ j t, ts[j]? = some t → ∀ s', f t = some s' → s'.plain = true → ∃ y : s'.T, RepT w p s' y ((cs.drop ((ts.take j).map cellsOf).sum).take (cellsOf t)) ∧ s'.ok y) → ∃ y : s.T, RepT w p s y cs ∧ s.ok y
 | [], s, h, _, cs, hlen, _ => by
   obtain rfl := Option.some.inj h
   have : cs = [] := List.eq_nil_of_length_eq_zero (by simpa using hlen)
   subst this
   exact ⟨(), rfl, trivial⟩
 | t :: ts, s, h, hpl, cs, hlen, hseg => by
   have hlen' : (cs.drop (cellsOf t)).length = (ts.map cellsOf).sum := by
    rw [List.length_drop, hlen]; simp
   have hsplit : cs.take (cellsOf t) ++ cs.drop (cellsOf t) = cs := List.take_append_drop _ _
   have htail : ∀ j t', ts[j]? = some t' → ∀ s', f t' = some s' → s'.plain = true → ∃ y : s'.T, RepT w p s' y (((cs.drop (cellsOf t)).drop ((ts.take j).map cellsOf).sum).take (cellsOf t')) ∧ s'.ok y := by
    intro j t' hj s' hs' hp'
    have := hseg (j + 1) t' (by simpa using hj) s' hs' hp'
    rw [List.drop_drop]
    simpa using this
   have hhead : ∀ s', f t = some s' → s'.plain = true → ∃ y : s'.T, RepT w p s' y (cs.take (cellsOf t)) ∧ s'.ok y := by
    intro s' hs' hp'
    simpa using hseg 0 t rfl s' hs' hp'
   unfold joinSh at h
   have pairup : ∀ (s1 r : Sh), joinSh f ts = some r → (∃ y : s1.T, RepT w p s1 y (cs.take (cellsOf t)) ∧ s1.ok y) → r.plain = true → ∃ y : (Sh.pair s1 r).T, RepT w p (.pair s1 r) y cs ∧ (Sh.pair s1 r).ok y := by
    intro s1 r hr ⟨y, hy, hyo⟩ hrp
    obtain ⟨z, hz, hzo⟩ := join_rep ts hr hrp _ hlen' htail
    refine ⟨(y, z), ?_, hyo, hzo⟩
    simp only [RepT]
    exact ⟨_, _, hsplit.symm, hy, hz⟩
   have single : ∀ s1 : Sh, joinSh f ts = some .unit → (∃ y : s1.T, RepT w p s1 y (cs.take (cellsOf t)) ∧ s1.ok y) → ∃ y : s1.T, RepT w p s1 y cs ∧ s1.ok y := by
    intro s1 hr ⟨y, hy, hyo⟩
    obtain ⟨z, hz, _⟩ := join_rep ts hr rfl _ hlen' htail
    have hz : cs.drop (cellsOf t) = [] := by simpa only [RepT] using hz
    rw [← hsplit, hz, List.append_nil]
    exact ⟨y, hy, hyo⟩
   split at h
   ·rename_i s0 e1 e2
    obtain rfl := Option.some.inj h
    obtain ⟨y, hy, hyo⟩ := hhead _ e1 (by simpa [Sh.plain] using hpl)
    exact single _ e2 ⟨y, by simpa only [RepT] using hy, hyo⟩
   ·rename_i s0 r _ e1 e2
    obtain rfl := Option.some.inj h
    simp only [Sh.plain, Bool.and_eq_true] at hpl
    obtain ⟨y, hy, hyo⟩ := hhead _ e1 (by simpa [Sh.plain] using hpl.1)
    exact pairup _ _ e2 ⟨y, by simpa only [RepT] using hy, hyo⟩ hpl.2
   ·rename_i s0 _ e1 e2
    obtain rfl := Option.some.inj h
    exact single _ e2 (hhead _ e1 hpl)
   ·rename_i s0 r _ _ e1 e2
    obtain rfl := Option.some.inj h
    simp only [Sh.plain, Bool.and_eq_true] at hpl
    exact pairup _ _ e2 (hhead _ e1 hpl.1) hpl.2
   ·cases h
theorem row_fine (hl : laidOutB P = true) {t : TypeId} (ht : t < P.types.size) : rowFine P t = true := by
 simp only [laidOutB, Bool.and_eq_true] at hl
 exact List.all_eq_true.1 hl.1.1 t (by simpa using ht)
theorem struct_fine (hl : laidOutB P = true) {t : TypeId} (ht : t < P.types.size) {fs : Array Field} (hu : P.underlying t = some (.struct fs)) :
 (∀ f ∈ fs.toList, f.type < P.types.size) ∧ P.cellsOf t = (fs.toList.map fun f => P.cellsOf f.type).sum ∧ ∀ j f, fs.toList[j]? = some f → f.offset = ((fs.toList.take j).map fun f => P.cellsOf f.type).sum := by
 have h := row_fine hl ht
 simp only [rowFine, isVar, hu, kindOk, Bool.and_true, Bool.or_eq_true, Bool.not_eq_true', decide_eq_false_iff_not, Bool.and_eq_true, List.all_eq_true, decide_eq_true_eq, beq_iff_eq] at h
 obtain ⟨⟨h1, h2⟩, h3⟩ := h.resolve_left (fun h => h ht)
 refine ⟨fun f hf => (h1 f hf).1, h2, fun j f hj => ?_⟩
 have hlt : j < fs.toList.length := (List.getElem?_eq_some_iff.1 hj).1
 have := h3 j (by simpa using hlt)
 rw [hj] at this
 simpa using this
theorem array_fine (hl : laidOutB P = true) {t e : TypeId} {n : Nat} (ht : t < P.types.size) (hu : P.underlying t = some (.array n e)) : e < P.types.size ∧ P.cellsOf t = n * P.cellsOf e := by
 have h := row_fine hl ht
 simp only [rowFine, isVar, hu, kindOk, Bool.and_true, Bool.or_eq_true, Bool.not_eq_true', decide_eq_false_iff_not, Bool.and_eq_true, decide_eq_true_eq, beq_iff_eq] at h
 have := h.resolve_left (fun h => h ht)
 exact ⟨this.1.1, this.2⟩
theorem slice_fine (hl : laidOutB P = true) {t e : TypeId} (ht : t < P.types.size) (hu : P.underlying t = some (.slice e)) : e < P.types.size := by
 have h := row_fine hl ht
 simp only [rowFine, isVar, hu, kindOk, Bool.and_true, Bool.or_eq_true, Bool.not_eq_true', decide_eq_false_iff_not, Bool.and_eq_true, decide_eq_true_eq, beq_iff_eq] at h
 exact (h.resolve_left (fun h => h ht)).1.1
theorem sum_replicate' (n k : Nat) : (List.replicate n k).sum = n * k := by
 induction n with
 | zero => simp
 | succ n ih => rw [List.replicate_succ, List.sum_cons, ih, Nat.succ_mul, Nat.add_comm]
theorem list_of_each {α : Type} {Q : Nat → α → Prop} : ∀ n, (∀ i, i < n → ∃ y, Q i y) → ∃ l : List α, l.length = n ∧ ∀ i y, l[i]? = some y → Q i y
 | 0, _ => ⟨[], rfl, fun i y h => by simp at h⟩
 | n + 1, h => by
   obtain ⟨l, hl, hq⟩ := list_of_each n fun i hi => h i (by omega)
   obtain ⟨y, hy⟩ := h n (by omega)
   refine ⟨l ++ [y], by simp [hl], fun i z hz => ?_⟩
   rw [List.getElem?_append] at hz
   split at hz
   ·exact hq i z hz
   ·rename_i hge
    have hi : i - l.length = 0 := by
     have := (List.getElem?_eq_some_iff.1 hz).1
     simp at this; omega
    rw [hi] at hz
    obtain rfl : y = z := by simpa using hz
    have : i = n := by omega
    rw [this]; exact hy
theorem addr_add {b o i : Nat} : (Addr.mk b o none).add i = ⟨b, o + i, none⟩ := by
 unfold Addr.add
 split
 ·rename_i h; simp [h]
 ·rfl
theorem trod_rep {H : Type} {enc : TypeId × Value → H} {sp : Nat → Bool} {held : Bool} (hl : laidOutB P = true) : ∀ (fuel : Nat) (t : TypeId) (cs : List Value) (x : DataW H × List MemPlace), DataW.trod enc P w 0 sp held fuel t cs = some x →
 ∀ d s, shOf P d t = some s → s.plain = true → t < P.types.size → ∃ y : s.T, RepT w (fun b => b < w.heap.size) s y cs ∧ s.ok y := by
 intro fuel
 induction fuel using Nat.strongRecOn with
 | _ fuel ih =>
   intro t cs x h d s hs hpl ht
   cases d with
   | zero => cases hs
   | succ d =>
   unfold shOf at hs
   split at hs
   ·rename_i k hu
    obtain rfl := Option.some.inj hs
    obtain ⟨n, rfl, _, hw⟩ := DataW.trod_int hu h
    exact ⟨(n : Int), rfl, hw⟩
   ·rename_i hu
    obtain rfl := Option.some.inj hs
    obtain ⟨b, rfl, _⟩ := DataW.trod_bool hu h
    exact ⟨(b : Bool), rfl, trivial⟩
   ·rename_i hu
    obtain rfl := Option.some.inj hs
    obtain ⟨b, rfl, _, hw⟩ := DataW.trod_string hu h
    exact ⟨(b : ByteArray), rfl, hw⟩
   ·obtain rfl := Option.some.inj hs; cases hpl
   ·obtain rfl := Option.some.inj hs; cases hpl
   ·rename_i e hu
    split at hs
    ·rename_i s0 hs0
     obtain rfl := Option.some.inj hs
     simp only [Sh.plain, Bool.and_eq_true] at hpl
     have hpos : 0 < s0.size := by have := hpl.2; rw [Nat.blt_eq] at this; exact this
     have he := slice_fine hl ht hu
     rcases DataW.trod_slice hu h with ⟨rfl, _⟩ | ⟨a, len, cap, elems, rest, n, hf, rfl, _, _, hlc, hcm, hel, hget, _⟩
     ·exact ⟨([] : List s0.T), ⟨none, 0, rfl, ⟨Nat.le_refl _, fun _ => rfl⟩, .inl rfl⟩, by simp, fun i x h => by simp at h⟩
     ·have each : ∀ i, i < len → ∃ y : s0.T, (∃ us, RepT w (fun b => b < w.heap.size) s0 y us ∧ us.length = P.cellsOf e ∧ a.block < w.heap.size ∧ ∀ j, j < P.cellsOf e → w.cell? ((a.add (i * P.cellsOf e)).add j) = us[j]?) ∧ s0.ok y := by
       intro i hi
       have h1 := hget i hi
       rw [List.getElem?_eq_getElem (by omega)] at h1
       cases hc : w.cells? 0 (a.add (i * P.cellsOf e)) (P.cellsOf e) with
       | none => rw [hc] at h1; cases h1
       | some us =>
         rw [hc] at h1
         obtain ⟨y, hy, hyo⟩ := ih n (by omega) e us _ h1 d s0 hs0 hpl.1 he
         obtain ⟨_, g2, g3⟩ := World.cells?_some hc
         have hlen := hy.length
         have hb := World.cells?_block hc (by omega)
         have hbb : (a.add (i * P.cellsOf e)).block = a.block := by unfold Addr.add; split <;> rfl
         exact ⟨y, ⟨us, hy, g2, by rw [← hbb]; exact hb, g3⟩, hyo⟩
      obtain ⟨xs, hxl, hxq⟩ := list_of_each len each
      refine ⟨xs, ⟨some a, cap, by rw [hxl], ⟨by rw [hxl]; exact hlc, fun h => by cases h⟩, ?_⟩, by omega, fun i y hy => (hxq i y hy).2⟩
      by_cases h0 : len = 0
      ·left; exact List.eq_nil_of_length_eq_zero (by omega)
      ·right
       have hx0 : xs[0]? = some (xs[0]'(by omega)) := List.getElem?_eq_getElem (by omega)
       obtain ⟨⟨us0, q1, q2, q3, q4⟩, _⟩ := hxq 0 _ hx0
       have hl0 := q1.length
       have hc0 := q4 0 (by omega)
       have hspot : a.spot = none := by
        rw [Nat.zero_mul] at hc0
        have e1 : (a.add 0).add 0 = a := by simp [Addr.add]
        rw [e1, List.getElem?_eq_getElem (by omega)] at hc0
        unfold World.cell? at hc0
        split at hc0
        ·split at hc0
         ·cases hc0
         ·rename_i hsn; simpa using hsn
        ·cases hc0
       obtain ⟨b, o, spot⟩ := a
       obtain rfl : spot = none := hspot
       refine ⟨b, o, rfl, q3, fun i y hy => ?_⟩
       obtain ⟨⟨us, r1, r2, r3, r4⟩, _⟩ := hxq i y hy
       have hsz := r1.length
       refine ⟨us, r1, hsz, fun j hj => ?_⟩
       have := r4 j (by omega)
       rw [addr_add, addr_add, ← r2, hsz] at this
       exact this
    ·cases hs
   ·split at hs
    ·obtain rfl := Option.some.inj hs; cases hpl
    ·cases hs
   ·rename_i fs hu
    split at hs
    ·rename_i s0 hs0
     obtain rfl := Option.some.inj hs
     obtain ⟨xs, n, hf, _, hlen, hxl, hget⟩ := DataW.trod_struct hu h
     obtain ⟨g1, g2, g3⟩ := struct_fine hl ht hu
     have := join_rep (w := w) (p := fun b => b < w.heap.size) (cellsOf := P.cellsOf) (fs.toList.map (·.type)) hs0 (by simpa [Sh.plain] using hpl) cs (by rw [hlen, g2, List.map_map]; rfl) fun j t' hj s' hs' hp' => ?_
     ·obtain ⟨y, hy, hyo⟩ := this
      exact ⟨y, by simpa only [RepT] using hy, hyo⟩
     ·rw [List.getElem?_map] at hj
      cases hfj : fs.toList[j]? with
      | none => rw [hfj] at hj; cases hj
      | some f =>
        rw [hfj] at hj
        obtain rfl : f.type = t' := by simpa using hj
        have hfa : fs[j]? = some f := by rw [← Array.getElem?_toList]; exact hfj
        have hjlt : j < xs.length := by rw [hxl]; exact (Array.getElem?_eq_some_iff.1 hfa).1
        have h1 := hget j f hfa
        rw [List.getElem?_eq_getElem hjlt] at h1
        have hoff := g3 j f hfj
        have e1 : (((fs.toList.map (·.type)).take j).map P.cellsOf).sum = f.offset := by
         rw [hoff, ← List.map_take, List.map_map]; rfl
        rw [e1]
        exact ih n (by omega) f.type _ _ h1 d s' hs' hp' (g1 f (List.mem_of_getElem? hfj))
    ·cases hs
   ·rename_i n e hu
    split at hs
    ·rename_i s0 hs0
     obtain rfl := Option.some.inj hs
     obtain ⟨he, hsz⟩ := array_fine hl ht hu
     have hcl : cs.length = P.cellsOf t ∧ ∀ i, i < n → ∃ m y, m < fuel ∧ DataW.trod enc P w 0 sp held m e ((cs.drop (i * P.cellsOf e)).take (P.cellsOf e)) = some y := by
      obtain ⟨xs, m, hf, _, hlen, hxl, hget⟩ := DataW.trod_array hu h
      refine ⟨hlen, fun i hi => ⟨m, xs[i]'(by omega), by omega, ?_⟩⟩
      rw [hget i hi, List.getElem?_eq_getElem (by omega)]
     have := join_rep (w := w) (p := fun b => b < w.heap.size) (cellsOf := P.cellsOf) (List.replicate n e) hs0 (by simpa [Sh.plain] using hpl) cs (by rw [hcl.1, hsz, List.map_replicate, sum_replicate']) fun j t' hj s' hs' hp' => ?_
     ·obtain ⟨y, hy, hyo⟩ := this
      exact ⟨y, by simpa only [RepT] using hy, hyo⟩
     ·have hjn : j < n := by have := (List.getElem?_eq_some_iff.1 hj).1; simpa using this
      obtain rfl : e = t' := by simpa [List.getElem?_replicate, hjn] using hj
      obtain ⟨m, y, hm, h1⟩ := hcl.2 j hjn
      rw [List.take_replicate, List.map_replicate, sum_replicate', Nat.min_eq_left (by omega)]
      exact ih m hm e _ _ h1 d s' hs' hp' he
    ·cases hs
   ·cases hs
theorem value_rep {H : Type} {enc : TypeId × Value → H} {sp : Nat → Bool} {held : Bool} (hl : laidOutB P = true) {t : TypeId} {v : Value} {d : DataW H} {ps : List MemPlace} (h : DataW.Trod enc P w 0 sp held t v d ps) {r : Reach} {base : Nat} (hv : Value.okWide P w r base t v)
 {s : Sh} (hs : shapeOf P t = some s) (hpl : s.plain = true) (ht : t < P.types.size) : ∃ y : s.T, RepC w (fun b => b < w.heap.size) (fun _ => none) (fun _ => .free) (s.cv y) v ∧ s.ok y := by
 obtain ⟨fuel, hf⟩ := h
 unfold shapeOf at hs
 split at hs
 ·rename_i s0 hs0
  split at hs
  ·obtain rfl := Option.some.inj hs
   obtain ⟨y, hy, hyo⟩ := trod_rep hl fuel t _ _ hf 8 s0 hs0 hpl ht
   refine ⟨y, cv_ok (us := v.cells.toList) hy ?_, hyo⟩
   have hone : s0.isAgg = false → v.cells.toList = [v] := by
    intro hna
    unfold Value.okWide at hv
    split at hv
    ·rename_i fs hu
     unfold shOf at hs0
     rw [hu] at hs0
     simp only [] at hs0
     split at hs0
     ·obtain rfl := Option.some.inj hs0; cases hna
     ·cases hs0
    ·rename_i n e hu
     unfold shOf at hs0
     rw [hu] at hs0
     simp only [] at hs0
     split at hs0
     ·obtain rfl := Option.some.inj hs0; cases hna
     ·cases hs0
    ·cases v <;> first | rfl | (simp [Cell.okWide, Cell.ok] at hv)
     all_goals (revert hv; split <;> simp [Cell.ok] <;> (try (split <;> simp)))
   unfold VOf
   split
   ·rename_i hag
    have : ∃ cs, v = .agg cs := by
     unfold Value.okWide at hv
     split at hv
     ·obtain ⟨cs, rfl, _⟩ := hv; exact ⟨cs, rfl⟩
     ·obtain ⟨cs, rfl, _⟩ := hv; exact ⟨cs, rfl⟩
     ·rename_i h1 h2
      exfalso
      unfold shOf at hs0
      split at hs0 <;> simp_all <;> (try (split at hs0 <;> simp_all)) <;> (try (subst hs0; cases hag))
    obtain ⟨cs, rfl⟩ := this
    simp [Value.cells]
   ·rename_i hag
    exact hone (by simpa using hag)
  ·cases hs
 ·cases hs
end
end Go.Ev
namespace Go.Ev
open Go.RowKit Go.ChangeShapes Go.WideShapes Go.ChangeAt
def Typed : List Sh → List CV → Prop
 | [], [] => True
 | s :: ss, c :: cs => (∃ y : s.T, c = s.cv y ∧ s.ok y) ∧ Typed ss cs
 | _, _ => False
def saysTrue : RV := ⟨.c (.l (.bool true)), .free⟩
theorem args_rep {H : Type} {enc : TypeId × Value → H} {P : Program} {w : World} {r : Reach} {base : Nat} (hl : laidOutB P = true) : ∀ {ts : List TypeId} {shs : List Sh} {vs : List Value} {ds : List (DataW H)} {ps : List MemPlace},
 DataW.TrodAll enc P w 0 (fun _ => true) true ts vs ds ps → (∀ (j : Nat) t v, ts[j]? = some t → vs[j]? = some v → Value.okWide P w r base t v) → ts.map (shapeOf P) = shs.map some → shs.all Sh.plain = true →
 (ts.all fun t => P.readableRec t && decide (t < P.types.size)) = true → ∃ cs, Typed shs cs ∧ RepCs w (fun b => b < w.heap.size) (fun _ => none) (fun _ => .free) cs vs
 | [], shs, vs, ds, ps, h, _, hs, _, _ => by
   obtain ⟨rfl, _, _⟩ := trodAll_nil h
   cases shs with
   | nil => exact ⟨[], trivial, repCs_nil⟩
   | cons s shs => cases hs
 | t :: ts, shs, vs, ds, ps, h, hv, hs, hpl, ht => by
   obtain ⟨v, vs, d, ds, p, q, rfl, rfl, rfl, h1, h2⟩ := trodAll_cons h
   cases shs with
   | nil => cases hs
   | cons s shs =>
     simp only [List.map_cons, List.cons.injEq] at hs
     simp only [List.all_cons, Bool.and_eq_true, decide_eq_true_eq] at hpl ht
     obtain ⟨y, hy, hyo⟩ := value_rep hl h1 (hv 0 t v rfl rfl) hs.1 hpl.1 ht.1.2
     obtain ⟨cs, g1, g2⟩ := args_rep hl h2 (fun j t' v' a b => hv (j + 1) t' v' (by simpa using a) (by simpa using b)) hs.2 hpl.2 ht.2
     exact ⟨s.cv y :: cs, ⟨⟨y, rfl, hyo⟩, g1⟩, repCs_cons hy g2⟩
theorem contract_of_law {H : Type} {enc : TypeId × Value → H} {P : Program} {f : Func} {g : FuncId} {s : ChangeSpec} {apart fresh handsOn again : Bool} {tb : TypeId} {shs : List Sh}
 (hl : laidOutB P = true) (hread : (f.params.toList.all fun t => P.readableRec t && decide (t < P.types.size)) = true) (hsh : f.params.toList.map (shapeOf P) = shs.map some) (hpl : shs.all Sh.plain = true)
 (hres : f.resultTypes = #[tb]) (hbool : P.underlying tb = some .bool) (hvars : s.vars = []) (hfn : ∀ ds : List (DataW H), ds.length = shs.length → s.fn H ds = { results := [.lit (.bool true)], args := ds })
 (law : ∀ cs, Typed shs cs → Meets P g cs saysTrue)
 {W : World} {base : Nat} {args : Array Value} {ds gs : List (DataW H)} {before : List MemPlace} (hglob : GlobsOk W fun b => b < W.heap.size) (hval : ∀ (j : Nat) t v, f.params[j]? = some t → args[j]? = some v → Value.okWide P W .any base t v)
 (hW : DataW.Whole enc P f.params.toList s.vars apart W args.toList ds gs before) :
 Calls P g args W fun e W' => ∃ v, e = .returned v ∧ s.post enc P f apart fresh handsOn again W args v W' := by
 have hW' := hW
 obtain ⟨p, q, hA, _⟩ := hW
 have hlen : ∀ {ts : List TypeId} {vs : List Value} {ds : List (DataW H)} {ps : List MemPlace}, DataW.TrodAll enc P W 0 (fun _ => true) true ts vs ds ps → ds.length = ts.length := by
  intro ts
  induction ts with
  | nil => intro vs ds ps h; obtain ⟨_, rfl, _⟩ := trodAll_nil h; rfl
  | cons t ts ih =>
    intro vs ds ps h
    obtain ⟨v, vs, d, ds, p, q, rfl, rfl, rfl, _, h2⟩ := trodAll_cons h
    simp [ih h2]
 obtain ⟨cs, h1, h2⟩ := args_rep hl hA (fun j t v a b => hval j t v (by rwa [Array.getElem?_toList] at a) (by rwa [Array.getElem?_toList] at b)) hsh hpl hread
 refine (law cs h1 W _ args (fun b h => h) hglob h2).mono fun e W' ⟨v, he, hb, p', β, _, hn, hr, hv⟩ => ?_
 refine ⟨v, he, ?_⟩
 obtain rfl : v = .bool true := hv
 have hl1 := hlen hA
 have hl2 := congrArg List.length hsh
 simp only [List.length_map] at hl2
 exact post_true hl hread hres hbool hvars (hfn ds (by rw [hl1]; exact hl2)) hW' hb
end Go.Ev
namespace Go.Ev
open Go.RowKit
section
variable {w : World} {p : Nat → Prop} {β β' : Nat → Option Value} {H H' : Nat → Blk} {bs : List Nat}
end
section
variable {s : PS} {B0 : Nat} {w0 : Base} {a : Act} {w : World}
end
end Go.Ev
end
