/- The verified evaluator: regions whose operations come in many orders. -/
import Derived.Test.YtlngennlccaneaaCoreD
import Derived.Deep.Quiet
import Derived.OrdersIn
set_option linter.unusedSimpArgs false
noncomputable section
namespace Go.Ev
variable {hh : Nat} {hsrc : Nat → Option Nat}
open Go.RowKit
inductive Eff where
  | put (d : Option Tmp) (x : SV)
  | new (d : Tmp) (x : SV) (b : Blk)
  | wr (d : Option Tmp) (x : SV) (u : Nat) (b : Blk)
  | all (s : PS)
  | gr (t : Option Nat) (d : Tmp) (b : Blk)
def Eff.app : Eff → PS → PS
 | .put d x, s => s.put d x
 | .new d x b, s => (s.setT d x).setB d b
 | .wr d x u b, s => (s.setB u b).put d x
 | .all s', _ => s'
 | .gr t d b, s => growTo s t d b
def killS : Option Nat → SV → SV
 | none, x => x
 | some t, x => x.kill t
def killB : Option Nat → Blk → Blk
 | none, x => x
 | some t, x => x.kill t
theorem killB_free (t : Option Nat) : killB t .free = .free := by cases t <;> rfl
theorem killB_nonfree {t : Option Nat} {b : Blk} (h : killB t b ≠ .free) : b ≠ .free := by intro e; subst e; exact h (killB_free t)
theorem growTo_n (s : PS) (t : Option Nat) (d : Tmp) (b : Blk) : (growTo s t d b).n = s.n := by cases t <;> rfl
theorem growTo_get {s : PS} {t : Option Nat} {d : Tmp} {b : Blk} (hd : d < 16000) (u : Nat) : (growTo s t d b).get u = if u = d then .c (.l (.full d)) else killS t (s.get u) := by
 unfold growTo
 rw [PS.get_setB, PS.get_setT _ hd]
 cases t with
 | none => rfl
 | some t => rw [PS.wipe_get]; rfl
theorem growTo_blk {s : PS} {t : Option Nat} {d : Tmp} {b : Blk} (hd : d < 16000) (ht : ∀ τ, t = some τ → τ < 16000) (u : Nat) : (growTo s t d b).blk u = if u = d then b else if t = some u then .free else killB t (s.blk u) := by
 unfold growTo
 rw [PS.blk_setB _ hd, PS.blk_setT]
 cases t with
 | none => simp [killB]
 | some t =>
   rw [PS.wipe_blk (ht t rfl)]
   by_cases e : u = t
   ·subst e; simp
   ·have : ¬ t = u := fun h => e h.symm
    simp [e, this, killB]
theorem growTo_up {s s' : PS} (t : Option Nat) (d : Tmp) (b : Blk) (h : s.up = s'.up) : (growTo s t d b).up = (growTo s' t d b).up := by
 cases t
 ·exact h
 ·show mapUp _ s.up = mapUp _ s'.up
  rw [h]
theorem growTo_pl (s : PS) (t : Option Nat) (d : Tmp) (b : Blk) : (growTo s t d b).pl = s.pl := by cases t <;> rfl
structure PS.Eq (s t : PS) : Prop where
 n : s.n = t.n
 get : ∀ u, s.get u = t.get u
 blk : ∀ u, s.blk u = t.blk u
 up : s.up = t.up
 pl : s.pl = t.pl
theorem PS.Eq.refl (s : PS) : PS.Eq s s := ⟨rfl, fun _ => rfl, fun _ => rfl, rfl, rfl⟩
theorem PS.Eq.symm {s t : PS} (h : PS.Eq s t) : PS.Eq t s := ⟨h.n.symm, fun u => (h.get u).symm, fun u => (h.blk u).symm, h.up.symm, h.pl.symm⟩
theorem PS.Eq.trans {s t u : PS} (h : PS.Eq s t) (h' : PS.Eq t u) : PS.Eq s u := ⟨h.n.trans h'.n, fun v => (h.get v).trans (h'.get v), fun v => (h.blk v).trans (h'.blk v), h.up.trans h'.up, h.pl.trans h'.pl⟩
theorem put_pl (s : PS) (d : Option Tmp) (x : SV) : (s.put d x).pl = s.pl := by
 cases d with
 | none => rfl
 | some d => simp only [PS.put]; cases Nat.blt d s.n <;> rfl
theorem put_up (s : PS) (d : Option Tmp) (x : SV) : (s.put d x).up = s.up := by
 cases d with
 | none => rfl
 | some d => simp only [PS.put]; cases Nat.blt d s.n <;> rfl
theorem PS.Eq.rel {s t : PS} (h : PS.Eq s t) {B0 : Nat} {w0 : Base} {a : Act} {w : World} (hr : Rel B0 w0 s a w) : Rel B0 w0 t a w := by
 obtain ⟨β, p, inv⟩ := hr
 have hb : s.blk = t.blk := funext h.blk
 refine ⟨β, p, ⟨inv.size.trans h.n, h.n ▸ inv.deep, inv.defers, inv.ext, inv.base, inv.shared, inv.conf, inv.inj, fun u => ?_, fun u v hv => ?_, ?_⟩⟩
 ·have := inv.blks u
  rw [← hb]; exact this
 ·have := inv.slots u v hv
  rw [← hb, ← h.get u]; exact this
 ·rw [← hb, ← h.up]; exact inv.ups
theorem put_get {s : PS} (hd : s.n ≤ 16000) (d : Option Tmp) (x : SV) (u : Nat) : (s.put d x).get u = if d = some u ∧ u < s.n then x else s.get u := by
 cases d with
 | none => simp [PS.put]
 | some d =>
   by_cases h : d < s.n
   ·have hlt : Nat.blt d s.n = true := by simp [h]
    simp only [PS.put, hlt, cond_true, PS.get_setT x (lt_depth h hd)]
    by_cases e : u = d
    ·subst e; simp [h]
    ·have : ¬ d = u := fun h => e h.symm
     simp [e, this]
   ·rw [put_out h, if_neg (by rintro ⟨e, hu⟩; obtain rfl := Option.some.inj e; exact h hu)]
theorem put_n (s : PS) (d : Option Tmp) (x : SV) : (s.put d x).n = s.n := by
 cases d with
 | none => rfl
 | some d => simp only [PS.put]; cases Nat.blt d s.n <;> rfl
theorem put_blk (s : PS) (d : Option Tmp) (x : SV) (u : Nat) : (s.put d x).blk u = s.blk u := by
 cases d with
 | none => rfl
 | some d => simp only [PS.put]; cases Nat.blt d s.n <;> rfl
def Eff.Ok (n : Nat) : Eff → Prop
 | .put _ _ => True
 | .new d _ _ => d < n
 | .wr _ _ u _ => u < 16000
 | .all s => s.n = n
 | .gr t d _ => d < n ∧ n ≤ 16000 ∧ ∀ τ, t = some τ → τ < 16000
section
variable {n : Nat}
theorem Eff.app_n {e : Eff} {s : PS} (he : e.Ok n) (hs : s.n = n) : (e.app s).n = n := by
 cases e with
 | put d x => exact (put_n s d x).trans hs
 | new d x b => exact hs
 | wr d x u b => exact (put_n _ d x).trans hs
 | all s' => exact he
 | gr t d b => exact (growTo_n _ _ _ _).trans hs
theorem Eff.app_congr {e : Eff} {s t : PS} (hn : n ≤ 16000) (he : e.Ok n) (hs : s.n = n) (h : PS.Eq s t) : PS.Eq (e.app s) (e.app t) := by
 have ht : t.n = n := h.n.symm.trans hs
 cases e with
 | put d x =>
   refine ⟨by simp only [Eff.app, put_n]; exact h.n, fun u => ?_, fun u => by simp only [Eff.app, put_blk]; exact h.blk u, by simp only [Eff.app, put_up]; exact h.up, by simp only [Eff.app, put_pl]; exact h.pl⟩
   simp only [Eff.app]
   rw [put_get (by omega), put_get (by omega), h.n, h.get u]
 | new d x b =>
   have hdep := lt_depth he hn
   refine ⟨h.n, fun u => ?_, fun u => ?_, h.up, h.pl⟩
   ·simp only [Eff.app, PS.get_setB, PS.get_setT x hdep, h.get u]
   ·simp only [Eff.app, PS.blk_setB b hdep, PS.blk_setT, h.blk u]
 | wr d x v b =>
   have hdep := key_depth he
   refine ⟨by simp only [Eff.app, put_n]; exact h.n, fun u => ?_, fun u => ?_, by simp only [Eff.app, put_up]; exact h.up, by simp only [Eff.app, put_pl]; exact h.pl⟩
   ·simp only [Eff.app]
    rw [put_get (by show s.n ≤ 16000; omega), put_get (by show t.n ≤ 16000; omega), PS.get_setB, PS.get_setB, h.get u]
    show (if d = some u ∧ u < s.n then x else t.get u) = (if d = some u ∧ u < t.n then x else t.get u)
    rw [h.n]
   ·simp only [Eff.app, put_blk, PS.blk_setB b hdep, h.blk u]
 | all s' => exact .refl _
 | gr t' d b =>
   have hdep := lt_depth he.1 hn
   refine ⟨(growTo_n _ _ _ _).trans (h.n.trans (growTo_n _ _ _ _).symm), fun u => ?_, fun u => ?_, growTo_up _ _ _ h.up, (growTo_pl _ _ _ _).trans (h.pl.trans (growTo_pl _ _ _ _).symm)⟩
   ·simp only [Eff.app]; rw [growTo_get hdep, growTo_get hdep, h.get u]
   ·simp only [Eff.app]; rw [growTo_blk hdep he.2.2, growTo_blk hdep he.2.2, h.blk u]
def foldE (L : Nat → Bool) : Nat → List Eff → PS → PS
 | _, [], s => s
 | i, e :: es, s => foldE L (i + 1) es (if L i = true then e.app s else s)
theorem foldE_append (L : Nat → Bool) : ∀ (es fs : List Eff) (i : Nat) (s : PS), foldE L i (es ++ fs) s = foldE L (i + es.length) fs (foldE L i es s)
 | [], fs, i, s => rfl
 | e :: es, fs, i, s => by
   simp only [List.cons_append, foldE, foldE_append L es fs, List.length_cons]
   rw [Nat.add_assoc, Nat.add_comm 1]
theorem foldE_congrL {L L' : Nat → Bool} : ∀ (es : List Eff) (i : Nat) (s : PS), (∀ k, k < es.length → L (i + k) = L' (i + k)) → foldE L i es s = foldE L' i es s
 | [], _, _, _ => rfl
 | e :: es, i, s, h => by
   have h0 := h 0 (by simp)
   simp only [Nat.add_zero] at h0
   simp only [foldE, h0]
   exact foldE_congrL es (i + 1) _ fun k hk => by have := h (k + 1) (by simp; omega); rwa [Nat.add_assoc, Nat.add_comm 1]
theorem foldE_none {L : Nat → Bool} : ∀ (es : List Eff) (i : Nat) (s : PS), (∀ k, k < es.length → L (i + k) = false) → foldE L i es s = s
 | [], _, _, _ => rfl
 | e :: es, i, s, h => by
   have h0 := h 0 (by simp)
   simp only [Nat.add_zero] at h0
   simp only [foldE, h0, Bool.false_eq_true, if_false]
   exact foldE_none es (i + 1) _ fun k hk => by have := h (k + 1) (by simp; omega); rwa [Nat.add_assoc, Nat.add_comm 1]
theorem foldE_n {L : Nat → Bool} : ∀ (es : List Eff) (i : Nat) (s : PS), (∀ e ∈ es, e.Ok n) → s.n = n → (foldE L i es s).n = n
 | [], _, _, _, hs => hs
 | e :: es, i, s, h, hs => by
   refine foldE_n es (i + 1) _ (fun f hf => h f (by simp [hf])) ?_
   split
   ·exact Eff.app_n (h e (by simp)) hs
   ·exact hs
theorem foldE_eq {L : Nat → Bool} (hn : n ≤ 16000) : ∀ (es : List Eff) (i : Nat) (s t : PS), (∀ e ∈ es, e.Ok n) → s.n = n → PS.Eq s t → PS.Eq (foldE L i es s) (foldE L i es t)
 | [], _, _, _, _, _, h => h
 | e :: es, i, s, t, he, hs, h => by
   simp only [foldE]
   split
   ·exact foldE_eq hn es (i + 1) _ _ (fun f hf => he f (by simp [hf])) (Eff.app_n (he e (by simp)) hs) (Eff.app_congr hn (he e (by simp)) hs h)
   ·exact foldE_eq hn es (i + 1) _ _ (fun f hf => he f (by simp [hf])) hs h
def Eff.Comm (n : Nat) (e f : Eff) : Prop := ∀ u : PS, u.n = n → PS.Eq (f.app (e.app u)) (e.app (f.app u))
theorem foldE_comm {L : Nat → Bool} (hn : n ≤ 16000) {e : Eff} (he : e.Ok n) : ∀ (es : List Eff) (i : Nat) (u u' : PS), (∀ f ∈ es, f.Ok n) → (∀ k f, es[k]? = some f → L (i + k) = true → Eff.Comm n e f) → u.n = n → PS.Eq u' (e.app u) →
 PS.Eq (foldE L i es u') (e.app (foldE L i es u))
 | [], _, _, _, _, _, _, h => h
 | f :: es, i, u, u', hok, hc, hu, h => by
   have hc' : ∀ k g, es[k]? = some g → L (i + 1 + k) = true → Eff.Comm n e g := fun k g hg hL => hc (k + 1) g (by simpa using hg) (by rwa [Nat.add_comm k, ← Nat.add_assoc])
   have hok' : ∀ g ∈ es, g.Ok n := fun g hg => hok g (by simp [hg])
   have hu' : u'.n = n := h.n.trans (Eff.app_n he hu)
   simp only [foldE]
   split
   ·rename_i hL
    refine foldE_comm hn he es (i + 1) (f.app u) (f.app u') hok' hc' (Eff.app_n (hok f (by simp)) hu) ?_
    exact (Eff.app_congr hn (hok f (by simp)) hu' h).trans (hc 0 f rfl (by simpa using hL) u hu)
   ·exact foldE_comm hn he es (i + 1) u u' hok' hc' hu h
def Eff.Off (d : Nat) : Eff → Prop
 | .put _ _ => True
 | .new d' _ _ => d' ≠ d
 | .wr _ _ u _ => u ≠ d
 | .all s => s.blk d = .free
 | .gr _ d' _ => d' ≠ d
theorem foldE_free {L : Nat → Bool} (hn : n ≤ 16000) {d : Nat} : ∀ (es : List Eff) (i : Nat) (u : PS), (∀ f ∈ es, f.Ok n) → (∀ k f, es[k]? = some f → L (i + k) = true → f.Off d) → u.blk d = .free → (foldE L i es u).blk d = .free
 | [], _, _, _, _, h => h
 | f :: es, i, u, hok, hc, h => by
   have hc' : ∀ k g, es[k]? = some g → L (i + 1 + k) = true → g.Off d := fun k g hg hL => hc (k + 1) g (by simpa using hg) (by rwa [Nat.add_comm k, ← Nat.add_assoc])
   simp only [foldE]
   refine foldE_free hn es (i + 1) _ (fun g hg => hok g (by simp [hg])) hc' ?_
   split
   ·rename_i hL
    have := hc 0 f rfl (by simpa using hL)
    have hk := hok f (by simp)
    cases f with
    | put d' x => simp only [Eff.app, put_blk]; exact h
    | new d' x b =>
      have hne : ¬ d = d' := fun e => this e.symm
      simp only [Eff.app, PS.blk_setB b (lt_depth hk hn), if_neg hne, PS.blk_setT]; exact h
    | wr d' x v b =>
      have hne : ¬ d = v := fun e => this e.symm
      simp only [Eff.app, put_blk, PS.blk_setB b (key_depth hk), if_neg hne]; exact h
    | all s' => exact this
    | gr t' d' b =>
      have hne : ¬ d = d' := fun e => this e.symm
      simp only [Eff.app]
      rw [growTo_blk (lt_depth hk.1 hn) hk.2.2, if_neg hne]
      split
      ·rfl
      ·rw [h]; exact killB_free _
   ·exact h
structure Agr (xs : List Tmp) (hp : Prop) (hid : Nat → Prop) (u v : PS) : Prop where
 n : u.n = v.n
 get : ∀ σ, σ ∈ xs → u.get σ = v.get σ
 blk : hp → ∀ b, ¬ hid b → v.blk b ≠ .free → u.blk b = v.blk b
 pl : u.pl = v.pl
variable {xs : List Tmp} {hp : Prop} {hid : Nat → Prop}
theorem Agr.both (hn : n ≤ 16000) {e : Eff} (he : e.Ok n) {u v : PS} (hv : v.n = n) (h : Agr xs hp hid u v) : Agr xs hp hid (e.app u) (e.app v) := by
 have hu : u.n = n := h.n.trans hv
 cases e with
 | put d x =>
   refine ⟨by simp only [Eff.app, put_n]; exact h.n, fun σ hσ => ?_, fun hh b hb => by simp only [Eff.app, put_blk]; exact h.blk hh b hb, by simp only [Eff.app, put_pl]; exact h.pl⟩
   simp only [Eff.app]
   rw [put_get (by omega), put_get (by omega), h.n, h.get σ hσ]
 | new d x b =>
   have hdep := lt_depth he hn
   refine ⟨h.n, fun σ hσ => ?_, fun hh b' hb' hf => ?_, h.pl⟩
   ·simp only [Eff.app, PS.get_setB, PS.get_setT x hdep, h.get σ hσ]
   ·simp only [Eff.app, PS.blk_setB b hdep, PS.blk_setT] at hf ⊢
    by_cases e : b' = d
    ·simp [e]
    ·simp only [e, if_false] at hf ⊢; exact h.blk hh b' hb' hf
 | wr d x w b =>
   have hdep := key_depth he
   refine ⟨by simp only [Eff.app, put_n]; exact h.n, fun σ hσ => ?_, fun hh b' hb' hf => ?_, by simp only [Eff.app, put_pl]; exact h.pl⟩
   ·simp only [Eff.app]
    rw [put_get (by show u.n ≤ 16000; omega), put_get (by show v.n ≤ 16000; omega), PS.get_setB, PS.get_setB, h.get σ hσ]
    show (if d = some σ ∧ σ < u.n then x else v.get σ) = (if d = some σ ∧ σ < v.n then x else v.get σ)
    rw [h.n]
   simp only [Eff.app, put_blk, PS.blk_setB b hdep] at hf ⊢
   by_cases e : b' = w
   ·simp [e]
   ·simp only [e, if_false] at hf ⊢; exact h.blk hh b' hb' hf
 | all s' => exact ⟨rfl, fun _ _ => rfl, fun _ _ _ _ => rfl, rfl⟩
 | gr t d b =>
   have hdep := lt_depth he.1 hn
   refine ⟨(growTo_n _ _ _ _).trans (h.n.trans (growTo_n _ _ _ _).symm), fun σ hσ => ?_, fun hh b' hb' hf => ?_, (growTo_pl _ _ _ _).trans (h.pl.trans (growTo_pl _ _ _ _).symm)⟩
   ·simp only [Eff.app]; rw [growTo_get hdep, growTo_get hdep, h.get σ hσ]
   ·simp only [Eff.app] at hf ⊢
    rw [growTo_blk hdep he.2.2] at hf ⊢
    rw [growTo_blk hdep he.2.2]
    by_cases e1 : b' = d
    ·simp [e1]
    ·rw [if_neg e1] at hf
     rw [if_neg e1, if_neg e1]
     by_cases e2 : t = some b'
     ·simp [e2]
     ·rw [if_neg e2] at hf
      rw [if_neg e2, if_neg e2, h.blk hh b' hb' (killB_nonfree hf)]
def Eff.UnseenR (xs : List Tmp) (hp : Prop) (hid : Nat → Prop) : Eff → Prop
 | .put d _ => ∀ σ, d = some σ → σ ∉ xs
 | .new d _ _ => d ∉ xs ∧ hid d
 | .wr d _ w _ => (¬ hp ∨ hid w) ∧ ∀ σ, d = some σ → σ ∉ xs
 | .all _ => False
 | .gr _ _ _ => False
theorem Agr.right (hn : n ≤ 16000) {e : Eff} (he : e.Ok n) {u v : PS} (hv : v.n = n) (hs : e.UnseenR xs hp hid) (h : Agr xs hp hid u v) : Agr xs hp hid u (e.app v) := by
 cases e with
 | put d x =>
   refine ⟨by simp only [Eff.app, put_n]; exact h.n, fun σ hσ => ?_, fun hh b hb => by simp only [Eff.app, put_blk]; exact h.blk hh b hb, by simp only [Eff.app, put_pl]; exact h.pl⟩
   simp only [Eff.app]
   rw [put_get (by omega), if_neg (fun e => hs σ e.1 hσ)]
   exact h.get σ hσ
 | new d x b =>
   have hdep := lt_depth he hn
   refine ⟨h.n, fun σ hσ => ?_, fun hh b' hb' hf => ?_, h.pl⟩
   ·have : ¬ σ = d := fun e => hs.1 (e ▸ hσ)
    simp only [Eff.app, PS.get_setB, PS.get_setT x hdep, this, if_false]; exact h.get σ hσ
   ·have : ¬ b' = d := fun e => hb' (e ▸ hs.2)
    simp only [Eff.app, PS.blk_setB b hdep, PS.blk_setT, this, if_false] at hf ⊢
    exact h.blk hh b' hb' hf
 | wr d x w b =>
   have hdep := key_depth he
   refine ⟨by simp only [Eff.app, put_n]; exact h.n, fun σ hσ => ?_, fun hh b' hb' hf => ?_, by simp only [Eff.app, put_pl]; exact h.pl⟩
   rotate_left
   ·rcases hs.1 with h1 | h1
    ·exact absurd hh h1
    ·have : ¬ b' = w := fun e => hb' (e ▸ h1)
     simp only [Eff.app, put_blk, PS.blk_setB b hdep, this, if_false] at hf ⊢
     exact h.blk hh b' hb' hf
   simp only [Eff.app]
   rw [put_get (by show v.n ≤ 16000; omega), if_neg (fun e => hs.2 σ e.1 hσ)]
   exact h.get σ hσ
 | all s' => exact hs.elim
 | gr _ _ _ => exact hs.elim
def Eff.UnseenL (xs : List Tmp) (hp : Prop) (hid : Nat → Prop) (v : PS) : Eff → Prop
 | .put d _ => ∀ σ, d = some σ → σ ∉ xs
 | .new d _ _ => d ∉ xs ∧ v.blk d = .free
 | .wr d _ w _ => (¬ hp ∨ hid w) ∧ ∀ σ, d = some σ → σ ∉ xs
 | .all _ => False
 | .gr t d _ => d ∉ xs ∧ hid d ∧ ∀ τ, t = some τ → (∀ σ, σ ∈ xs → (v.get σ).kill τ = v.get σ) ∧ ∀ b, ¬ hid b → v.blk b ≠ .free → b ≠ τ ∧ (v.blk b).kill τ = v.blk b
theorem Agr.left (hn : n ≤ 16000) {e : Eff} (he : e.Ok n) {u v : PS} (hv : v.n = n) (hs : e.UnseenL xs hp hid v) (h : Agr xs hp hid u v) : Agr xs hp hid (e.app u) v := by
 have hu : u.n = n := h.n.trans hv
 cases e with
 | put d x =>
   refine ⟨by simp only [Eff.app, put_n]; exact h.n, fun σ hσ => ?_, fun hh b hb => by simp only [Eff.app, put_blk]; exact h.blk hh b hb, by simp only [Eff.app, put_pl]; exact h.pl⟩
   simp only [Eff.app]
   rw [put_get (by omega), if_neg (fun e => hs σ e.1 hσ)]
   exact h.get σ hσ
 | new d x b =>
   have hdep := lt_depth he hn
   refine ⟨h.n, fun σ hσ => ?_, fun hh b' hb' hf => ?_, h.pl⟩
   ·have : ¬ σ = d := fun e => hs.1 (e ▸ hσ)
    simp only [Eff.app, PS.get_setB, PS.get_setT x hdep, this, if_false]; exact h.get σ hσ
   ·have : ¬ b' = d := fun e => hf (e ▸ hs.2)
    simp only [Eff.app, PS.blk_setB b hdep, PS.blk_setT, this, if_false]
    exact h.blk hh b' hb' hf
 | wr d x w b =>
   have hdep := key_depth he
   refine ⟨by simp only [Eff.app, put_n]; exact h.n, fun σ hσ => ?_, fun hh b' hb' hf => ?_, by simp only [Eff.app, put_pl]; exact h.pl⟩
   rotate_left
   ·rcases hs.1 with h1 | h1
    ·exact absurd hh h1
    ·have : ¬ b' = w := fun e => hb' (e ▸ h1)
     simp only [Eff.app, put_blk, PS.blk_setB b hdep, this, if_false] at hf ⊢
     exact h.blk hh b' hb' hf
   simp only [Eff.app]
   rw [put_get (by show u.n ≤ 16000; omega), if_neg (fun e => hs.2 σ e.1 hσ)]
   exact h.get σ hσ
 | all s' => exact hs.elim
 | gr t d b =>
   have hdep := lt_depth he.1 hn
   obtain ⟨h1, h2, h3⟩ := hs
   refine ⟨(growTo_n _ _ _ _).trans h.n, fun σ hσ => ?_, fun hh b' hb' hf => ?_, (growTo_pl _ _ _ _).trans h.pl⟩
   ·have : ¬ σ = d := fun e => h1 (e ▸ hσ)
    simp only [Eff.app]
    rw [growTo_get hdep, if_neg this, h.get σ hσ]
    cases t with
    | none => rfl
    | some τ => exact (h3 τ rfl).1 σ hσ
   ·have : ¬ b' = d := fun e => hb' (e ▸ h2)
    simp only [Eff.app]
    rw [growTo_blk hdep he.2.2, if_neg this, h.blk hh b' hb' hf]
    cases t with
    | none => simp [killB]
    | some τ =>
      obtain ⟨g1, g2⟩ := (h3 τ rfl).2 b' hb' hf
      have : ¬ (some τ = some b') := fun e => g1 (Option.some.inj e).symm
      rw [if_neg this]; exact g2
theorem agree1 {L : Nat → Bool} (hn : n ≤ 16000) : ∀ (es : List Eff) (i : Nat) (u v : PS), (∀ f ∈ es, f.Ok n) → (∀ k f, es[k]? = some f → L (i + k) = false → f.UnseenR xs hp hid) → v.n = n → Agr xs hp hid u v →
 Agr xs hp hid (foldE L i es u) (foldE (fun _ => true) i es v)
 | [], _, _, _, _, _, _, h => h
 | f :: es, i, u, v, hok, hc, hv, h => by
   have hc' : ∀ k g, es[k]? = some g → L (i + 1 + k) = false → g.UnseenR xs hp hid := fun k g hg hL => hc (k + 1) g (by simpa using hg) (by rwa [Nat.add_comm k, ← Nat.add_assoc])
   have hok' : ∀ g ∈ es, g.Ok n := fun g hg => hok g (by simp [hg])
   have hf := hok f (by simp)
   simp only [foldE, if_true]
   split
   ·exact agree1 hn es (i + 1) _ _ hok' hc' (Eff.app_n hf hv) (h.both hn hf hv)
   ·rename_i hL
    exact agree1 hn es (i + 1) _ _ hok' hc' (Eff.app_n hf hv) (h.right hn hf hv (hc 0 f rfl (by simpa using hL)))
theorem agree2 {L : Nat → Bool} (hn : n ≤ 16000) {v : PS} (hv : v.n = n) : ∀ (es : List Eff) (i : Nat) (u : PS), (∀ f ∈ es, f.Ok n) → (∀ k f, es[k]? = some f → L (i + k) = true → f.UnseenL xs hp hid v) → Agr xs hp hid u v →
 Agr xs hp hid (foldE L i es u) v
 | [], _, _, _, _, h => h
 | f :: es, i, u, hok, hc, h => by
   have hc' : ∀ k g, es[k]? = some g → L (i + 1 + k) = true → g.UnseenL xs hp hid v := fun k g hg hL => hc (k + 1) g (by simpa using hg) (by rwa [Nat.add_comm k, ← Nat.add_assoc])
   have hok' : ∀ g ∈ es, g.Ok n := fun g hg => hok g (by simp [hg])
   simp only [foldE]
   split
   ·rename_i hL
    exact agree2 hn hv es (i + 1) _ hok' hc' (h.left hn (hok f (by simp)) hv (hc 0 f rfl (by simpa using hL)))
   ·exact agree2 hn hv es (i + 1) _ hok' hc' h
end
end Go.Ev
namespace Go.Ev
variable {hh : Nat} {hsrc : Nat → Option Nat}
open Go.RowKit
theorem edgeMask_bit {acc : List Nat} {i : Nat} : ∀ {es : List Edge}, (edgeMask acc es).testBit i = true → ∃ e ∈ es, Region.binds .any e = true ∧ (e.on = i ∨ (acc.getD e.on 0).testBit i = true)
 | [], h => by simp [edgeMask] at h
 | e :: es, h => by
   unfold edgeMask at h
   cases hb : Region.binds .any e with
   | false =>
     rw [hb] at h
     obtain ⟨e', h1, h2⟩ := edgeMask_bit (es := es) h
     exact ⟨e', by simp [h1], h2⟩
   | true =>
     rw [hb] at h
     simp only [cond_true, Nat.testBit_or, Bool.or_eq_true, Nat.testBit_two_pow, decide_eq_true_eq] at h
     rcases h with (h | h) | h
     ·exact ⟨e, by simp, hb, .inl h⟩
     ·exact ⟨e, by simp, hb, .inr h⟩
     ·obtain ⟨e', h1, h2⟩ := edgeMask_bit (es := es) h
      exact ⟨e', by simp [h1], h2⟩
theorem masksOf_old : ∀ (l : List Oper) (acc : List Nat) (j : Nat), j < acc.length → (masksOf l acc).getD j 0 = acc.getD j 0
 | [], _, _, _ => rfl
 | o :: l, acc, j, h => by
   rw [masksOf, masksOf_old l _ j (by simp; omega)]
   simp only [List.getD_eq_getElem?_getD]
   rw [List.getElem?_append_left h]
theorem masksOf_bit : ∀ (l : List Oper) (acc : List Nat) (k : Nat) (o : Oper), l[k]? = some o → ∀ i, ((masksOf l acc).getD (acc.length + k) 0).testBit i = true →
 ∃ e ∈ o.after.toList, Region.binds .any e = true ∧ (e.on = i ∨ ((masksOf l acc).getD e.on 0).testBit i = true)
 | [], _, _, _, h, _, _ => by simp at h
 | o' :: l, acc, 0, o, h, i, hb => by
   obtain rfl : o' = o := by simpa using h
   rw [masksOf] at hb ⊢
   rw [Nat.add_zero, masksOf_old l _ acc.length (by simp)] at hb
   simp only [List.getD_eq_getElem?_getD] at hb
   rw [List.getElem?_append_right (Nat.le_refl _), Nat.sub_self] at hb
   obtain ⟨e, h1, h2, h3⟩ := edgeMask_bit hb
   refine ⟨e, h1, h2, h3.imp id fun h4 => ?_⟩
   have hlt : e.on < acc.length := by
    rcases Nat.lt_or_ge e.on acc.length with h | h
    ·exact h
    ·rw [List.getD_eq_getElem?_getD, List.getElem?_eq_none h] at h4; simp at h4
   rw [masksOf_old l _ e.on (by simp; omega)]
   simp only [List.getD_eq_getElem?_getD] at h4 ⊢
   rw [List.getElem?_append_left hlt]
   exact h4
 | o' :: l, acc, k + 1, o, h, i, hb => by
   rw [masksOf] at hb ⊢
   have := masksOf_bit l (acc ++ [edgeMask acc o'.after.toList]) k o (by simpa using h) i
   simp only [List.length_append, List.length_singleton] at this
   rw [Nat.add_assoc, Nat.add_comm 1 k] at this
   exact this hb
theorem edgesLow_of {i : Nat} : ∀ {es : List Edge}, edgesLow i es = true → ∀ e ∈ es, Region.binds .any e = true → e.on < i
 | [], _, e, he, _ => by cases he
 | d :: es, h, e, he, hb => by
   simp only [edgesLow, Bool.and_eq_true, Bool.or_eq_true, Bool.not_eq_true'] at h
   rcases List.mem_cons.1 he with rfl | he
   ·rcases h.1 with h1 | h1
    ·rw [hb] at h1; cases h1
    ·simpa using h1
   ·exact edgesLow_of h.2 e he hb
theorem allLow_of : ∀ {l : List Oper} {i : Nat}, allLow i l = true → ∀ k o, l[k]? = some o → ∀ e ∈ o.after.toList, Region.binds .any e = true → e.on < i + k
 | [], _, _, _, _, h => by simp at h
 | o' :: l, i, h, 0, o, ho => by
   obtain rfl : o' = o := by simpa using ho
   simp only [allLow, Bool.and_eq_true] at h
   exact edgesLow_of h.1
 | o' :: l, i, h, k + 1, o, ho => by
   simp only [allLow, Bool.and_eq_true] at h
   have := allLow_of h.2 k o (by simpa using ho)
   rw [Nat.add_assoc, Nat.add_comm 1 k] at this
   exact this
theorem pairOk_of {all : List Oper} {oj : Oper} {m : Nat} : ∀ {l : List Oper} {i : Nat}, pairOk hh hsrc all oj m i l = true → ∀ k oi, l[k]? = some oi → sameDst oi oj = false ∧ (m.testBit (i + k) = true ∨ (i + k < hh ∨ loose hsrc all oi oj = true))
 | [], _, _, _, _, h => by simp at h
 | o' :: l, i, h, 0, oi, ho => by
   obtain rfl : o' = oi := by simpa using ho
   simp only [pairOk, Bool.and_eq_true, Bool.not_eq_true', Bool.or_eq_true] at h
   exact ⟨h.1.1, by simpa using h.1.2⟩
 | o' :: l, i, h, k + 1, oi, ho => by
   simp only [pairOk, Bool.and_eq_true] at h
   have := pairOk_of h.2 k oi (by simpa using ho)
   rw [Nat.add_assoc, Nat.add_comm 1 k] at this
   exact this
theorem pairsOk_of {all : List Oper} {ms : List Nat} : ∀ {l : List Oper} {j : Nat}, pairsOk hh hsrc all ms j l = true → ∀ k oj, l[k]? = some oj → pairOk hh hsrc all oj (ms.getD (j + k) 0) 0 (all.take (j + k)) = true
 | [], _, _, _, _, h => by simp at h
 | o' :: l, j, h, 0, oj, ho => by
   obtain rfl : o' = oj := by simpa using ho
   simp only [pairsOk, Bool.and_eq_true] at h
   exact h.1
 | o' :: l, j, h, k + 1, oj, ho => by
   simp only [pairsOk, Bool.and_eq_true] at h
   have := pairsOk_of h.2 k oj (by simpa using ho)
   rw [Nat.add_assoc, Nat.add_comm 1 k] at this
   exact this
theorem dstsBelow_of {n : Nat} : ∀ {l : List Oper}, dstsBelow n l = true → ∀ o ∈ l, ∀ d, o.dst = some d → d < n
 | [], _, o, h, _, _ => by cases h
 | o' :: l, h, o, ho, d, hd => by
   simp only [dstsBelow, Bool.and_eq_true] at h
   rcases List.mem_cons.1 ho with rfl | ho
   ·rw [hd] at h; simpa using h.1
   ·exact dstsBelow_of h.2 o ho d hd
structure Drawn (hh : Nat) (hsrc : Nat → Option Nat) (n : Nat) (l : List Oper) (ms : List Nat) : Prop where
 deep : n ≤ 16000
 dst : ∀ o ∈ l, ∀ d, o.dst = some d → d < n
 low : ∀ k o, l[k]? = some o → ∀ e ∈ o.after.toList, Region.binds .any e = true → e.on < k
 bit : ∀ k o, l[k]? = some o → ∀ i, (ms.getD k 0).testBit i = true → ∃ e ∈ o.after.toList, Region.binds .any e = true ∧ (e.on = i ∨ (ms.getD e.on 0).testBit i = true)
 pair : ∀ i j oi oj, i < j → l[i]? = some oi → l[j]? = some oj → sameDst oi oj = false ∧ ((ms.getD j 0).testBit i = true ∨ (i < hh ∨ loose hsrc l oi oj = true))
theorem drawn_of {n : Nat} {l : List Oper} (h : drawOk hh hsrc n l (masksOf l []) = true) : Drawn hh hsrc n l (masksOf l []) := by
 simp only [drawOk, Bool.and_eq_true] at h
 obtain ⟨h1, h2, h3, h4⟩ := h
 refine ⟨by simpa using h1, dstsBelow_of h2, fun k o ho e he hb => by have := allLow_of h3 k o ho e he hb; simpa using this, fun k o ho i hi => ?_, fun i j oi oj hij hi hj => ?_⟩
 ·exact masksOf_bit l [] k o ho i (by simpa using hi)
 ·have := pairOk_of (pairsOk_of h4 j oj hj) i oi (by rw [Nat.zero_add, List.getElem?_take, if_pos hij]; exact hi)
  simpa using this
def Closed (l : List Oper) (L : Nat → Bool) : Prop := ∀ j o, l[j]? = some o → L j = true → ∀ e ∈ o.after.toList, Region.binds .any e = true → L e.on = true
theorem before_of {n : Nat} {l : List Oper} {ms : List Nat} (D : Drawn hh hsrc n l ms) {L : Nat → Bool} (hL : Closed l L) : ∀ (j : Nat) (o : Oper), l[j]? = some o → (∀ e ∈ o.after.toList, Region.binds .any e = true → L e.on = true) →
 ∀ i, (ms.getD j 0).testBit i = true → L i = true := by
 intro j
 induction j using Nat.strongRecOn with
 | _ j ih =>
   intro o ho hall i hi
   obtain ⟨e, h1, h2, h3⟩ := D.bit j o ho i hi
   rcases h3 with rfl | h3
   ·exact hall e h1 h2
   ·have hlt := D.low j o ho e h1 h2
    have hj : j < l.length := (List.getElem?_eq_some_iff.1 ho).1
    have hoe : l[e.on]? = some l[e.on] := List.getElem?_eq_getElem (by omega)
    exact ih e.on hlt _ hoe (hL e.on _ hoe (hall e h1 h2)) i h3
def Hid (hsrc : Nat → Option Nat) (l : List Oper) (ms : List Nat) (j b : Nat) : Prop := (∃ i o, i < j ∧ l[i]? = some o ∧ kindOf o.op = .fresh ∧ o.dst = some b ∧ (ms.getD j 0).testBit i = false) ∨
 (∃ oj, l[j]? = some oj ∧ kindOf oj.op = .quiet ∧ ∃ i o, l[i]? = some o ∧ hintOf hsrc l o = some b ∧ ¬ ((i < j ∧ (ms.getD j 0).testBit i = true) ∨ (j < i ∧ (ms.getD i 0).testBit j = true))) ∨
 ∃ oj u, l[j]? = some oj ∧ narrow hsrc l oj = some u ∧ b ≠ u ∧ b < 16000
theorem beqF {a b : Nat} (h : Nat.beq a b = false) : a ≠ b := by
 intro e; subst e
 have : Nat.beq a a = true := Nat.beq_eq ▸ rfl
 rw [h] at this; cases this
theorem narrow_of {l : List Oper} {o : Oper} {u : Nat} (h : narrow hsrc l o = some u) : ∃ T σ, o.op = .load T (.tmp σ) ∧ o.guard = none ∧ o.dst ≠ some σ ∧ u < 16000 := by
 unfold narrow at h
 split at h
 ·rename_i T σ e
  split at h
  ·split at h
   ·rename_i v _
    cases hq : o.guard.isNone && (!sees o.dst [σ] && Nat.blt v 16000) with
    | false => rw [hq] at h; cases h
    | true =>
      rw [hq] at h
      obtain rfl := Option.some.inj h
      simp only [Bool.and_eq_true, Bool.not_eq_true', Nat.blt_eq, Option.isNone_iff_eq_none] at hq
      exact ⟨T, σ, e, hq.1, fun h => (by rw [h] at hq; simp [sees] at hq), hq.2.2⟩
   ·cases h
  ·cases h
 ·cases h
theorem narrow_quiet {l : List Oper} {o : Oper} {u : Nat} (h : narrow hsrc l o = some u) : kindOf o.op = .quiet := by
 obtain ⟨T, σ, e, _⟩ := narrow_of h
 rw [e]; rfl
theorem narrow_looks {l : List Oper} {o : Oper} {u : Nat} (h : narrow hsrc l o = some u) : ∃ T σ, o.op = .load T (.tmp σ) ∧ looks l o = [σ] := by
 obtain ⟨T, σ, e, hg, _, _⟩ := narrow_of h
 refine ⟨T, σ, e, ?_⟩
 unfold looks
 rw [hg]
 simp [e, Op.operands, tmpsOf]
def pdOf (hsrc : Nat → Option Nat) (l : List Oper) (ms : List Nat) (j : Nat) (o : Oper) : Bool := isAp o && pendN hsrc l (ms.getD j 0) 0 (l.take j)
theorem isAp_barrier {o : Oper} (h : isAp o = true) : kindOf o.op = .barrier := by
 unfold isAp at h
 split at h
 ·rename_i args ts e
  rw [e]
  simp only [Bool.and_eq_true, Bool.not_eq_true'] at h
  simp [kindOf, h.2]
 ·cases h
theorem isAp_free {o : Oper} (h : isAp o = true) : o.guard = none := by
 unfold isAp at h
 split at h
 ·simp only [Bool.and_eq_true, Option.isNone_iff_eq_none] at h
  exact h.1
 ·cases h
theorem pendN_of {l : List Oper} {m : Nat} : ∀ {r : List Oper} {i : Nat}, pendN hsrc l m i r = false → ∀ k o u, r[k]? = some o → narrow hsrc l o = some u → m.testBit (i + k) = true
 | [], _, _, _, _, _, h, _ => by simp at h
 | o' :: r, i, h, 0, o, u, ho, hu => by
   obtain rfl : o' = o := by simpa using ho
   simp only [pendN, Bool.or_eq_false_iff, hu] at h
   simpa using h.1
 | o' :: r, i, h, k + 1, o, u, ho, hu => by
   simp only [pendN, Bool.or_eq_false_iff] at h
   have := pendN_of h.2 k o u (by simpa using ho) hu
   rw [Nat.add_assoc, Nat.add_comm 1 k] at this
   exact this
theorem pendN_true {l : List Oper} {m : Nat} {r : List Oper} {i : Nat} {k : Nat} {o : Oper} {u : Nat} (ho : r[k]? = some o) (hu : narrow hsrc l o = some u) (hb : m.testBit (i + k) = false) : pendN hsrc l m i r = true := by
 cases h : pendN hsrc l m i r with
 | true => rfl
 | false => rw [pendN_of h k o u ho hu] at hb; cases hb
theorem narBad_of {l : List Oper} {m w : Nat} : ∀ {r : List Oper} {i : Nat}, narBad hsrc l m w i r = false → ∀ k o u, r[k]? = some o → narrow hsrc l o = some u → m.testBit (i + k) = false → w ≠ u
 | [], _, _, _, _, _, h, _, _ => by simp at h
 | o' :: r, i, h, 0, o, u, ho, hu, hb => by
   obtain rfl : o' = o := by simpa using ho
   simp only [narBad, Bool.or_eq_false_iff, hu] at h
   rw [Nat.add_zero] at hb
   have h1 := h.1
   rw [hb] at h1
   have h1 : Nat.beq u w = false := by simpa only [Bool.not_false, Bool.true_and] using h1
   exact fun e => beqF h1 e.symm
 | o' :: r, i, h, k + 1, o, u, ho, hu, hb => by
   simp only [narBad, Bool.or_eq_false_iff] at h
   exact narBad_of h.2 k o u (by simpa using ho) hu (by rw [Nat.add_assoc, Nat.add_comm 1 k]; exact hb)
theorem LV.kill_off {t : Nat} {v : LV} (h : v.offB t = true) : v.kill t = v := by
 cases v with
 | cloR f cs => simp only [LV.offB, Bool.not_eq_true'] at h; simp only [LV.kill]; rw [if_neg (by simpa using h)]
 | ref u a b c => simp only [LV.offB, Bool.not_eq_true'] at h; simp only [LV.kill]; rw [if_neg (beqF h)]
 | full u => simp only [LV.offB, Bool.not_eq_true'] at h; simp only [LV.kill]; rw [if_neg (beqF h)]
 | sref u a b c => simp only [LV.offB, Bool.not_eq_true'] at h; simp only [LV.kill]; rw [if_neg (beqF h)]
 | cref u a b c => simp only [LV.offB, Bool.not_eq_true'] at h; simp only [LV.kill]; rw [if_neg (beqF h)]
 | mref u => simp only [LV.offB, Bool.not_eq_true'] at h; simp only [LV.kill]; rw [if_neg (beqF h)]
 | _ => rfl
theorem map_id_of {α : Type} {f : α → α} : ∀ {l : List α}, (∀ x ∈ l, f x = x) → l.map f = l
 | [], _ => rfl
 | x :: l, h => by simp only [List.map_cons]; rw [h x (by simp), map_id_of fun y hy => h y (by simp [hy])]
theorem CV.kill_off {t : Nat} {v : CV} (h : v.offB t = true) : v.kill t = v := by
 cases v with
 | l v => simp only [CV.kill]; rw [LV.kill_off h]
 | agg cs => simp only [CV.kill]; rw [map_id_of fun x hx => LV.kill_off (List.all_eq_true.1 h x hx)]
theorem SV.kill_off {t : Nat} {v : SV} (h : v.offB t = true) : v.kill t = v := by
 cases v with
 | c v => simp only [SV.kill]; rw [CV.kill_off h]
 | tup vs => simp only [SV.kill]; rw [map_id_of fun x hx => CV.kill_off (List.all_eq_true.1 h x hx)]
theorem Blk.kill_off {t : Nat} {b : Blk} (h : b.offB t = true) : b.kill t = b := by
 cases b with
 | cells cs => simp only [Blk.kill]; rw [map_id_of fun x hx => LV.kill_off (List.all_eq_true.1 h x hx)]
 | lp q i m => cases h
 | _ => rfl
structure Clear (s : PS) (u σ : Nat) (d : Option Tmp) (x : SV) (τ : Nat) : Prop where
 lt : τ < 16000
 ne : u ≠ τ
 slot : σ ≠ τ
 blk : (s.blk u).kill τ = s.blk u
 get : (s.get σ).kill τ = s.get σ
 val : d ≠ none → x.kill τ = x
theorem clearO_of {s s0 : PS} {u σ τ : Nat} {d : Option Tmp} {x : SV} (hn : s.n ≤ 16000) (he : PS.Eq s s0) (hd : ∀ dd, d = some dd → dd < s.n) (hσ : d ≠ some σ) (h : clearO (s.put d x) u σ d (some τ) = true) : Clear s0 u σ d x τ := by
 simp only [clearO, Bool.and_eq_true, Bool.not_eq_true', Nat.blt_eq] at h
 obtain ⟨h1, h2, h3, h4, h5, h6⟩ := h
 rw [put_blk] at h4
 rw [put_get hn, if_neg (fun e => hσ e.1)] at h5
 refine ⟨h1, beqF h2, beqF h3, ?_, ?_, fun hne => ?_⟩
 ·rw [← he.blk]; exact Blk.kill_off h4
 ·rw [← he.get]; exact SV.kill_off h5
 ·cases d with
  | none => exact absurd rfl hne
  | some dd =>
    simp only [] at h6
    rw [put_get hn, if_pos ⟨rfl, hd dd rfl⟩] at h6
    exact SV.kill_off h6
theorem growsOk_of {ms : List Nat} {j u σ : Nat} {d : Option Tmp} {s : PS} : ∀ {l : List Oper} {k : Nat}, growsOk hsrc ms j u σ d s k l = true → ∀ i o, l[i]? = some o → isAp o = true → j < k + i → (ms.getD (k + i) 0).testBit j = false → clearO s u σ d (hsrc 20000) = true ∧ clearO s u σ d o.dst = true
 | [], _, _, _, _, h, _, _, _ => by simp at h
 | o' :: r, k, h, 0, o, ho, ha, hj, hb => by
   obtain rfl : o' = o := by simpa using ho
   simp only [growsOk, ha, Bool.and_eq_true] at h
   rw [Nat.add_zero] at hj hb
   have h1 := h.1
   have hj' : Nat.blt j k = true := by rw [Nat.blt_eq]; exact hj
   rw [hj', hb] at h1
   simpa using h1
 | o' :: r, k, h, i + 1, o, ho, ha, hj, hb => by
   simp only [growsOk, Bool.and_eq_true] at h
   refine growsOk_of h.2 i o (by simpa using ho) ha ?_ ?_
   ·rw [Nat.add_assoc, Nat.add_comm 1 i]; exact hj
   ·rw [Nat.add_assoc, Nat.add_comm 1 i]; exact hb
theorem madeHere_of {t : Nat} : ∀ {l : List Oper}, madeHere t l = true → ∃ o ∈ l, o.dst = some t
 | [], h => by cases h
 | o :: r, h => by
   simp only [madeHere, Bool.or_eq_true] at h
   rcases h with h | h
   ·cases hd : o.dst with
    | none => rw [hd] at h; cases h
    | some d =>
      rw [hd] at h
      simp only [Bool.and_eq_true] at h
      have : d = t := by simpa using h.1
      exact ⟨o, by simp, by rw [hd, this]⟩
   ·obtain ⟨o', h1, h2⟩ := madeHere_of h
    exact ⟨o', by simp [h1], h2⟩
theorem hintOf_of {l : List Oper} {o : Oper} {t n : Nat} (hn : n ≤ 16000) (hall : ∀ o ∈ l, ∀ d, o.dst = some d → d < n) (h : hintOf hsrc l o = some t) : t < 16000 := by
 unfold hintOf at h
 split at h
 ·rename_i u _ _
  cases hm : madeHere u l with
  | false =>
    rw [hm, cond_false] at h
    split at h
    ·split at h
     ·rename_i v _
      cases hv : Nat.blt v 16000 with
      | false => rw [hv] at h; cases h
      | true =>
        rw [hv] at h
        obtain rfl := Option.some.inj h
        exact Nat.blt_eq ▸ hv
     ·cases h
    ·cases h
  | true =>
    rw [hm] at h
    obtain rfl := Option.some.inj h
    obtain ⟨o', h1, h2⟩ := madeHere_of hm
    exact Nat.lt_of_lt_of_le (hall o' h1 _ h2) hn
 ·cases h
theorem hideHints_pl {all : List Oper} {ms : List Nat} {j : Nat} : ∀ (l : List Oper) (i : Nat) (s : PS), (hideHints hsrc all ms j i l s).pl = s.pl
 | [], _, _ => rfl
 | o :: l, i, s => by
   unfold hideHints
   split
   ·cases (Nat.blt i j && (ms.getD j 0).testBit i) || (Nat.blt j i && (ms.getD i 0).testBit j) with
    | true => exact hideHints_pl l (i + 1) s
    | false => exact (hideHints_pl l (i + 1) _).trans rfl
   ·exact hideHints_pl l (i + 1) s
theorem hideFresh_pl {m : Nat} : ∀ (l : List Oper) (i : Nat) (s : PS), (hideFresh m i l s).pl = s.pl
 | [], _, _ => rfl
 | o :: l, i, s => by
   unfold hideFresh
   split
   ·cases m.testBit i with
    | true => exact hideFresh_pl l (i + 1) s
    | false => exact (hideFresh_pl l (i + 1) _).trans rfl
   ·exact hideFresh_pl l (i + 1) s
theorem hideHints_ok {n : Nat} (hn : n ≤ 16000) {all : List Oper} {ms : List Nat} {j : Nat} (hall : ∀ o ∈ all, ∀ d, o.dst = some d → d < n) : ∀ (l : List Oper) (i : Nat) (s : PS),
 (hideHints hsrc all ms j i l s).n = s.n ∧ (∀ u, (hideHints hsrc all ms j i l s).get u = s.get u) ∧ ∀ b, (hideHints hsrc all ms j i l s).blk b = .free ∨
   ((hideHints hsrc all ms j i l s).blk b = s.blk b ∧ ∀ k o, l[k]? = some o → hintOf hsrc all o = some b → (i + k < j ∧ (ms.getD j 0).testBit (i + k) = true) ∨ (j < i + k ∧ (ms.getD (i + k) 0).testBit j = true))
 | [], i, s => ⟨rfl, fun _ => rfl, fun b => .inr ⟨rfl, fun k o h => by simp at h⟩⟩
 | o :: l, i, s => by
   have next : ∀ s0, hideHints hsrc all ms j i (o :: l) s = hideHints hsrc all ms j (i + 1) l s0 → s0.n = s.n → (∀ u, s0.get u = s.get u) →
    (∀ b, s0.blk b = .free ∨ (s0.blk b = s.blk b ∧ (hintOf hsrc all o = some b → (i < j ∧ (ms.getD j 0).testBit i = true) ∨ (j < i ∧ (ms.getD i 0).testBit j = true)))) →
    (hideHints hsrc all ms j i (o :: l) s).n = s.n ∧ (∀ u, (hideHints hsrc all ms j i (o :: l) s).get u = s.get u) ∧ ∀ b, (hideHints hsrc all ms j i (o :: l) s).blk b = .free ∨
    ((hideHints hsrc all ms j i (o :: l) s).blk b = s.blk b ∧ ∀ k o', (o :: l)[k]? = some o' → hintOf hsrc all o' = some b → (i + k < j ∧ (ms.getD j 0).testBit (i + k) = true) ∨ (j < i + k ∧ (ms.getD (i + k) 0).testBit j = true)) := by
    intro s0 he h1 h2 h3
    obtain ⟨g1, g2, g3⟩ := hideHints_ok hn (ms := ms) (j := j) hall l (i + 1) s0
    rw [he]
    refine ⟨g1.trans h1, fun u => (g2 u).trans (h2 u), fun b => ?_⟩
    rcases g3 b with g | ⟨ge, gk⟩
    ·exact .inl g
    ·rcases h3 b with h | ⟨h, hk⟩
     ·exact .inl (ge.trans h)
     ·refine .inr ⟨ge.trans h, fun k o' ho hh => ?_⟩
      cases k with
      | zero =>
        obtain rfl : o = o' := by simpa using ho
        exact hk hh
      | succ k =>
        have := gk k o' (by simpa using ho) hh
        rwa [Nat.add_assoc, Nat.add_comm 1 k] at this
   cases hh : hintOf hsrc all o with
   | none => exact next s (by simp only [hideHints, hh]) rfl (fun _ => rfl) fun b => .inr ⟨rfl, fun h => by rw [hh] at h; cases h⟩
   | some t =>
     cases hq : (Nat.blt i j && (ms.getD j 0).testBit i) || (Nat.blt j i && (ms.getD i 0).testBit j) with
     | true =>
       refine next s (by simp only [hideHints, hh, hq, cond_true]) rfl (fun _ => rfl) fun b => .inr ⟨rfl, fun _ => ?_⟩
       simpa using hq
     | false =>
       have hdep := key_depth (hintOf_of hn hall hh)
       refine next (s.setB t .free) (by simp only [hideHints, hh, hq, cond_false]) rfl (fun _ => rfl) fun b => ?_
       rw [PS.blk_setB _ hdep]
       by_cases e : b = t
       ·left; rw [if_pos e]
       ·right
        rw [if_neg e]
        exact ⟨rfl, fun h => absurd (Option.some.inj (hh.symm.trans h)).symm e⟩
theorem hideFresh_ok {m n : Nat} (hn : n ≤ 16000) : ∀ (l : List Oper) (i : Nat) (s : PS), (∀ o ∈ l, ∀ d, o.dst = some d → d < n) →
 (hideFresh m i l s).n = s.n ∧ (∀ u, (hideFresh m i l s).get u = s.get u) ∧ ∀ b, (hideFresh m i l s).blk b = .free ∨
   ((hideFresh m i l s).blk b = s.blk b ∧ ∀ k o, l[k]? = some o → kindOf o.op = .fresh → o.dst = some b → m.testBit (i + k) = true)
 | [], i, s, _ => ⟨rfl, fun _ => rfl, fun b => .inr ⟨rfl, fun k o h => by simp at h⟩⟩
 | o :: l, i, s, hd => by
   have hd' : ∀ o ∈ l, ∀ d, o.dst = some d → d < n := fun o ho => hd o (by simp [ho])
   have skip : ∀ s0, (∀ b, kindOf o.op = .fresh → o.dst = some b → m.testBit i = true) → hideFresh m i (o :: l) s = hideFresh m (i + 1) l s0 → s0 = s →
    (hideFresh m i (o :: l) s).n = s.n ∧ (∀ u, (hideFresh m i (o :: l) s).get u = s.get u) ∧ ∀ b, (hideFresh m i (o :: l) s).blk b = .free ∨
    ((hideFresh m i (o :: l) s).blk b = s.blk b ∧ ∀ k o', (o :: l)[k]? = some o' → kindOf o'.op = .fresh → o'.dst = some b → m.testBit (i + k) = true) := by
    intro s0 hbit he hs0
    subst hs0
    obtain ⟨h1, h2, h3⟩ := hideFresh_ok (m := m) hn l (i + 1) s0 hd'
    rw [he]
    refine ⟨h1, h2, fun b => (h3 b).imp id fun ⟨e1, e2⟩ => ⟨e1, fun k o' hk hf hdst => ?_⟩⟩
    cases k with
    | zero => obtain rfl : o = o' := by simpa using hk
              exact hbit b hf hdst
    | succ k => have := e2 k o' (by simpa using hk) hf hdst; rwa [Nat.add_assoc, Nat.add_comm 1 k] at this
   cases hk : kindOf o.op with
   | fresh =>
     cases hdst : o.dst with
     | none => exact skip s (fun b _ h => by rw [hdst] at h; cases h) (by simp only [hideFresh, hk, hdst]) rfl
     | some d =>
       cases hb : m.testBit i with
       | true => exact skip s (fun b _ h => hb) (by simp only [hideFresh, hk, hdst, hb, cond_true]) rfl
       | false =>
         have he : hideFresh m i (o :: l) s = hideFresh m (i + 1) l (s.setB d .free) := by simp only [hideFresh, hk, hdst, hb, cond_false]
         have hdep := lt_depth (hd o (by simp) d hdst) hn
         obtain ⟨h1, h2, h3⟩ := hideFresh_ok (m := m) hn l (i + 1) (s.setB d .free) hd'
         rw [he]
         refine ⟨h1, fun u => (h2 u).trans rfl, fun b => ?_⟩
         by_cases hbd : b = d
         ·left
          rcases h3 b with h | ⟨h, _⟩
          ·exact h
          ·rw [h, PS.blk_setB _ hdep, if_pos hbd]
         ·refine (h3 b).imp id fun ⟨e1, e2⟩ => ⟨by rw [e1, PS.blk_setB _ hdep, if_neg hbd], fun k o' hk' hf hdst' => ?_⟩
          cases k with
          | zero =>
            obtain rfl : o = o' := by simpa using hk'
            rw [hdst] at hdst'
            exact absurd (Option.some.inj hdst').symm hbd
          | succ k => have := e2 k o' (by simpa using hk') hf hdst'; rwa [Nat.add_assoc, Nat.add_comm 1 k] at this
   | pure => exact skip s (fun b h => by rw [hk] at h; cases h) (by simp only [hideFresh, hk]) rfl
   | quiet => exact skip s (fun b h => by rw [hk] at h; cases h) (by simp only [hideFresh, hk]) rfl
   | write => exact skip s (fun b h => by rw [hk] at h; cases h) (by simp only [hideFresh, hk]) rfl
   | barrier => exact skip s (fun b h => by rw [hk] at h; cases h) (by simp only [hideFresh, hk]) rfl
theorem freeAhead_of {s : PS} : ∀ {l : List Oper}, freeAhead s l = true → ∀ o ∈ l, ∀ d, kindOf o.op = .fresh → o.dst = some d → s.blk d = .free
 | [], _, o, h, _, _, _ => by cases h
 | o' :: l, h, o, ho, d, hk, hd => by
   simp only [freeAhead, Bool.and_eq_true] at h
   rcases List.mem_cons.1 ho with rfl | ho
   ·rw [hk, hd] at h; exact Blk.isFree_iff.1 h.1
   ·exact freeAhead_of h.2 o ho d hk hd
def Eff.Shape (o : Oper) (s : PS) : Eff → Prop
 | .put d _ => d = o.dst
 | .new d _ _ => kindOf o.op = .fresh ∧ o.dst = some d ∧ d < s.n
 | .wr d _ u _ => kindOf o.op = .write ∧ u < 16000 ∧ s.blk u ≠ .free ∧ (∀ σ, d = some σ → o.dst = some σ)
 | .all s' => kindOf o.op = .barrier ∧ s'.n = s.n
 | .gr t d _ => kindOf o.op = .barrier ∧ o.dst = some d ∧ d < s.n ∧ s.n ≤ 16000 ∧ ∀ τ, t = some τ → τ < 16000
def Eff.At (w : Nat) : Eff → Prop
 | .wr _ _ u _ => u = w
 | _ => True
def Eff.AtNot (w : Nat) : Eff → Prop
 | .wr _ _ u _ => u ≠ w
 | _ => True
theorem Eff.AtNot.of {w v : Nat} {e : Eff} (h : e.At w) (hne : w ≠ v) : e.AtNot v := by
 cases e with
 | wr d x u b => exact fun e => hne (h.symm.trans e)
 | _ => trivial
structure Alike (xs : List Tmp) (o : Oper) (hid : Nat → Prop) (pd : Bool) (s t : PS) : Prop where
 n : t.n = s.n
 get : ∀ σ ∈ xs, t.get σ = s.get σ
 blk : kindOf o.op ≠ .pure → ∀ b, ¬ hid b → s.blk b ≠ .free → t.blk b = s.blk b
 fresh : kindOf o.op = .fresh → ∀ d, o.dst = some d → t.blk d = .free ∧ s.blk d = .free
 all : kindOf o.op = .barrier → (∀ b, t.blk b = s.blk b) ∧ (pd = false → PS.Eq s t)
 pl : t.pl = s.pl
theorem Alike.of_eq {xs : List Tmp} {o : Oper} {hid : Nat → Prop} {pd : Bool} {s s2 t : PS} (h : PS.Eq s s2) (A : Alike xs o hid pd s t) : Alike xs o hid pd s2 t :=
 ⟨A.n.trans h.n, fun σ hσ => (A.get σ hσ).trans (h.get σ), fun hk b hb hf => by rw [← h.blk b] at hf ⊢; exact A.blk hk b hb hf, fun hk d hd => ⟨(A.fresh hk d hd).1, by rw [← h.blk d]; exact (A.fresh hk d hd).2⟩, fun hk => ⟨fun b => ((A.all hk).1 b).trans (h.blk b), fun hp => h.symm.trans ((A.all hk).2 hp)⟩, A.pl.trans h.pl⟩
section
variable {P : Program} {R : Type} {call : CallK R} {m s t s' t' : PS} {o : Oper}
theorem StepOk.to (h : StepOk P s o s') (e : PS.Eq s' t') : StepOk P s o t' := fun B0 w0 a w hr next Q hn => h B0 w0 a w hr next Q fun a' w' hr' => hn a' w' (e.rel hr')
theorem StepOk.from (e : PS.Eq s t) (h : StepOk P s o s') : StepOk P t o s' := fun B0 w0 a w hr next Q hn => h B0 w0 a w (e.symm.rel hr) next Q hn
theorem frozen_leaf {w : World} {B : Nat} {p' q : Nat → Prop} {β' β : Nat → Option Value} {H : Nat → Blk} {b : Blk} {v : Value} {c c' : LV} (hp : ∀ g, p' g → q g)
 (hb : match β' 0 with | some r => RepB w p' β' (fun u => if u = 0 then b else .free) B b r ∧ (∀ g, rootBlock r = some g → q g) | none => b = .free)
 (hc : RepL w p' β' (fun u => if u = 0 then b else .free) c v) (h : frozenL b c = some c') : RepL w q β H c' v := by
 unfold frozenL at h
 split at h
 ·split at h
  ·rename_i T e xs
   obtain rfl := Option.some.inj h
   obtain ⟨g1, _, _⟩ := hc
   rw [g1] at hb
   obtain ⟨⟨us, hown, he, hrow⟩, hq⟩ := hb
   exact slice_of_own hown (hrow.imp fun _ _ h => RepT.mono (fun g hg => ⟨hp g hg, rfl⟩) h) hq
  ·cases h
 ·split at h
  ·rename_i hpure
   obtain rfl := Option.some.inj h
   exact RepL.keep (β := β) (H := H) ⟨fun g hg => ⟨hp g hg, rfl⟩, fun _ _ h => h, fun _ _ => BlkSim.refl _⟩ (RepL.pure hpure hc)
  ·cases h
theorem frozenLs_ok {w : World} {p' q : Nat → Prop} {β' β : Nat → Option Value} {H H' : Nat → Blk} {b : Blk} (hl : ∀ c c' v, RepL w p' β' H' c v → frozenL b c = some c' → RepL w q β H c' v) : ∀ {cs cs' : List LV} {vs : List Value}, RepLs w p' β' H' cs vs → frozenLs b cs = some cs' → RepLs w q β H cs' vs
 | [], cs', vs, hc, h => by
   obtain rfl := Option.some.inj h
   have : vs = [] := List.eq_nil_of_length_eq_zero hc.1.symm
   subst this; exact repLs_nil
 | c :: cs, cs', vs, hc, h => by
   simp only [frozenLs] at h
   obtain ⟨v, vs', rfl, h1, h2⟩ := hc.uncons
   split at h
   ·rename_i x xs e1 e2
    obtain rfl := Option.some.inj h
    exact RepLs.append (repLs_one (hl _ _ _ h1 e1)) (frozenLs_ok hl h2 e2)
   ·cases h
theorem frozenC_ok {w : World} {p' q : Nat → Prop} {β' β : Nat → Option Value} {H H' : Nat → Blk} {b : Blk} (hl : ∀ c c' v, RepL w p' β' H' c v → frozenL b c = some c' → RepL w q β H c' v) {c c' : CV} {v : Value} (hc : RepC w p' β' H' c v) (h : frozenC b c = some c') : RepC w q β H c' v := by
 cases c with
 | l c =>
   simp only [frozenC] at h
   split at h
   ·rename_i x hx
    obtain rfl := Option.some.inj h
    by_cases hu : c = .undef
    ·subst hu
     have : x = .undef := by simpa [frozenL, LV.pure] using hx.symm
     subst this; trivial
    ·exact repC_l (hl _ _ _ (repL_of hu hc) hx)
   ·cases h
 | agg cs =>
   simp only [frozenC] at h
   split at h
   ·rename_i xs hx
    obtain rfl := Option.some.inj h
    obtain ⟨vs, rfl, h2⟩ := hc
    exact ⟨vs, rfl, frozenLs_ok hl h2 hx⟩
   ·cases h
theorem frozenCs_ok {w : World} {p' q : Nat → Prop} {β' β : Nat → Option Value} {H H' : Nat → Blk} {b : Blk} (hl : ∀ c c' v, RepL w p' β' H' c v → frozenL b c = some c' → RepL w q β H c' v) : ∀ {cs cs' : List CV} {vs : List Value}, RepCs w p' β' H' cs vs → frozenCs b cs = some cs' → RepCs w q β H cs' vs
 | [], cs', vs, hc, h => by
   obtain rfl := Option.some.inj h
   have : vs = [] := List.eq_nil_of_length_eq_zero hc.1.symm
   subst this; exact repCs_nil
 | c :: cs, cs', vs, hc, h => by
   simp only [frozenCs] at h
   obtain ⟨v, vs', rfl, h1, h2⟩ := hc.uncons
   split at h
   ·rename_i x xs e1 e2
    obtain rfl := Option.some.inj h
    exact repCs_cons (frozenC_ok hl h1 e1) (frozenCs_ok hl h2 e2)
   ·cases h
theorem frozen_ok {B0 : Nat} {w0 : Base} {β : Nat → Option Value} {p : Nat → Prop} {a : Act} {w w' : World} (inv : Inv B0 w0 β p s a w) (hbel : Below w.heap.size w w') {rv : RV} {v : Value} (hr : RepRV w.heap.size w' p rv v) {x : SV} (hx : frozen rv = some x) (d : Option Tmp) :
 Rel B0 w0 (s.put d x) (a.put d v) w' := by
 obtain ⟨p', β', hp, hn, hb, hv⟩ := hr
 let q : Nat → Prop := fun b => p' b ∨ ∃ r, β' 0 = some r ∧ rootBlock r = some b
 have hroot : ∀ b r, β' 0 = some r → rootBlock r = some b → w.heap.size ≤ b ∧ b < w'.heap.size := by
  intro b r h0 hrb
  rw [h0] at hb
  exact hb.1.root b hrb
 have hq : ∀ b, q b → (p b ∨ w.heap.size ≤ b) ∧ b < w'.heap.size := by
  rintro b (h | ⟨r, h0, h1⟩)
  ·exact hp b h
  ·exact ⟨.inr (hroot b r h0 h1).1, (hroot b r h0 h1).2⟩
 have inv' := inv_under inv hbel hq
 have hb' : match β' 0 with | some r => RepB w' p' β' (fun u => if u = 0 then rv.b else .free) w.heap.size rv.b r ∧ (∀ g, rootBlock r = some g → (fun b => p b ∨ q b) g) | none => rv.b = .free := by
  cases h0 : β' 0 with
  | none => rw [h0] at hb; exact hb
  | some r => rw [h0] at hb; exact ⟨hb.1, fun g hg => .inr (.inr ⟨r, h0, hg⟩)⟩
 have leaf : ∀ c c' v, RepL w' p' β' (fun u => if u = 0 then rv.b else .free) c v → frozenL rv.b c = some c' → RepL w' (fun b => p b ∨ q b) β s.blk c' v := fun c c' v hc h =>
  frozen_leaf (B := w.heap.size) (fun g hg => .inr (.inl hg)) hb' hc h
 refine ⟨β, _, inv'.put d ?_⟩
 unfold frozen at hx
 split at hx
 ·rename_i c hc
  rw [hc] at hv
  split at hx
  ·rename_i y hy
   obtain rfl := Option.some.inj hx
   exact frozenC_ok leaf hv hy
  ·cases hx
 ·rename_i cs hc
  rw [hc] at hv
  obtain ⟨vs, rfl, hv⟩ := hv
  split at hx
  ·rename_i y hy
   obtain rfl := Option.some.inj hx
   exact ⟨vs, rfl, frozenCs_ok leaf hv hy⟩
  ·cases hx
end
end Go.Ev
namespace Go.Ev
variable {hh : Nat} {hsrc : Nat → Option Nat}
open Go.RowKit
section
variable {P : Program} {R : Type} {call : CallK R} {m s t : PS} {o : Oper}
structure Seen (hid : Nat → Prop) (m s : PS) : Prop where
 n : m.n = s.n
 get : ∀ u, m.get u = s.get u
 blk : ∀ b, m.blk b = .free ∨ (m.blk b = s.blk b ∧ ¬ hid b)
 pl : m.pl = s.pl
theorem Seen.sees {hid : Nat → Prop} {pd : Bool} (h : Seen hid m s) (hd : s.n ≤ 16000) {xs : List Tmp} (A : Alike xs o hid pd s t) {ys : List Tmp} (hy : ∀ u ∈ ys, u ∈ xs) : Sees m t ys (match kindOf o.op with | .pure => false | _ => true) := by
 refine ⟨A.n.trans h.n.symm, by rw [h.n]; exact hd, fun u hu => (A.get u (hy u hu)).trans (h.get u).symm, fun hk b hb => ?_, fun _ => A.pl.trans h.pl.symm⟩
 have hne : kindOf o.op ≠ .pure := by intro e; rw [e] at hk; cases hk
 rcases h.blk b with h1 | ⟨h1, h2⟩
 ·exact absurd h1 hb
 ·rw [h1] at hb ⊢
  exact A.blk hne b h2 hb
theorem write_op {op : Op} (h : kindOf op = .write) : (∃ T a x, op = .store T a x) ∨ ∃ args ts, op = .call { callee := .builtin .copy, args := args, argTypes := ts } := by
 unfold kindOf at h
 split at h <;> first | (cases h; done) | exact .inl ⟨_, _, _, rfl⟩ | (rename_i T _ _; cases hb : rowT T <;> rw [hb] at h <;> cases h; done) | (rename_i f _ ts; cases hb : barrierCall f ts <;> rw [hb] at h <;> first | (cases h; done) | (cases hb2 : freshCall f <;> rw [hb2] at h <;> cases h; done)) | (rename_i src dst _; cases hb : (cvB src || cvB dst) <;> rw [hb] at h <;> cases h; done) | skip
 split at h <;> first | (cases h; done) | exact .inr ⟨_, _, rfl⟩
theorem wdst_dst (o : Oper) : ∀ σ, wdst o = some σ → o.dst = some σ := by
 intro σ h
 unfold wdst at h
 split at h
 ·cases h
 ·exact h
theorem copy_nonfree {T : TypeId} {x y : LV} {r : Bool × PS} (h : copyOp P m o T x y = some r) : ∃ u, m.blk u ≠ .free ∧ (x = .full u ∨ ∃ a b c, x = .sref u a b c) := by
 unfold copyOp at h
 split at h
 ·rename_i E u off len hE hi
  have key : m.blk u ≠ .free → ∃ u, m.blk u ≠ .free ∧ (x = .full u ∨ ∃ a b c, x = .sref u a b c) := fun hne => by
   refine ⟨u, hne, ?_⟩
   unfold intoOf at hi
   split at hi
   ·split at hi
    ·injection hi with hi; injection hi with hi _; subst hi; exact .inl rfl
    ·cases hi
   ·injection hi with hi; injection hi with hi _; subst hi; exact .inr ⟨_, _, _, rfl⟩
   ·cases hi
  split at h
  ·rename_i hB _; exact key (by rw [hB]; (intro h; cases h))
  ·rename_i hB _; exact key (by rw [hB]; (intro h; cases h))
  ·cases h
 ·cases h
theorem store_nonfree {T : TypeId} {y : CV} {u sz i off : Nat} {r : Bool × PS} (h : storeOp P m T y (.ref u sz i off) = some r) : m.blk u ≠ .free := by
 intro e
 simp only [storeOp, e] at h
 split at h <;> cases h
theorem sameN_of {a b : Option Nat} (h : sameN a b = true) : a = b := by
 cases a <;> cases b <;> simp [sameN] at h ⊢
 exact h
theorem append_mono {s' : PS} (hap : isAp o = true) (hpl : apPlain s o = true) {d : Tmp} (hdst : o.dst = some d) (hfree : s.blk d = .free) (hd : s.n ≤ 16000) (hdn : d < s.n) (hn : t.n = s.n) (hev : ∀ x ∈ o.op.operands.toList, ev t x = ev s x) (hb : ∀ b, t.blk b = s.blk b) {τ : Option Nat} (hτ : growBase s o = τ) (hnf : ∀ u, τ = some u → u < 16000 ∧ s.blk u ≠ .free) {c : Bool} (h : stepOp P s o = some (c, s')) :
 stepOp P t o = some (c, growTo t τ d (s'.blk d)) := by
 unfold isAp at hap
 split at hap
 case h_2 => cases hap
 rename_i args ts ho
 unfold growBase at hτ
 unfold apPlain at hpl
 rw [ho] at hτ hpl
 simp only [] at hτ hpl
 unfold stepOp at h ⊢
 rw [ho] at h ⊢
 simp only [] at h ⊢
 unfold builtinOp at h ⊢
 have hmem : ∀ x ∈ args.toList, evL t x = evL s x := fun x hx => by
  unfold evL
  rw [hev x (by rw [ho]; simp only [Op.operands, Call.operands]; simp [Array.mem_toList_iff.1 hx])]
 revert h hτ hmem hpl
 cases args.toList with
 | nil => intro h hpl hτ hmem; cases h
 | cons x rest =>
 cases rest with
 | nil => intro h hpl hτ hmem; cases h
 | cons y rest =>
 cases rest with
 | cons _ _ => intro h hpl hτ hmem; cases h
 | nil =>
 cases ts.toList with
 | nil => intro h hpl hτ hmem; cases h
 | cons T ts =>
 cases ts with
 | nil => intro h hpl hτ hmem; cases h
 | cons U ts =>
 cases ts with
 | cons _ _ => intro h hpl hτ hmem; cases h
 | nil =>
 intro h hpl hτ hmem
 simp only [] at h hτ hpl ⊢
 obtain ⟨hpl, hrt, _⟩ : (evL s x).isCref = false ∧ rowT T = false ∧ rowT U = false := by simpa using hpl
 rw [hmem x (by simp), hmem y (by simp)]
 rw [hpl, hrt] at h ⊢
 simp only [cond_false] at h ⊢
 split at h
 case isFalse => cases h
 rename_i hTU
 rw [if_pos hTU]
 have hsrc : ∀ v, srcOf t v = srcOf s v := fun v => by cases v <;> simp only [srcOf, hb]
 unfold appendOp at h ⊢
 rw [hdst] at h ⊢
 split at h
 case h_2 => cases h
 rename_i E d' hu hd'
 obtain rfl := Option.some.inj hd'
 simp only [hu] at h ⊢
 split at h
 case h_2 => cases h
 rename_i e z he hz
 simp only [he, hz, hb, hsrc] at h ⊢
 split at h
 case h_2 => cases h
 rename_i tt xs ys hbase hmore
 split at h
 case isFalse => cases h
 rename_i hsz
 rw [if_pos hsz]
 have key : ∀ q : PS, q.n = s.n → (∀ b, q.blk b = s.blk b) → (Option.elim tt q q.drop).new d (.buf E e (xs ++ ys)) (.c (.l (.full d))) = some (growTo q τ d (.buf E e (xs ++ ys))) := by
  intro q hqn hqb
  have hlt : Nat.blt d q.n = true := by rw [hqn, Nat.blt_eq]; exact hdn
  have hdep := lt_depth hdn hd
  have hbt : tt = τ := by
   rw [← hτ]
   revert hbase
   cases evL s x <;> intro hbase <;> simp only [] at hbase ⊢ <;> first | (cases hbase; done) | skip
   ·injection hbase with hbase; injection hbase with h1 h2; exact h1.symm
   ·split at hbase
    ·split at hbase
     ·injection hbase with hbase; injection hbase with h1 h2; exact h1.symm
     ·cases hbase
    ·cases hbase
   ·split at hbase
    ·split at hbase
     ·split at hbase
      ·injection hbase with hbase; injection hbase with h1 h2; exact h1.symm
      ·cases hbase
     ·cases hbase
    ·cases hbase
  rw [hbt]
  cases hτ2 : τ with
  | none =>
    unfold PS.new growTo
    simp only [Option.elim, hlt, cond_true]
    have : q.drop d = q := by simp [PS.drop, hqb, hfree, Blk.isFree]
    rw [this]
  | some u =>
    have hnfu : (q.blk u).isFree = false := by
     rw [hqb]
     cases hf : (s.blk u).isFree with
     | false => rfl
     | true => exact absurd (Blk.isFree_iff.1 hf) (hnf u hτ2).2
    simp only [Option.elim]
    rw [PS.drop_wipe hnfu]
    have hlt' : Nat.blt d (q.wipe u).n = true := hlt
    have hfd : ((q.wipe u).blk d).isFree = true := by
     rw [PS.wipe_blk (hnf u hτ2).1]
     split
     ·rfl
     ·rw [hqb, hfree]; rfl
    unfold PS.new growTo
    simp only [hlt', cond_true]
    have : (q.wipe u).drop d = q.wipe u := by simp [PS.drop, hfd]
    rw [this]
 have k1 := key s rfl fun _ => rfl
 have k2 := key t hn hb
 have h : roomFor P E (xs.length + ys.length) = c ∧ growTo s τ d (.buf E e (xs ++ ys)) = s' := by
  cases tt <;> simp only [Option.elim] at k1 h <;> rw [k1] at h <;> simpa only [Option.some.injEq, Prod.mk.injEq] using h
 obtain ⟨h1, h2⟩ := h
 have goal : ∀ b, b = Blk.buf E e (xs ++ ys) → (match (match tt with | some t_1 => t.drop t_1 | none => t).new d (.buf E e (xs ++ ys)) (.c (.l (.full d))) with
  | some s' => some (roomFor P E (xs.length + ys.length), s')
  | none => none) = some (c, growTo t τ d b) := by
  intro b hb'
  subst hb'
  cases tt <;> simp only [Option.elim] at k2 ⊢ <;> rw [k2] <;> simp only [h1]
 refine goal _ ?_
 rw [← h2]
 unfold growTo
 rw [PS.blk_setB _ (lt_depth hdn hd), if_pos rfl]
theorem runOpD_pd {hid : Nat → Prop} {τ : Option Nat} (hd : s.n ≤ 16000) (hap : isAp o = true) {k : PS → Option R} {r : R} (h : runOpD P R call true τ m s o k = some r) :
 ∃ e : Eff, k (e.app s) = some r ∧ (e.Shape o s ∧ e.At (written m o) ∧ (true = true → ∃ d b, e = .gr τ d b)) ∧ ∀ t xs, (∀ u ∈ tmpsOf o.op.operands.toList, u ∈ xs) → Alike xs o hid true s t → StepOk P t o (e.app t) := by
 have hk := isAp_barrier hap
 have hg : growOp P R τ s o k = some r := by
  have hap' := hap
  unfold isAp at hap
  split at hap
  ·rename_i args ts ho
   unfold runOpD at h
   rw [ho] at h
   simp only [Bool.and_eq_true] at hap
   simpa only [hap.2, cond_true] using h
  ·cases hap
 unfold growOp at hg
 split at hg
 ·rename_i c s' d hs hdst
  cases hc : (Nat.blt d s.n && ((s.blk d).isFree && (sameN (growBase s o) τ && (tauOk s τ && apPlain s o)))) && c with
  | false => rw [hc] at hg; cases hg
  | true =>
    rw [hc, cond_true] at hg
    simp only [Bool.and_eq_true, Nat.blt_eq] at hc
    obtain ⟨⟨hdn, hf, hsame, hτ, hpl⟩, rfl⟩ := hc
    have hsame := sameN_of hsame
    have hfree := Blk.isFree_iff.1 hf
    have hlt : ∀ u, τ = some u → u < 16000 := by
     intro u hu
     rw [hu] at hτ
     simp only [tauOk, Bool.and_eq_true, Nat.blt_eq] at hτ
     exact hτ.1
    have hnf : ∀ u, τ = some u → u < 16000 ∧ s.blk u ≠ .free := by
     intro u hu
     refine ⟨hlt u hu, fun e => ?_⟩
     rw [hu] at hτ
     simp only [tauOk, Bool.and_eq_true, e] at hτ
     exact absurd hτ.2 (by simp [Blk.isFree])
    refine ⟨.gr τ d (s'.blk d), by rw [hsame] at hg; exact hg, ⟨⟨hk, hdst, hdn, hd, hlt⟩, trivial, fun _ => ⟨d, _, rfl⟩⟩, fun t xs hxs A => ?_⟩
    refine step_ok (append_mono hap hpl hdst hfree hd hdn A.n (fun x hx => ?_) (A.all hk).1 hsame hnf hs)
    cases x with
    | tmp u => simp only [ev, A.n, A.get u (hxs u (mem_tmpsOf hx))]
    | const _ => rfl
    | func _ => rfl
    | «global» _ => rfl
 ·cases hg
theorem runOpD_ok (hns : NoSpecial P) (hcall : CallOk P R call) {hid : Nat → Prop} {pd : Bool} {τ : Option Nat} (hpd : isAp o = false → pd = false) (hm : Seen hid m s) (hd : s.n ≤ 16000) (hdn : ∀ d, o.dst = some d → d < s.n) {k : PS → Option R} {r : R} (h : runOpD P R call pd τ m s o k = some r) :
 ∃ e : Eff, k (e.app s) = some r ∧ (e.Shape o s ∧ e.At (written m o) ∧ (pd = true → ∃ d b, e = .gr τ d b)) ∧ ∀ t xs, (∀ u ∈ tmpsOf o.op.operands.toList, u ∈ xs) → Alike xs o hid pd s t → StepOk P t o (e.app t) := by
 rcases Bool.eq_false_or_eq_true pd with hpt | hpf
 ·subst hpt
  have hap : isAp o = true := by
   cases h : isAp o with
   | true => rfl
   | false => exact absurd (hpd h) (by simp)
  exact runOpD_pd hd hap h
 suffices H : ∃ e : Eff, k (e.app s) = some r ∧ (e.Shape o s ∧ e.At (written m o)) ∧ ∀ t xs, (∀ u ∈ tmpsOf o.op.operands.toList, u ∈ xs) → Alike xs o hid pd s t → StepOk P t o (e.app t) by
  obtain ⟨e, h1, ⟨h2, h3⟩, h4⟩ := H
  exact ⟨e, h1, ⟨h2, h3, fun hp => by rw [hpf] at hp; cases hp⟩, h4⟩
 subst hpf
 unfold runOpD at h
 split at h
 ·rename_i c x y ho
  have hk : kindOf o.op = .pure := by rw [ho]; rfl
  split at h
  ·rename_i q hc
   have go : ∀ z, z = (if q then x else y) → k (s.put o.dst (ev m z)) = some r → ∃ e : Eff, k (e.app s) = some r ∧ (e.Shape o s ∧ e.At (written m o)) ∧ ∀ t xs, (∀ u ∈ tmpsOf o.op.operands.toList, u ∈ xs) → Alike xs o hid false s t → StepOk P t o (e.app t) := by
    intro z hz hk'
    refine ⟨.put o.dst (ev m z), hk', ⟨rfl, trivial⟩, fun t xs hx A => ?_⟩
    have S := hm.sees hd A hx
    have e1 : evL t c = .bool q := by rw [S.evL (x := c) (by simp [ho, Op.operands])]; exact hc
    have e2 : ev t z = ev m z := by
     subst hz
     cases q
     ·exact S.ev (by simp [ho, Op.operands])
     ·exact S.ev (by simp [ho, Op.operands])
    have := step_pick (P := P) ho e1
    rw [← hz, e2] at this
    exact this
   cases q
   ·exact go y rfl h
   ·exact go x rfl h
  ·cases h
 ·rename_i f args ts ho
  cases hbc : barrierCall f ts with
  | true =>
    have hk : kindOf o.op = .barrier := by rw [ho]; simp only [kindOf, hbc, cond_true]
    simp only [hbc, cond_true] at h
    obtain ⟨s', h1, h2⟩ : ∃ s', (bif Nat.beq s'.n s.n then k s' else none) = some r ∧ StepOk P s o s' := by
     unfold barOp at h
     split at h
     ·exact ownOp_ok hns hcall ho h
     ·split at h
      ·rename_i t hf
       split at h
       ·rename_i q i m hb
        exact yldOp_ok hcall ho hf hb h
       ·cases h
      ·cases h
    cases hb : Nat.beq s'.n s.n with
    | false => rw [hb] at h1; cases h1
    | true =>
      rw [hb] at h1
      exact ⟨.all s', h1, ⟨⟨hk, by simpa using hb⟩, trivial⟩, fun t xs _ A => StepOk.from ((A.all hk).2 rfl) h2⟩
  | false =>
  simp only [hbc, cond_false] at h
  split at h
  ·rename_i g caps d hf hdst
   split at h
   ·rename_i e hext
    split at h
    ·cases h
    rename_i hfr
    have hfr : freshCall f = false := Bool.eq_false_iff.2 hfr
    have hk : kindOf o.op = .quiet := by rw [ho]; simp only [kindOf, hbc, hfr, cond_false]
    split at h
    ·rename_i hfn
     obtain ⟨sv, h1, h2, h3⟩ := extOp_of h
     have hf' : evL m f = .fn g := by
      cases hx : evL m f <;> rw [hx] at hfn hf <;> simp [calleeOf] at hfn hf
      rw [hf.1]
     refine ⟨.put (some d) sv, h1, ⟨by simp only [Eff.Shape]; exact hdst.symm, trivial⟩, fun t xs hxs A => ?_⟩
     have S := hm.sees hd A hxs
     rw [hk] at S
     have hev : args.toList.map (evL t) = args.toList.map (evL m) := S.mapL fun y hy => by
      simp only [ho, Op.operands, Call.operands]
      simp [Array.mem_toList_iff.1 hy]
     have hft : evL t f = .fn g := by rw [S.evL (x := f) (by simp [ho, Op.operands, Call.operands])]; exact hf'
     have := ext_step (s := t) ho hft (by rw [hev]; exact hcall.ext _ _ _ _ hext h2) (by rw [hev]; exact h3)
     rw [hdst] at this
     exact this
    ·cases h
   split at h
   ·rename_i hc
    split at h
    ·rename_i vs hs
     obtain ⟨rv, h1, hmt⟩ := hcall.data _ _ _ _ h
     split at h1
     ·cases h1
     rename_i hcl
     have hcl := Bool.eq_false_iff.2 hcl
     cases hfr : freshCall f with
     | true =>
       have hk : kindOf o.op = .fresh := by rw [ho]; simp only [kindOf, hbc, hfr, cond_false, cond_true]
       simp only [hfr, cond_true] at h1
       split at h1
       ·rename_i T e xs hrb
        cases hdn' : Nat.blt d s.n with
        | false => rw [hdn'] at h1; cases h1
        | true =>
          rw [hdn'] at h1
          have hlt : d < s.n := by rw [Nat.blt_eq] at hdn'; exact hdn'
          refine ⟨.new d (relocS d rv.v) (.buf T e xs), h1, ⟨⟨hk, hdst, hlt⟩, trivial⟩, fun t xs' hxs A => ?_⟩
          have S := hm.sees hd A hxs
          rw [hk] at S
          have hev : evCs t args.toList = evCs m args.toList := S.evCs fun y hy => by
           simp only [ho, Op.operands, Call.operands]
           simp [Array.mem_toList_iff.1 hy]
          have hft : calleeOf (evL t f) = some (g, caps) := by rw [S.evL (x := f) (by simp [ho, Op.operands, Call.operands])]; exact hf
          have hst : snapCs t (evCs t args.toList) = some vs := by rw [hev]; exact snapCs_mono (S.blks rfl) hs
          obtain ⟨f1, f2⟩ := A.fresh hk d hdst
          have e2 : t.drop d = t := by simp [PS.drop, f1, Blk.isFree]
          have ht : takeResult t d rv = some ((t.setT d (relocS d rv.v)).setB d (.buf T e xs)) := by
           unfold takeResult
           rw [hrb]
           simp only [PS.new]
           have hb : Nat.blt d t.n = true := by rw [A.n]; exact hdn'
           rw [hb, e2]
           rfl
          intro B0 w0 a w ⟨β, p, inv⟩ next Q hn
          refine wp_call hns inv ho hft hc hmt hst (by rw [hev]; exact hcl) fun v w' hb hr => hn _ _ ?_
          rw [hdst]
          exact take_result_ok inv hb hr ht
       ·cases h1
     | false =>
     have hk : kindOf o.op = .quiet := by rw [ho]; simp only [kindOf, hbc, hfr, cond_false]
     simp only [hfr, cond_false] at h1
     split at h1
     ·rename_i x hx
      refine ⟨.put (some d) x, h1, ⟨by simp only [Eff.Shape]; exact hdst.symm, trivial⟩, fun t xs hxs A => ?_⟩
      have S := hm.sees hd A hxs
      rw [hk] at S
      have hev : evCs t args.toList = evCs m args.toList := S.evCs fun y hy => by
       simp only [ho, Op.operands, Call.operands]
       simp [Array.mem_toList_iff.1 hy]
      have hft : calleeOf (evL t f) = some (g, caps) := by rw [S.evL (x := f) (by simp [ho, Op.operands, Call.operands])]; exact hf
      have hst : snapCs t (evCs t args.toList) = some vs := by rw [hev]; exact snapCs_mono (S.blks rfl) hs
      intro B0 w0 a w ⟨β, p, inv⟩ next Q hn
      refine wp_call hns inv ho hft hc hmt hst (by rw [hev]; exact hcl) fun v w' hb hr => hn _ _ ?_
      rw [hdst]
      exact frozen_ok inv hb hr hx (some d)
     ·cases h1
    ·cases h
   ·cases h
  ·cases h
 ·rename_i T parts ho
  cases hrt : rowT T with
  | true => rw [hrt] at h; cases h
  | false =>
  rw [hrt, cond_false] at h
  have hk : kindOf o.op = .fresh := by rw [ho]; show (bif rowT T then OpKind.barrier else .fresh) = .fresh; rw [hrt]; rfl
  split at h
  ·rename_i E d hu hp hdst
   split at h
   ·rename_i i hi
    refine ⟨.put (some d) (.c (.l .zslice)), h, ⟨by simp only [Eff.Shape]; exact hdst.symm, trivial⟩, fun t xs hxs A => step_empty ho hu hp hdst hi⟩
   ·cases h
  ·cases h
 ·rename_i args ts ho
  rcases Bool.eq_false_or_eq_true apFresh with hap | hap
  rotate_left
  ·have hk : kindOf o.op = .barrier := by rw [ho]; simp only [kindOf, hap, cond_false]
   simp only [hap, Bool.not_false, cond_true, cond_false] at h
   split at h
   ·rename_i c s' hs
    rw [Bool.and_comm] at h
    cases c with
    | false => cases h
    | true =>
      cases hb : Nat.beq s'.n s.n with
      | false => rw [hb] at h; cases h
      | true =>
        rw [hb] at h
        exact ⟨.all s', h, ⟨⟨hk, by simpa using hb⟩, trivial⟩, fun t xs _ A => StepOk.from ((A.all hk).2 rfl) (step_ok hs)⟩
   ·cases h
  have hk : kindOf o.op = .fresh := by rw [ho]; simp only [kindOf, hap, cond_true]
  simp only [hap, Bool.not_true, cond_false] at h
  split at h
  ·rename_i x y T U d hargs hts hdst
   split at h
   ·rename_i E hx hu
    split at h
    ·rename_i e z e' ys he hz hsrc
     split at h
     ·rename_i hee
      subst hee
      split at h
      ·rename_i hc
       obtain ⟨rfl, hdn', hsz, hpos, hzl⟩ := hc
       have hargs' : args = #[x, y] := by rw [← Array.toList_inj]; exact hargs
       have hts' : ts = #[T, T] := by rw [← Array.toList_inj]; exact hts
       subst hargs' hts'
       have gone : ∀ t xs, (∀ u ∈ tmpsOf o.op.operands.toList, u ∈ xs) → Alike xs o hid false s t → evL t x = .zslice ∧ srcOf t (evL t y) = some ⟨e', ys⟩ ∧ d < t.n := by
        intro t xs hxs A
        have S := hm.sees hd A hxs
        rw [hk] at S
        refine ⟨?_, ?_, ?_⟩
        ·rw [S.evL (x := x) (by simp [ho, Op.operands, Call.operands])]; exact hx
        ·rw [S.evL (x := y) (by simp [ho, Op.operands, Call.operands])]
         exact srcOf_mono (S.blks rfl) hsrc
        ·rw [A.n]; exact hdn'
       simp only [listE] at h
       split at h
       ·refine ⟨.put (some d) (.c (.l .zslice)), h, ⟨by simp only [Eff.Shape]; exact hdst.symm, trivial⟩, fun t xs hxs A => ?_⟩
        obtain ⟨g1, g2, g3⟩ := gone t xs hxs A
        exact (step_appendZ ho hdst hu g1 hz g2 g3 hsz hpos hzl).1 rfl
       ·rename_i y0 ys0
        cases hroom : roomFor P E (ys0.length + 1) with
        | false => rw [hroom] at h; cases h
        | true =>
          rw [hroom, cond_true] at h
          refine ⟨.new d (.c (.l (.full d))) (.buf E e' (y0 :: ys0)), h, ⟨⟨hk, hdst, hdn'⟩, trivial⟩, fun t xs hxs A => ?_⟩
          obtain ⟨g1, g2, g3⟩ := gone t xs hxs A
          obtain ⟨f1, f2⟩ := A.fresh hk d hdst
          have hdrop : t.new d (.buf E e' (y0 :: ys0)) (.c (.l (.full d))) = some ((t.drop d).setT d (.c (.l (.full d))) |>.setB d (.buf E e' (y0 :: ys0))) := by
           unfold PS.new
           have hb : Nat.blt d t.n = true := by rw [Nat.blt_eq]; exact g3
           rw [hb]; rfl
          have := (step_appendZ ho hdst hu g1 hz g2 g3 hsz hpos hzl).2 (by simp) (by simpa using hroom) f1 _ hdrop
          have e2 : t.drop d = t := by simp [PS.drop, f1, Blk.isFree]
          rw [e2] at this
          exact this
      ·cases h
     ·cases h
    ·cases h
   ·cases h
  ·cases h
 ·rename_i hnp hnc hnb hna
  cases hk : kindOf o.op with
  | barrier =>
    simp only [hk] at h
    split at h
    ·rename_i c s' hs
     rw [Bool.and_comm] at h
     cases c with
     | false => cases h
     | true =>
       cases hb : Nat.beq s'.n s.n with
       | false => rw [hb] at h; cases h
       | true =>
         rw [hb] at h
         exact ⟨.all s', h, ⟨⟨hk, by simpa using hb⟩, trivial⟩, fun t xs _ A => StepOk.from ((A.all hk).2 rfl) (step_ok hs)⟩
    ·cases h
  | write =>
    simp only [hk] at h
    split at h
    ·rename_i c m' hs
     rw [Bool.and_comm] at h
     cases c with
     | false => cases h
     | true =>
       cases hb : Nat.blt (written m o) 16000 with
       | false => rw [hb] at h; cases h
       | true =>
         rw [hb] at h
         have hlt : written m o < 16000 := by rw [Nat.blt_eq] at hb; exact hb
         have key : ∀ t : PS, effect o m m' t = (Eff.wr (wdst o) (match wdst o with | some d => m'.get d | none => undefS) (written m o) (m'.blk (written m o))).app t := by
          intro t
          simp only [effect, hk, Eff.app]
          cases wdst o <;> rfl
         refine ⟨.wr (wdst o) (match wdst o with | some d => m'.get d | none => undefS) (written m o) (m'.blk (written m o)), ?_, ⟨⟨hk, hlt, ?_, wdst_dst o⟩, rfl⟩, fun t xs hxs A => ?_⟩
         ·rw [← key s]; simpa only [Bool.and_true, cond_true] using h
         ·have : m.blk (written m o) ≠ .free := by
           rcases write_op hk with ⟨T, a, x, ho⟩ | ⟨args, ts, ho⟩
           ·unfold stepOp at hs
            rw [ho] at hs
            simp only [] at hs
            split at hs
            ·cases ha : evL m a <;> rw [ha] at hs <;> first | (simp [storeOp] at hs; done) | skip
             case rel j k => exact absurd hlt (by unfold written; rw [ho]; simp only [ha]; omega)
             rename_i u sz i off
             have hw : written m o = u := by unfold written; rw [ho]; simp only [ha]
             rw [hw]
             exact store_nonfree hs
            ·cases hs
           ·unfold stepOp at hs
            rw [ho] at hs
            simp only [] at hs
            unfold builtinOp at hs
            cases hargs : args.toList with
            | nil => rw [hargs] at hs; cases hs
            | cons x rest =>
              rw [hargs] at hs
              cases rest with
              | nil => cases hs
              | cons y rest =>
                cases rest with
                | cons _ _ => cases hs
                | nil =>
                  revert hs
                  cases ts.toList with
                  | nil => intro h; cases h
                  | cons T1 ts' =>
                    cases ts' with
                    | nil => intro h; cases h
                    | cons T2 ts'' =>
                      cases ts'' with
                      | cons _ _ => intro h; cases h
                      | nil =>
                        intro hs
                        obtain ⟨u, h1, h2⟩ := copy_nonfree hs
                        have hw : written m o = u := by
                         unfold written
                         rw [ho]
                         simp only [hargs]
                         rcases h2 with h2 | ⟨_, _, _, h2⟩ <;> rw [h2]
                        rw [hw]; exact h1
          rcases hm.blk (written m o) with h1 | h1
          ·exact absurd h1 this
          ·rw [← h1.1]; exact this
         ·have S := hm.sees hd A hxs
          have := step_ok (step_mono S (.inr (by rw [hk])) (by rw [hk]; intro e; cases e) (fun _ => hlt) (fun _ _ => hna _ _) (fun e => by rw [hk] at e; cases e) hs)
          rw [key t] at this
          exact this
    ·cases h
  | fresh =>
    simp only [hk] at h
    split at h
    ·rename_i c m' hs
     cases c with
     | false => cases h
     | true =>
       cases hdst : o.dst with
       | none =>
         refine ⟨.put none undefS, ?_, ⟨by simp only [Eff.Shape]; exact hdst.symm, trivial⟩, fun t xs hxs A => ?_⟩
         ·simp only [cond_true, effect, hk, hdst] at h; exact h
         ·have S := hm.sees hd A hxs
          have := step_ok (step_mono S (.inr (by rw [hk])) (by rw [hk]; intro e; cases e) (fun e => by rw [hk] at e; cases e) (fun _ _ => hna _ _) (fun _ d e => by rw [hdst] at e; cases e) hs)
          simp only [effect, hk, hdst] at this
          exact this
       | some d =>
         have key : ∀ t : PS, effect o m m' t = (Eff.new d (m'.get d) (m'.blk d)).app t := by
          intro t
          simp only [effect, hk, hdst, Eff.app]
         refine ⟨.new d (m'.get d) (m'.blk d), by rw [← key s]; exact h, ⟨⟨hk, hdst, hdn d hdst⟩, trivial⟩, fun t xs hxs A => ?_⟩
         have S := hm.sees hd A hxs
         rw [← key t]
         refine step_ok (step_mono S (.inr (by rw [hk])) (by rw [hk]; intro e; cases e) (fun e => by rw [hk] at e; cases e) (fun _ _ => hna _ _) (fun _ d' e => ?_) hs)
         rw [hdst] at e
         obtain rfl := Option.some.inj e
         obtain ⟨f1, f2⟩ := A.fresh hk d hdst
         refine ⟨?_, f1⟩
         rcases hm.blk d with h1 | h1
         ·exact h1
         ·rw [h1.1]; exact f2
    ·cases h
  | pure =>
    simp only [hk] at h
    split at h
    ·rename_i c m' hs
     cases c with
     | false => cases h
     | true =>
       have key : ∀ t : PS, effect o m m' t = (Eff.put o.dst (match o.dst with | some d => m'.get d | none => undefS)).app t := by
        intro t
        simp only [effect, hk, Eff.app]
        cases o.dst <;> rfl
       refine ⟨.put o.dst (match o.dst with | some d => m'.get d | none => undefS), by rw [← key s]; exact h, ⟨rfl, trivial⟩, fun t xs hxs A => ?_⟩
       have S := hm.sees hd A hxs
       rw [← key t]
       exact step_ok (step_mono S (.inl hk) (by rw [hk]; intro e; cases e) (fun e => by rw [hk] at e; cases e) (fun _ _ => hna _ _) (fun e => by rw [hk] at e; cases e) hs)
    ·cases h
  | quiet =>
    simp only [hk] at h
    split at h
    ·rename_i c m' hs
     cases c with
     | false => cases h
     | true =>
       have key : ∀ t : PS, effect o m m' t = (Eff.put o.dst (match o.dst with | some d => m'.get d | none => undefS)).app t := by
        intro t
        simp only [effect, hk, Eff.app]
        cases o.dst <;> rfl
       refine ⟨.put o.dst (match o.dst with | some d => m'.get d | none => undefS), by rw [← key s]; exact h, ⟨rfl, trivial⟩, fun t xs hxs A => ?_⟩
       have S := hm.sees hd A hxs
       rw [← key t]
       exact step_ok (step_mono S (.inr (by rw [hk])) (by rw [hk]; intro e; cases e) (fun e => by rw [hk] at e; cases e) (fun _ _ => hna _ _) (fun e => by rw [hk] at e; cases e) hs)
    ·cases h
structure Fact (P : Program) (hsrc : Nat → Option Nat) (ops : Array Oper) (ms : List Nat) (j : Nat) (o : Oper) (s : PS) (e : Eff) : Prop where
 shape : e.Shape o s
 hint : ∀ t, hintOf hsrc ops.toList o = some t → e.At t
 grow : pdOf hsrc ops.toList ms j o = true → ∃ d b, e = .gr (hsrc 20000) d b
 nar : kindOf o.op = .write → ∀ i oi u, i < j → ops.toList[i]? = some oi → narrow hsrc ops.toList oi = some u → (ms.getD j 0).testBit i = false → e.AtNot u
 clr : ∀ u T σ, narrow hsrc ops.toList o = some u → o.op = .load T (.tmp σ) → ∀ k ok, j < k → ops.toList[k]? = some ok → isAp ok = true → (ms.getD k 0).testBit j = false → ∀ τ, (hsrc 20000 = some τ ∨ ok.dst = some τ) → ∀ d x, e = .put d x → Clear s u σ d x τ
 loc : ∀ t, Alike (looks ops.toList o) o (Hid hsrc ops.toList ms j) (pdOf hsrc ops.toList ms j o) s t → OpTo P ops t o (e.app t)
inductive Path (P : Program) (hsrc : Nat → Option Nat) (ops : Array Oper) (ms : List Nat) : Nat → List Oper → PS → List Eff → PS → Prop
  | nil {j : Nat} {s : PS} : Path P hsrc ops ms j [] s [] s
  | cons {j : Nat} {o : Oper} {l : List Oper} {s s1 s' : PS} {e : Eff} {es : List Eff} (hfree : freeAhead s (o :: l) = true) (hfact : Fact P hsrc ops ms j o s e) (heq : PS.Eq (e.app s) s1) (rest : Path P hsrc ops ms (j + 1) l s1 es s') : Path P hsrc ops ms j (o :: l) s (e :: es) s'
theorem Eff.Shape.ok {e : Eff} {n : Nat} (h : e.Shape o s) (hn : s.n = n) : e.Ok n := by
 cases e with
 | put d x => trivial
 | new d x b => rw [← hn]; exact h.2.2
 | wr d x u b => exact h.2.1
 | all s' => rw [← hn]; exact h.2
 | gr t d b => exact ⟨by rw [← hn]; exact h.2.2.1, by rw [← hn]; exact h.2.2.2.1, h.2.2.2.2⟩
theorem Eff.Shape.of_eq {e : Eff} (h : e.Shape o s) (he : PS.Eq s t) : e.Shape o t := by
 cases e with
 | put d x => exact h
 | new d x b => exact ⟨h.1, h.2.1, he.n ▸ h.2.2⟩
 | wr d x u b => exact ⟨h.1, h.2.1, by rw [← he.blk u]; exact h.2.2.1, h.2.2.2⟩
 | all s' => exact ⟨h.1, h.2.trans he.n⟩
 | gr t d b => exact ⟨h.1, h.2.1, he.n ▸ h.2.2.1, he.n ▸ h.2.2.2.1, h.2.2.2.2⟩
theorem setBool_eq (hd : s.n ≤ 16000) {g : Tmp} {b : Bool} (hb : ev s (.tmp g) = .c (.l (.bool b))) : PS.Eq (setBool s g b) s := by
 refine ⟨put_n _ _ _, fun u => ?_, fun u => put_blk _ _ _ _, put_up _ _ _, put_pl _ _ _⟩
 unfold setBool
 rw [put_get hd]
 split
 ·rename_i h
  obtain ⟨h1, h2⟩ := h
  obtain rfl := Option.some.inj h1
  have hlt : Nat.blt g s.n = true := by simp [h2]
  simp only [ev, hlt, cond_true] at hb
  exact hb.symm
 ·rfl
theorem onlyB_blk {u : Nat} (hu : u < 16000) (s : PS) (b : Nat) : (onlyB u s).blk b = if b = u ∨ 16000 ≤ b then s.blk b else .free := by
 unfold onlyB
 rw [PS.blk_setB _ (key_depth hu)]
 by_cases e : b = u
 ·simp [e]
 ·rw [if_neg e]
  rcases Nat.lt_or_ge b 16000 with hb | hb
  ·rw [if_neg (by omega), PS.blk_low hb]; rfl
  ·rw [if_pos (.inr hb), PS.blk_high hb, PS.blk_high hb]; rfl
theorem seen_hide {n : Nat} {l : List Oper} {ms : List Nat} (D : Drawn hh hsrc n l ms) (j : Nat) {o : Oper} (ho : l[j]? = some o) (s : PS) : Seen (Hid hsrc l ms j) (viewD hsrc l ms j o s) s := by
 obtain ⟨h1, h2, h3⟩ := hideFresh_ok (m := ms.getD j 0) D.deep (l.take j) 0 s (fun o ho => D.dst o (List.mem_of_mem_take ho))
 have old : ∀ b, (∀ i o', l[i]? = some o' → hintOf hsrc l o' = some b → kindOf o.op = .quiet → (i < j ∧ (ms.getD j 0).testBit i = true) ∨ (j < i ∧ (ms.getD i 0).testBit j = true)) →
  (∀ k o, (l.take j)[k]? = some o → kindOf o.op = .fresh → o.dst = some b → (ms.getD j 0).testBit (0 + k) = true) → (∀ u, narrow hsrc l o = some u → b = u ∨ 16000 ≤ b) → ¬ Hid hsrc l ms j b := by
  intro b hq e2 hnar
  rintro (⟨i, o, hij, ho, hk, hdst, hbit⟩ | ⟨oj, hoj, hkj, i, o', ho', hh, hno⟩ | ⟨oj, u, hoj, hu, hne, hlt⟩)
  ·have := e2 i o (by rw [List.getElem?_take, if_pos hij]; exact ho) hk hdst
   rw [Nat.zero_add, hbit] at this
   cases this
  ·rw [ho] at hoj
   obtain rfl := Option.some.inj hoj
   exact hno (hq i o' ho' hh hkj)
  ·rw [ho] at hoj
   obtain rfl := Option.some.inj hoj
   rcases hnar u hu with h | h
   ·exact hne h
   ·omega
 by_cases hk : kindOf o.op = .quiet
 ·obtain ⟨g1, g2, g3⟩ := hideHints_ok (ms := ms) (j := j) D.deep D.dst l 0 (hideFresh (ms.getD j 0) 0 (l.take j) s)
  have base : ∀ b, (hideHints hsrc l ms j 0 l (hideFresh (ms.getD j 0) 0 (l.take j) s)).blk b = .free ∨ ((hideHints hsrc l ms j 0 l (hideFresh (ms.getD j 0) 0 (l.take j) s)).blk b = s.blk b ∧ ((∀ u, narrow hsrc l o = some u → b = u ∨ 16000 ≤ b) → ¬ Hid hsrc l ms j b)) := by
   intro b
   rcases g3 b with g | ⟨ge, gk⟩
   ·exact .inl g
   ·rcases h3 b with h | ⟨h, e2⟩
    ·exact .inl (ge.trans h)
    ·exact .inr ⟨ge.trans h, old b (fun i o' ho' hh _ => by have := gk i o' ho' hh; rwa [Nat.zero_add] at this) e2⟩
  cases hna : narrow hsrc l o with
  | none =>
    have he : viewD hsrc l ms j o s = hideHints hsrc l ms j 0 l (hideFresh (ms.getD j 0) 0 (l.take j) s) := by unfold viewD; rw [hk, hna]
    rw [he]
    exact ⟨g1.trans h1, fun u => (g2 u).trans (h2 u), fun b => (base b).imp id fun ⟨e1, e2⟩ => ⟨e1, e2 fun u hu => by rw [hna] at hu; cases hu⟩, (hideHints_pl _ _ _).trans (hideFresh_pl _ _ _)⟩
  | some u =>
    have he : viewD hsrc l ms j o s = onlyB u (hideHints hsrc l ms j 0 l (hideFresh (ms.getD j 0) 0 (l.take j) s)) := by unfold viewD; rw [hk, hna]
    obtain ⟨_, _, _, _, _, hu⟩ := narrow_of hna
    rw [he]
    refine ⟨g1.trans h1, fun u => (g2 u).trans (h2 u), fun b => ?_, (hideHints_pl _ _ _).trans (hideFresh_pl _ _ _)⟩
    rw [onlyB_blk hu]
    by_cases e : b = u ∨ 16000 ≤ b
    ·rw [if_pos e]
     exact (base b).imp id fun ⟨e1, e2⟩ => ⟨e1, e2 fun u' hu' => by
      rw [hna] at hu'
      obtain rfl := Option.some.inj hu'
      exact e⟩
    ·rw [if_neg e]; exact .inl rfl
 ·have he : viewD hsrc l ms j o s = hideFresh (ms.getD j 0) 0 (l.take j) s := by
   unfold viewD
   split
   ·rename_i e; exact absurd e hk
   ·rfl
  rw [he]
  exact ⟨h1, h2, fun b => (h3 b).imp id fun ⟨e1, e2⟩ => ⟨e1, old b (fun _ _ _ _ e => absurd e hk) e2 fun u hu => absurd (narrow_quiet hu) hk⟩, hideFresh_pl _ _ _⟩
theorem runDraw_ok (hns : NoSpecial P) (hcall : CallOk P R call) {ops : Array Oper} {ms : List Nat} {n : Nat} (D : Drawn hh hsrc n ops.toList ms) : ∀ (l : List Oper) (j : Nat) (s : PS) (k : PS → Option R) (r : R), ops.toList.drop j = l → s.n = n →
 runDraw P R call hsrc ops.toList ms j l s k = some r → ∃ es s', k s' = some r ∧ Path P hsrc ops ms j l s es s'
 | [], j, s, k, r, _, _, h => ⟨[], s, h, .nil⟩
 | o :: l, j, s, k, r, hl, hsn, h => by
   have hd : s.n ≤ 16000 := hsn ▸ D.deep
   have hmem : o ∈ ops.toList := List.mem_of_mem_drop (i := j) (by rw [hl]; simp)
   have hdn : ∀ d, o.dst = some d → d < n := D.dst o hmem
   have hl' : ops.toList.drop (j + 1) = l := by
    have := congrArg List.tail hl
    rw [List.tail_drop] at this
    exact this
   unfold runDraw at h
   cases hfa : freeAhead s (o :: l) with
   | false => rw [hfa] at h; cases h
   | true =>
   rw [hfa] at h
   simp only [Bool.not_true, cond_false] at h
   have go : ∀ s0, PS.Eq s0 s → runOpV P R call hsrc ops.toList ms j s0 o (fun s => runDraw P R call hsrc ops.toList ms (j + 1) l s k) = some r →
    (∀ t, Alike (looks ops.toList o) o (Hid hsrc ops.toList ms j) (pdOf hsrc ops.toList ms j o) s t → ∀ s', StepOk P t o s' → OpTo P ops t o s') → (∀ u ∈ tmpsOf o.op.operands.toList, u ∈ looks ops.toList o) → ∃ es s', k s' = some r ∧ Path P hsrc ops ms j (o :: l) s es s' := by
    intro s0 h0 hrun hop hlook
    have hs0 : s0.n = n := h0.n.trans hsn
    unfold runOpV at hrun
    cases hbad : hintBad hsrc ops.toList (viewD hsrc ops.toList ms j o s0) o || wrBad hsrc ops.toList ms j (viewD hsrc ops.toList ms j o s0) o with
    | true => rw [hbad] at hrun; cases hrun
    | false =>
    rw [hbad, cond_false] at hrun
    simp only [Bool.or_eq_false_iff] at hbad
    obtain ⟨hbad, hnarb⟩ := hbad
    have hoj : ops.toList[j]? = some o := by
     have : (ops.toList.drop j)[0]? = some o := by rw [hl]; rfl
     rwa [List.getElem?_drop, Nat.add_zero] at this
    obtain ⟨e, h1, ⟨h2, hat, hgr⟩, h3⟩ := runOpD_ok hns hcall (fun h => by rw [h]; rfl) (seen_hide D j hoj s0) (by rw [hs0]; exact D.deep) (by rw [hs0]; exact hdn) hrun
    have h1 : (bif growOk hsrc ops.toList ms j o (e.app s0) then runDraw P R call hsrc ops.toList ms (j + 1) l (e.app s0) k else none) = some r := h1
    cases hgo : growOk hsrc ops.toList ms j o (e.app s0) with
    | false => rw [hgo] at h1; cases h1
    | true =>
    rw [hgo, cond_true] at h1
    have hint : ∀ t, hintOf hsrc ops.toList o = some t → e.At t := by
     intro t ht
     unfold hintBad at hbad
     rw [ht] at hbad
     have : written (viewD hsrc ops.toList ms j o s0) o = t := by simpa using hbad
     rw [← this]; exact hat
    have nar : kindOf o.op = .write → ∀ i oi u, i < j → ops.toList[i]? = some oi → narrow hsrc ops.toList oi = some u → (ms.getD j 0).testBit i = false → e.AtNot u := by
     intro hk i oi u hij hoi hu hb
     unfold wrBad at hnarb
     rw [hk] at hnarb
     exact Eff.AtNot.of hat (narBad_of hnarb i oi u (by rw [List.getElem?_take, if_pos hij]; exact hoi) hu (by rw [Nat.zero_add]; exact hb))
    have clr : ∀ u T σ, narrow hsrc ops.toList o = some u → o.op = .load T (.tmp σ) → ∀ k ok, j < k → ops.toList[k]? = some ok → isAp ok = true → (ms.getD k 0).testBit j = false → ∀ τ, (hsrc 20000 = some τ ∨ ok.dst = some τ) → ∀ d x, e = .put d x → Clear s u σ d x τ := by
     intro u T σ hu hop k ok hjk hok hap hb τ hτ d x he
     subst he
     have hdo : d = o.dst := h2
     unfold growOk at hgo
     rw [hu, hop] at hgo
     simp only [] at hgo
     obtain ⟨c1, c2⟩ := growsOk_of hgo k ok hok hap (by rw [Nat.zero_add]; exact hjk) (by rw [Nat.zero_add]; exact hb)
     obtain ⟨T', σ', hop', _, hdh, _⟩ := narrow_of hu
     rw [hop] at hop'
     injection hop' with _ hop'
     injection hop' with hop'
     subst hop'
     have hne : d ≠ some σ := by rw [hdo]; exact hdh
     rw [← hdo] at c1 c2
     refine clearO_of (by rw [hs0]; exact D.deep) h0 (fun dd hdd => by rw [hs0]; exact hdn dd (by rw [← hdo]; exact hdd)) hne ?_
     rcases hτ with hτ | hτ
     ·rw [hτ] at c1; exact c1
     ·rw [hτ] at c2; exact c2
    obtain ⟨es, s', h4, h5⟩ := runDraw_ok hns hcall D l (j + 1) _ k r hl' (Eff.app_n (h2.ok hs0) hs0) h1
    exact ⟨e :: es, s', h4, .cons hfa ⟨h2.of_eq h0, hint, hgr, nar, clr, fun t A => hop t A _ (h3 t _ hlook (A.of_eq h0.symm))⟩ (Eff.app_congr D.deep (h2.ok hs0) hsn h0.symm) h5⟩
   have out : ∀ s0, PS.Eq s0 s → o.guard ≠ none → runDraw P R call hsrc ops.toList ms (j + 1) l (s0.put o.dst skipped) k = some r →
    (∀ t, Alike (looks ops.toList o) o (Hid hsrc ops.toList ms j) (pdOf hsrc ops.toList ms j o) s t → OpTo P ops t o (t.put o.dst skipped)) → ∃ es s', k s' = some r ∧ Path P hsrc ops ms j (o :: l) s es s' := by
    intro s0 h0 hgd hrun hop
    have hs0 : s0.n = n := h0.n.trans hsn
    obtain ⟨es, s', h4, h5⟩ := runDraw_ok hns hcall D l (j + 1) _ k r hl' ((put_n _ _ _).trans hs0) hrun
    have hnp : pdOf hsrc ops.toList ms j o = true → False := fun h => by
     simp only [pdOf, Bool.and_eq_true] at h
     exact hgd (isAp_free h.1)
    exact ⟨.put o.dst skipped :: es, s', h4, .cons hfa ⟨rfl, fun _ _ => trivial, fun h => (hnp h).elim, fun _ _ _ _ _ _ _ _ => trivial, fun u T σ hu _ => by obtain ⟨_, _, _, hg, _⟩ := narrow_of hu; exact absurd hg hgd, fun t A => hop t A⟩ (Eff.app_congr (e := .put o.dst skipped) D.deep trivial hsn h0.symm) h5⟩
   split at h
   ·rename_i hg
    exact go s (.refl s) h (fun t _ s' hs' => opTo_free hg hs') (fun u hu => by unfold looks; rw [hg]; exact hu)
   ·rename_i i want hg
    split at h
    ·rename_i oj hj
     have hj' : ops[i]? = some oj := by rw [← Array.getElem?_toList]; exact hj
     split at h
     ·rename_i g hdst
      have hlooks : looks ops.toList o = g :: tmpsOf o.op.operands.toList := by unfold looks; rw [hg]; simp only [hj, hdst]
      have hsub : ∀ u ∈ tmpsOf o.op.operands.toList, u ∈ looks ops.toList o := fun u hu => by rw [hlooks]; exact List.mem_cons_of_mem _ hu
      have hgd : o.guard ≠ none := by rw [hg]; intro h; cases h
      have hsame : ∀ t, Alike (looks ops.toList o) o (Hid hsrc ops.toList ms j) (pdOf hsrc ops.toList ms j o) s t → ev t (.tmp g) = ev s (.tmp g) := fun t A => by
       simp only [ev, A.n, A.get g (by rw [hlooks]; simp)]
      split at h
      ·rename_i b hb
       have onb : b = want → runOpV P R call hsrc ops.toList ms j (setBool s g b) o (fun s => runDraw P R call hsrc ops.toList ms (j + 1) l s k) = some r → ∃ es s', k s' = some r ∧ Path P hsrc ops ms j (o :: l) s es s' := by
        intro e hrun
        subst e
        exact go _ (setBool_eq hd hb) hrun (fun t A s' hs' => opTo_on hg hj' hdst ((hsame t A).trans hb) hs') hsub
       have offb : b ≠ want → runDraw P R call hsrc ops.toList ms (j + 1) l ((setBool s g b).put o.dst skipped) k = some r → ∃ es s', k s' = some r ∧ Path P hsrc ops ms j (o :: l) s es s' := by
        intro e h
        refine out _ (setBool_eq hd hb) hgd h fun t A => ?_
        have htb : ev t (.tmp g) = .c (.l (.bool b)) := (hsame t A).trans hb
        have htn : t.n ≤ 16000 := by rw [A.n]; exact hd
        intro B0 w0 a w hr next Q hn
        exact opTo_off hg hj' hdst htb e B0 w0 a w hr next Q fun a' w' hr' => hn a' w' ((Eff.app_congr (e := .put o.dst skipped) (n := t.n) htn trivial (put_n _ _ _) (setBool_eq htn htb)).rel hr')
       cases b <;> cases want <;> simp only [cond_true, cond_false] at h
       ·exact onb rfl h
       ·exact offb (by simp) h
       ·exact offb (by simp) h
       ·exact onb rfl h
      ·rename_i hb
       exact out s (.refl s) hgd h fun t A => opTo_none hg hj' hdst ((hsame t A).trans hb)
      ·cases h
     ·cases h
    ·cases h
end
end Go.Ev
namespace Go.Ev
variable {hh : Nat} {hsrc : Nat → Option Nat}
open Go.RowKit
section
variable {P : Program} {ops : Array Oper} {ms : List Nat} {n : Nat}
theorem Path.len {j : Nat} {l : List Oper} {s s' : PS} {es : List Eff} (h : Path P hsrc ops ms j l s es s') : es.length = l.length := by
 induction h with
 | nil => rfl
 | cons _ _ _ _ ih => simp [ih]
theorem Path.ok {j : Nat} {l : List Oper} {s s' : PS} {es : List Eff} (h : Path P hsrc ops ms j l s es s') (hn : s.n = n) : ∀ e ∈ es, e.Ok n := by
 induction h with
 | nil => intro e he; cases he
 | cons _ hf heq _ ih =>
   intro e he
   have h0 := hf.shape.ok hn
   rcases List.mem_cons.1 he with rfl | he
   ·exact h0
   ·exact ih (heq.n.symm.trans (Eff.app_n h0 hn)) e he
theorem Path.end {j : Nat} {l : List Oper} {s s' : PS} {es : List Eff} (h : Path P hsrc ops ms j l s es s') (hd : n ≤ 16000) (hn : s.n = n) : PS.Eq s' (foldE (fun _ => true) j es s) := by
 induction h with
 | nil => exact .refl _
 | cons _ hf heq hr ih =>
   have h0 := hf.shape.ok hn
   have h1 := Eff.app_n h0 hn
   have h2 := heq.n.symm.trans h1
   refine (ih h2).trans ?_
   simp only [foldE, if_true]
   exact foldE_eq hd _ _ _ _ (hr.ok h2) h2 heq.symm
theorem Path.at {j : Nat} {l : List Oper} {s s' : PS} {es : List Eff} (h : Path P hsrc ops ms j l s es s') (hd : n ≤ 16000) (hn : s.n = n) : ∀ k o e, l[k]? = some o → es[k]? = some e →
 ∃ sk, Fact P hsrc ops ms (j + k) o sk e ∧ freeAhead sk (l.drop k) = true ∧ PS.Eq sk (foldE (fun _ => true) j (es.take k) s) := by
 induction h with
 | nil => intro k o e h; simp at h
 | @cons j o l s s1 s' e es hfree hf heq hr ih =>
   intro k o' e' ho he
   have h0 := hf.shape.ok hn
   have h1 := Eff.app_n h0 hn
   have h2 := heq.n.symm.trans h1
   cases k with
   | zero =>
     obtain rfl : o = o' := by simpa using ho
     obtain rfl : e = e' := by simpa using he
     exact ⟨s, hf, hfree, .refl _⟩
   | succ k =>
     obtain ⟨sk, g1, g2, g3⟩ := ih h2 k o' e' (by simpa using ho) (by simpa using he)
     rw [Nat.add_assoc, Nat.add_comm 1 k] at g1
     refine ⟨sk, g1, by simpa using g2, g3.trans ?_⟩
     simp only [List.take_succ_cons, foldE, if_true]
     exact foldE_eq hd _ _ _ _ (fun f hf => hr.ok h2 f (List.mem_of_mem_take hf)) h2 heq.symm
theorem sees_not {d : Option Tmp} {l : List Tmp} (h : sees d l = false) : ∀ σ, d = some σ → σ ∉ l := by
 intro σ e
 subst e
 simpa [sees] using h
theorem loose_spec {all : List Oper} {x y : Oper} (h : loose hsrc all x y = true) : (∀ σ, x.dst = some σ → σ ∉ looks all y) ∧ (∀ σ, y.dst = some σ → σ ∉ looks all x) ∧ (looseK (kindOf x.op) (kindOf y.op) = true ∨ looseP hsrc all x y = true) := by
 simp only [loose, Bool.and_eq_true, Bool.not_eq_true', Bool.or_eq_true] at h
 exact ⟨sees_not h.1.1, sees_not h.1.2, h.2⟩
theorem loose_nb {all : List Oper} {x y : Oper} (h : loose hsrc all x y = true) : kindOf x.op ≠ .barrier ∧ (kindOf y.op = .barrier → isAp y = true ∧ ∃ u, narrow hsrc all x = some u) := by
 obtain ⟨_, _, h⟩ := loose_spec h
 constructor
 ·intro e; unfold looseP at h; rw [e] at h; rcases h with h | h
  ·simp [looseK] at h
  ·simp at h
 ·intro e; unfold looseP at h; rw [e] at h; rcases h with h | h
  ·cases hk : kindOf x.op <;> rw [hk] at h <;> simp [looseK] at h
  ·cases hk : kindOf x.op <;> rw [hk] at h <;> simp [Option.isSome_iff_exists] at h
   exact ⟨h.2, h.1⟩
theorem loose_wr {all : List Oper} {x y : Oper} (h : loose hsrc all x y = true) (hy : kindOf y.op = .write) : kindOf x.op = .pure ∨ (kindOf x.op = .quiet ∧ ((∃ t, hintOf hsrc all y = some t) ∨ ∃ u, narrow hsrc all x = some u)) := by
 obtain ⟨_, _, h⟩ := loose_spec h
 unfold looseP at h
 rw [hy] at h
 cases hk : kindOf x.op <;> rw [hk] at h <;> simp [looseK, Option.isSome_iff_exists] at h <;> simp [h]
theorem loose_wl {all : List Oper} {x y : Oper} (h : loose hsrc all x y = true) (hx : kindOf x.op = .write) : kindOf y.op = .pure ∨ (kindOf y.op = .quiet ∧ ∃ t, hintOf hsrc all x = some t) := by
 obtain ⟨_, _, h⟩ := loose_spec h
 unfold looseP at h
 rw [hx] at h
 cases hk : kindOf y.op <;> rw [hk] at h <;> simp [looseK, Option.isSome_iff_exists] at h <;> simp [h]
theorem sameDst_not {x y : Oper} (h : sameDst x y = false) {d : Tmp} (hx : x.dst = some d) : y.dst ≠ some d := by
 intro hy
 simp [sameDst, hx, hy] at h
theorem wr_comm {d d' : Option Tmp} {x y : SV} {w : Nat} {B : Blk} (hd : n ≤ 16000) (hw : (Eff.wr d' y w B).Ok n) (hne : ∀ σ, d = some σ → d' ≠ some σ) : Eff.Comm n (.put d x) (.wr d' y w B) := by
 intro u hu
 have hdep := key_depth hw
 have hn' : ∀ (z : PS), (z.setB w B).n = z.n := fun _ => rfl
 have hu' : ∀ (z : PS), (z.setB w B).up = z.up := fun _ => rfl
 refine ⟨by simp only [Eff.app, put_n, hn'], fun v => ?_, fun v => ?_, by simp only [Eff.app, put_up, hu'], by show (((u.put d x).setB w B).put d' y).pl = (((u.setB w B).put d' y).put d x).pl; rw [put_pl, put_pl, put_pl]; exact put_pl _ _ _⟩
 ·simp only [Eff.app]
  rw [put_get (by rw [hn', put_n]; omega), put_get (by rw [put_n, hn']; omega), put_get (by rw [hn']; omega), PS.get_setB, PS.get_setB, put_get (by omega), hn', put_n, put_n, hn']
  by_cases h1 : d = some v ∧ v < u.n
  ·rw [if_neg (fun h => hne v h1.1 h.1), if_pos h1, if_pos h1]
  ·rw [if_neg h1, if_neg h1]
 ·simp only [Eff.app]
  rw [put_blk, PS.blk_setB B hdep, put_blk, put_blk, put_blk, PS.blk_setB B hdep]
theorem comm_of {all : List Oper} {x y : Oper} {sx sy : PS} {e f : Eff} (hd : n ≤ 16000) (he : e.Shape x sx) (hf : f.Shape y sy) (hoe : e.Ok n) (hof : f.Ok n) (hs : sameDst x y = false) (hl : loose hsrc all x y = true)
 (hgr : ∀ t d b, f = .gr t d b → ∀ τ, t = some τ → ∀ dx a, e = .put dx a → dx ≠ none → a.kill τ = a) (hna : ∀ s', f ≠ .all s') : Eff.Comm n e f := by
 have hk := loose_nb hl
 have hq : kindOf y.op = .barrier → kindOf x.op = .quiet := fun h => by obtain ⟨_, u, hu⟩ := hk.2 h; exact narrow_quiet hu
 intro u hu
 cases e with
 | all s' => exact absurd he.1 hk.1
 | gr t d b => exact absurd he.1 hk.1
 | put d a =>
   cases f with
   | all s' => exact absurd rfl (hna _)
   | gr t d' b =>
     have hne : d ≠ some d' := by
      intro h1
      have : d = x.dst := he
      exact sameDst_not hs (this ▸ h1) hf.2.1
     have hdep := lt_depth hof.1 hd
     refine ⟨by simp only [Eff.app, put_n, growTo_n], fun v => ?_, fun v => ?_, ?_, by simp only [Eff.app, put_pl, growTo_pl]⟩
     ·simp only [Eff.app]
      rw [growTo_get hdep, put_get (by omega), put_get (by rw [growTo_n]; omega), growTo_n, growTo_get hdep]
      by_cases h1 : d = some v ∧ v < u.n
      ·have : ¬ v = d' := fun e => hne (e ▸ h1.1)
       rw [if_neg this, if_pos h1, if_pos h1]
       cases t with
       | none => rfl
       | some τ => exact hgr _ _ _ rfl τ rfl d a rfl (by rw [h1.1]; intro h; cases h)
      ·rw [if_neg h1, if_neg h1]
     ·simp only [Eff.app]
      rw [growTo_blk hdep hof.2.2, put_blk, put_blk, growTo_blk hdep hof.2.2]
     ·simp only [Eff.app]
      rw [put_up]
      exact growTo_up _ _ _ (put_up _ _ _)
   | put d' b =>
     have hne : ∀ σ, d = some σ → d' ≠ some σ := by
      intro σ h1
      have : d = x.dst := he
      have h2 : d' = y.dst := hf
      rw [h2]; exact sameDst_not hs (this ▸ h1)
     refine ⟨by simp only [Eff.app, put_n], fun v => ?_, fun v => by simp only [Eff.app, put_blk], by simp only [Eff.app, put_up], by simp only [Eff.app, put_pl]⟩
     simp only [Eff.app]
     rw [put_get (by rw [put_n]; omega), put_get (by omega), put_get (by rw [put_n]; omega), put_get (by omega), put_n, put_n]
     by_cases h1 : d = some v ∧ v < u.n
     ·rw [if_neg (fun h => hne v h1.1 h.1), if_pos h1, if_pos h1]
     ·rw [if_neg h1, if_neg h1]
   | new d' b B =>
     have hne : d ≠ some d' := by
      intro h1
      have : d = x.dst := he
      exact sameDst_not hs (this ▸ h1) hf.2.1
     have hdep := lt_depth hof hd
     have hn' : ∀ (z : PS), ((z.setT d' b).setB d' B).n = z.n := fun _ => rfl
     have hu' : ∀ (z : PS), ((z.setT d' b).setB d' B).up = z.up := fun _ => rfl
     refine ⟨by simp only [Eff.app, put_n, hn'], fun v => ?_, fun v => ?_, by simp only [Eff.app, put_up, hu'], by show (((u.put d a).setT d' b).setB d' B).pl = (((u.setT d' b).setB d' B).put d a).pl; rw [put_pl]; exact put_pl _ _ _⟩
     ·simp only [Eff.app]
      rw [PS.get_setB, PS.get_setT b hdep, put_get (by omega), put_get (by rw [hn']; omega), hn', PS.get_setB, PS.get_setT b hdep]
      by_cases h1 : v = d'
      ·subst h1; rw [if_pos rfl, if_neg (fun h => hne h.1)]; simp
      ·simp [h1]
     ·simp only [Eff.app]
      rw [PS.blk_setB B hdep, put_blk, PS.blk_setB B hdep, PS.blk_setT, PS.blk_setT, put_blk]
   | wr d' b w B =>
     have hne : ∀ σ, d = some σ → d' ≠ some σ := by
      intro σ h1 h2
      have : d = x.dst := he
      exact sameDst_not hs (this ▸ h1) (hf.2.2.2 σ h2)
     exact wr_comm hd hof hne u hu
 | new d a A =>
   have hdepe := lt_depth hoe hd
   cases f with
   | all s' => exact absurd rfl (hna _)
   | gr t d' b => have := hq hf.1; rw [he.1] at this; cases this
   | wr d' b w B => rcases loose_wr hl hf.1 with h | h <;> rw [he.1] at h <;> simp at h
   | put d' b =>
     have hne : d' ≠ some d := by
      have h2 : d' = y.dst := hf
      rw [h2]; exact sameDst_not hs he.2.1
     have hn' : ∀ (z : PS), ((z.setT d a).setB d A).n = z.n := fun _ => rfl
     have hu' : ∀ (z : PS), ((z.setT d a).setB d A).up = z.up := fun _ => rfl
     refine ⟨by simp only [Eff.app, put_n, hn'], fun v => ?_, fun v => ?_, by simp only [Eff.app, put_up, hu'], by show (((u.setT d a).setB d A).put d' b).pl = (u.put d' b).pl; rw [put_pl, put_pl]; rfl⟩
     ·simp only [Eff.app]
      rw [put_get (by rw [hn']; omega), hn', PS.get_setB, PS.get_setT a hdepe, PS.get_setB, PS.get_setT a hdepe, put_get (by omega)]
      by_cases h1 : v = d
      ·subst h1; rw [if_neg (fun h => hne h.1)]; simp
      ·simp [h1]
     ·simp only [Eff.app]
      rw [PS.blk_setB A hdepe, put_blk, PS.blk_setB A hdepe, PS.blk_setT, PS.blk_setT, put_blk]
   | new d' b B =>
     have hdepf := lt_depth hof hd
     have hne : d' ≠ d := fun h => sameDst_not hs he.2.1 (h ▸ hf.2.1)
     refine ⟨rfl, fun v => ?_, fun v => ?_, rfl, rfl⟩
     ·simp only [Eff.app, PS.get_setB, PS.get_setT a hdepe, PS.get_setT b hdepf]
      by_cases h1 : v = d <;> by_cases h2 : v = d' <;> simp [h1, h2] <;> (try (exfalso; exact hne (h2.symm.trans h1))) <;> (intro h; first | exact absurd h hne | exact absurd h.symm hne)
     ·simp only [Eff.app, PS.blk_setB A hdepe, PS.blk_setB B hdepf, PS.blk_setT]
      by_cases h1 : v = d <;> by_cases h2 : v = d' <;> simp [h1, h2] <;> (try (exfalso; exact hne (h2.symm.trans h1))) <;> (intro h; first | exact absurd h hne | exact absurd h.symm hne)
 | wr d a w A =>
   cases f with
   | all s' => exact absurd rfl (hna _)
   | gr t d' b => have := hq hf.1; rw [he.1] at this; cases this
   | wr _ _ w' B => rcases loose_wr hl hf.1 with h | h <;> rw [he.1] at h <;> simp at h
   | new d' b B => rcases loose_wl hl he.1 with h | h <;> rw [hf.1] at h <;> simp at h
   | put d' b =>
     have hne : ∀ σ, d' = some σ → d ≠ some σ := by
      intro σ h1 h2
      have : d' = y.dst := hf
      exact sameDst_not hs (he.2.2.2 σ h2) (this ▸ h1)
     exact (wr_comm hd hoe hne u hu).symm
theorem dropFresh_rel : ∀ {l : List Oper} {s : PS} {B0 : Nat} {w0 : Base} {a : Act} {w : World}, Rel B0 w0 s a w → Rel B0 w0 (dropFresh l s) a w
 | [], s, B0, w0, a, w, h => h
 | o :: l, s, B0, w0, a, w, h => by
   unfold dropFresh
   split
   ·rename_i d _ _
    cases hb : Nat.blt d s.n with
    | false => exact dropFresh_rel h
    | true =>
      obtain ⟨β, p, inv⟩ := h
      have hlt : d < s.n := by rw [Nat.blt_eq] at hb; exact hb
      exact dropFresh_rel ⟨_, p, (inv.drop d (Nat.lt_of_lt_of_le hlt inv.deep)).1⟩
   ·exact dropFresh_rel h
theorem dropFresh_n : ∀ (l : List Oper) (s : PS), (dropFresh l s).n = s.n
 | [], _ => rfl
 | o :: l, s => by
   unfold dropFresh
   split
   ·rename_i d _ _
    cases Nat.blt d s.n with
    | false => exact dropFresh_n l s
    | true => exact (dropFresh_n l _).trans PS.n_drop
   ·exact dropFresh_n l s
def listedB (listed : Array Bool) (i : Nat) : Bool := listed.getD i false
theorem count_set : ∀ (l : List Bool) (i : Nat), l[i]? = some false → ((l.set i true).filter (!·)).length + 1 = (l.filter (!·)).length
 | [], i, h => by simp at h
 | b :: l, 0, h => by
   obtain rfl : b = false := by simpa using h
   simp
 | b :: l, i + 1, h => by
   have := count_set l i (by simpa using h)
   cases b <;> simp at this ⊢ <;> omega
structure AgrB (D : Nat → Prop) (u v : PS) : Prop where
 n : u.n = v.n
 up : u.up = v.up
 blk : ∀ b, u.blk b = v.blk b
 get : ∀ σ, ¬ D σ → u.get σ = v.get σ
 pl : u.pl = v.pl
theorem agreeB {D : Nat → Prop} {L : Nat → Bool} (hn : n ≤ 16000) : ∀ (es : List Eff) (i : Nat) (u v : PS), (∀ f ∈ es, f.Ok n) → (∀ k f, es[k]? = some f → L (i + k) = false → ∃ d x, f = .put d x ∧ ∀ σ, d = some σ → D σ) → v.n = n → AgrB D u v →
 AgrB D (foldE L i es u) (foldE (fun _ => true) i es v)
 | [], _, _, _, _, _, _, h => h
 | f :: es, i, u, v, hok, hc, hv, h => by
   have hc' : ∀ k g, es[k]? = some g → L (i + 1 + k) = false → ∃ d x, g = .put d x ∧ ∀ σ, d = some σ → D σ := fun k g hg hL => hc (k + 1) g (by simpa using hg) (by rwa [Nat.add_comm k, ← Nat.add_assoc])
   have hok' : ∀ g ∈ es, g.Ok n := fun g hg => hok g (by simp [hg])
   have hf := hok f (by simp)
   have hu : u.n = n := h.n.trans hv
   simp only [foldE, if_true]
   split
   ·refine agreeB hn es (i + 1) _ _ hok' hc' (Eff.app_n hf hv) ?_
    cases f with
    | put d x =>
      refine ⟨by simp only [Eff.app, put_n]; exact h.n, by simp only [Eff.app, put_up]; exact h.up, fun b => by simp only [Eff.app, put_blk]; exact h.blk b, fun σ hσ => ?_, by simp only [Eff.app, put_pl]; exact h.pl⟩
      simp only [Eff.app]
      rw [put_get (by omega), put_get (by omega), h.n, h.get σ hσ]
    | new d x b =>
      have hdep := lt_depth hf hn
      refine ⟨h.n, h.up, fun b' => ?_, fun σ hσ => ?_, h.pl⟩
      ·simp only [Eff.app, PS.blk_setB b hdep, PS.blk_setT, h.blk b']
      ·simp only [Eff.app, PS.get_setB, PS.get_setT x hdep, h.get σ hσ]
    | wr d x w b =>
      have hdep := key_depth hf
      refine ⟨by simp only [Eff.app, put_n]; exact h.n, by simp only [Eff.app, put_up]; exact h.up, fun b' => ?_, fun σ hσ => ?_, by simp only [Eff.app, put_pl]; exact h.pl⟩
      ·simp only [Eff.app, put_blk, PS.blk_setB b hdep, h.blk b']
      ·simp only [Eff.app]
       rw [put_get (by show u.n ≤ 16000; omega), put_get (by show v.n ≤ 16000; omega), PS.get_setB, PS.get_setB, h.get σ hσ]
       show (if d = some σ ∧ σ < u.n then x else v.get σ) = (if d = some σ ∧ σ < v.n then x else v.get σ)
       rw [h.n]
    | all s' => exact ⟨rfl, rfl, fun _ => rfl, fun _ _ => rfl, rfl⟩
    | gr t d b =>
      have hdep := lt_depth hf.1 hn
      refine ⟨(growTo_n _ _ _ _).trans (h.n.trans (growTo_n _ _ _ _).symm), growTo_up _ _ _ h.up, fun b' => ?_, fun σ hσ => ?_, (growTo_pl _ _ _ _).trans (h.pl.trans (growTo_pl _ _ _ _).symm)⟩
      ·simp only [Eff.app]; rw [growTo_blk hdep hf.2.2, growTo_blk hdep hf.2.2, h.blk b']
      ·simp only [Eff.app]; rw [growTo_get hdep, growTo_get hdep, h.get σ hσ]
   ·rename_i hL
    obtain ⟨d, x, rfl, hD⟩ := hc 0 f rfl (by simpa using hL)
    refine agreeB hn es (i + 1) _ _ hok' hc' (Eff.app_n hf hv) ⟨by simp only [Eff.app, put_n]; exact h.n, by simp only [Eff.app, put_up]; exact h.up, fun b => by simp only [Eff.app, put_blk]; exact h.blk b, fun σ hσ => ?_, by simp only [Eff.app, put_pl]; exact h.pl⟩
    simp only [Eff.app]
    rw [put_get (by omega), if_neg (fun e => hσ (hD σ e.1))]
    exact h.get σ hσ
theorem any_step {l : List Oper} (hl : ops.toList = l) (D : Drawn hh hsrc n l ms) {s s' : PS} {es : List Eff} (hp : Path P hsrc ops ms 0 l s es s') (hn : s.n = n) {L : Nat → Bool} (hL : Closed l L) {i : Nat} {o : Oper} (ho : l[i]? = some o) (hi : L i = false) (hH : (∀ k, k < hh → L k = true) ∨ ∀ k, L k = true ↔ k < i)
 (hready : ∀ e ∈ o.after.toList, Region.binds .any e = true → L e.on = true) {t : PS} (ht : PS.Eq t (foldE L 0 es s)) :
 ∃ t', OpTo P ops t o t' ∧ PS.Eq t' (foldE (fun j => if j = i then true else L j) 0 es s) := by
 have hd := D.deep
 have hok := hp.ok hn
 have hlen := hp.len
 have hil : i < l.length := (List.getElem?_eq_some_iff.1 ho).1
 have hie : i < es.length := by omega
 have he : es[i]? = some es[i] := List.getElem?_eq_getElem hie
 generalize hee : es[i] = e at he
 obtain ⟨si, hfact, hfree, hsi⟩ := hp.at hd hn i o e ho he
 rw [Nat.zero_add] at hfact
 have hoke : e.Ok n := hok e (List.mem_of_getElem? he)
 have hsplit : es = es.take i ++ (e :: es.drop (i + 1)) := by
  rw [← hee, List.getElem_cons_drop, List.take_append_drop]
 have hlen1 : (es.take i).length = i := by rw [List.length_take]; omega
 have hok1 : ∀ f ∈ es.take i, f.Ok n := fun f hf => hok f (List.mem_of_mem_take hf)
 have hok2 : ∀ f ∈ es.drop (i + 1), f.Ok n := fun f hf => hok f (List.mem_of_mem_drop hf)
 have hbef := before_of D hL i o ho hready
 have other : ∀ k f, es[k]? = some f → ∃ ok sk, l[k]? = some ok ∧ Fact P hsrc ops ms k ok sk f ∧ freeAhead sk (l.drop k) = true ∧ PS.Eq sk (foldE (fun _ => true) 0 (es.take k) s) := by
  intro k f hf
  have hk : k < l.length := by have := (List.getElem?_eq_some_iff.1 hf).1; omega
  obtain ⟨sk, g1, g2, g3⟩ := hp.at hd hn k l[k] f (List.getElem?_eq_getElem hk) hf
  rw [Nat.zero_add] at g1
  exact ⟨l[k], sk, List.getElem?_eq_getElem hk, g1, g2, g3⟩
 have ahead : ∀ k ok, i < k → l[k]? = some ok → L k = true → loose hsrc l o ok = true ∧ sameDst o ok = false ∧ (ms.getD k 0).testBit i = false := by
  intro k ok hik hok' hLk
  obtain ⟨h1, h2⟩ := D.pair i k o ok hik ho hok'
  have hbit : (ms.getD k 0).testBit i = false := by
   cases hb : (ms.getD k 0).testBit i with
   | false => rfl
   | true =>
     have := before_of D hL k ok hok' (hL k ok hok' hLk) i hb
     rw [hi] at this; cases this
  refine ⟨(h2.resolve_left fun hb => ?_).resolve_left fun hlt => ?_, h1, hbit⟩
  ·rw [hbit] at hb; cases hb
  ·rcases hH with hH | hH
   ·have := hH i hlt
    rw [hi] at this; cases this
   ·have := (hH k).1 hLk; omega
 have behind : ∀ k ok, k < i → l[k]? = some ok → L k = false → loose hsrc l ok o = true ∧ (ms.getD i 0).testBit k = false := by
  intro k ok hki hok' hLk
  obtain ⟨_, h2⟩ := D.pair k i ok o hki hok' ho
  have hb : (ms.getD i 0).testBit k = false := by
   cases hb : (ms.getD i 0).testBit k with
   | false => rfl
   | true => have := hbef k hb; rw [hLk] at this; cases this
  refine ⟨(h2.resolve_left fun h => (by rw [hb] at h; cases h)).resolve_left fun hlt => ?_, hb⟩
  rcases hH with hH | hH
  ·have := hH k hlt
   rw [hLk] at this; cases this
  ·have := (hH k).2 hki
   rw [hLk] at this; cases this
 let a := foldE L 0 (es.take i) s
 let v := foldE (fun _ => true) 0 (es.take i) s
 have hav : a.n = n := foldE_n _ _ _ hok1 hn
 have hvn : v.n = n := foldE_n _ _ _ hok1 hn
 have hu : foldE L 0 es s = foldE L (i + 1) (es.drop (i + 1)) a := by
  conv => lhs; rw [hsplit]
  rw [foldE_append, hlen1, Nat.zero_add]
  simp only [foldE, hi, Bool.false_eq_true, if_false]
  rfl
 have get2 : ∀ k f, (es.drop (i + 1))[k]? = some f → es[i + 1 + k]? = some f := fun k f h => by rwa [List.getElem?_drop] at h
 have get1 : ∀ k f, (es.take i)[k]? = some f → k < i ∧ es[k]? = some f := fun k f h => by
  have hk : k < i := by have := (List.getElem?_eq_some_iff.1 h).1; omega
  rw [List.getElem?_take, if_pos hk] at h
  exact ⟨hk, h⟩
 have far : ∀ k ok f sk, i < k → l[k]? = some ok → L k = true → Fact P hsrc ops ms k ok sk f → kindOf ok.op = .barrier → ∃ u T σ dx x d b, narrow hsrc l o = some u ∧ o.op = .load T (.tmp σ) ∧ looks l o = [σ] ∧ e = .put dx x ∧ f = .gr (hsrc 20000) d b ∧ ok.dst = some d ∧ ∀ τ, (hsrc 20000 = some τ ∨ ok.dst = some τ) → Clear si u σ dx x τ := by
  intro k ok f sk hik hok' hLk hF hkb
  obtain ⟨h1, h2, hbit⟩ := ahead k ok hik hok' hLk
  obtain ⟨hap, u, hu⟩ := (loose_nb h1).2 hkb
  obtain ⟨T, σ, hop, hlk⟩ := narrow_looks hu
  have hpd : pdOf hsrc ops.toList ms k ok = true := by
   unfold pdOf
   rw [hap, hl, Bool.true_and]
   exact pendN_true (k := i) (by rw [List.getElem?_take, if_pos hik]; exact ho) hu (by rw [Nat.zero_add]; exact hbit)
  obtain ⟨d, b, hf⟩ := hF.grow hpd
  have hsh := hfact.shape
  have hq := narrow_quiet hu
  obtain ⟨dx, x, hex⟩ : ∃ dx x, e = .put dx x := by
   cases e with
   | put dx x => exact ⟨dx, x, rfl⟩
   | new d x b => have := hsh.1; rw [hq] at this; cases this
   | wr d x w b => have := hsh.1; rw [hq] at this; cases this
   | all s' => have := hsh.1; rw [hq] at this; cases this
   | gr t d b => have := hsh.1; rw [hq] at this; cases this
  have hdst : ok.dst = some d := by have := hF.shape; rw [hf] at this; exact this.2.1
  exact ⟨u, T, σ, dx, x, d, b, hu, hop, hlk, hex, hf, hdst, fun τ hτ => hfact.clr u T σ (by rw [hl]; exact hu) hop k ok hik (by rw [hl]; exact hok') hap hbit τ hτ dx x hex⟩
 have hA : Alike (looks ops.toList o) o (Hid hsrc ops.toList ms i) (pdOf hsrc ops.toList ms i o) si t := by
  rw [hl]
  have agr : kindOf o.op ≠ .barrier → Agr (looks l o) (kindOf o.op ≠ .pure) (Hid hsrc l ms i) (foldE L 0 es s) v := by
   intro hnb
   rw [hu]
   refine agree2 hd hvn _ _ _ hok2 (fun k f hf hLk => ?_) (agree1 hd _ _ _ _ hok1 (fun k f hf hLk => ?_) hn ⟨rfl, fun _ _ => rfl, fun _ _ _ _ => rfl, rfl⟩)
   ·obtain ⟨ok, sk, g1, g2, g3, g4⟩ := other _ f (get2 k f hf)
    obtain ⟨h1, h2, hbit⟩ := ahead (i + 1 + k) ok (by omega) g1 hLk
    obtain ⟨_, c2, c3⟩ := loose_spec h1
    have hs := g2.shape
    cases f with
    | put d x => intro σ e1; exact c2 σ (by rw [← e1]; exact hs.symm)
    | new d x b =>
      refine ⟨c2 d hs.2.1, ?_⟩
      have := freeAhead_of hfree ok (by
       have : (l.drop i)[1 + k]? = some ok := by rw [List.getElem?_drop, ← Nat.add_assoc]; exact g1
       exact List.mem_of_getElem? this) d hs.1 hs.2.1
      rw [hsi.blk d] at this; exact this
    | wr d x w b =>
      refine ⟨?_, fun σ e1 => c2 σ (hs.2.2.2 σ e1)⟩
      rcases loose_wr h1 hs.1 with hp | ⟨hq, ⟨tt, hh⟩ | ⟨u, hu⟩⟩
      ·exact .inl fun hne => hne hp
      ·right
       have hwt : w = tt := g2.hint tt (by rw [hl]; exact hh)
       refine .inr (.inl ⟨o, ho, hq, i + 1 + k, ok, g1, by rw [hwt]; exact hh, ?_⟩)
       rintro (⟨h, _⟩ | ⟨_, h⟩)
       ·omega
       ·have := before_of D hL _ ok g1 (hL _ ok g1 hLk) i h
        rw [hi] at this; cases this
      ·right
       exact .inr (.inr ⟨o, u, ho, hu, g2.nar hs.1 i o u (by omega) (by rw [hl]; exact ho) (by rw [hl]; exact hu) hbit, hs.2.1⟩)
    | all s1 =>
      obtain ⟨_, _, _, _, _, _, _, _, _, _, _, hf2, _⟩ := far _ ok _ sk (by omega) g1 hLk g2 hs.1
      cases hf2
    | gr tt d b =>
      obtain ⟨u, T, σ, dx, x, d', b', hu, hop, hlk, hex, hf2, hdst, hcl⟩ := far _ ok _ sk (by omega) g1 hLk g2 hs.1
      injection hf2 with hf2 hf3 hf4
      subst hf3
      refine ⟨c2 d hs.2.1, .inr (.inr ⟨o, u, ho, hu, fun e => (hcl d (.inr hdst)).ne e.symm, (hcl d (.inr hdst)).lt⟩), fun τ hτ => ?_⟩
      have C := hcl τ (.inl (by rw [← hf2]; exact hτ))
      refine ⟨fun q hq => ?_, fun b hnb hbf => ?_⟩
      ·rw [hlk, List.mem_singleton] at hq
       subst hq
       rw [← hsi.get]; exact C.get
      ·by_cases e1 : b = u
       ·subst e1
        refine ⟨C.ne, ?_⟩
        rw [← hsi.blk]; exact C.blk
       ·rcases Nat.lt_or_ge b 16000 with hlt | hge
        ·exact absurd (.inr (.inr ⟨o, u, ho, hu, e1, hlt⟩)) hnb
        ·have hτ : τ < 16000 := C.lt
         refine ⟨by omega, ?_⟩
         rw [PS.blk_high hge, PS.rowB]
         split
         ·split <;> rfl
         ·rfl
   ·obtain ⟨hki, hf⟩ := get1 k f hf
    rw [Nat.zero_add] at hLk
    obtain ⟨ok, sk, g1, g2, g3, g4⟩ := other k f hf
    obtain ⟨h1, h2⟩ := behind k ok hki g1 hLk
    obtain ⟨c1, _, c3⟩ := loose_spec h1
    have hs := g2.shape
    cases f with
    | put d x => intro σ e1; exact c1 σ (by rw [← e1]; exact hs.symm)
    | new d x b => exact ⟨c1 d hs.2.1, .inl ⟨k, ok, hki, g1, hs.1, hs.2.1, h2⟩⟩
    | wr d x w b =>
      refine ⟨?_, fun σ e1 => c1 σ (hs.2.2.2 σ e1)⟩
      rcases loose_wl h1 hs.1 with hp | ⟨hq, tt, hh⟩
      ·exact .inl fun hne => hne hp
      ·right
       have hwt : w = tt := g2.hint tt (by rw [hl]; exact hh)
       refine .inr (.inl ⟨o, ho, hq, k, ok, g1, by rw [hwt]; exact hh, ?_⟩)
       rintro (⟨_, h⟩ | ⟨h, _⟩)
       ·rw [h2] at h; cases h
       ·omega
    | all s1 => exact absurd hs.1 (loose_nb h1).1
    | gr _ _ _ => exact absurd hs.1 (loose_nb h1).1
  have htn : t.n = si.n := ht.n.trans ((foldE_n _ _ _ hok hn).trans (hvn.symm.trans hsi.n.symm))
  by_cases hb : kindOf o.op = .barrier
  ·let DD : Nat → Prop := fun σ => ∃ k ok, k < i ∧ l[k]? = some ok ∧ L k = false ∧ ok.dst = some σ
   have skipped : ∀ k ok, k < i → l[k]? = some ok → L k = false → isAp o = true ∧ (∃ u, narrow hsrc l ok = some u) ∧ (∀ σ, ok.dst = some σ → σ ∉ looks l o) ∧ (ms.getD i 0).testBit k = false := by
    intro k ok hki hok' hLk
    obtain ⟨h1, h2⟩ := behind k ok hki hok' hLk
    obtain ⟨h3, h4⟩ := (loose_nb h1).2 hb
    exact ⟨h3, h4, (loose_spec h1).1, h2⟩
   have B : AgrB DD (foldE L 0 es s) v := by
    rw [hu, foldE_none]
    ·refine agreeB hd _ _ _ _ hok1 (fun k f hf hLk => ?_) hn ⟨rfl, rfl, fun _ => rfl, fun _ _ => rfl, rfl⟩
     rw [Nat.zero_add] at hLk
     obtain ⟨hki, hf⟩ := get1 k f hf
     obtain ⟨ok, sk, g1, g2, g3, g4⟩ := other k f hf
     obtain ⟨_, ⟨u, hu'⟩, _, _⟩ := skipped k ok hki g1 hLk
     have hq := narrow_quiet hu'
     have hs := g2.shape
     cases f with
     | put d x => exact ⟨d, x, rfl, fun σ e1 => ⟨k, ok, hki, g1, hLk, by rw [← e1]; exact hs.symm⟩⟩
     | new d x b => have := hs.1; rw [hq] at this; cases this
     | wr d x w b => have := hs.1; rw [hq] at this; cases this
     | all s' => have := hs.1; rw [hq] at this; cases this
     | gr t d b => have := hs.1; rw [hq] at this; cases this
    ·intro k hk
     cases hLk : L (i + 1 + k) with
     | false => rfl
     | true =>
       have hk' : i + 1 + k < l.length := by rw [List.length_drop] at hk; omega
       have := (ahead (i + 1 + k) l[i + 1 + k] (by omega) (List.getElem?_eq_getElem hk') hLk).1
       exact absurd hb (loose_nb this).1
   have hblk : ∀ b, t.blk b = si.blk b := fun b => (ht.blk b).trans ((B.blk b).trans (hsi.blk b).symm)
   refine ⟨htn, fun σ hσ => (ht.get σ).trans ((B.get σ ?_).trans (hsi.get σ).symm), fun _ b _ _ => hblk b, fun hk => (by rw [hb] at hk; cases hk), fun _ => ⟨hblk, fun hpd => ?_⟩, ht.pl.trans (B.pl.trans hsi.pl.symm)⟩
   ·rintro ⟨k, ok, hki, hok', hLk, hdst⟩
    exact (skipped k ok hki hok' hLk).2.2.1 σ hdst hσ
   ·have none : ∀ σ, ¬ DD σ := by
     rintro σ ⟨k, ok, hki, hok', hLk, hdst⟩
     obtain ⟨h1, ⟨u, h2⟩, _, h3⟩ := skipped k ok hki hok' hLk
     simp only [pdOf, h1, Bool.true_and] at hpd
     have := pendN_of hpd k ok u (by rw [List.getElem?_take, if_pos hki]; exact hok') h2
     rw [Nat.zero_add, h3] at this
     cases this
    exact ⟨htn.symm, fun u => ((hsi.get u).trans ((B.get u (none u)).symm.trans (ht.get u).symm)), fun b => (hblk b).symm, hsi.up.trans (B.up.symm.trans ht.up.symm), hsi.pl.trans (B.pl.symm.trans ht.pl.symm)⟩
  ·have g := agr hb
   refine ⟨htn, fun σ hσ => (ht.get σ).trans ((g.get σ hσ).trans (hsi.get σ).symm), fun hk b hnb hf => ?_, fun hk d hdst => ?_, fun hk => absurd hk hb, ht.pl.trans (g.pl.trans hsi.pl.symm)⟩
   ·rw [ht.blk b, hsi.blk b]
    exact g.blk hk b hnb (by rw [← hsi.blk b]; exact hf)
   ·have hself : si.blk d = .free := freeAhead_of hfree o (by
     have : (l.drop i)[0]? = some o := by rw [List.getElem?_drop, Nat.add_zero]; exact ho
     exact List.mem_of_getElem? this) d hk hdst
    refine ⟨?_, hself⟩
    rw [ht.blk d]
    refine foldE_free hd _ _ _ hok (fun k f hf hLk => ?_) ?_
    ·rw [Nat.zero_add] at hLk
     obtain ⟨ok, sk, g1, g2, g3, g4⟩ := other k f hf
     have hki : k ≠ i := fun e => by rw [e, hi] at hLk; cases hLk
     have hs := g2.shape
     have inAhead : k < i → o ∈ l.drop k := fun h => by
      have : (l.drop k)[i - k]? = some o := by rw [List.getElem?_drop]; rw [show k + (i - k) = i by omega]; exact ho
      exact List.mem_of_getElem? this
     rcases Nat.lt_or_gt_of_ne hki with hlt | hgt
     ·cases f with
      | put d' x => trivial
      | new d' x b => exact fun e1 => sameDst_not (D.pair k i ok o hlt g1 ho).1 hs.2.1 (e1 ▸ hdst)
      | gr _ d' b => exact fun e1 => sameDst_not (D.pair k i ok o hlt g1 ho).1 hs.2.1 (e1 ▸ hdst)
      | wr _ _ w b =>
        intro e1
        have := freeAhead_of g3 o (inAhead hlt) d hk hdst
        exact hs.2.2.1 (e1 ▸ this)
      | all s1 =>
        have hk1 : k + 1 < es.length := by omega
        obtain ⟨ok2, sk2, q1, q2, q3, q4⟩ := other (k + 1) es[k + 1] (List.getElem?_eq_getElem hk1)
        have hin : o ∈ l.drop (k + 1) := by
         have : (l.drop (k + 1))[i - (k + 1)]? = some o := by rw [List.getElem?_drop]; rw [show k + 1 + (i - (k + 1)) = i by omega]; exact ho
         exact List.mem_of_getElem? this
        have hfr := freeAhead_of q3 o hin d hk hdst
        have e2 : es.take (k + 1) = es.take k ++ [.all s1] := by
         rw [List.take_succ_eq_append_getElem (by omega)]
         have := (List.getElem?_eq_some_iff.1 hf).2
         rw [this]
        rw [q4.blk d, e2, foldE_append] at hfr
        simp only [foldE, if_true] at hfr
        exact hfr
     ·have hc := ahead k ok hgt g1 hLk
      obtain ⟨_, _, c3⟩ := loose_spec hc.1
      cases f with
      | put d' x => trivial
      | new d' x b => exact fun e1 => sameDst_not hc.2.1 hdst (e1 ▸ hs.2.1)
      | wr _ _ w b => rcases loose_wr hc.1 hs.1 with h | h <;> rw [hk] at h <;> simp at h
      | all s1 => obtain ⟨_, u, hu⟩ := (loose_nb hc.1).2 hs.1; have := narrow_quiet hu; rw [hk] at this; cases this
      | gr _ _ _ => obtain ⟨_, u, hu⟩ := (loose_nb hc.1).2 hs.1; have := narrow_quiet hu; rw [hk] at this; cases this
    ·have h0 : 0 < es.length := by omega
     obtain ⟨ok0, s0, q1, q2, q3, q4⟩ := other 0 es[0] (List.getElem?_eq_getElem h0)
     have := freeAhead_of q3 o (by rw [List.drop_zero]; exact List.mem_of_getElem? ho) d hk hdst
     rw [q4.blk d] at this
     simpa [foldE] using this
 refine ⟨e.app t, hfact.loc t hA, ?_⟩
 have htn : t.n = n := ht.n.trans (foldE_n _ _ _ hok hn)
 refine (Eff.app_congr hd hoke htn ht).trans ?_
 rw [hu]
 have hu' : foldE (fun j => if j = i then true else L j) 0 es s = foldE L (i + 1) (es.drop (i + 1)) (e.app a) := by
  conv => lhs; rw [hsplit]
  rw [foldE_append, hlen1, Nat.zero_add]
  simp only [foldE, if_true]
  have e1 : foldE (fun j => if j = i then true else L j) 0 (es.take i) s = a := foldE_congrL _ _ _ fun k hk => by
   have : ¬ (0 + k = i) := by omega
   simp [this]
   try omega
  rw [e1]
  refine foldE_congrL _ _ _ fun k hk => ?_
  have : ¬ (i + 1 + k = i) := by omega
  simp [this]
  try omega
 rw [hu']
 refine (foldE_comm hd hoke _ _ _ _ hok2 (fun k f hf hLk => ?_) hav (.refl _)).symm
 obtain ⟨ok, sk, g1, g2, g3, g4⟩ := other _ f (get2 k f hf)
 obtain ⟨h1, h2, _⟩ := ahead (i + 1 + k) ok (by omega) g1 hLk
 refine comm_of hd hfact.shape g2.shape hoke (hok f (List.mem_of_getElem? (get2 k f hf))) h2 h1 (fun t d b hf2 τ hτ dx a hea hne => ?_) (fun s' hf2 => ?_)
 ·have hkb : kindOf ok.op = .barrier := by have := g2.shape; rw [hf2] at this; exact this.1
  obtain ⟨u, T, σ, dx', x, d', b', _, _, _, hex, hf3, _, hcl⟩ := far _ ok f sk (by omega) g1 hLk g2 hkb
  rw [hex] at hea
  injection hea with q1 q2
  rw [hf2] at hf3
  injection hf3 with q3 _ _
  have := (hcl τ (.inl (by rw [← q3]; exact hτ))).val (by rw [q1]; exact hne)
  rw [q2] at this; exact this
 ·have hkb : kindOf ok.op = .barrier := by have := g2.shape; rw [hf2] at this; exact this.1
  obtain ⟨_, _, _, _, _, _, _, _, _, _, _, hf3, _⟩ := far _ ok f sk (by omega) g1 hLk g2 hkb
  rw [hf2] at hf3; cases hf3
theorem listed_set {listed : Array Bool} {i : Nat} (h : i < listed.size) (j : Nat) : listedB (listed.setIfInBounds i true) j = if j = i then true else listedB listed j := by
 unfold listedB
 rw [Array.getD_eq_getD_getElem?, Array.getD_eq_getD_getElem?, Array.getElem?_setIfInBounds]
 by_cases e : j = i
 ·subst e; simp [h]
 ·have : ¬ i = j := fun h => e h.symm
  simp [this, e]
theorem any_ok {l : List Oper} (hl : ops.toList = l) (D : Drawn hh hsrc n l ms) {s s' : PS} {es : List Eff} (hp : Path P hsrc ops ms 0 l s es s') (hn : s.n = n) {B0 : Nat} {w0 : Base} {Q : Exit → Act → World → Prop} (hQ : ∀ a' w', Rel B0 w0 s' a' w' → Q .normal a' w') :
 ∀ (fuel : Nat) (listed : Array Bool) (t : PS) (a : Act) (w : World), listed.size = l.length → (listed.toList.filter (!·)).length ≤ fuel → Closed l (listedB listed) → (∀ k, k < hh → listedB listed k = true) → PS.Eq t (foldE (listedB listed) 0 es s) → Rel B0 w0 t a w → wpAnyIn (FR w0.ro) 0 P .any ops Q fuel listed a w := by
 have hd := D.deep
 have hsize : ops.size = l.length := by rw [← hl]; simp
 have stuck : ∀ (listed : Array Bool), listed.size = l.length → Region.ready .any ops listed = [] → ∀ j, j < l.length → listedB listed j = true := by
  intro listed hsz hr j
  induction j using Nat.strongRecOn with
  | _ j ih =>
    intro hj
    cases hlj : listedB listed j with
    | true => rfl
    | false =>
      have hoj : l[j]? = some l[j] := List.getElem?_eq_getElem hj
      have : j ∈ Region.ready .any ops listed := by
       rw [mem_ready]
       refine ⟨?_, l[j], by rw [← Array.getElem?_toList, hl]; exact hoj, fun e he hb => ?_⟩
       ·unfold listedB at hlj
        rw [Array.getD_eq_getD_getElem?] at hlj ⊢
        have : j < listed.size := by omega
        simp [this] at hlj ⊢
        exact hlj
       ·have hlt := D.low j _ hoj e (Array.mem_toList_iff.2 he) hb
        exact ih e.on hlt (by omega)
      rw [hr] at this; cases this
 have final : ∀ (listed : Array Bool) (t : PS) (a : Act) (w : World), (∀ j, j < l.length → listedB listed j = true) → PS.Eq t (foldE (listedB listed) 0 es s) → Rel B0 w0 t a w → Q .normal a w := by
  intro listed t a w hall ht hr
  refine hQ a w (PS.Eq.rel ?_ hr)
  refine ht.trans (PS.Eq.trans ?_ (hp.end hd hn).symm)
  rw [foldE_congrL (L' := fun _ => true) es 0 s fun k hk => by rw [Nat.zero_add]; exact hall k (by rw [← hp.len]; exact hk)]
  exact .refl _
 intro fuel
 induction fuel with
 | zero =>
   intro listed t a w hsz hcnt hcl hH ht hr
   have hall : ∀ j, j < l.length → listedB listed j = true := by
    intro j hj
    cases hlj : listedB listed j with
    | true => rfl
    | false =>
      have hm : false ∈ listed.toList := by
       unfold listedB at hlj
       rw [Array.getD_eq_getD_getElem?] at hlj
       have hjs : j < listed.size := by omega
       simp [hjs] at hlj
       rw [Array.mem_toList_iff]
       rw [← hlj]
       exact Array.getElem_mem hjs
      have : false ∈ listed.toList.filter (!·) := by simp [hm]
      have h0 : listed.toList.filter (!·) = [] := List.eq_nil_of_length_eq_zero (Nat.le_zero.1 hcnt)
      rw [h0] at this; cases this
   refine ⟨?_, final listed t a w hall ht hr⟩
   refine List.eq_nil_iff_forall_not_mem.2 fun j hj => ?_
   rw [mem_ready] at hj
   obtain ⟨h1, o, h2, _⟩ := hj
   have hjl : j < l.length := by rw [← hsize]; exact (Array.getElem?_eq_some_iff.1 h2).1
   have := hall j hjl
   unfold listedB at this
   rw [Array.getD_eq_getD_getElem?] at h1 this
   have hjs : j < listed.size := by omega
   simp [hjs] at h1 this
   rw [h1] at this; cases this
 | succ fuel ih =>
   intro listed t a w hsz hcnt hcl hH ht hr
   refine ⟨fun h0 => final listed t a w (stuck listed hsz h0) ht hr, fun i hi => ?_⟩
   rw [mem_ready] at hi
   obtain ⟨h1, o, h2, h3⟩ := hi
   have ho : l[i]? = some o := by rw [← hl, Array.getElem?_toList]; exact h2
   have hil : i < l.length := (List.getElem?_eq_some_iff.1 ho).1
   have his : i < listed.size := by omega
   have hLi : listedB listed i = false := by
    unfold listedB
    rw [Array.getD_eq_getD_getElem?] at h1 ⊢
    simp [his] at h1 ⊢
    exact h1
   obtain ⟨t', hop, ht'⟩ := any_step hl D hp hn hcl ho hLi (.inl hH) (fun e he hb => h3 e (Array.mem_toList_iff.1 he) hb) ht
   have hfun : (fun j => if j = i then true else listedB listed j) = listedB (listed.setIfInBounds i true) := by
    funext j; exact (listed_set his j).symm
   rw [hfun] at ht'
   have hcl' : Closed l (listedB (listed.setIfInBounds i true)) := by
    intro j oj hoj hLj e he hb
    rw [listed_set his] at hLj ⊢
    split
    ·rfl
    ·by_cases hji : j = i
     ·subst hji
      rw [ho] at hoj
      obtain rfl := Option.some.inj hoj
      exact h3 e (Array.mem_toList_iff.1 he) hb
     ·rw [if_neg hji] at hLj
      exact hcl j oj hoj hLj e he hb
   have hcnt' : ((listed.setIfInBounds i true).toList.filter (!·)).length ≤ fuel := by
    have : listed.toList[i]? = some false := by
     unfold listedB at hLi
     rw [Array.getD_eq_getD_getElem?] at hLi
     simp [his] at hLi
     rw [Array.getElem?_toList, Array.getElem?_eq_getElem his, hLi]
    have := count_set listed.toList i this
    rw [Array.toList_setIfInBounds]
    omega
   have := hop B0 w0 a w hr (wpAnyIn (FR w0.ro) 0 P .any ops Q fuel (listed.setIfInBounds i true)) Q fun a' w' hr' =>
    ih (listed.setIfInBounds i true) t' a' w' (by rw [Array.size_setIfInBounds]; exact hsz) hcnt' hcl' (fun k hk => by rw [listed_set his]; split <;> simp [hH k hk]) ht' hr'
   unfold wpOpIn
   rw [h2]
   simp only []
   split
   ·rename_i hw; rw [if_pos hw] at this; exact this
   ·rename_i hw; rw [if_neg hw] at this; exact ⟨fun _ _ => trivial, this⟩
end
def listedTo (n i : Nat) : Array Bool := (Array.replicate n false).mapIdx fun j _ => Nat.blt j i
theorem listedTo_size {n i : Nat} : (listedTo n i).size = n := by simp [listedTo]
theorem listedTo_at {n i : Nat} (hi : i ≤ n) (k : Nat) : listedB (listedTo n i) k = Nat.blt k i := by
 unfold listedB listedTo
 rw [Array.getD_eq_getD_getElem?]
 by_cases hk : k < n
 ·simp [hk]
 ·have : ¬ k < i := by omega
  have e : Nat.blt k i = false := by
   cases hq : Nat.blt k i with
   | false => rfl
   | true => exact absurd (Nat.blt_eq ▸ hq) this
  simp [hk, e]
theorem listedTo_set {n i : Nat} : (listedTo n i).setIfInBounds i true = listedTo n (i + 1) := by
 apply Array.ext
 ·simp [listedTo]
 ·intro k h1 h2
  have h0 : k < (listedTo n i).size := by simpa using h1
  rw [Array.getElem_setIfInBounds h0]
  simp only [listedTo, Array.getElem_mapIdx]
  by_cases e : i = k
  ·subst e
   simp only [if_true]
   exact (Nat.blt_eq ▸ Nat.lt_succ_self i : Nat.blt i (i + 1) = true).symm
  ·rw [if_neg e]
   have : (k < i) = (k < i + 1) := by apply propext; omega
   have hb : ∀ a b, Nat.blt a b = decide (a < b) := fun a b => by
    cases hq : Nat.blt a b with
    | true => exact (decide_eq_true (Nat.blt_eq ▸ hq)).symm
    | false => refine (decide_eq_false fun h => ?_).symm; rw [(Nat.blt_eq ▸ h : Nat.blt a b = true)] at hq; cases hq
   rw [hb, hb]
   simp [this]
theorem hoists_spec {P : Program} {ops : Array Oper} : ∀ {l : List Oper} {i : Nat}, l = ops.toList.drop i → ∀ k, i ≤ k → k < hoists P ops i l → ∃ o, ops[k]? = some o ∧ isFirst P ops k o = true
 | [], i, _, k, h1, h2 => by unfold hoists at h2; omega
 | o :: l, i, hl, k, h1, h2 => by
   unfold hoists at h2
   have ho : ops[i]? = some o := by
    have : (ops.toList.drop i)[0]? = some o := by rw [← hl]; rfl
    rw [List.getElem?_drop, Nat.add_zero, Array.getElem?_toList] at this
    exact this
   cases hf : isFirst P ops i o with
   | false => rw [hf] at h2; simp only [cond_false] at h2; omega
   | true =>
     rw [hf] at h2
     simp only [cond_true] at h2
     by_cases e : k = i
     ·subst e; exact ⟨o, ho, hf⟩
     ·refine hoists_spec (l := l) (i := i + 1) ?_ k (by omega) h2
      have : l = (ops.toList.drop i).drop 1 := by rw [← hl]; rfl
      rw [this, List.drop_drop]
theorem fieldAt_any {P : Program} {T : TypeId} {x : Value} {f : Nat} (hb : fieldBig P T f = true) {w w' : World} {u : Value} (h : (Instr.fieldAt T x f).run P w = .ok u w') (v : World) : (Instr.fieldAt T x f).run P v = .ok u v := by
 unfold fieldBig at hb
 split at hb
 ·rename_i fs hu
  split at hb
  ·rename_i fd hf
   have hpos : 0 < P.cellsOf fd.type := by rw [Nat.blt_eq] at hb; exact hb
   have hinfo : (P.info? fd.type).isSome = true := by
    cases hi : P.info? fd.type with
    | none => simp [Program.cellsOf, hi] at hpos
    | some i => rfl
   have hplace : ∀ (w : World) (a : Addr), (fieldPlace a fd).run P w = .ok (a.add fd.offset) w := by
    intro w a
    unfold fieldPlace
    rw [Sem.run_bind, run_sizeOf' hinfo]
    simp only [Result.andThen_ok, show ¬ P.cellsOf fd.type = 0 by omega, if_false, Sem.run_pure]
   cases x <;> first | (simp [Instr.fieldAt, run_underlying hu, hf, Instr.sureAddr] at h; done) | skip
   rename_i oa
   cases oa with
   | none => simp [Instr.fieldAt, run_underlying hu, hf, Instr.sureAddr] at h
   | some a =>
     simp [Instr.fieldAt, run_underlying hu, hf, Instr.sureAddr, hplace] at h ⊢
     exact h.1
  ·cases hb
 ·cases hb
theorem hoist_ok {P : Program} {ops : Array Oper} {n : Nat} {ms : List Nat} (D : Drawn hh hsrc n ops.toList ms) {s s' : PS} {es : List Eff} (hp : Path P hsrc ops ms 0 ops.toList s es s') (hn : s.n = n) {B0 : Nat} {w0 : Base} {Q : Exit → Act → World → Prop} (hQ : ∀ a' w', Rel B0 w0 s' a' w' → Q .normal a' w')
 (hpan : ∀ c a w, ¬ Q (.panic c) a w) (hhz : hh = 0 ∨ (Region.noSelect ops = true ∧ hh = hoists P ops 0 ops.toList)) (hro : hh ≠ 0 → w0.ro = none) : ∀ (d i : Nat), i + d = hh → i ≤ ops.size → ∀ (t : PS) (a : Act) (w : World), PS.Eq t (foldE (fun k => Nat.blt k i) 0 es s) → Rel B0 w0 t a w →
 wpAnyIn (FR w0.ro) 0 P .any ops Q (ops.size - i) (listedTo ops.size i) a w
 | 0, i, hid, hi, t, a, w, ht, hr => by
   have hL : listedB (listedTo ops.size i) = fun k => Nat.blt k i := funext fun k => listedTo_at hi k
   refine any_ok rfl D hp hn hQ _ _ t a w (by rw [listedTo_size]; simp) ?_ (fun j o ho hLj e he hb => ?_) (fun k hk => ?_) (by rw [hL]; exact ht) hr
   ·have : ∀ (m i : Nat), i ≤ m → ((listedTo m i).toList.filter (!·)).length ≤ m - i := by
     intro m i him
     have e : (listedTo m i).toList = List.replicate i true ++ List.replicate (m - i) false := by
      apply List.ext_getElem?
      intro k
      rw [Array.getElem?_toList]
      by_cases hk : k < m
      ·have h1 : (listedTo m i)[k]? = some (Nat.blt k i) := by simp [listedTo, hk]
       rw [h1]
       by_cases hki : k < i
       ·rw [List.getElem?_append_left (by simpa using hki), List.getElem?_replicate, if_pos hki, (Nat.blt_eq ▸ hki : Nat.blt k i = true)]
       ·rw [List.getElem?_append_right (by simp; omega), List.getElem?_replicate, if_pos (by simp; omega)]
        congr 1
        cases hq : Nat.blt k i with
        | false => rfl
        | true => exact absurd (Nat.blt_eq ▸ hq) hki
      ·rw [Array.getElem?_eq_none (by rw [listedTo_size]; omega), List.getElem?_eq_none (by simp; omega)]
     rw [e, List.filter_append, List.length_append]
     simp
    exact this _ _ hi
   ·have hlt := D.low j o ho e he hb
    rw [hL] at hLj ⊢
    have hLj : j < i := Nat.blt_eq ▸ hLj
    exact (Nat.blt_eq ▸ (by omega : e.on < i) : Nat.blt e.on i = true)
   ·rw [hL]; exact (Nat.blt_eq ▸ (by omega : k < i) : Nat.blt k i = true)
 | d + 1, i, hid, hi, t, a, w, ht, hr => by
   have hne : hh ≠ 0 := by omega
   obtain ⟨hsel, hho⟩ := hhz.resolve_left hne
   obtain ⟨o, ho, hf⟩ := hoists_spec (P := P) (l := ops.toList) (i := 0) rfl i (Nat.zero_le _) (by omega)
   have hio : i < ops.size := (Array.getElem?_eq_some_iff.1 ho).1
   have hol : ops.toList[i]? = some o := by rw [Array.getElem?_toList]; exact ho
   simp only [isFirst, Bool.and_eq_true] at hf
   obtain ⟨hmv, hg, haft, hfree⟩ := hf
   have hg : o.guard = none := by simpa using hg
   have haft : o.after = #[] := by simpa using haft
   have hL : listedB (listedTo ops.size i) = fun k => Nat.blt k i := funext fun k => listedTo_at hi k
   have hLi : (fun k => Nat.blt k i) i = false := by
    show Nat.blt i i = false
    cases hq : Nat.blt i i with
    | false => rfl
    | true => have : i < i := Nat.blt_eq ▸ hq; omega
   obtain ⟨t', hop, ht'⟩ := any_step rfl D hp hn (L := fun k => Nat.blt k i) (fun j o ho hLj e he hb => by
    have hlt := D.low j o ho e he hb
    have hLj : j < i := Nat.blt_eq ▸ hLj
    exact (Nat.blt_eq ▸ (by omega : e.on < i) : Nat.blt e.on i = true)) hol hLi (.inr fun k => by show Nat.blt k i = true ↔ k < i; rw [Nat.blt_eq]) (fun e he => by rw [haft] at he; cases he) ht
   have hwant : Region.wanted o (yielded ops a.tmps) = true := by simp [Region.wanted, hg]
   have hstep := hop B0 w0 a w hr (fun a' w' => Rel B0 w0 t' a' w') (fun _ _ _ => False) (fun _ _ h => h)
   rw [if_pos hwant] at hstep
   obtain ⟨v, hab, hrun, hr'⟩ : ∃ v, (∀ w, o.about P w a.eval = none) ∧ (∀ w, (execOp a.eval o).run P w = .ok (.value v) w) ∧ Rel B0 w0 t' (a.put o.dst v) w := by
    split at hmv
    ·rename_i u hx
     have hrun : ∀ w, (execOp a.eval o).run P w = .ok (.value (a.eval (.tmp u))) w := fun w => by simp [execOp, hx]
     refine ⟨_, fun w => by simp [Oper.about, hx], hrun, ?_⟩
     have h2 := hstep.2
     rw [Oper.semAt_eq _ _ _ (fun c e => by rw [hx] at e; cases e), hrun w] at h2
     exact h2
    ·rename_i T u f hx
     have h2 := hstep.2
     rw [Oper.semAt_eq _ _ _ (fun c e => by rw [hx] at e; cases e)] at h2
     have hex : ∀ w, (execOp a.eval o).run P w = ((Instr.fieldAt T (a.eval (.tmp u)) f).run P w).andThen fun y w' => .ok (.value y) w' := fun w => by
      simp [execOp, hx]
     cases hy : (Instr.fieldAt T (a.eval (.tmp u)) f).run P w with
     | halt y w' =>
       rw [hex w, hy] at h2
       cases y <;> exact absurd h2 (by simp [Result.andThen, Oper.uponIn])
     | ok y w' =>
       have hall := fieldAt_any hmv hy
       obtain ⟨rfl⟩ : w' = w := by
        have := hall w
        rw [hy] at this
        exact (Result.ok.inj this).2
       have hrun : ∀ w, (execOp a.eval o).run P w = .ok (.value y) w := fun w => by rw [hex w, hall w]; rfl
       refine ⟨y, fun w => by simp [Oper.about, hx], hrun, ?_⟩
       rw [hrun w] at h2
       exact h2
    ·cases hmv
   have hfuel : ops.size - i = (ops.size - (i + 1)) + 1 := by omega
   rw [hfuel]
   refine wpAnyIn_take (i := i) (oi := o) (v := v) (hro hne) ho hsel hfree ?_ (fun c a w h => absurd h (hpan c _ w)) ⟨.inl ⟨hwant, hrun⟩, hab⟩ ?_
   ·rw [List.contains_iff_mem, mem_ready]
    refine ⟨?_, o, ho, fun e he => by rw [haft] at he; simp at he⟩
    rw [Array.getD_eq_getD_getElem?]
    have h1 : (listedTo ops.size i)[i]? = some false := by
     have : (listedTo ops.size i)[i]? = some (Nat.blt i i) := by simp [listedTo, hio]
     rw [this]
     exact congrArg some hLi
    rw [h1]; rfl
   ·have hset : (listedTo ops.size i).setIfInBounds i true = listedTo ops.size (i + 1) := listedTo_set
    have := hoist_ok D hp hn hQ hpan hhz hro d (i + 1) (by omega) hio t' _ w (ht'.trans (by
     have : (fun j => if j = i then true else Nat.blt j i) = fun k => Nat.blt k (i + 1) := by
      funext j
      by_cases e : j = i
      ·subst e; simp only [if_true]; exact (Nat.blt_eq ▸ Nat.lt_succ_self j : Nat.blt j (j + 1) = true).symm
      ·rw [if_neg e]
       cases hq : Nat.blt j i with
       | true => have : j < i := Nat.blt_eq ▸ hq; exact (Nat.blt_eq ▸ (by omega : j < i + 1) : Nat.blt j (i + 1) = true).symm
       | false =>
         cases hq2 : Nat.blt j (i + 1) with
         | false => rfl
         | true => have h2 : j < i + 1 := Nat.blt_eq ▸ hq2; have : Nat.blt j i = true := Nat.blt_eq ▸ (by omega : j < i); rw [hq] at this; cases this
     rw [this]; exact .refl _)) hr'
    rw [← hset] at this
    exact this
theorem draw_any {P : Program} {R : Type} {call : CallK R} (hns : NoSpecial P) (hcall : CallOk P R call) {ops : Array Oper} {ms : List Nat} (hms : ms = masksOf ops.toList []) {s : PS} (hhz : hh = 0 ∨ (Region.noSelect ops = true ∧ hh = hoists P ops 0 ops.toList)) (hd : drawOk hh hsrc s.n ops.toList ms = true)
 {k : PS → Option R} {r : R} (h : runDraw P R call hsrc ops.toList ms 0 ops.toList (dropFresh ops.toList s) k = some r) :
 ∃ s', k s' = some r ∧ ∀ B0 (w0 : Base) a w, Rel B0 w0 s a w → (hh ≠ 0 → w0.ro = none) → ∀ (Q : Exit → Act → World → Prop), (∀ a' w', Rel B0 w0 s' a' w' → Q .normal a' w') → wpAnyIn (FR w0.ro) 0 P .any ops (fun e a w => e = .normal ∧ Q .normal a w) ops.size (Array.replicate ops.size false) a { w with drawn := w.drawn + 1 } := by
 subst hms
 have D := drawn_of hd
 obtain ⟨es, s', h1, h2⟩ := runDraw_ok hns hcall D ops.toList 0 _ k r (by rw [List.drop_zero]) (dropFresh_n _ _) h
 refine ⟨s', h1, fun B0 w0 a w hr hro Q hQ => ?_⟩
 have hr' : Rel B0 w0 (dropFresh ops.toList s) a { w with drawn := w.drawn + 1 } := by
  obtain ⟨β, p, inv⟩ := dropFresh_rel (l := ops.toList) hr
  exact ⟨β, p, inv.world ⟨rfl, rfl, rfl, Nat.le_refl _, fun _ _ => rfl⟩⟩
 have hfalse : (fun k => Nat.blt k 0) = fun _ => false := funext fun k => by
  cases hq : Nat.blt k 0 with
  | false => rfl
  | true => have : k < 0 := Nat.blt_eq ▸ hq; omega
 have := hoist_ok D h2 (dropFresh_n _ _) (B0 := B0) (w0 := w0) (Q := fun e a w => e = .normal ∧ Q .normal a w) (fun a' w' h => ⟨rfl, hQ a' w' h⟩) (fun c a w h => by cases h.1) hhz hro hh 0 (Nat.zero_add _) (Nat.zero_le _) (dropFresh ops.toList s) a _ (by
  rw [hfalse, foldE_none _ _ _ fun k _ => rfl]; exact .refl _) hr'
 have e0 : listedTo ops.size 0 = Array.replicate ops.size false := by
  apply Array.ext
  ·simp [listedTo]
  ·intro k h1 h2
   simp only [listedTo, Array.getElem_mapIdx, Array.getElem_replicate]
   exact congrFun hfalse k
 rw [e0, Nat.sub_zero] at this
 exact this
theorem draw_ok {P : Program} {R : Type} {call : CallK R} (hns : NoSpecial P) (hm : P.follows .mixedOrders = true) (hcall : CallOk P R call) {ops : Array Oper} {ms : List Nat} (hms : ms = masksOf ops.toList []) {s : PS} (hhz : hh = 0 ∨ (Region.noSelect ops = true ∧ hh = hoists P ops 0 ops.toList)) (hd : drawOk hh hsrc s.n ops.toList ms = true)
 {k : PS → Option R} {r : R} (h : runDraw P R call hsrc ops.toList ms 0 ops.toList (dropFresh ops.toList s) k = some r) :
 ∃ s', k s' = some r ∧ ∀ B0 (w0 : Base) a w, Rel B0 w0 s a w → (hh ≠ 0 → w0.ro = none) → ∀ (Q : Exit → Act → World → Prop) id, (∀ a' w', Rel B0 w0 s' a' w' → Q .normal a' w') → (Code.region id ops true).wpIn (FR w0.ro) 0 P Q a w := by
 obtain ⟨s', h1, h2⟩ := draw_any hns hcall hms hhz hd h
 exact ⟨s', h1, fun B0 w0 a w hr hro Q id hQ => Code.wpIn_mono (Q := fun e a w => e = .normal ∧ Q .normal a w) (fun e a w h => h.1 ▸ h.2) (wpIn_region_any hm (h2 B0 w0 a w hr hro Q hQ))⟩
theorem renum_wp {F : Fence} {n : Nat} {P : Program} {pos : Nat → Nat} {o : Oper} {a : Act} {w : World} {K : Act → World → Prop} {Q : Exit → Act → World → Prop} (h : (renumO pos o).wpIn F n P a w K Q) : o.wpIn F n P a w K Q := by
 cases o
 exact h
theorem mem_bindL {o : Oper} {e : Edge} : e ∈ bindL o ↔ e ∈ o.after ∧ Region.binds .any e = true := by
 unfold bindL
 rw [List.mem_filter, Array.mem_toList_iff]
theorem renum_after {pos : Nat → Nat} {o : Oper} {e : Edge} (h : e ∈ (renumO pos o).after) : ∃ d, d ∈ o.after ∧ Region.binds .any d = true ∧ e.on = pos d.on := by
 unfold renumO at h
 simp only [List.mem_toArray, List.mem_map] at h
 obtain ⟨d, hd, rfl⟩ := h
 obtain ⟨h1, h2⟩ := mem_bindL.1 hd
 exact ⟨d, h1, h2, rfl⟩
section
variable {F : Fence} {n : Nat} {P : Program} {ops ops' : Array Oper} {Q : Exit → Act → World → Prop} {pos : Nat → Nat}
theorem ready_pos (hpos : ∀ (i : Nat) (o : Oper), ops[i]? = some o → ops'[pos i]? = some (renumO pos o) ∧ o.guard = none) (hedge : ∀ (i : Nat) (o : Oper), ops[i]? = some o → ∀ e ∈ o.after, Region.binds .any e = true → e.on < ops.size)
 {L L' : Array Bool} (_ : L.size = ops.size) (hrel : ∀ i, i < ops.size → L'[pos i]? = L[i]?) {i : Nat} (hi : i ∈ Region.ready .any ops L) : pos i ∈ Region.ready .any ops' L' := by
 rw [mem_ready] at hi ⊢
 obtain ⟨h0, o, ho, hall⟩ := hi
 have hlt : i < ops.size := (Array.getElem?_eq_some_iff.1 ho).1
 refine ⟨?_, renumO pos o, (hpos i o ho).1, fun e he _ => ?_⟩
 ·rw [Array.getD_eq_getD_getElem?, hrel i hlt, ← Array.getD_eq_getD_getElem?]; exact h0
 ·obtain ⟨d, h1, h2, h3⟩ := renum_after he
  have hd := hedge i o ho d h1 h2
  rw [h3, Array.getD_eq_getD_getElem?, hrel _ hd, ← Array.getD_eq_getD_getElem?]
  exact hall d h1 h2
theorem perm_any (hpos : ∀ (i : Nat) (o : Oper), ops[i]? = some o → ops'[pos i]? = some (renumO pos o) ∧ o.guard = none) (hedge : ∀ (i : Nat) (o : Oper), ops[i]? = some o → ∀ e ∈ o.after, Region.binds .any e = true → e.on < ops.size)
 (hinj : ∀ i j : Nat, i < ops.size → j < ops.size → pos i = pos j → i = j) (hsur : ∀ k : Nat, k < ops'.size → ∃ i, i < ops.size ∧ pos i = k) : ∀ (fuel : Nat) (L L' : Array Bool) (a : Act) (w : World), L.size = ops.size → (∀ i, i < ops.size → L'[pos i]? = L[i]?) →
 wpAnyIn F n P .any ops' Q fuel L' a w → wpAnyIn F n P .any ops Q fuel L a w := by
 intro fuel
 have empty : ∀ L L' : Array Bool, L.size = ops.size → (∀ i, i < ops.size → L'[pos i]? = L[i]?) → Region.ready .any ops' L' = [] → Region.ready .any ops L = [] := by
  intro L L' hL hrel h
  cases hr : Region.ready .any ops L with
  | nil => rfl
  | cons x xs =>
    have := ready_pos hpos hedge hL hrel (i := x) (by rw [hr]; exact List.mem_cons_self)
    rw [h] at this
    cases this
 have noneLeft : ∀ L L' : Array Bool, L.size = ops.size → (∀ i, i < ops.size → L'[pos i]? = L[i]?) → Region.ready .any ops L = [] → Region.ready .any ops' L' = [] := by
  intro L L' hL hrel h
  cases hr : Region.ready .any ops' L' with
  | nil => rfl
  | cons k ks =>
    obtain ⟨h0, o', ho', hall⟩ := mem_ready.1 (show k ∈ Region.ready .any ops' L' by rw [hr]; exact List.mem_cons_self)
    obtain ⟨i, hi, rfl⟩ := hsur k (Array.getElem?_eq_some_iff.1 ho').1
    obtain ⟨g1, g2⟩ := hpos i ops[i] (Array.getElem?_eq_getElem hi)
    rw [g1] at ho'
    obtain rfl := Option.some.inj ho'
    have : i ∈ Region.ready .any ops L := by
     rw [mem_ready]
     refine ⟨by rw [Array.getD_eq_getD_getElem?, ← hrel i hi, ← Array.getD_eq_getD_getElem?]; exact h0, ops[i], Array.getElem?_eq_getElem hi, fun d hd hb => ?_⟩
     have hd2 := hedge i ops[i] (Array.getElem?_eq_getElem hi) d hd hb
     rw [Array.getD_eq_getD_getElem?, ← hrel _ hd2, ← Array.getD_eq_getD_getElem?]
     refine hall { d with on := pos d.on } ?_ hb
     unfold renumO
     simp only [List.mem_toArray, List.mem_map]
     exact ⟨d, mem_bindL.2 ⟨hd, hb⟩, rfl⟩
    rw [h] at this
    cases this
 induction fuel with
 | zero =>
   intro L L' a w hL hrel h
   exact ⟨empty L L' hL hrel h.1, h.2⟩
 | succ fuel ih =>
   intro L L' a w hL hrel h
   refine ⟨fun hr => ?_, fun i hi => ?_⟩
   ·exact h.1 (noneLeft L L' hL hrel hr)
   ·obtain ⟨h0, o, ho, hall⟩ := mem_ready.1 hi
    have hlt : i < ops.size := (Array.getElem?_eq_some_iff.1 ho).1
    obtain ⟨g1, g2⟩ := hpos i o ho
    have h1 := h.2 (pos i) (ready_pos hpos hedge hL hrel hi)
    unfold wpOpIn at h1 ⊢
    rw [g1] at h1
    rw [ho]
    have hw : ∀ y, Region.wanted o y = true := fun y => by simp [Region.wanted, g2]
    have hw' : ∀ y, Region.wanted (renumO pos o) y = true := fun y => by
     have : (renumO pos o).guard = none := g2
     simp [Region.wanted, this]
    simp only [hw, hw', if_true] at h1 ⊢
    refine Oper.wpIn_mono (fun a' w' hk => ih (L.setIfInBounds i true) (L'.setIfInBounds (pos i) true) a' w' (by rw [Array.size_setIfInBounds]; exact hL) (fun j hj => ?_) hk) (renum_wp h1)
    rw [Array.getElem?_setIfInBounds, Array.getElem?_setIfInBounds]
    by_cases e : i = j
    ·subst e
     have h2 := hrel i hlt
     have h3 : i < L.size := by rw [hL]; exact hlt
     have h4 : pos i < L'.size := by
      rw [Array.getElem?_eq_getElem h3] at h2
      exact (Array.getElem?_eq_some_iff.1 h2).1
     simp [h3, h4]
    ·have e2 : ¬ pos i = pos j := fun h => e (hinj i j hlt hj h)
     simp only [e, e2, if_false]
     exact hrel j hj
end
theorem sort_ok {P : Program} {R : Type} {call : CallK R} (hns : NoSpecial P) (hm : P.follows .mixedOrders = true) (hcall : CallOk P R call) {ops : Array Oper} {s : PS} (hs : sortsOk ops = true) (hhz : hh = 0 ∨ (Region.noSelect (sortOps ops) = true ∧ hh = hoists P (sortOps ops) 0 (sortOps ops).toList)) (hd : drawOk hh hsrc s.n (sortOps ops).toList (masksOf (sortOps ops).toList []) = true)
 {k : PS → Option R} {r : R} (h : runDraw P R call hsrc (sortOps ops).toList (masksOf (sortOps ops).toList []) 0 (sortOps ops).toList (dropFresh (sortOps ops).toList s) k = some r) :
 ∃ s', k s' = some r ∧ ∀ B0 (w0 : Base) a w, Rel B0 w0 s a w → (hh ≠ 0 → w0.ro = none) → ∀ (Q : Exit → Act → World → Prop) id, (∀ a' w', Rel B0 w0 s' a' w' → Q .normal a' w') → (Code.region id ops true).wpIn (FR w0.ro) 0 P Q a w := by
 obtain ⟨s', h1, h2⟩ := draw_any hns hcall rfl hhz hd h
 refine ⟨s', h1, fun B0 w0 a w hr hro Q id hQ => Code.wpIn_mono (Q := fun e a w => e = .normal ∧ Q .normal a w) (fun e a w h => h.1 ▸ h.2) (wpIn_region_any hm ?_)⟩
 have h3 := h2 B0 w0 a w hr hro Q hQ
 unfold sortsOk at hs
 simp only [Bool.and_eq_true, List.all_eq_true, List.mem_range] at hs
 obtain ⟨hlen, hat, hsur, hops⟩ := hs
 have hlen : (orderQ ops.toList).length = ops.size := by simpa using hlen
 generalize hq : orderQ ops.toList = q at *
 have hats : ∀ i, i < ops.size → q[posQ q i]? = some i := fun i hi => by
  have := hat i hi
  split at this
  ·rename_i j hj
   have : j = i := by simpa using this
   rw [hj, this]
  ·cases this
 have hsort : ∀ (i : Nat) (o : Oper), ops[i]? = some o → (sortOps ops)[posQ q i]? = some (renumO (posQ q) o) := by
  intro i o ho
  have hi : i < ops.size := (Array.getElem?_eq_some_iff.1 ho).1
  have h0 : 0 < ops.size := by omega
  unfold sortOps
  rw [Array.getElem?_eq_getElem h0]
  simp only [hq]
  rw [List.getElem?_toArray, List.getElem?_map, hats i hi]
  simp only [Option.map_some]
  congr 2
  rw [List.getD_eq_getElem?_getD, Array.getElem?_toList, ho]
  rfl
 have hsize : (sortOps ops).size = ops.size := by
  unfold sortOps
  by_cases h0 : 0 < ops.size
  ·rw [Array.getElem?_eq_getElem h0]
   simp only [hq, List.size_toArray, List.length_map, hlen]
  ·rw [Array.getElem?_eq_none (by omega)]
   simp only [List.size_toArray, List.length_nil]
   omega
 have hall : ∀ (i : Nat) (o : Oper), ops[i]? = some o → o.guard = none ∧ ∀ e ∈ o.after, Region.binds .any e = true → e.on < ops.size := by
  intro i o ho
  have := hops o (by rw [Array.mem_toList_iff]; exact Array.mem_of_getElem? ho)
  refine ⟨by simpa using this.1, fun e he hb => ?_⟩
  have h4 := this.2 e (mem_bindL.2 ⟨he, hb⟩)
  rw [Nat.blt_eq] at h4
  exact h4
 rw [hsize] at h3
 refine perm_any (pos := posQ q) (fun i o ho => ⟨hsort i o ho, (hall i o ho).1⟩) (fun i o ho => (hall i o ho).2) (fun i j hi hj e => ?_) (fun k hk => ?_) ops.size _ _ a _ (by simp) (fun i hi => ?_) h3
 ·have a1 := hats i hi
  have a2 := hats j hj
  rw [e, a2] at a1
  exact (Option.some.inj a1).symm
 ·rw [hsize] at hk
  have := hsur k hk
  split at this
  ·rename_i i hi
   simp only [Bool.and_eq_true, Nat.blt_eq] at this
   exact ⟨i, this.1, by simpa using this.2⟩
  ·cases this
 ·have hp : posQ q i < ops.size := by
   rw [← hlen]
   exact (List.getElem?_eq_some_iff.1 (hats i hi)).1
  simp [hi, hp]
end Go.Ev
end
