/- What a list of effects makes of a state, each taken or not. -/
import Derived.Test.YtinkhmfciealkaaDraw1
set_option linter.unusedSimpArgs false
namespace Go.Ev
open Go.RowKit

inductive Eff where
  | put (d : Option Tmp) (x : SV)
  | new (d : Tmp) (x : SV) (b : Blk)
  | wr (u : Nat) (b : Blk)
  | all (s : PS)

def Eff.app : Eff → PS → PS
  | .put d x, s => s.put d x
  | .new d x b, s => (s.setT d x).setB d b
  | .wr u b, s => s.setB u b
  | .all s', _ => s'

/-- Two states that show the same. -/
structure PS.Eq (s t : PS) : Prop where
  n : s.n = t.n
  get : ∀ u, s.get u = t.get u
  blk : ∀ u, s.blk u = t.blk u

theorem PS.Eq.refl (s : PS) : PS.Eq s s := ⟨rfl, fun _ => rfl, fun _ => rfl⟩
theorem PS.Eq.symm {s t : PS} (h : PS.Eq s t) : PS.Eq t s := ⟨h.n.symm, fun u => (h.get u).symm, fun u => (h.blk u).symm⟩
theorem PS.Eq.trans {s t u : PS} (h : PS.Eq s t) (h' : PS.Eq t u) : PS.Eq s u := ⟨h.n.trans h'.n, fun v => (h.get v).trans (h'.get v), fun v => (h.blk v).trans (h'.blk v)⟩

theorem PS.Eq.rel {s t : PS} (h : PS.Eq s t) {B0 : Nat} {w0 : Base} {a : Act} {w : World} (hr : Rel B0 w0 s a w) : Rel B0 w0 t a w := by
  obtain ⟨β, p, inv⟩ := hr
  have hb : s.blk = t.blk := funext h.blk
  refine ⟨β, p, ⟨inv.size.trans h.n, h.n ▸ inv.deep, inv.defers, inv.ext, inv.base, inv.shared, inv.conf, inv.inj, fun u => ?_, fun u v hv => ?_⟩⟩
  · have := inv.blks u
    rw [← hb, ← h.n]; exact this
  · have := inv.slots u v hv
    rw [← hb, ← h.get u]; exact this

theorem put_get {s : PS} (hd : s.n ≤ 4000) (d : Option Tmp) (x : SV) (u : Nat) : (s.put d x).get u = if d = some u ∧ u < s.n then x else s.get u := by
  cases d with
  | none => simp [PS.put]
  | some d =>
    by_cases h : d < s.n
    · have hlt : Nat.blt d s.n = true := by simp [h]
      simp only [PS.put, hlt, cond_true, PS.get_setT x (lt_depth h hd)]
      by_cases e : u = d
      · subst e; simp [h]
      · have : ¬ d = u := fun h => e h.symm
        simp [e, this]
    · rw [put_out h, if_neg (by rintro ⟨e, hu⟩; obtain rfl := Option.some.inj e; exact h hu)]
theorem put_n (s : PS) (d : Option Tmp) (x : SV) : (s.put d x).n = s.n := by
  cases d with
  | none => rfl
  | some d => simp only [PS.put]; cases Nat.blt d s.n <;> rfl
theorem put_blk (s : PS) (d : Option Tmp) (x : SV) (u : Nat) : (s.put d x).blk u = s.blk u := by
  cases d with
  | none => rfl
  | some d => simp only [PS.put]; cases Nat.blt d s.n <;> rfl

/-- An effect within so many slots. -/
def Eff.Ok (n : Nat) : Eff → Prop
  | .put _ _ => True
  | .new d _ _ => d < n
  | .wr u _ => u < n
  | .all s => s.n = n

section
variable {n : Nat}

theorem Eff.app_n {e : Eff} {s : PS} (he : e.Ok n) (hs : s.n = n) : (e.app s).n = n := by
  cases e with
  | put d x => exact (put_n s d x).trans hs
  | new d x b => exact hs
  | wr u b => exact hs
  | all s' => exact he

theorem Eff.app_congr {e : Eff} {s t : PS} (hn : n ≤ 4000) (he : e.Ok n) (hs : s.n = n) (h : PS.Eq s t) : PS.Eq (e.app s) (e.app t) := by
  have ht : t.n = n := h.n.symm.trans hs
  cases e with
  | put d x =>
    refine ⟨by simp only [Eff.app, put_n]; exact h.n, fun u => ?_, fun u => by simp only [Eff.app, put_blk]; exact h.blk u⟩
    simp only [Eff.app]
    rw [put_get (by omega), put_get (by omega), h.n, h.get u]
  | new d x b =>
    have hdep := lt_depth he hn
    refine ⟨h.n, fun u => ?_, fun u => ?_⟩
    · simp only [Eff.app, PS.get_setB, PS.get_setT x hdep, h.get u]
    · simp only [Eff.app, PS.blk_setB b hdep, PS.blk_setT, h.blk u]
  | wr v b =>
    have hdep := lt_depth he hn
    refine ⟨h.n, fun u => h.get u, fun u => ?_⟩
    simp only [Eff.app, PS.blk_setB b hdep, h.blk u]
  | all s' => exact .refl _

/-- Those of a list that are taken, one behind the other. -/
def foldE (L : Nat → Bool) : Nat → List Eff → PS → PS
  | _, [], s => s
  | i, e :: es, s => foldE L (i + 1) es (if L i = true then e.app s else s)

theorem foldE_append (L : Nat → Bool) : ∀ (es fs : List Eff) (i : Nat) (s : PS), foldE L i (es ++ fs) s = foldE L (i + es.length) fs (foldE L i es s)
  | [], fs, i, s => rfl
  | e :: es, fs, i, s => by
    simp only [List.cons_append, foldE, foldE_append L es fs, List.length_cons]
    rw [Nat.add_assoc, Nat.add_comm 1]

theorem foldE_congrL {L L' : Nat → Bool} : ∀ (es : List Eff) (i : Nat) (s : PS), (∀ k, k < es.length → L (i + k) = L' (i + k)) → foldE L i es s = foldE L' i es s
  | [], _, _, _ => rfl
  | e :: es, i, s, h => by
    have h0 := h 0 (by simp)
    simp only [Nat.add_zero] at h0
    simp only [foldE, h0]
    exact foldE_congrL es (i + 1) _ fun k hk => by have := h (k + 1) (by simp; omega); rwa [Nat.add_assoc, Nat.add_comm 1]

theorem foldE_none {L : Nat → Bool} : ∀ (es : List Eff) (i : Nat) (s : PS), (∀ k, k < es.length → L (i + k) = false) → foldE L i es s = s
  | [], _, _, _ => rfl
  | e :: es, i, s, h => by
    have h0 := h 0 (by simp)
    simp only [Nat.add_zero] at h0
    simp only [foldE, h0, Bool.false_eq_true, if_false]
    exact foldE_none es (i + 1) _ fun k hk => by have := h (k + 1) (by simp; omega); rwa [Nat.add_assoc, Nat.add_comm 1]

theorem foldE_n {L : Nat → Bool} : ∀ (es : List Eff) (i : Nat) (s : PS), (∀ e ∈ es, e.Ok n) → s.n = n → (foldE L i es s).n = n
  | [], _, _, _, hs => hs
  | e :: es, i, s, h, hs => by
    refine foldE_n es (i + 1) _ (fun f hf => h f (by simp [hf])) ?_
    split
    · exact Eff.app_n (h e (by simp)) hs
    · exact hs

theorem foldE_eq {L : Nat → Bool} (hn : n ≤ 4000) : ∀ (es : List Eff) (i : Nat) (s t : PS), (∀ e ∈ es, e.Ok n) → s.n = n → PS.Eq s t → PS.Eq (foldE L i es s) (foldE L i es t)
  | [], _, _, _, _, _, h => h
  | e :: es, i, s, t, he, hs, h => by
    simp only [foldE]
    split
    · exact foldE_eq hn es (i + 1) _ _ (fun f hf => he f (by simp [hf])) (Eff.app_n (he e (by simp)) hs) (Eff.app_congr hn (he e (by simp)) hs h)
    · exact foldE_eq hn es (i + 1) _ _ (fun f hf => he f (by simp [hf])) hs h

/-- Two effects in either order. -/
def Eff.Comm (n : Nat) (e f : Eff) : Prop := ∀ u : PS, u.n = n → PS.Eq (f.app (e.app u)) (e.app (f.app u))

theorem foldE_comm {L : Nat → Bool} (hn : n ≤ 4000) {e : Eff} (he : e.Ok n) : ∀ (es : List Eff) (i : Nat) (u u' : PS), (∀ f ∈ es, f.Ok n) → (∀ k f, es[k]? = some f → L (i + k) = true → Eff.Comm n e f) → u.n = n → PS.Eq u' (e.app u) →
    PS.Eq (foldE L i es u') (e.app (foldE L i es u))
  | [], _, _, _, _, _, _, h => h
  | f :: es, i, u, u', hok, hc, hu, h => by
    have hc' : ∀ k g, es[k]? = some g → L (i + 1 + k) = true → Eff.Comm n e g := fun k g hg hL => hc (k + 1) g (by simpa using hg) (by rwa [Nat.add_comm k, ← Nat.add_assoc])
    have hok' : ∀ g ∈ es, g.Ok n := fun g hg => hok g (by simp [hg])
    have hu' : u'.n = n := h.n.trans (Eff.app_n he hu)
    simp only [foldE]
    split
    · rename_i hL
      refine foldE_comm hn he es (i + 1) (f.app u) (f.app u') hok' hc' (Eff.app_n (hok f (by simp)) hu) ?_
      exact (Eff.app_congr hn (hok f (by simp)) hu' h).trans (hc 0 f rfl (by simpa using hL) u hu)
    · exact foldE_comm hn he es (i + 1) u u' hok' hc' hu h

/-- A block that none of the effects taken touches stays free. -/
def Eff.Off (d : Nat) : Eff → Prop
  | .put _ _ => True
  | .new d' _ _ => d' ≠ d
  | .wr u _ => u ≠ d
  | .all s => s.blk d = .free

theorem foldE_free {L : Nat → Bool} (hn : n ≤ 4000) {d : Nat} : ∀ (es : List Eff) (i : Nat) (u : PS), (∀ f ∈ es, f.Ok n) → (∀ k f, es[k]? = some f → L (i + k) = true → f.Off d) → u.blk d = .free → (foldE L i es u).blk d = .free
  | [], _, _, _, _, h => h
  | f :: es, i, u, hok, hc, h => by
    have hc' : ∀ k g, es[k]? = some g → L (i + 1 + k) = true → g.Off d := fun k g hg hL => hc (k + 1) g (by simpa using hg) (by rwa [Nat.add_comm k, ← Nat.add_assoc])
    simp only [foldE]
    refine foldE_free hn es (i + 1) _ (fun g hg => hok g (by simp [hg])) hc' ?_
    split
    · rename_i hL
      have := hc 0 f rfl (by simpa using hL)
      have hk := hok f (by simp)
      cases f with
      | put d' x => simp only [Eff.app, put_blk]; exact h
      | new d' x b =>
        have hne : ¬ d = d' := fun e => this e.symm
        simp only [Eff.app, PS.blk_setB b (lt_depth hk hn), if_neg hne, PS.blk_setT]; exact h
      | wr v b =>
        have hne : ¬ d = v := fun e => this e.symm
        simp only [Eff.app, PS.blk_setB b (lt_depth hk hn), if_neg hne]; exact h
      | all s' => exact this
    · exact h

/-- What an operation looks at is the same in two states. -/
structure Agr (xs : List Tmp) (hp : Prop) (hid : Nat → Prop) (u v : PS) : Prop where
  n : u.n = v.n
  get : ∀ σ, σ ∈ xs → u.get σ = v.get σ
  blk : hp → ∀ b, ¬ hid b → v.blk b ≠ .free → u.blk b = v.blk b

variable {xs : List Tmp} {hp : Prop} {hid : Nat → Prop}

theorem Agr.both (hn : n ≤ 4000) {e : Eff} (he : e.Ok n) {u v : PS} (hv : v.n = n) (h : Agr xs hp hid u v) : Agr xs hp hid (e.app u) (e.app v) := by
  have hu : u.n = n := h.n.trans hv
  cases e with
  | put d x =>
    refine ⟨by simp only [Eff.app, put_n]; exact h.n, fun σ hσ => ?_, fun hh b hb => by simp only [Eff.app, put_blk]; exact h.blk hh b hb⟩
    simp only [Eff.app]
    rw [put_get (by omega), put_get (by omega), h.n, h.get σ hσ]
  | new d x b =>
    have hdep := lt_depth he hn
    refine ⟨h.n, fun σ hσ => ?_, fun hh b' hb' hf => ?_⟩
    · simp only [Eff.app, PS.get_setB, PS.get_setT x hdep, h.get σ hσ]
    · simp only [Eff.app, PS.blk_setB b hdep, PS.blk_setT] at hf ⊢
      by_cases e : b' = d
      · simp [e]
      · simp only [e, if_false] at hf ⊢; exact h.blk hh b' hb' hf
  | wr w b =>
    have hdep := lt_depth he hn
    refine ⟨h.n, h.get, fun hh b' hb' hf => ?_⟩
    simp only [Eff.app, PS.blk_setB b hdep] at hf ⊢
    by_cases e : b' = w
    · simp [e]
    · simp only [e, if_false] at hf ⊢; exact h.blk hh b' hb' hf
  | all s' => exact ⟨rfl, fun _ _ => rfl, fun _ _ _ _ => rfl⟩

/-- An effect that is not looked at: on the right, ahead of the one that looks. -/
def Eff.UnseenR (xs : List Tmp) (hp : Prop) (hid : Nat → Prop) : Eff → Prop
  | .put d _ => ∀ σ, d = some σ → σ ∉ xs
  | .new d _ _ => d ∉ xs ∧ hid d
  | .wr _ _ => ¬ hp
  | .all _ => False

theorem Agr.right (hn : n ≤ 4000) {e : Eff} (he : e.Ok n) {u v : PS} (hv : v.n = n) (hs : e.UnseenR xs hp hid) (h : Agr xs hp hid u v) : Agr xs hp hid u (e.app v) := by
  cases e with
  | put d x =>
    refine ⟨by simp only [Eff.app, put_n]; exact h.n, fun σ hσ => ?_, fun hh b hb => by simp only [Eff.app, put_blk]; exact h.blk hh b hb⟩
    simp only [Eff.app]
    rw [put_get (by omega), if_neg (fun e => hs σ e.1 hσ)]
    exact h.get σ hσ
  | new d x b =>
    have hdep := lt_depth he hn
    refine ⟨h.n, fun σ hσ => ?_, fun hh b' hb' hf => ?_⟩
    · have : ¬ σ = d := fun e => hs.1 (e ▸ hσ)
      simp only [Eff.app, PS.get_setB, PS.get_setT x hdep, this, if_false]; exact h.get σ hσ
    · have : ¬ b' = d := fun e => hb' (e ▸ hs.2)
      simp only [Eff.app, PS.blk_setB b hdep, PS.blk_setT, this, if_false] at hf ⊢
      exact h.blk hh b' hb' hf
  | wr w b => exact ⟨h.n, h.get, fun hh => absurd hh hs⟩
  | all s' => exact hs.elim

/-- An effect that is not looked at: on the left, behind the one that looks. -/
def Eff.UnseenL (xs : List Tmp) (hp : Prop) (v : PS) : Eff → Prop
  | .put d _ => ∀ σ, d = some σ → σ ∉ xs
  | .new d _ _ => d ∉ xs ∧ v.blk d = .free
  | .wr _ _ => ¬ hp
  | .all _ => False

theorem Agr.left (hn : n ≤ 4000) {e : Eff} (he : e.Ok n) {u v : PS} (hv : v.n = n) (hs : e.UnseenL xs hp v) (h : Agr xs hp hid u v) : Agr xs hp hid (e.app u) v := by
  have hu : u.n = n := h.n.trans hv
  cases e with
  | put d x =>
    refine ⟨by simp only [Eff.app, put_n]; exact h.n, fun σ hσ => ?_, fun hh b hb => by simp only [Eff.app, put_blk]; exact h.blk hh b hb⟩
    simp only [Eff.app]
    rw [put_get (by omega), if_neg (fun e => hs σ e.1 hσ)]
    exact h.get σ hσ
  | new d x b =>
    have hdep := lt_depth he hn
    refine ⟨h.n, fun σ hσ => ?_, fun hh b' hb' hf => ?_⟩
    · have : ¬ σ = d := fun e => hs.1 (e ▸ hσ)
      simp only [Eff.app, PS.get_setB, PS.get_setT x hdep, this, if_false]; exact h.get σ hσ
    · have : ¬ b' = d := fun e => hf (e ▸ hs.2)
      simp only [Eff.app, PS.blk_setB b hdep, PS.blk_setT, this, if_false]
      exact h.blk hh b' hb' hf
  | wr w b => exact ⟨h.n, h.get, fun hh => absurd hh hs⟩
  | all s' => exact hs.elim

theorem agree1 {L : Nat → Bool} (hn : n ≤ 4000) : ∀ (es : List Eff) (i : Nat) (u v : PS), (∀ f ∈ es, f.Ok n) → (∀ k f, es[k]? = some f → L (i + k) = false → f.UnseenR xs hp hid) → v.n = n → Agr xs hp hid u v →
    Agr xs hp hid (foldE L i es u) (foldE (fun _ => true) i es v)
  | [], _, _, _, _, _, _, h => h
  | f :: es, i, u, v, hok, hc, hv, h => by
    have hc' : ∀ k g, es[k]? = some g → L (i + 1 + k) = false → g.UnseenR xs hp hid := fun k g hg hL => hc (k + 1) g (by simpa using hg) (by rwa [Nat.add_comm k, ← Nat.add_assoc])
    have hok' : ∀ g ∈ es, g.Ok n := fun g hg => hok g (by simp [hg])
    have hf := hok f (by simp)
    simp only [foldE, if_true]
    split
    · exact agree1 hn es (i + 1) _ _ hok' hc' (Eff.app_n hf hv) (h.both hn hf hv)
    · rename_i hL
      exact agree1 hn es (i + 1) _ _ hok' hc' (Eff.app_n hf hv) (h.right hn hf hv (hc 0 f rfl (by simpa using hL)))

theorem agree2 {L : Nat → Bool} (hn : n ≤ 4000) {v : PS} (hv : v.n = n) : ∀ (es : List Eff) (i : Nat) (u : PS), (∀ f ∈ es, f.Ok n) → (∀ k f, es[k]? = some f → L (i + k) = true → f.UnseenL xs hp v) → Agr xs hp hid u v →
    Agr xs hp hid (foldE L i es u) v
  | [], _, _, _, _, h => h
  | f :: es, i, u, hok, hc, h => by
    have hc' : ∀ k g, es[k]? = some g → L (i + 1 + k) = true → g.UnseenL xs hp v := fun k g hg hL => hc (k + 1) g (by simpa using hg) (by rwa [Nat.add_comm k, ← Nat.add_assoc])
    have hok' : ∀ g ∈ es, g.Ok n := fun g hg => hok g (by simp [hg])
    simp only [foldE]
    split
    · rename_i hL
      exact agree2 hn hv es (i + 1) _ hok' hc' (h.left hn (hok f (by simp)) hv (hc 0 f rfl (by simpa using hL)))
    · exact agree2 hn hv es (i + 1) _ hok' hc' h
end
end Go.Ev
