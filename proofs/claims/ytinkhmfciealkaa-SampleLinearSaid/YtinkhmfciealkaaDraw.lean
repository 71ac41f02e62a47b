/- Regions whose operations may come in many orders: one path serves all. -/
import Derived.Test.YtinkhmfciealkaaDraw4
set_option linter.unusedSimpArgs false
namespace Go.Ev
open Go.RowKit

section
variable {P : Program} {ops : Array Oper} {ms : List Nat} {n : Nat}

theorem Path.len {j : Nat} {l : List Oper} {s s' : PS} {es : List Eff} (h : Path P ops ms j l s es s') : es.length = l.length := by
  induction h with
  | nil => rfl
  | cons _ _ _ _ ih => simp [ih]

theorem Path.ok {j : Nat} {l : List Oper} {s s' : PS} {es : List Eff} (h : Path P ops ms j l s es s') (hn : s.n = n) : ∀ e ∈ es, e.Ok n := by
  induction h with
  | nil => intro e he; cases he
  | cons _ hf heq _ ih =>
    intro e he
    have h0 := hf.shape.ok hn
    rcases List.mem_cons.1 he with rfl | he
    · exact h0
    · exact ih (heq.n.symm.trans (Eff.app_n h0 hn)) e he

theorem foldE_true : ∀ (es : List Eff) (i j : Nat) (s : PS), foldE (fun _ => true) i es s = foldE (fun _ => true) j es s
  | [], _, _, _ => rfl
  | e :: es, i, j, s => by simp only [foldE]; exact foldE_true es _ _ _

theorem Path.end {j : Nat} {l : List Oper} {s s' : PS} {es : List Eff} (h : Path P ops ms j l s es s') (hd : n ≤ 4000) (hn : s.n = n) : PS.Eq s' (foldE (fun _ => true) j es s) := by
  induction h with
  | nil => exact .refl _
  | cons _ hf heq hr ih =>
    have h0 := hf.shape.ok hn
    have h1 := Eff.app_n h0 hn
    have h2 := heq.n.symm.trans h1
    refine (ih h2).trans ?_
    simp only [foldE, if_true]
    exact foldE_eq hd _ _ _ _ (hr.ok h2) h2 heq.symm

theorem Path.at {j : Nat} {l : List Oper} {s s' : PS} {es : List Eff} (h : Path P ops ms j l s es s') (hd : n ≤ 4000) (hn : s.n = n) : ∀ k o e, l[k]? = some o → es[k]? = some e →
    ∃ sk, Fact P ops (ms.getD (j + k) 0) (j + k) o sk e ∧ freeAhead sk (l.drop k) = true ∧ PS.Eq sk (foldE (fun _ => true) j (es.take k) s) := by
  induction h with
  | nil => intro k o e h; simp at h
  | @cons j o l s s1 s' e es hfree hf heq hr ih =>
    intro k o' e' ho he
    have h0 := hf.shape.ok hn
    have h1 := Eff.app_n h0 hn
    have h2 := heq.n.symm.trans h1
    cases k with
    | zero =>
      obtain rfl : o = o' := by simpa using ho
      obtain rfl : e = e' := by simpa using he
      exact ⟨s, hf, hfree, .refl _⟩
    | succ k =>
      obtain ⟨sk, g1, g2, g3⟩ := ih h2 k o' e' (by simpa using ho) (by simpa using he)
      rw [Nat.add_assoc, Nat.add_comm 1 k] at g1
      refine ⟨sk, g1, by simpa using g2, g3.trans ?_⟩
      simp only [List.take_succ_cons, foldE, if_true]
      exact foldE_eq hd _ _ _ _ (fun f hf => hr.ok h2 f (List.mem_of_mem_take hf)) h2 heq.symm

theorem sees_not {d : Option Tmp} {l : List Tmp} (h : sees d l = false) : ∀ σ, d = some σ → σ ∉ l := by
  intro σ e
  subst e
  simpa [sees] using h

theorem loose_spec {all : List Oper} {x y : Oper} (h : loose all x y = true) : (∀ σ, x.dst = some σ → σ ∉ looks all y) ∧ (∀ σ, y.dst = some σ → σ ∉ looks all x) ∧ looseK (kindOf x.op) (kindOf y.op) = true := by
  simp only [loose, Bool.and_eq_true, Bool.not_eq_true'] at h
  exact ⟨sees_not h.1.1, sees_not h.1.2, h.2⟩

theorem sameDst_not {x y : Oper} (h : sameDst x y = false) {d : Tmp} (hx : x.dst = some d) : y.dst ≠ some d := by
  intro hy
  simp [sameDst, hx, hy] at h

/-- Two effects of operations that may come in either order. -/
theorem comm_of {all : List Oper} {x y : Oper} {sx sy : PS} {e f : Eff} (hd : n ≤ 4000) (he : e.Shape x sx) (hf : f.Shape y sy) (hoe : e.Ok n) (hof : f.Ok n) (hs : sameDst x y = false) (hl : loose all x y = true) : Eff.Comm n e f := by
  obtain ⟨_, _, hk⟩ := loose_spec hl
  intro u hu
  cases e with
  | all s' => rw [he.1] at hk; simp [looseK] at hk
  | put d a =>
    cases f with
    | all s' => rw [hf.1] at hk; cases hkx : kindOf x.op <;> rw [hkx] at hk <;> simp [looseK] at hk
    | put d' b =>
      have hne : ∀ σ, d = some σ → d' ≠ some σ := by
        intro σ h1
        have : d = x.dst := he
        have h2 : d' = y.dst := hf
        rw [h2]; exact sameDst_not hs (this ▸ h1)
      refine ⟨by simp only [Eff.app, put_n], fun v => ?_, fun v => by simp only [Eff.app, put_blk]⟩
      simp only [Eff.app]
      rw [put_get (by rw [put_n]; omega), put_get (by omega), put_get (by rw [put_n]; omega), put_get (by omega), put_n, put_n]
      by_cases h1 : d = some v ∧ v < u.n
      · rw [if_neg (fun h => hne v h1.1 h.1), if_pos h1, if_pos h1]
      · rw [if_neg h1, if_neg h1]
    | new d' b B =>
      have hne : d ≠ some d' := by
        intro h1
        have : d = x.dst := he
        exact sameDst_not hs (this ▸ h1) hf.2.1
      have hdep := lt_depth hof hd
      have hn' : ∀ (z : PS), ((z.setT d' b).setB d' B).n = z.n := fun _ => rfl
      refine ⟨by simp only [Eff.app, put_n, hn'], fun v => ?_, fun v => ?_⟩
      · simp only [Eff.app]
        rw [PS.get_setB, PS.get_setT b hdep, put_get (by omega), put_get (by rw [hn']; omega), hn', PS.get_setB, PS.get_setT b hdep]
        by_cases h1 : v = d'
        · subst h1; rw [if_pos rfl, if_neg (fun h => hne h.1)]; simp
        · simp [h1]
      · simp only [Eff.app]
        rw [PS.blk_setB B hdep, put_blk, PS.blk_setB B hdep, PS.blk_setT, PS.blk_setT, put_blk]
    | wr w B =>
      have hdep := lt_depth hof hd
      have hn' : ∀ (z : PS), (z.setB w B).n = z.n := fun _ => rfl
      refine ⟨by simp only [Eff.app, put_n, hn'], fun v => ?_, fun v => ?_⟩
      · simp only [Eff.app]
        rw [PS.get_setB, put_get (by omega), put_get (by rw [hn']; omega), hn', PS.get_setB]
      · simp only [Eff.app]
        rw [PS.blk_setB B hdep, put_blk, put_blk, PS.blk_setB B hdep]
  | new d a A =>
    have hdepe := lt_depth hoe hd
    cases f with
    | all s' => rw [hf.1] at hk; cases hkx : kindOf x.op <;> rw [hkx] at hk <;> simp [looseK] at hk
    | wr w B => rw [hf.1, he.1] at hk; simp [looseK] at hk
    | put d' b =>
      have hne : d' ≠ some d := by
        have h2 : d' = y.dst := hf
        rw [h2]; exact sameDst_not hs he.2.1
      have hn' : ∀ (z : PS), ((z.setT d a).setB d A).n = z.n := fun _ => rfl
      refine ⟨by simp only [Eff.app, put_n, hn'], fun v => ?_, fun v => ?_⟩
      · simp only [Eff.app]
        rw [put_get (by rw [hn']; omega), hn', PS.get_setB, PS.get_setT a hdepe, PS.get_setB, PS.get_setT a hdepe, put_get (by omega)]
        by_cases h1 : v = d
        · subst h1; rw [if_neg (fun h => hne h.1)]; simp
        · simp [h1]
      · simp only [Eff.app]
        rw [PS.blk_setB A hdepe, put_blk, PS.blk_setB A hdepe, PS.blk_setT, PS.blk_setT, put_blk]
    | new d' b B =>
      have hdepf := lt_depth hof hd
      have hne : d' ≠ d := fun h => sameDst_not hs he.2.1 (h ▸ hf.2.1)
      refine ⟨rfl, fun v => ?_, fun v => ?_⟩
      · simp only [Eff.app, PS.get_setB, PS.get_setT a hdepe, PS.get_setT b hdepf]
        by_cases h1 : v = d <;> by_cases h2 : v = d' <;> simp [h1, h2] <;> (try (exfalso; exact hne (h2.symm.trans h1))) <;> (intro h; first | exact absurd h hne | exact absurd h.symm hne)
      · simp only [Eff.app, PS.blk_setB A hdepe, PS.blk_setB B hdepf, PS.blk_setT]
        by_cases h1 : v = d <;> by_cases h2 : v = d' <;> simp [h1, h2] <;> (try (exfalso; exact hne (h2.symm.trans h1))) <;> (intro h; first | exact absurd h hne | exact absurd h.symm hne)
  | wr w A =>
    have hdepe := lt_depth hoe hd
    cases f with
    | all s' => rw [hf.1] at hk; cases hkx : kindOf x.op <;> rw [hkx] at hk <;> simp [looseK] at hk
    | wr w' B => rw [hf.1, he.1] at hk; simp [looseK] at hk
    | new d' b B => rw [hf.1, he.1] at hk; simp [looseK] at hk
    | put d' b =>
      have hn' : ∀ (z : PS), (z.setB w A).n = z.n := fun _ => rfl
      refine ⟨by simp only [Eff.app, put_n, hn'], fun v => ?_, fun v => ?_⟩
      · simp only [Eff.app]
        rw [put_get (by rw [hn']; omega), hn', PS.get_setB, PS.get_setB, put_get (by omega)]
      · simp only [Eff.app]
        rw [PS.blk_setB A hdepe, put_blk, PS.blk_setB A hdepe, put_blk]

theorem dropFresh_rel : ∀ {l : List Oper} {s : PS} {B0 : Nat} {w0 : Base} {a : Act} {w : World}, Rel B0 w0 s a w → Rel B0 w0 (dropFresh l s) a w
  | [], s, B0, w0, a, w, h => h
  | o :: l, s, B0, w0, a, w, h => by
    unfold dropFresh
    split
    · rename_i d _ _
      cases hb : Nat.blt d s.n with
      | false => exact dropFresh_rel h
      | true =>
        obtain ⟨β, p, inv⟩ := h
        have hlt : d < s.n := by rw [Nat.blt_eq] at hb; exact hb
        exact dropFresh_rel ⟨_, p, (inv.drop d hlt).1⟩
    · exact dropFresh_rel h

theorem dropFresh_n : ∀ (l : List Oper) (s : PS), (dropFresh l s).n = s.n
  | [], _ => rfl
  | o :: l, s => by
    unfold dropFresh
    split
    · rename_i d _ _
      cases Nat.blt d s.n with
      | false => exact dropFresh_n l s
      | true => exact (dropFresh_n l _).trans PS.n_drop
    · exact dropFresh_n l s

/-! ### Any order -/

def listedB (listed : Array Bool) (i : Nat) : Bool := listed.getD i false

theorem count_set : ∀ (l : List Bool) (i : Nat), l[i]? = some false → ((l.set i true).filter (!·)).length + 1 = (l.filter (!·)).length
  | [], i, h => by simp at h
  | b :: l, 0, h => by
    obtain rfl : b = false := by simpa using h
    simp
  | b :: l, i + 1, h => by
    have := count_set l i (by simpa using h)
    cases b <;> simp at this ⊢ <;> omega

/-- One operation that comes up: its effect, wherever it comes. -/
theorem any_step {l : List Oper} (hl : ops.toList = l) (D : Drawn n l ms) {s s' : PS} {es : List Eff} (hp : Path P ops ms 0 l s es s') (hn : s.n = n) {L : Nat → Bool} (hL : Closed l L) {i : Nat} {o : Oper} (ho : l[i]? = some o) (hi : L i = false)
    (hready : ∀ e ∈ o.after.toList, Region.binds .any e = true → L e.on = true) {t : PS} (ht : PS.Eq t (foldE L 0 es s)) :
    ∃ t', OpTo P ops t o t' ∧ PS.Eq t' (foldE (fun j => if j = i then true else L j) 0 es s) := by
  have hd := D.deep
  have hok := hp.ok hn
  have hlen := hp.len
  have hil : i < l.length := (List.getElem?_eq_some_iff.1 ho).1
  have hie : i < es.length := by omega
  have he : es[i]? = some es[i] := List.getElem?_eq_getElem hie
  generalize hee : es[i] = e at he
  obtain ⟨si, hfact, hfree, hsi⟩ := hp.at hd hn i o e ho he
  rw [Nat.zero_add] at hfact
  have hoke : e.Ok n := hok e (List.mem_of_getElem? he)
  have hsplit : es = es.take i ++ (e :: es.drop (i + 1)) := by
    rw [← hee, List.getElem_cons_drop, List.take_append_drop]
  have hlen1 : (es.take i).length = i := by rw [List.length_take]; omega
  have hok1 : ∀ f ∈ es.take i, f.Ok n := fun f hf => hok f (List.mem_of_mem_take hf)
  have hok2 : ∀ f ∈ es.drop (i + 1), f.Ok n := fun f hf => hok f (List.mem_of_mem_drop hf)
  have hbef := before_of D hL i o ho hready
  -- what is known of the others
  have other : ∀ k f, es[k]? = some f → ∃ ok sk, l[k]? = some ok ∧ Fact P ops (ms.getD k 0) k ok sk f ∧ freeAhead sk (l.drop k) = true ∧ PS.Eq sk (foldE (fun _ => true) 0 (es.take k) s) := by
    intro k f hf
    have hk : k < l.length := by have := (List.getElem?_eq_some_iff.1 hf).1; omega
    obtain ⟨sk, g1, g2, g3⟩ := hp.at hd hn k l[k] f (List.getElem?_eq_getElem hk) hf
    rw [Nat.zero_add] at g1
    exact ⟨l[k], sk, List.getElem?_eq_getElem hk, g1, g2, g3⟩
  have ahead : ∀ k ok, i < k → l[k]? = some ok → L k = true → loose l o ok = true ∧ sameDst o ok = false := by
    intro k ok hik hok' hLk
    obtain ⟨h1, h2⟩ := D.pair i k o ok hik ho hok'
    refine ⟨h2.resolve_left fun hb => ?_, h1⟩
    have := before_of D hL k ok hok' (hL k ok hok' hLk) i hb
    rw [hi] at this; cases this
  have behind : ∀ k ok, k < i → l[k]? = some ok → L k = false → loose l ok o = true ∧ (ms.getD i 0).testBit k = false := by
    intro k ok hki hok' hLk
    obtain ⟨_, h2⟩ := D.pair k i ok o hki hok' ho
    have hb : (ms.getD i 0).testBit k = false := by
      cases hb : (ms.getD i 0).testBit k with
      | false => rfl
      | true => have := hbef k hb; rw [hLk] at this; cases this
    exact ⟨h2.resolve_left fun h => (by rw [hb] at h; cases h), hb⟩
  -- the states
  let a := foldE L 0 (es.take i) s
  let v := foldE (fun _ => true) 0 (es.take i) s
  have hav : a.n = n := foldE_n _ _ _ hok1 hn
  have hvn : v.n = n := foldE_n _ _ _ hok1 hn
  have hu : foldE L 0 es s = foldE L (i + 1) (es.drop (i + 1)) a := by
    conv => lhs; rw [hsplit]
    rw [foldE_append, hlen1, Nat.zero_add]
    simp only [foldE, hi, Bool.false_eq_true, if_false]
    rfl
  have get2 : ∀ k f, (es.drop (i + 1))[k]? = some f → es[i + 1 + k]? = some f := fun k f h => by rwa [List.getElem?_drop] at h
  have get1 : ∀ k f, (es.take i)[k]? = some f → k < i ∧ es[k]? = some f := fun k f h => by
    have hk : k < i := by have := (List.getElem?_eq_some_iff.1 h).1; omega
    rw [List.getElem?_take, if_pos hk] at h
    exact ⟨hk, h⟩
  have hA : Alike (looks ops.toList o) o (Hid ops.toList (ms.getD i 0) i) si t := by
    rw [hl]
    have agr : kindOf o.op ≠ .barrier → Agr (looks l o) (kindOf o.op ≠ .pure) (Hid l (ms.getD i 0) i) (foldE L 0 es s) v := by
      intro hnb
      rw [hu]
      refine agree2 hd hvn _ _ _ hok2 (fun k f hf hLk => ?_) (agree1 hd _ _ _ _ hok1 (fun k f hf hLk => ?_) hn ⟨rfl, fun _ _ => rfl, fun _ _ _ _ => rfl⟩)
      · obtain ⟨ok, sk, g1, g2, g3, g4⟩ := other _ f (get2 k f hf)
        obtain ⟨h1, h2⟩ := ahead (i + 1 + k) ok (by omega) g1 hLk
        obtain ⟨_, c2, c3⟩ := loose_spec h1
        have hs := g2.shape
        cases f with
        | put d x => intro σ e1; exact c2 σ (by rw [← e1]; exact hs.symm)
        | new d x b =>
          refine ⟨c2 d hs.2.1, ?_⟩
          have := freeAhead_of hfree ok (by
            have : (l.drop i)[1 + k]? = some ok := by rw [List.getElem?_drop, ← Nat.add_assoc]; exact g1
            exact List.mem_of_getElem? this) d hs.1 hs.2.1
          rw [hsi.blk d] at this; exact this
        | wr w b =>
          rw [hs.1] at c3
          intro hne
          cases hk : kindOf o.op <;> rw [hk] at c3 hne <;> first | exact hne rfl | simp [looseK] at c3
        | all s1 =>
          rw [hs.1] at c3
          cases hk : kindOf o.op <;> rw [hk] at c3 <;> simp [looseK] at c3
      · obtain ⟨hki, hf⟩ := get1 k f hf
        rw [Nat.zero_add] at hLk
        obtain ⟨ok, sk, g1, g2, g3, g4⟩ := other k f hf
        obtain ⟨h1, h2⟩ := behind k ok hki g1 hLk
        obtain ⟨c1, _, c3⟩ := loose_spec h1
        have hs := g2.shape
        cases f with
        | put d x => intro σ e1; exact c1 σ (by rw [← e1]; exact hs.symm)
        | new d x b => exact ⟨c1 d hs.2.1, k, ok, hki, g1, hs.1, hs.2.1, h2⟩
        | wr w b =>
          rw [hs.1] at c3
          intro hne
          cases hk : kindOf o.op <;> rw [hk] at c3 hne <;> first | exact hne rfl | simp [looseK] at c3
        | all s1 =>
          rw [hs.1] at c3
          cases hk : kindOf o.op <;> rw [hk] at c3 <;> simp [looseK] at c3
    have full : kindOf o.op = .barrier → foldE L 0 es s = v := by
      intro hb
      have noL : ∀ x : Oper, loose l x o = false ∧ loose l o x = false := by
        intro x
        constructor
        · cases h : loose l x o with
          | false => rfl
          | true => obtain ⟨_, _, c⟩ := loose_spec h; rw [hb] at c; cases hk : kindOf x.op <;> rw [hk] at c <;> simp [looseK] at c
        · cases h : loose l o x with
          | false => rfl
          | true => obtain ⟨_, _, c⟩ := loose_spec h; rw [hb] at c; cases hk : kindOf x.op <;> rw [hk] at c <;> simp [looseK] at c
      rw [hu]
      rw [foldE_none]
      · refine foldE_congrL _ _ _ fun k hk => ?_
        rw [Nat.zero_add]
        cases hLk : L k with
        | true => rfl
        | false =>
          have hk' : k < i := by omega
          have := (behind k l[k] hk' (List.getElem?_eq_getElem (by omega)) hLk).1
          rw [(noL _).1] at this; cases this
      · intro k hk
        cases hLk : L (i + 1 + k) with
        | false => rfl
        | true =>
          have hk' : i + 1 + k < l.length := by rw [List.length_drop] at hk; omega
          have := (ahead (i + 1 + k) l[i + 1 + k] (by omega) (List.getElem?_eq_getElem hk') hLk).1
          rw [(noL _).2] at this; cases this
    have htn : t.n = si.n := ht.n.trans ((foldE_n _ _ _ hok hn).trans (hvn.symm.trans hsi.n.symm))
    by_cases hb : kindOf o.op = .barrier
    · have e1 : PS.Eq si t := by
        refine hsi.trans ?_
        have := full hb
        rw [this] at ht
        exact ht.symm
      exact ⟨e1.n.symm, fun σ _ => (e1.get σ).symm, fun _ b _ _ => (e1.blk b).symm, fun hk => (by rw [hb] at hk; cases hk), fun _ => e1⟩
    · have g := agr hb
      refine ⟨htn, fun σ hσ => (ht.get σ).trans ((g.get σ hσ).trans (hsi.get σ).symm), fun hk b hnb hf => ?_, fun hk d hdst => ?_, fun hk => absurd hk hb⟩
      · rw [ht.blk b, hsi.blk b]
        exact g.blk hk b hnb (by rw [← hsi.blk b]; exact hf)
      · have hself : si.blk d = .free := freeAhead_of hfree o (by
            have : (l.drop i)[0]? = some o := by rw [List.getElem?_drop, Nat.add_zero]; exact ho
            exact List.mem_of_getElem? this) d hk hdst
        refine ⟨?_, hself⟩
        rw [ht.blk d]
        refine foldE_free hd _ _ _ hok (fun k f hf hLk => ?_) ?_
        · rw [Nat.zero_add] at hLk
          obtain ⟨ok, sk, g1, g2, g3, g4⟩ := other k f hf
          have hki : k ≠ i := fun e => by rw [e, hi] at hLk; cases hLk
          have hs := g2.shape
          have inAhead : k < i → o ∈ l.drop k := fun h => by
            have : (l.drop k)[i - k]? = some o := by rw [List.getElem?_drop]; rw [show k + (i - k) = i by omega]; exact ho
            exact List.mem_of_getElem? this
          rcases Nat.lt_or_gt_of_ne hki with hlt | hgt
          · cases f with
            | put d' x => trivial
            | new d' x b => exact fun e1 => sameDst_not (D.pair k i ok o hlt g1 ho).1 hs.2.1 (e1 ▸ hdst)
            | wr w b =>
              intro e1
              have := freeAhead_of g3 o (inAhead hlt) d hk hdst
              exact hs.2.2 (e1 ▸ this)
            | all s1 =>
              have hk1 : k + 1 < es.length := by omega
              obtain ⟨ok2, sk2, q1, q2, q3, q4⟩ := other (k + 1) es[k + 1] (List.getElem?_eq_getElem hk1)
              have hin : o ∈ l.drop (k + 1) := by
                have : (l.drop (k + 1))[i - (k + 1)]? = some o := by rw [List.getElem?_drop]; rw [show k + 1 + (i - (k + 1)) = i by omega]; exact ho
                exact List.mem_of_getElem? this
              have hfr := freeAhead_of q3 o hin d hk hdst
              have e2 : es.take (k + 1) = es.take k ++ [.all s1] := by
                rw [List.take_succ_eq_append_getElem (by omega)]
                have := (List.getElem?_eq_some_iff.1 hf).2
                rw [this]
              rw [q4.blk d, e2, foldE_append] at hfr
              simp only [foldE, if_true] at hfr
              exact hfr
          · have hc := ahead k ok hgt g1 hLk
            obtain ⟨_, _, c3⟩ := loose_spec hc.1
            cases f with
            | put d' x => trivial
            | new d' x b => exact fun e1 => sameDst_not hc.2 hdst (e1 ▸ hs.2.1)
            | wr w b => rw [hk, hs.1] at c3; simp [looseK] at c3
            | all s1 => rw [hk, hs.1] at c3; simp [looseK] at c3
        · have h0 : 0 < es.length := by omega
          obtain ⟨ok0, s0, q1, q2, q3, q4⟩ := other 0 es[0] (List.getElem?_eq_getElem h0)
          have := freeAhead_of q3 o (by rw [List.drop_zero]; exact List.mem_of_getElem? ho) d hk hdst
          rw [q4.blk d] at this
          simpa [foldE] using this
  refine ⟨e.app t, hfact.loc t hA, ?_⟩
  -- the effect comes in at its place
  have htn : t.n = n := ht.n.trans (foldE_n _ _ _ hok hn)
  refine (Eff.app_congr hd hoke htn ht).trans ?_
  rw [hu]
  have hu' : foldE (fun j => if j = i then true else L j) 0 es s = foldE L (i + 1) (es.drop (i + 1)) (e.app a) := by
    conv => lhs; rw [hsplit]
    rw [foldE_append, hlen1, Nat.zero_add]
    simp only [foldE, if_true]
    have e1 : foldE (fun j => if j = i then true else L j) 0 (es.take i) s = a := foldE_congrL _ _ _ fun k hk => by
      have : ¬ (0 + k = i) := by omega
      simp [this]
      try omega
    rw [e1]
    refine foldE_congrL _ _ _ fun k hk => ?_
    have : ¬ (i + 1 + k = i) := by omega
    simp [this]
    try omega
  rw [hu']
  refine (foldE_comm hd hoke _ _ _ _ hok2 (fun k f hf hLk => ?_) hav (.refl _)).symm
  obtain ⟨ok, sk, g1, g2, g3, g4⟩ := other _ f (get2 k f hf)
  obtain ⟨h1, h2⟩ := ahead (i + 1 + k) ok (by omega) g1 hLk
  exact comm_of hd hfact.shape g2.shape hoke (hok f (List.mem_of_getElem? (get2 k f hf))) h2 h1

theorem listed_set {listed : Array Bool} {i : Nat} (h : i < listed.size) (j : Nat) : listedB (listed.setIfInBounds i true) j = if j = i then true else listedB listed j := by
  unfold listedB
  rw [Array.getD_eq_getD_getElem?, Array.getD_eq_getD_getElem?, Array.getElem?_setIfInBounds]
  by_cases e : j = i
  · subst e; simp [h]
  · have : ¬ i = j := fun h => e h.symm
    simp [this, e]

theorem any_ok {l : List Oper} (hl : ops.toList = l) (D : Drawn n l ms) {s s' : PS} {es : List Eff} (hp : Path P ops ms 0 l s es s') (hn : s.n = n) {B0 : Nat} {w0 : Base} {Q : Exit → Act → World → Prop} (hQ : ∀ a' w', Rel B0 w0 s' a' w' → Q .normal a' w') :
    ∀ (fuel : Nat) (listed : Array Bool) (t : PS) (a : Act) (w : World), listed.size = l.length → (listed.toList.filter (!·)).length ≤ fuel → Closed l (listedB listed) → PS.Eq t (foldE (listedB listed) 0 es s) → Rel B0 w0 t a w → wpAny P .any ops Q fuel listed a w := by
  have hd := D.deep
  have hsize : ops.size = l.length := by rw [← hl]; simp
  -- when no operation is ready, all are listed
  have stuck : ∀ (listed : Array Bool), listed.size = l.length → Region.ready .any ops listed = [] → ∀ j, j < l.length → listedB listed j = true := by
    intro listed hsz hr j
    induction j using Nat.strongRecOn with
    | _ j ih =>
      intro hj
      cases hlj : listedB listed j with
      | true => rfl
      | false =>
        have hoj : l[j]? = some l[j] := List.getElem?_eq_getElem hj
        have : j ∈ Region.ready .any ops listed := by
          rw [mem_ready]
          refine ⟨?_, l[j], by rw [← Array.getElem?_toList, hl]; exact hoj, fun e he hb => ?_⟩
          · unfold listedB at hlj
            rw [Array.getD_eq_getD_getElem?] at hlj ⊢
            have : j < listed.size := by omega
            simp [this] at hlj ⊢
            exact hlj
          · have hlt := D.low j _ hoj e (Array.mem_toList_iff.2 he) hb
            exact ih e.on hlt (by omega)
        rw [hr] at this; cases this
  have final : ∀ (listed : Array Bool) (t : PS) (a : Act) (w : World), (∀ j, j < l.length → listedB listed j = true) → PS.Eq t (foldE (listedB listed) 0 es s) → Rel B0 w0 t a w → Q .normal a w := by
    intro listed t a w hall ht hr
    refine hQ a w (PS.Eq.rel ?_ hr)
    refine ht.trans (PS.Eq.trans ?_ (hp.end hd hn).symm)
    rw [foldE_congrL (L' := fun _ => true) es 0 s fun k hk => by rw [Nat.zero_add]; exact hall k (by rw [← hp.len]; exact hk)]
    exact .refl _
  intro fuel
  induction fuel with
  | zero =>
    intro listed t a w hsz hcnt hcl ht hr
    have hall : ∀ j, j < l.length → listedB listed j = true := by
      intro j hj
      cases hlj : listedB listed j with
      | true => rfl
      | false =>
        have hm : false ∈ listed.toList := by
          unfold listedB at hlj
          rw [Array.getD_eq_getD_getElem?] at hlj
          have hjs : j < listed.size := by omega
          simp [hjs] at hlj
          rw [Array.mem_toList_iff]
          rw [← hlj]
          exact Array.getElem_mem hjs
        have : false ∈ listed.toList.filter (!·) := by simp [hm]
        have h0 : listed.toList.filter (!·) = [] := List.eq_nil_of_length_eq_zero (Nat.le_zero.1 hcnt)
        rw [h0] at this; cases this
    refine ⟨?_, final listed t a w hall ht hr⟩
    refine List.eq_nil_iff_forall_not_mem.2 fun j hj => ?_
    rw [mem_ready] at hj
    obtain ⟨h1, o, h2, _⟩ := hj
    have hjl : j < l.length := by rw [← hsize]; exact (Array.getElem?_eq_some_iff.1 h2).1
    have := hall j hjl
    unfold listedB at this
    rw [Array.getD_eq_getD_getElem?] at h1 this
    have hjs : j < listed.size := by omega
    simp [hjs] at h1 this
    rw [h1] at this; cases this
  | succ fuel ih =>
    intro listed t a w hsz hcnt hcl ht hr
    refine ⟨fun h0 => final listed t a w (stuck listed hsz h0) ht hr, fun i hi => ?_⟩
    rw [mem_ready] at hi
    obtain ⟨h1, o, h2, h3⟩ := hi
    have ho : l[i]? = some o := by rw [← hl, Array.getElem?_toList]; exact h2
    have hil : i < l.length := (List.getElem?_eq_some_iff.1 ho).1
    have his : i < listed.size := by omega
    have hLi : listedB listed i = false := by
      unfold listedB
      rw [Array.getD_eq_getD_getElem?] at h1 ⊢
      simp [his] at h1 ⊢
      exact h1
    obtain ⟨t', hop, ht'⟩ := any_step hl D hp hn hcl ho hLi (fun e he hb => h3 e (Array.mem_toList_iff.1 he) hb) ht
    have hfun : (fun j => if j = i then true else listedB listed j) = listedB (listed.setIfInBounds i true) := by
      funext j; exact (listed_set his j).symm
    rw [hfun] at ht'
    have hcl' : Closed l (listedB (listed.setIfInBounds i true)) := by
      intro j oj hoj hLj e he hb
      rw [listed_set his] at hLj ⊢
      split
      · rfl
      · by_cases hji : j = i
        · subst hji
          rw [ho] at hoj
          obtain rfl := Option.some.inj hoj
          exact h3 e (Array.mem_toList_iff.1 he) hb
        · rw [if_neg hji] at hLj
          exact hcl j oj hoj hLj e he hb
    have hcnt' : ((listed.setIfInBounds i true).toList.filter (!·)).length ≤ fuel := by
      have : listed.toList[i]? = some false := by
        unfold listedB at hLi
        rw [Array.getD_eq_getD_getElem?] at hLi
        simp [his] at hLi
        rw [Array.getElem?_toList, Array.getElem?_eq_getElem his, hLi]
      have := count_set listed.toList i this
      rw [Array.toList_setIfInBounds]
      omega
    have := hop B0 w0 a w hr (wpAny P .any ops Q fuel (listed.setIfInBounds i true)) Q fun a' w' hr' =>
      ih (listed.setIfInBounds i true) t' a' w' (by rw [Array.size_setIfInBounds]; exact hsz) hcnt' hcl' ht' hr'
    unfold wpOp
    rw [h2]
    simp only []
    split
    · rename_i hw; rw [if_pos hw] at this; exact .inl this
    · rename_i hw; rw [if_neg hw] at this; exact this
end

theorem draw_ok {P : Program} {R : Type} {call : CallK R} (hns : NoSpecial P) (hm : P.follows .mixedOrders = true) (hcall : CallOk P R call) {ops : Array Oper} {ms : List Nat} (hms : ms = masksOf ops.toList []) {s : PS} (hd : drawOk s.n ops.toList ms = true)
    {k : PS → Option R} {r : R} (h : runDraw P R call ops.toList ms 0 ops.toList (dropFresh ops.toList s) k = some r) :
    ∃ s', k s' = some r ∧ ∀ B0 w0 a w, Rel B0 w0 s a w → ∀ (Q : Exit → Act → World → Prop) id, (∀ a' w', Rel B0 w0 s' a' w' → Q .normal a' w') → (Code.region id ops true).wp P Q a w := by
  subst hms
  have D := drawn_of hd
  obtain ⟨es, s', h1, h2⟩ := runDraw_ok hns hcall D ops.toList 0 _ k r (by rw [List.drop_zero]) (dropFresh_n _ _) h
  refine ⟨s', h1, fun B0 w0 a w hr Q id hQ => ?_⟩
  refine wp_region_any hm ?_
  have hr' : Rel B0 w0 (dropFresh ops.toList s) a { w with drawn := w.drawn + 1 } := by
    obtain ⟨β, p, inv⟩ := dropFresh_rel (l := ops.toList) hr
    exact ⟨β, p, inv.world ⟨rfl, rfl, rfl, Nat.le_refl _, fun _ _ => rfl⟩⟩
  have hnone : ∀ j, listedB (Array.replicate ops.size false) j = false := by
    intro j
    unfold listedB
    rw [Array.getD_eq_getD_getElem?]
    by_cases hj : j < ops.size
    · simp [hj]
    · simp [hj]
  refine any_ok rfl D h2 (dropFresh_n _ _) hQ ops.size _ (dropFresh ops.toList s) a _ (by simp) ?_ (fun j o _ hL => by rw [hnone j] at hL; cases hL) ?_ hr'
  · refine Nat.le_trans (List.length_filter_le _ _) ?_
    simp
  · rw [foldE_none _ _ _ fun k _ => hnone _]
    exact .refl _
end Go.Ev
