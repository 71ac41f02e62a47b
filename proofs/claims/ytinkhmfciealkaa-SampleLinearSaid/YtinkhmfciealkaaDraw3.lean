/- Which operations stand before which; and the path of the lexical order. -/
import Derived.Test.YtinkhmfciealkaaDraw2
import Derived.Deep.Quiet
set_option linter.unusedSimpArgs false
namespace Go.Ev
open Go.RowKit

theorem edgeMask_bit {acc : List Nat} {i : Nat} : ∀ {es : List Edge}, (edgeMask acc es).testBit i = true → ∃ e ∈ es, Region.binds .any e = true ∧ (e.on = i ∨ (acc.getD e.on 0).testBit i = true)
  | [], h => by simp [edgeMask] at h
  | e :: es, h => by
    unfold edgeMask at h
    cases hb : Region.binds .any e with
    | false =>
      rw [hb] at h
      obtain ⟨e', h1, h2⟩ := edgeMask_bit (es := es) h
      exact ⟨e', by simp [h1], h2⟩
    | true =>
      rw [hb] at h
      simp only [cond_true, Nat.testBit_or, Bool.or_eq_true, Nat.testBit_two_pow, decide_eq_true_eq] at h
      rcases h with (h | h) | h
      · exact ⟨e, by simp, hb, .inl h⟩
      · exact ⟨e, by simp, hb, .inr h⟩
      · obtain ⟨e', h1, h2⟩ := edgeMask_bit (es := es) h
        exact ⟨e', by simp [h1], h2⟩

theorem masksOf_old : ∀ (l : List Oper) (acc : List Nat) (j : Nat), j < acc.length → (masksOf l acc).getD j 0 = acc.getD j 0
  | [], _, _, _ => rfl
  | o :: l, acc, j, h => by
    rw [masksOf, masksOf_old l _ j (by simp; omega)]
    simp only [List.getD_eq_getElem?_getD]
    rw [List.getElem?_append_left h]

theorem masksOf_bit : ∀ (l : List Oper) (acc : List Nat) (k : Nat) (o : Oper), l[k]? = some o → ∀ i, ((masksOf l acc).getD (acc.length + k) 0).testBit i = true →
    ∃ e ∈ o.after.toList, Region.binds .any e = true ∧ (e.on = i ∨ ((masksOf l acc).getD e.on 0).testBit i = true)
  | [], _, _, _, h, _, _ => by simp at h
  | o' :: l, acc, 0, o, h, i, hb => by
    obtain rfl : o' = o := by simpa using h
    rw [masksOf] at hb ⊢
    rw [Nat.add_zero, masksOf_old l _ acc.length (by simp)] at hb
    simp only [List.getD_eq_getElem?_getD] at hb
    rw [List.getElem?_append_right (Nat.le_refl _), Nat.sub_self] at hb
    obtain ⟨e, h1, h2, h3⟩ := edgeMask_bit hb
    refine ⟨e, h1, h2, h3.imp id fun h4 => ?_⟩
    have hlt : e.on < acc.length := by
      rcases Nat.lt_or_ge e.on acc.length with h | h
      · exact h
      · rw [List.getD_eq_getElem?_getD, List.getElem?_eq_none h] at h4; simp at h4
    rw [masksOf_old l _ e.on (by simp; omega)]
    simp only [List.getD_eq_getElem?_getD] at h4 ⊢
    rw [List.getElem?_append_left hlt]
    exact h4
  | o' :: l, acc, k + 1, o, h, i, hb => by
    rw [masksOf] at hb ⊢
    have := masksOf_bit l (acc ++ [edgeMask acc o'.after.toList]) k o (by simpa using h) i
    simp only [List.length_append, List.length_singleton] at this
    rw [Nat.add_assoc, Nat.add_comm 1 k] at this
    exact this hb

theorem edgesLow_of {i : Nat} : ∀ {es : List Edge}, edgesLow i es = true → ∀ e ∈ es, Region.binds .any e = true → e.on < i
  | [], _, e, he, _ => by cases he
  | d :: es, h, e, he, hb => by
    simp only [edgesLow, Bool.and_eq_true, Bool.or_eq_true, Bool.not_eq_true'] at h
    rcases List.mem_cons.1 he with rfl | he
    · rcases h.1 with h1 | h1
      · rw [hb] at h1; cases h1
      · simpa using h1
    · exact edgesLow_of h.2 e he hb

theorem allLow_of : ∀ {l : List Oper} {i : Nat}, allLow i l = true → ∀ k o, l[k]? = some o → ∀ e ∈ o.after.toList, Region.binds .any e = true → e.on < i + k
  | [], _, _, _, _, h => by simp at h
  | o' :: l, i, h, 0, o, ho => by
    obtain rfl : o' = o := by simpa using ho
    simp only [allLow, Bool.and_eq_true] at h
    exact edgesLow_of h.1
  | o' :: l, i, h, k + 1, o, ho => by
    simp only [allLow, Bool.and_eq_true] at h
    have := allLow_of h.2 k o (by simpa using ho)
    rw [Nat.add_assoc, Nat.add_comm 1 k] at this
    exact this

theorem pairOk_of {all : List Oper} {oj : Oper} {m : Nat} : ∀ {l : List Oper} {i : Nat}, pairOk all oj m i l = true → ∀ k oi, l[k]? = some oi → sameDst oi oj = false ∧ (m.testBit (i + k) = true ∨ loose all oi oj = true)
  | [], _, _, _, _, h => by simp at h
  | o' :: l, i, h, 0, oi, ho => by
    obtain rfl : o' = oi := by simpa using ho
    simp only [pairOk, Bool.and_eq_true, Bool.not_eq_true', Bool.or_eq_true] at h
    exact ⟨h.1.1, h.1.2⟩
  | o' :: l, i, h, k + 1, oi, ho => by
    simp only [pairOk, Bool.and_eq_true] at h
    have := pairOk_of h.2 k oi (by simpa using ho)
    rw [Nat.add_assoc, Nat.add_comm 1 k] at this
    exact this

theorem pairsOk_of {all : List Oper} {ms : List Nat} : ∀ {l : List Oper} {j : Nat}, pairsOk all ms j l = true → ∀ k oj, l[k]? = some oj → pairOk all oj (ms.getD (j + k) 0) 0 (all.take (j + k)) = true
  | [], _, _, _, _, h => by simp at h
  | o' :: l, j, h, 0, oj, ho => by
    obtain rfl : o' = oj := by simpa using ho
    simp only [pairsOk, Bool.and_eq_true] at h
    exact h.1
  | o' :: l, j, h, k + 1, oj, ho => by
    simp only [pairsOk, Bool.and_eq_true] at h
    have := pairsOk_of h.2 k oj (by simpa using ho)
    rw [Nat.add_assoc, Nat.add_comm 1 k] at this
    exact this

theorem dstsBelow_of {n : Nat} : ∀ {l : List Oper}, dstsBelow n l = true → ∀ o ∈ l, ∀ d, o.dst = some d → d < n
  | [], _, o, h, _, _ => by cases h
  | o' :: l, h, o, ho, d, hd => by
    simp only [dstsBelow, Bool.and_eq_true] at h
    rcases List.mem_cons.1 ho with rfl | ho
    · rw [hd] at h; simpa using h.1
    · exact dstsBelow_of h.2 o ho d hd

/-- The check of a region, spelt out. -/
structure Drawn (n : Nat) (l : List Oper) (ms : List Nat) : Prop where
  deep : n ≤ 4000
  dst : ∀ o ∈ l, ∀ d, o.dst = some d → d < n
  low : ∀ k o, l[k]? = some o → ∀ e ∈ o.after.toList, Region.binds .any e = true → e.on < k
  bit : ∀ k o, l[k]? = some o → ∀ i, (ms.getD k 0).testBit i = true → ∃ e ∈ o.after.toList, Region.binds .any e = true ∧ (e.on = i ∨ (ms.getD e.on 0).testBit i = true)
  pair : ∀ i j oi oj, i < j → l[i]? = some oi → l[j]? = some oj → sameDst oi oj = false ∧ ((ms.getD j 0).testBit i = true ∨ loose l oi oj = true)

theorem drawn_of {n : Nat} {l : List Oper} (h : drawOk n l (masksOf l []) = true) : Drawn n l (masksOf l []) := by
  simp only [drawOk, Bool.and_eq_true] at h
  obtain ⟨h1, h2, h3, h4⟩ := h
  refine ⟨by simpa using h1, dstsBelow_of h2, fun k o ho e he hb => by have := allLow_of h3 k o ho e he hb; simpa using this, fun k o ho i hi => ?_, fun i j oi oj hij hi hj => ?_⟩
  · exact masksOf_bit l [] k o ho i (by simpa using hi)
  · have := pairOk_of (pairsOk_of h4 j oj hj) i oi (by rw [Nat.zero_add, List.getElem?_take, if_pos hij]; exact hi)
    simpa using this

/-- Taken with all that stands before it. -/
def Closed (l : List Oper) (L : Nat → Bool) : Prop := ∀ j o, l[j]? = some o → L j = true → ∀ e ∈ o.after.toList, Region.binds .any e = true → L e.on = true

theorem before_of {n : Nat} {l : List Oper} {ms : List Nat} (D : Drawn n l ms) {L : Nat → Bool} (hL : Closed l L) : ∀ (j : Nat) (o : Oper), l[j]? = some o → (∀ e ∈ o.after.toList, Region.binds .any e = true → L e.on = true) →
    ∀ i, (ms.getD j 0).testBit i = true → L i = true := by
  intro j
  induction j using Nat.strongRecOn with
  | _ j ih =>
    intro o ho hall i hi
    obtain ⟨e, h1, h2, h3⟩ := D.bit j o ho i hi
    rcases h3 with rfl | h3
    · exact hall e h1 h2
    · have hlt := D.low j o ho e h1 h2
      have hj : j < l.length := (List.getElem?_eq_some_iff.1 ho).1
      have hoe : l[e.on]? = some l[e.on] := List.getElem?_eq_getElem (by omega)
      exact ih e.on hlt _ hoe (hL e.on _ hoe (hall e h1 h2)) i h3

/-- Blocks that an operation must not look at: of new ones that may come behind it. -/
def Hid (l : List Oper) (m j b : Nat) : Prop := ∃ i o, i < j ∧ l[i]? = some o ∧ kindOf o.op = .fresh ∧ o.dst = some b ∧ m.testBit i = false

theorem hideFresh_ok {m n : Nat} (hn : n ≤ 4000) : ∀ (l : List Oper) (i : Nat) (s : PS), (∀ o ∈ l, ∀ d, o.dst = some d → d < n) →
    (hideFresh m i l s).n = s.n ∧ (∀ u, (hideFresh m i l s).get u = s.get u) ∧ ∀ b, (hideFresh m i l s).blk b = .free ∨
      ((hideFresh m i l s).blk b = s.blk b ∧ ∀ k o, l[k]? = some o → kindOf o.op = .fresh → o.dst = some b → m.testBit (i + k) = true)
  | [], i, s, _ => ⟨rfl, fun _ => rfl, fun b => .inr ⟨rfl, fun k o h => by simp at h⟩⟩
  | o :: l, i, s, hd => by
    have hd' : ∀ o ∈ l, ∀ d, o.dst = some d → d < n := fun o ho => hd o (by simp [ho])
    have skip : ∀ s0, (∀ b, kindOf o.op = .fresh → o.dst = some b → m.testBit i = true) → hideFresh m i (o :: l) s = hideFresh m (i + 1) l s0 → s0 = s →
        (hideFresh m i (o :: l) s).n = s.n ∧ (∀ u, (hideFresh m i (o :: l) s).get u = s.get u) ∧ ∀ b, (hideFresh m i (o :: l) s).blk b = .free ∨
        ((hideFresh m i (o :: l) s).blk b = s.blk b ∧ ∀ k o', (o :: l)[k]? = some o' → kindOf o'.op = .fresh → o'.dst = some b → m.testBit (i + k) = true) := by
      intro s0 hbit he hs0
      subst hs0
      obtain ⟨h1, h2, h3⟩ := hideFresh_ok (m := m) hn l (i + 1) s0 hd'
      rw [he]
      refine ⟨h1, h2, fun b => (h3 b).imp id fun ⟨e1, e2⟩ => ⟨e1, fun k o' hk hf hdst => ?_⟩⟩
      cases k with
      | zero => obtain rfl : o = o' := by simpa using hk
                exact hbit b hf hdst
      | succ k => have := e2 k o' (by simpa using hk) hf hdst; rwa [Nat.add_assoc, Nat.add_comm 1 k] at this
    cases hk : kindOf o.op with
    | fresh =>
      cases hdst : o.dst with
      | none => exact skip s (fun b _ h => by rw [hdst] at h; cases h) (by simp only [hideFresh, hk, hdst]) rfl
      | some d =>
        cases hb : m.testBit i with
        | true => exact skip s (fun b _ h => hb) (by simp only [hideFresh, hk, hdst, hb, cond_true]) rfl
        | false =>
          have he : hideFresh m i (o :: l) s = hideFresh m (i + 1) l (s.setB d .free) := by simp only [hideFresh, hk, hdst, hb, cond_false]
          have hdep := lt_depth (hd o (by simp) d hdst) hn
          obtain ⟨h1, h2, h3⟩ := hideFresh_ok (m := m) hn l (i + 1) (s.setB d .free) hd'
          rw [he]
          refine ⟨h1, fun u => (h2 u).trans rfl, fun b => ?_⟩
          by_cases hbd : b = d
          · left
            rcases h3 b with h | ⟨h, _⟩
            · exact h
            · rw [h, PS.blk_setB _ hdep, if_pos hbd]
          · refine (h3 b).imp id fun ⟨e1, e2⟩ => ⟨by rw [e1, PS.blk_setB _ hdep, if_neg hbd], fun k o' hk' hf hdst' => ?_⟩
            cases k with
            | zero =>
              obtain rfl : o = o' := by simpa using hk'
              rw [hdst] at hdst'
              exact absurd (Option.some.inj hdst').symm hbd
            | succ k => have := e2 k o' (by simpa using hk') hf hdst'; rwa [Nat.add_assoc, Nat.add_comm 1 k] at this
    | pure => exact skip s (fun b h => by rw [hk] at h; cases h) (by simp only [hideFresh, hk]) rfl
    | quiet => exact skip s (fun b h => by rw [hk] at h; cases h) (by simp only [hideFresh, hk]) rfl
    | write => exact skip s (fun b h => by rw [hk] at h; cases h) (by simp only [hideFresh, hk]) rfl
    | barrier => exact skip s (fun b h => by rw [hk] at h; cases h) (by simp only [hideFresh, hk]) rfl

theorem freeAhead_of {s : PS} : ∀ {l : List Oper}, freeAhead s l = true → ∀ o ∈ l, ∀ d, kindOf o.op = .fresh → o.dst = some d → s.blk d = .free
  | [], _, o, h, _, _, _ => by cases h
  | o' :: l, h, o, ho, d, hk, hd => by
    simp only [freeAhead, Bool.and_eq_true] at h
    rcases List.mem_cons.1 ho with rfl | ho
    · rw [hk, hd] at h; exact Blk.isFree_iff.1 h.1
    · exact freeAhead_of h.2 o ho d hk hd

/-- What an effect of an operation looks like. -/
def Eff.Shape (o : Oper) (s : PS) : Eff → Prop
  | .put d _ => d = o.dst
  | .new d _ _ => kindOf o.op = .fresh ∧ o.dst = some d ∧ d < s.n
  | .wr u _ => kindOf o.op = .write ∧ u < s.n ∧ s.blk u ≠ .free
  | .all s' => kindOf o.op = .barrier ∧ s'.n = s.n

/-- What a state must share with the lexical one for the operation to do there as it did. -/
structure Alike (xs : List Tmp) (o : Oper) (hid : Nat → Prop) (s t : PS) : Prop where
  n : t.n = s.n
  get : ∀ σ ∈ xs, t.get σ = s.get σ
  blk : kindOf o.op ≠ .pure → ∀ b, ¬ hid b → s.blk b ≠ .free → t.blk b = s.blk b
  fresh : kindOf o.op = .fresh → ∀ d, o.dst = some d → t.blk d = .free ∧ s.blk d = .free
  all : kindOf o.op = .barrier → PS.Eq s t

theorem Alike.of_eq {xs : List Tmp} {o : Oper} {hid : Nat → Prop} {s s2 t : PS} (h : PS.Eq s s2) (A : Alike xs o hid s t) : Alike xs o hid s2 t :=
  ⟨A.n.trans h.n, fun σ hσ => (A.get σ hσ).trans (h.get σ), fun hk b hb hf => by rw [← h.blk b] at hf ⊢; exact A.blk hk b hb hf, fun hk d hd => ⟨(A.fresh hk d hd).1, by rw [← h.blk d]; exact (A.fresh hk d hd).2⟩, fun hk => h.symm.trans (A.all hk)⟩

section
variable {P : Program} {R : Type} {call : CallK R} {m s t s' t' : PS} {o : Oper}

theorem StepOk.to (h : StepOk P s o s') (e : PS.Eq s' t') : StepOk P s o t' := fun B0 w0 a w hr next Q hn => h B0 w0 a w hr next Q fun a' w' hr' => hn a' w' (e.rel hr')
theorem StepOk.from (e : PS.Eq s t) (h : StepOk P s o s') : StepOk P t o s' := fun B0 w0 a w hr next Q hn => h B0 w0 a w (e.symm.rel hr) next Q hn

theorem frozen_leaf {w : World} {B : Nat} {p' q : Nat → Prop} {β' β : Nat → Option Value} {H : Nat → Blk} {b : Blk} {v : Value} {c c' : LV} (hp : ∀ g, p' g → q g)
    (hb : match β' 0 with | some r => RepB w p' β' (fun u => if u = 0 then b else .free) B b r ∧ (∀ g, rootBlock r = some g → q g) | none => b = .free)
    (hc : RepL w p' β' (fun u => if u = 0 then b else .free) c v) (h : frozenL b c = some c') : RepL w q β H c' v := by
  unfold frozenL at h
  split at h
  · split at h
    · rename_i T e xs
      obtain rfl := Option.some.inj h
      obtain ⟨g1, _, _⟩ := hc
      rw [g1] at hb
      obtain ⟨⟨us, hown, he, hrow⟩, hq⟩ := hb
      exact slice_of_own hown (hrow.imp fun _ _ h => RepT.mono (fun g hg => ⟨hp g hg, rfl⟩) h) hq
    · cases h
  · split at h
    · rename_i hpure
      obtain rfl := Option.some.inj h
      exact RepL.keep (β := β) (H := H) ⟨fun g hg => ⟨hp g hg, rfl⟩, fun _ _ h => h, fun _ _ => BlkSim.refl _⟩ (RepL.pure hpure hc)
    · cases h

theorem frozenLs_ok {w : World} {p' q : Nat → Prop} {β' β : Nat → Option Value} {H H' : Nat → Blk} {b : Blk} (hl : ∀ c c' v, RepL w p' β' H' c v → frozenL b c = some c' → RepL w q β H c' v) : ∀ {cs cs' : List LV} {vs : List Value}, RepLs w p' β' H' cs vs → frozenLs b cs = some cs' → RepLs w q β H cs' vs
  | [], cs', vs, hc, h => by
    obtain rfl := Option.some.inj h
    have : vs = [] := List.eq_nil_of_length_eq_zero hc.1.symm
    subst this; exact repLs_nil
  | c :: cs, cs', vs, hc, h => by
    simp only [frozenLs] at h
    obtain ⟨v, vs', rfl, h1, h2⟩ := hc.uncons
    split at h
    · rename_i x xs e1 e2
      obtain rfl := Option.some.inj h
      exact RepLs.append (repLs_one (hl _ _ _ h1 e1)) (frozenLs_ok hl h2 e2)
    · cases h
theorem frozenC_ok {w : World} {p' q : Nat → Prop} {β' β : Nat → Option Value} {H H' : Nat → Blk} {b : Blk} (hl : ∀ c c' v, RepL w p' β' H' c v → frozenL b c = some c' → RepL w q β H c' v) {c c' : CV} {v : Value} (hc : RepC w p' β' H' c v) (h : frozenC b c = some c') : RepC w q β H c' v := by
  cases c with
  | l c =>
    simp only [frozenC] at h
    split at h
    · rename_i x hx
      obtain rfl := Option.some.inj h
      by_cases hu : c = .undef
      · subst hu
        have : x = .undef := by simpa [frozenL, LV.pure] using hx.symm
        subst this; trivial
      · exact repC_l (hl _ _ _ (repL_of hu hc) hx)
    · cases h
  | agg cs =>
    simp only [frozenC] at h
    split at h
    · rename_i xs hx
      obtain rfl := Option.some.inj h
      obtain ⟨vs, rfl, h2⟩ := hc
      exact ⟨vs, rfl, frozenLs_ok hl h2 hx⟩
    · cases h
theorem frozenCs_ok {w : World} {p' q : Nat → Prop} {β' β : Nat → Option Value} {H H' : Nat → Blk} {b : Blk} (hl : ∀ c c' v, RepL w p' β' H' c v → frozenL b c = some c' → RepL w q β H c' v) : ∀ {cs cs' : List CV} {vs : List Value}, RepCs w p' β' H' cs vs → frozenCs b cs = some cs' → RepCs w q β H cs' vs
  | [], cs', vs, hc, h => by
    obtain rfl := Option.some.inj h
    have : vs = [] := List.eq_nil_of_length_eq_zero hc.1.symm
    subst this; exact repCs_nil
  | c :: cs, cs', vs, hc, h => by
    simp only [frozenCs] at h
    obtain ⟨v, vs', rfl, h1, h2⟩ := hc.uncons
    split at h
    · rename_i x xs e1 e2
      obtain rfl := Option.some.inj h
      exact repCs_cons (frozenC_ok hl h1 e1) (frozenCs_ok hl h2 e2)
    · cases h

/-- A call's result, taken over as data. -/
theorem frozen_ok {B0 : Nat} {w0 : Base} {β : Nat → Option Value} {p : Nat → Prop} {a : Act} {w w' : World} (inv : Inv B0 w0 β p s a w) (hbel : Below w.heap.size w w') {rv : RV} {v : Value} (hr : RepRV w.heap.size w' p rv v) {x : SV} (hx : frozen rv = some x) (d : Option Tmp) :
    Rel B0 w0 (s.put d x) (a.put d v) w' := by
  obtain ⟨p', β', hp, hn, hb, hv⟩ := hr
  let q : Nat → Prop := fun b => p' b ∨ ∃ r, β' 0 = some r ∧ rootBlock r = some b
  have hroot : ∀ b r, β' 0 = some r → rootBlock r = some b → w.heap.size ≤ b ∧ b < w'.heap.size := by
    intro b r h0 hrb
    rw [h0] at hb
    exact hb.1.root b hrb
  have hq : ∀ b, q b → (p b ∨ w.heap.size ≤ b) ∧ b < w'.heap.size := by
    rintro b (h | ⟨r, h0, h1⟩)
    · exact hp b h
    · exact ⟨.inr (hroot b r h0 h1).1, (hroot b r h0 h1).2⟩
  have inv' := inv_under inv hbel hq
  have hb' : match β' 0 with | some r => RepB w' p' β' (fun u => if u = 0 then rv.b else .free) w.heap.size rv.b r ∧ (∀ g, rootBlock r = some g → (fun b => p b ∨ q b) g) | none => rv.b = .free := by
    cases h0 : β' 0 with
    | none => rw [h0] at hb; exact hb
    | some r => rw [h0] at hb; exact ⟨hb.1, fun g hg => .inr (.inr ⟨r, h0, hg⟩)⟩
  have leaf : ∀ c c' v, RepL w' p' β' (fun u => if u = 0 then rv.b else .free) c v → frozenL rv.b c = some c' → RepL w' (fun b => p b ∨ q b) β s.blk c' v := fun c c' v hc h =>
    frozen_leaf (B := w.heap.size) (fun g hg => .inr (.inl hg)) hb' hc h
  refine ⟨β, _, inv'.put d ?_⟩
  unfold frozen at hx
  split at hx
  · rename_i c hc
    rw [hc] at hv
    split at hx
    · rename_i y hy
      obtain rfl := Option.some.inj hx
      exact frozenC_ok leaf hv hy
    · cases hx
  · rename_i cs hc
    rw [hc] at hv
    obtain ⟨vs, rfl, hv⟩ := hv
    split at hx
    · rename_i y hy
      obtain rfl := Option.some.inj hx
      exact ⟨vs, rfl, frozenCs_ok leaf hv hy⟩
    · cases hx
end
end Go.Ev
