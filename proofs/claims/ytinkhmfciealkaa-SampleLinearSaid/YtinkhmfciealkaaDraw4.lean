/- The path of the lexical order, out of the evaluator's run. -/
import Derived.Test.YtinkhmfciealkaaDraw3
set_option linter.unusedSimpArgs false
namespace Go.Ev
open Go.RowKit

section
variable {P : Program} {R : Type} {call : CallK R} {m s t : PS} {o : Oper}

/-- The state as it is seen. -/
structure Seen (hid : Nat → Prop) (m s : PS) : Prop where
  n : m.n = s.n
  get : ∀ u, m.get u = s.get u
  blk : ∀ b, m.blk b = .free ∨ (m.blk b = s.blk b ∧ ¬ hid b)

theorem Seen.sees {hid : Nat → Prop} (h : Seen hid m s) (hd : s.n ≤ 4000) {xs : List Tmp} (A : Alike xs o hid s t) {ys : List Tmp} (hy : ∀ u ∈ ys, u ∈ xs) : Sees m t ys (match kindOf o.op with | .pure => false | _ => true) := by
  refine ⟨A.n.trans h.n.symm, by rw [h.n]; exact hd, fun u hu => (A.get u (hy u hu)).trans (h.get u).symm, fun hk b hb => ?_⟩
  have hne : kindOf o.op ≠ .pure := by intro e; rw [e] at hk; cases hk
  rcases h.blk b with h1 | ⟨h1, h2⟩
  · exact absurd h1 hb
  · rw [h1] at hb ⊢
    exact A.blk hne b h2 hb

theorem write_op {op : Op} (h : kindOf op = .write) : ∃ T a x, op = .store T a x := by
  unfold kindOf at h
  split at h <;> first | (cases h; done) | exact ⟨_, _, _, rfl⟩ | (split at h <;> cases h)

theorem store_nonfree {T : TypeId} {y : CV} {u sz i off : Nat} {r : Bool × PS} (h : storeOp P m T y (.ref u sz i off) = some r) : m.blk u ≠ .free := by
  intro e
  simp only [storeOp, e] at h
  split at h <;> cases h

/-- One operation of a region of many orders, with its guard held: its effect, and that it has this effect wherever all that it looks at is alike. -/
theorem runOpD_ok (hns : NoSpecial P) (hcall : CallOk P R call) {hid : Nat → Prop} (hm : Seen hid m s) (hd : s.n ≤ 4000) (hdn : ∀ d, o.dst = some d → d < s.n) {k : PS → Option R} {r : R} (h : runOpD P R call m s o k = some r) :
    ∃ e : Eff, k (e.app s) = some r ∧ e.Shape o s ∧ ∀ t xs, (∀ u ∈ tmpsOf o.op.operands.toList, u ∈ xs) → Alike xs o hid s t → StepOk P t o (e.app t) := by
  unfold runOpD at h
  split at h
  · rename_i c x y ho
    have hk : kindOf o.op = .pure := by rw [ho]; rfl
    split at h
    · rename_i q hc
      have go : ∀ z, z = (if q then x else y) → k (s.put o.dst (ev m z)) = some r → ∃ e : Eff, k (e.app s) = some r ∧ e.Shape o s ∧ ∀ t xs, (∀ u ∈ tmpsOf o.op.operands.toList, u ∈ xs) → Alike xs o hid s t → StepOk P t o (e.app t) := by
        intro z hz hk'
        refine ⟨.put o.dst (ev m z), hk', rfl, fun t xs hx A => ?_⟩
        have S := hm.sees hd A hx
        have e1 : evL t c = .bool q := by rw [S.evL (x := c) (by simp [ho, Op.operands])]; exact hc
        have e2 : ev t z = ev m z := by
          subst hz
          cases q
          · exact S.ev (by simp [ho, Op.operands])
          · exact S.ev (by simp [ho, Op.operands])
        have := step_pick (P := P) ho e1
        rw [← hz, e2] at this
        exact this
      cases q
      · exact go y rfl h
      · exact go x rfl h
    · cases h
  · rename_i f args ts ho
    have hk : kindOf o.op = .quiet := by rw [ho]; rfl
    split at h
    · rename_i g d hf hdst
      split at h
      · rename_i hc
        split at h
        · rename_i vs hs
          obtain ⟨rv, h1, hmt⟩ := hcall _ _ _ _ h
          split at h1
          · cases h1
          rename_i hcl
          have hcl := Bool.eq_false_iff.2 hcl
          split at h1
          · rename_i x hx
            refine ⟨.put (some d) x, h1, by simp only [Eff.Shape]; exact hdst.symm, fun t xs hxs A => ?_⟩
            have S := hm.sees hd A hxs
            rw [hk] at S
            have hev : evCs t args.toList = evCs m args.toList := S.evCs fun y hy => by
              simp only [ho, Op.operands, Call.operands]
              simp [Array.mem_toList_iff.1 hy]
            have hft : evL t f = .fn g := by rw [S.evL (x := f) (by simp [ho, Op.operands, Call.operands])]; exact hf
            have hst : snapCs t (evCs t args.toList) = some vs := by rw [hev]; exact snapCs_mono (S.blks rfl) hs
            intro B0 w0 a w ⟨β, p, inv⟩ next Q hn
            refine wp_call hns inv ho hft hc hmt hst (by rw [hev]; exact hcl) fun v w' hb hr => hn _ _ ?_
            rw [hdst]
            exact frozen_ok inv hb hr hx (some d)
          · cases h1
        · cases h
      · cases h
    · cases h
  · rename_i hnp hnc
    cases hk : kindOf o.op with
    | barrier =>
      simp only [hk] at h
      split at h
      · rename_i c s' hs
        rw [Bool.and_comm] at h
        cases c with
        | false => cases h
        | true =>
          cases hb : Nat.beq s'.n s.n with
          | false => rw [hb] at h; cases h
          | true =>
            rw [hb] at h
            exact ⟨.all s', h, ⟨hk, by simpa using hb⟩, fun t xs _ A => StepOk.from (A.all hk) (step_ok hs)⟩
      · cases h
    | write =>
      simp only [hk] at h
      split at h
      · rename_i c m' hs
        rw [Bool.and_comm] at h
        cases c with
        | false => cases h
        | true =>
          cases hb : Nat.blt (written m o) s.n with
          | false => rw [hb] at h; cases h
          | true =>
            rw [hb] at h
            have hlt : written m o < s.n := by rw [Nat.blt_eq] at hb; exact hb
            refine ⟨.wr (written m o) (m'.blk (written m o)), ?_, ⟨hk, hlt, ?_⟩, fun t xs hxs A => ?_⟩
            · simp only [Bool.and_true, cond_true, effect, hk] at h; exact h
            · have : m.blk (written m o) ≠ .free := by
                obtain ⟨T, a, x, ho⟩ := write_op hk
                unfold stepOp at hs
                rw [ho] at hs
                simp only [] at hs
                split at hs
                · cases ha : evL m a <;> rw [ha] at hs <;> first | (simp [storeOp] at hs; done) | skip
                  rename_i u sz i off
                  have hw : written m o = u := by unfold written; rw [ho]; simp only [ha]
                  rw [hw]
                  exact store_nonfree hs
                · cases hs
              rcases hm.blk (written m o) with h1 | h1
              · exact absurd h1 this
              · rw [← h1.1]; exact this
            · have S := hm.sees hd A hxs
              have := step_ok (step_mono S (.inr (by rw [hk])) (by rw [hk]; intro e; cases e) (fun _ => by rw [hm.n]; exact hlt) (fun e => by rw [hk] at e; cases e) hs)
              simp only [effect, hk] at this
              exact this
      · cases h
    | fresh =>
      simp only [hk] at h
      split at h
      · rename_i c m' hs
        cases c with
        | false => cases h
        | true =>
          cases hdst : o.dst with
          | none =>
            refine ⟨.put none undefS, ?_, by simp only [Eff.Shape]; exact hdst.symm, fun t xs hxs A => ?_⟩
            · simp only [cond_true, effect, hk, hdst] at h; exact h
            · have S := hm.sees hd A hxs
              have := step_ok (step_mono S (.inr (by rw [hk])) (by rw [hk]; intro e; cases e) (fun e => by rw [hk] at e; cases e) (fun _ d e => by rw [hdst] at e; cases e) hs)
              simp only [effect, hk, hdst] at this
              exact this
          | some d =>
            have key : ∀ t : PS, effect o m m' t = (Eff.new d (m'.get d) (m'.blk d)).app t := by
              intro t
              simp only [effect, hk, hdst, Eff.app]
            refine ⟨.new d (m'.get d) (m'.blk d), by rw [← key s]; exact h, ⟨hk, hdst, hdn d hdst⟩, fun t xs hxs A => ?_⟩
            have S := hm.sees hd A hxs
            rw [← key t]
            refine step_ok (step_mono S (.inr (by rw [hk])) (by rw [hk]; intro e; cases e) (fun e => by rw [hk] at e; cases e) (fun _ d' e => ?_) hs)
            rw [hdst] at e
            obtain rfl := Option.some.inj e
            obtain ⟨f1, f2⟩ := A.fresh hk d hdst
            refine ⟨?_, f1⟩
            rcases hm.blk d with h1 | h1
            · exact h1
            · rw [h1.1]; exact f2
      · cases h
    | pure =>
      simp only [hk] at h
      split at h
      · rename_i c m' hs
        cases c with
        | false => cases h
        | true =>
          have key : ∀ t : PS, effect o m m' t = (Eff.put o.dst (match o.dst with | some d => m'.get d | none => undefS)).app t := by
            intro t
            simp only [effect, hk, Eff.app]
            cases o.dst <;> rfl
          refine ⟨.put o.dst (match o.dst with | some d => m'.get d | none => undefS), by rw [← key s]; exact h, rfl, fun t xs hxs A => ?_⟩
          have S := hm.sees hd A hxs
          rw [← key t]
          exact step_ok (step_mono S (.inl hk) (by rw [hk]; intro e; cases e) (fun e => by rw [hk] at e; cases e) (fun e => by rw [hk] at e; cases e) hs)
      · cases h
    | quiet =>
      simp only [hk] at h
      split at h
      · rename_i c m' hs
        cases c with
        | false => cases h
        | true =>
          have key : ∀ t : PS, effect o m m' t = (Eff.put o.dst (match o.dst with | some d => m'.get d | none => undefS)).app t := by
            intro t
            simp only [effect, hk, Eff.app]
            cases o.dst <;> rfl
          refine ⟨.put o.dst (match o.dst with | some d => m'.get d | none => undefS), by rw [← key s]; exact h, rfl, fun t xs hxs A => ?_⟩
          have S := hm.sees hd A hxs
          rw [← key t]
          exact step_ok (step_mono S (.inr (by rw [hk])) (by rw [hk]; intro e; cases e) (fun e => by rw [hk] at e; cases e) (fun e => by rw [hk] at e; cases e) hs)
      · cases h

/-- One operation of the lexical order, with its effect. -/
structure Fact (P : Program) (ops : Array Oper) (m j : Nat) (o : Oper) (s : PS) (e : Eff) : Prop where
  shape : e.Shape o s
  loc : ∀ t, Alike (looks ops.toList o) o (Hid ops.toList m j) s t → OpTo P ops t o (e.app t)

inductive Path (P : Program) (ops : Array Oper) (ms : List Nat) : Nat → List Oper → PS → List Eff → PS → Prop
  | nil {j : Nat} {s : PS} : Path P ops ms j [] s [] s
  | cons {j : Nat} {o : Oper} {l : List Oper} {s s1 s' : PS} {e : Eff} {es : List Eff} (hfree : freeAhead s (o :: l) = true) (hfact : Fact P ops (ms.getD j 0) j o s e) (heq : PS.Eq (e.app s) s1) (rest : Path P ops ms (j + 1) l s1 es s') : Path P ops ms j (o :: l) s (e :: es) s'

theorem Eff.Shape.ok {e : Eff} {n : Nat} (h : e.Shape o s) (hn : s.n = n) : e.Ok n := by
  cases e with
  | put d x => trivial
  | new d x b => rw [← hn]; exact h.2.2
  | wr u b => rw [← hn]; exact h.2.1
  | all s' => rw [← hn]; exact h.2

theorem Eff.Shape.of_eq {e : Eff} (h : e.Shape o s) (he : PS.Eq s t) : e.Shape o t := by
  cases e with
  | put d x => exact h
  | new d x b => exact ⟨h.1, h.2.1, he.n ▸ h.2.2⟩
  | wr u b => exact ⟨h.1, he.n ▸ h.2.1, by rw [← he.blk u]; exact h.2.2⟩
  | all s' => exact ⟨h.1, h.2.trans he.n⟩

theorem setBool_eq (hd : s.n ≤ 4000) {g : Tmp} {b : Bool} (hb : ev s (.tmp g) = .c (.l (.bool b))) : PS.Eq (setBool s g b) s := by
  refine ⟨put_n _ _ _, fun u => ?_, fun u => put_blk _ _ _ _⟩
  unfold setBool
  rw [put_get hd]
  split
  · rename_i h
    obtain ⟨h1, h2⟩ := h
    obtain rfl := Option.some.inj h1
    have hlt : Nat.blt g s.n = true := by simp [h2]
    simp only [ev, hlt, cond_true] at hb
    exact hb.symm
  · rfl

theorem seen_hide {n : Nat} {l : List Oper} {ms : List Nat} (D : Drawn n l ms) (m j : Nat) (s : PS) : Seen (Hid l m j) (hideFresh m 0 (l.take j) s) s := by
  obtain ⟨h1, h2, h3⟩ := hideFresh_ok (m := m) D.deep (l.take j) 0 s (fun o ho => D.dst o (List.mem_of_mem_take ho))
  refine ⟨h1, h2, fun b => (h3 b).imp id fun ⟨e1, e2⟩ => ⟨e1, ?_⟩⟩
  rintro ⟨i, o, hij, ho, hk, hdst, hbit⟩
  have := e2 i o (by rw [List.getElem?_take, if_pos hij]; exact ho) hk hdst
  rw [Nat.zero_add, hbit] at this
  cases this

theorem runDraw_ok (hns : NoSpecial P) (hcall : CallOk P R call) {ops : Array Oper} {ms : List Nat} {n : Nat} (D : Drawn n ops.toList ms) : ∀ (l : List Oper) (j : Nat) (s : PS) (k : PS → Option R) (r : R), ops.toList.drop j = l → s.n = n →
    runDraw P R call ops.toList ms j l s k = some r → ∃ es s', k s' = some r ∧ Path P ops ms j l s es s'
  | [], j, s, k, r, _, _, h => ⟨[], s, h, .nil⟩
  | o :: l, j, s, k, r, hl, hsn, h => by
    have hd : s.n ≤ 4000 := hsn ▸ D.deep
    have hmem : o ∈ ops.toList := List.mem_of_mem_drop (i := j) (by rw [hl]; simp)
    have hdn : ∀ d, o.dst = some d → d < n := D.dst o hmem
    have hl' : ops.toList.drop (j + 1) = l := by
      have := congrArg List.tail hl
      rw [List.tail_drop] at this
      exact this
    unfold runDraw at h
    cases hfa : freeAhead s (o :: l) with
    | false => rw [hfa] at h; cases h
    | true =>
    rw [hfa] at h
    simp only [Bool.not_true, cond_false] at h
    -- carried out, from a state that shows the same
    have go : ∀ s0, PS.Eq s0 s → runOpD P R call (hideFresh (ms.getD j 0) 0 (ops.toList.take j) s0) s0 o (fun s => runDraw P R call ops.toList ms (j + 1) l s k) = some r →
        (∀ t, Alike (looks ops.toList o) o (Hid ops.toList (ms.getD j 0) j) s t → ∀ s', StepOk P t o s' → OpTo P ops t o s') → (∀ u ∈ tmpsOf o.op.operands.toList, u ∈ looks ops.toList o) → ∃ es s', k s' = some r ∧ Path P ops ms j (o :: l) s es s' := by
      intro s0 h0 hrun hop hlook
      have hs0 : s0.n = n := h0.n.trans hsn
      obtain ⟨e, h1, h2, h3⟩ := runOpD_ok hns hcall (seen_hide D (ms.getD j 0) j s0) (by rw [hs0]; exact D.deep) (by rw [hs0]; exact hdn) hrun
      obtain ⟨es, s', h4, h5⟩ := runDraw_ok hns hcall D l (j + 1) _ k r hl' (Eff.app_n (h2.ok hs0) hs0) h1
      exact ⟨e :: es, s', h4, .cons hfa ⟨h2.of_eq h0, fun t A => hop t A _ (h3 t _ hlook (A.of_eq h0.symm))⟩ (Eff.app_congr D.deep (h2.ok hs0) hsn h0.symm) h5⟩
    -- left out
    have out : ∀ s0, PS.Eq s0 s → runDraw P R call ops.toList ms (j + 1) l (s0.put o.dst skipped) k = some r →
        (∀ t, Alike (looks ops.toList o) o (Hid ops.toList (ms.getD j 0) j) s t → OpTo P ops t o (t.put o.dst skipped)) → ∃ es s', k s' = some r ∧ Path P ops ms j (o :: l) s es s' := by
      intro s0 h0 hrun hop
      have hs0 : s0.n = n := h0.n.trans hsn
      obtain ⟨es, s', h4, h5⟩ := runDraw_ok hns hcall D l (j + 1) _ k r hl' ((put_n _ _ _).trans hs0) hrun
      exact ⟨.put o.dst skipped :: es, s', h4, .cons hfa ⟨rfl, fun t A => hop t A⟩ (Eff.app_congr (e := .put o.dst skipped) D.deep trivial hsn h0.symm) h5⟩
    split at h
    · rename_i hg
      exact go s (.refl s) h (fun t _ s' hs' => opTo_free hg hs') (fun u hu => by unfold looks; rw [hg]; exact hu)
    · rename_i i want hg
      split at h
      · rename_i oj hj
        have hj' : ops[i]? = some oj := by rw [← Array.getElem?_toList]; exact hj
        split at h
        · rename_i g hdst
          have hlooks : looks ops.toList o = g :: tmpsOf o.op.operands.toList := by unfold looks; rw [hg]; simp only [hj, hdst]
          have hsub : ∀ u ∈ tmpsOf o.op.operands.toList, u ∈ looks ops.toList o := fun u hu => by rw [hlooks]; exact List.mem_cons_of_mem _ hu
          have hsame : ∀ t, Alike (looks ops.toList o) o (Hid ops.toList (ms.getD j 0) j) s t → ev t (.tmp g) = ev s (.tmp g) := fun t A => by
            simp only [ev, A.n, A.get g (by rw [hlooks]; simp)]
          split at h
          · rename_i b hb
            have onb : b = want → runOpD P R call (hideFresh (ms.getD j 0) 0 (ops.toList.take j) (setBool s g b)) (setBool s g b) o (fun s => runDraw P R call ops.toList ms (j + 1) l s k) = some r → ∃ es s', k s' = some r ∧ Path P ops ms j (o :: l) s es s' := by
              intro e hrun
              subst e
              exact go _ (setBool_eq hd hb) hrun (fun t A s' hs' => opTo_on hg hj' hdst ((hsame t A).trans hb) hs') hsub
            have offb : b ≠ want → runDraw P R call ops.toList ms (j + 1) l ((setBool s g b).put o.dst skipped) k = some r → ∃ es s', k s' = some r ∧ Path P ops ms j (o :: l) s es s' := by
              intro e h
              refine out _ (setBool_eq hd hb) h fun t A => ?_
              have htb : ev t (.tmp g) = .c (.l (.bool b)) := (hsame t A).trans hb
              have htn : t.n ≤ 4000 := by rw [A.n]; exact hd
              intro B0 w0 a w hr next Q hn
              exact opTo_off hg hj' hdst htb e B0 w0 a w hr next Q fun a' w' hr' => hn a' w' ((Eff.app_congr (e := .put o.dst skipped) (n := t.n) htn trivial (put_n _ _ _) (setBool_eq htn htb)).rel hr')
            cases b <;> cases want <;> simp only [cond_true, cond_false] at h
            · exact onb rfl h
            · exact offb (by simp) h
            · exact offb (by simp) h
            · exact onb rfl h
          · rename_i hb
            exact out s (.refl s) h fun t A => opTo_none hg hj' hdst ((hsame t A).trans hb)
          · cases h
        · cases h
      · cases h
end
end Go.Ev
