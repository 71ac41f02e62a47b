/- Calls: what a call is handed, and what it gives back. -/
import Derived.Test.YtinkhmfciealkaaExec1
set_option linter.unusedSimpArgs false
namespace Go.Ev
open Go.RowKit

section
variable {w w' : World} {p p' : Nat → Prop} {β β' : Nat → Option Value} {H H' : Nat → Blk}

/-- An own slice, read as data. -/
theorem slice_of_own {B : Nat} {T : TypeId} {e : Sh} {xs : List e.T} {v : Value} {us : List Value} (hown : w.ownsRow B T e.size v xs.length us) (hrow : Rows' e.size (RepT w p' e) xs us)
    (hp : ∀ b, rootBlock v = some b → p' b) : RepT w p' (.slice e) xs [v] := by
  simp only [RepT]
  rcases hown.2 with ⟨e1, e2⟩ | ⟨g, cap, cur, e1, h1, h2, h3, _, h5, h6⟩
  · exact ⟨none, 0, by rw [e1, e2], ⟨by omega, fun _ => rfl⟩, .inl (List.eq_nil_of_length_eq_zero e2)⟩
  · rw [e1]
    have hc : ∀ j, j < us.length → w.cell? ⟨g, 0 + j, none⟩ = us[j]? := fun j hj => by
      rw [Nat.zero_add, cell_of h2, ← h6, List.getElem?_take, if_pos (by rw [← hrow.1]; exact hj)]
    have := slice_of_rows (cap := cap) hrow (hp g (by rw [e1]; rfl)) rfl h3 hc
    simpa only [RepT] using this

theorem repB_flat {B : Nat} {b : Blk} {r : Value} (hb : b.behind = false) (h : RepB w p β H B b r) : RepB w p' β H B b r := by
  cases b with
  | free => exact h
  | cells cs =>
    obtain ⟨b, vs, T, rfl, h1, h2, h3⟩ := h
    refine ⟨b, vs, T, rfl, h1, h2, RepLs.imp (fun v => !v.behind) (fun c v hc h => RepL.nb (by simpa using hc) h) ?_ h3⟩
    simpa [Blk.behind] using hb
  | arr e xs =>
    obtain ⟨b, vs, T, rfl, h1, h2, h3, h4⟩ := h
    exact ⟨b, vs, T, rfl, h1, h2, h3, h4.imp fun _ _ h => RepT.flat (by simpa [Blk.behind] using hb) h⟩
  | buf T e xs =>
    obtain ⟨us, h1, h2, h3⟩ := h
    exact ⟨us, h1, h2, h3.imp fun _ _ h => RepT.flat (by simpa [Blk.behind] using hb) h⟩
  | map k v es =>
    obtain ⟨b, ms, clock, rfl, h1, h2, h3, h4⟩ := h
    have hb : k.flat = true ∧ v.flat = true := by simpa [Blk.behind] using hb
    refine ⟨b, ms, clock, rfl, h1, h2, h3, fun i x m hi hm => ?_⟩
    obtain ⟨⟨us, a1, a2, a3⟩, ts, a4, a5, a6⟩ := h4 i x m hi hm
    exact ⟨⟨us, RepT.flat hb.1 a1, a2, a3⟩, ts, RepT.flat hb.2 a4, a5, a6⟩
end

section
variable {P : Program} {s s' : PS} {o : Oper} {B0 : Nat} {w0 : Base} {β : Nat → Option Value} {p : Nat → Prop} {a : Act} {w w' : World}

theorem snapLs_ok (inv : Inv B0 w0 β p s a w) {q : Nat → Prop} (cov : Covers β p q) : ∀ {cs cs' : List LV} {vs : List Value}, RepLs w p β s.blk cs vs → snapLs s cs = some cs' → RepLs w q (fun _ => none) (fun _ => .free) cs' vs
  | [], cs', vs, hc, h => by
    simp only [snapLs] at h
    obtain rfl := Option.some.inj h
    have : vs = [] := List.eq_nil_of_length_eq_zero hc.1.symm
    subst this; exact repLs_nil
  | c :: cs, cs', vs, hc, h => by
    simp only [snapLs] at h
    obtain ⟨v, vs', rfl, h1, h2⟩ := hc.uncons
    split at h
    · rename_i x xs e1 e2
      obtain rfl := Option.some.inj h
      exact RepLs.append (repLs_one (snapL_ok inv cov h1 e1)) (snapLs_ok inv cov h2 e2)
    · cases h

theorem snapC_ok (inv : Inv B0 w0 β p s a w) {q : Nat → Prop} (cov : Covers β p q) {c c' : CV} {v : Value} (hc : RepC w p β s.blk c v) (h : snapC s c = some c') : RepC w q (fun _ => none) (fun _ => .free) c' v := by
  cases c with
  | l c =>
    simp only [snapC] at h
    split at h
    · rename_i x hx
      obtain rfl := Option.some.inj h
      by_cases hu : c = .undef
      · subst hu; obtain rfl := Option.some.inj hx; trivial
      · exact repC_l (snapL_ok inv cov (repL_of hu hc) hx)
    · cases h
  | agg cs =>
    simp only [snapC] at h
    split at h
    · rename_i xs hx
      obtain rfl := Option.some.inj h
      obtain ⟨vs, rfl, hl⟩ := hc
      exact ⟨vs, rfl, snapLs_ok inv cov hl hx⟩
    · cases h

theorem repCs_nil {H : Nat → Blk} : RepCs w p β H [] [] := ⟨rfl, fun i c v h => by simp at h⟩
theorem repCs_cons {H : Nat → Blk} {c : CV} {cs : List CV} {v : Value} {vs : List Value} (h1 : RepC w p β H c v) (h2 : RepCs w p β H cs vs) : RepCs w p β H (c :: cs) (v :: vs) := by
  refine ⟨by simp [h2.1], fun i x y hx hy => ?_⟩
  cases i with
  | zero =>
    obtain rfl := Option.some.inj hx
    obtain rfl := Option.some.inj hy
    exact h1
  | succ i => exact h2.2 i x y (by simpa using hx) (by simpa using hy)
theorem RepCs.uncons {H : Nat → Blk} {c : CV} {cs : List CV} {vs : List Value} (h : RepCs w p β H (c :: cs) vs) : ∃ v us, vs = v :: us ∧ RepC w p β H c v ∧ RepCs w p β H cs us := by
  cases vs with
  | nil => have := h.1; simp at this
  | cons v us => exact ⟨v, us, rfl, h.2 0 c v rfl rfl, by have := h.1; simpa using this, fun i x y hx hy => h.2 (i + 1) x y (by simpa using hx) (by simpa using hy)⟩

theorem snapCs_ok (inv : Inv B0 w0 β p s a w) {q : Nat → Prop} (cov : Covers β p q) : ∀ {cs cs' : List CV} {vs : List Value}, RepCs w p β s.blk cs vs → snapCs s cs = some cs' → RepCs w q (fun _ => none) (fun _ => .free) cs' vs
  | [], cs', vs, hc, h => by
    simp only [snapCs] at h
    obtain rfl := Option.some.inj h
    have : vs = [] := List.eq_nil_of_length_eq_zero hc.1.symm
    subst this; exact repCs_nil
  | c :: cs, cs', vs, hc, h => by
    simp only [snapCs] at h
    obtain ⟨v, vs', rfl, h1, h2⟩ := hc.uncons
    split at h
    · rename_i x xs e1 e2
      obtain rfl := Option.some.inj h
      exact repCs_cons (snapC_ok inv cov h1 e1) (snapCs_ok inv cov h2 e2)
    · cases h

theorem snapLs_pure : ∀ {cs cs' : List LV}, cs.all LV.pure = true → snapLs s cs = some cs' → cs' = cs
  | [], cs', _, h => by simp only [snapLs] at h; exact (Option.some.inj h).symm
  | c :: cs, cs', hp, h => by
    simp only [snapLs] at h
    simp only [List.all_cons, Bool.and_eq_true] at hp
    split at h
    · rename_i x xs e1 e2
      obtain rfl := Option.some.inj h
      rw [snapL_pure hp.1 e1, snapLs_pure hp.2 e2]
    · cases h
theorem snapC_pure {c c' : CV} (hp : c.all LV.pure = true) (h : snapC s c = some c') : c' = c := by
  cases c with
  | l c =>
    simp only [snapC] at h
    split at h
    · rename_i x hx
      obtain rfl := Option.some.inj h
      rw [snapL_pure hp hx]
    · cases h
  | agg cs =>
    simp only [snapC] at h
    split at h
    · rename_i xs hx
      obtain rfl := Option.some.inj h
      rw [snapLs_pure hp hx]
    · cases h
theorem snapCs_pure : ∀ {cs cs' : List CV}, anyRef cs = false → snapCs s cs = some cs' → cs' = cs
  | [], cs', _, h => by simp only [snapCs] at h; exact (Option.some.inj h).symm
  | c :: cs, cs', hp, h => by
    simp only [snapCs] at h
    simp only [anyRef, List.any_cons, Bool.or_eq_false_iff, Bool.not_eq_false'] at hp
    split at h
    · rename_i x xs e1 e2
      obtain rfl := Option.some.inj h
      rw [snapC_pure hp.1 e1, snapCs_pure hp.2 e2]
    · cases h

theorem evCs_ok (inv : Inv B0 w0 β p s a w) : ∀ (xs : List Operand), RepCs w p β s.blk (evCs s xs) (xs.map a.eval)
  | [] => repCs_nil
  | x :: xs => repCs_cons (evC_ok inv x) (evCs_ok inv xs)

theorem call_ok (inv : Inv B0 w0 β p s a w) {g : FuncId} {vs : List CV} {rv : RV} {xs : Array Operand} (hm : Meets P g vs rv) (hs : snapCs s (evCs s xs.toList) = some vs)
    (hc : (anyRef (evCs s xs.toList) && (!(rv.v.all fun v => !v.behind) || rv.b.behind)) = false) :
    Calls P g (xs.map a.eval) w fun e w' => ∃ v, e = .returned v ∧ Below w.heap.size w w' ∧ RepRV w.heap.size w' p rv v := by
  have hev := evCs_ok inv xs.toList
  rw [← Array.toList_map] at hev
  by_cases hr : anyRef (evCs s xs.toList) = true
  · rw [hr, Bool.true_and, Bool.or_eq_false_iff, Bool.not_eq_false'] at hc
    refine (hm w _ _ (fun b h => h) (snapCs_ok inv (.heap inv) hev hs)).mono fun e w' ⟨v, he, hb, p', β', h1, h2, h3, h4⟩ => ⟨v, he, hb, fun _ => False, β', fun b h => h.elim, h2, ?_, ?_⟩
    · cases h0 : β' 0 with
      | none => rw [h0] at h3; exact h3
      | some r => rw [h0] at h3; exact ⟨repB_flat hc.2 h3.1, fun b _ h => h⟩
    · exact RepS.imp _ (fun c v hc h => RepL.nb (by simpa using hc) h) hc.1 h4
  · have hr : anyRef (evCs s xs.toList) = false := by simpa using hr
    obtain rfl := snapCs_pure hr hs
    refine (hm w p _ (fun b h => (inv.shared b h).1) (RepCs.imp LV.pure (fun c v hc h => RepL.pure hc h) ?_ hev)).mono fun e w' h => h
    simpa [anyRef] using hr

theorem inv_under (inv : Inv B0 w0 β p s a w) (hbel : Below w.heap.size w w') {p' : Nat → Prop} (hp : ∀ b, p' b → (p b ∨ w.heap.size ≤ b) ∧ b < w'.heap.size) :
    Inv B0 w0 β (fun b => p b ∨ p' b) s a w' := by
  refine (inv.world hbel).more (fun b h => .inl h) (fun b hb => ?_) fun b hb => ?_
  rotate_left
  · rcases hb with hb | hb
    · exact inv.conf b hb
    · rcases (hp b hb).1 with h | h
      · exact inv.conf b h
      · exact .inr (Nat.le_trans inv.base h)
  rcases hb with hb | hb
  · exact (inv.world hbel).shared b hb
  · refine ⟨(hp b hb).2, fun t r hr hroot => ?_⟩
    rcases (hp b hb).1 with h | h
    · exact (inv.shared b h).2 t r hr hroot
    · have := ((inv.blk hr).root b hroot).2
      omega

theorem repS_free {β' β : Nat → Option Value} {H : Nat → Blk} {p p' : Nat → Prop} {x : SV} {v : Value} {H' : Nat → Blk} (hn : ∀ t, β' t = none) (hp : ∀ b, p' b → p b) (h : RepS w p' β' H' x v) : RepS w p β H x v :=
  RepS.keep ⟨fun b hb => ⟨hp b hb, rfl⟩, fun t v h => (by rw [hn t] at h; cases h), fun t h => (by rw [hn t] at h; cases h)⟩ h

/-- A call's result is taken over. -/
theorem take_result_ok (inv : Inv B0 w0 β p s a w) (hbel : Below w.heap.size w w') {rv : RV} {v : Value} (hr : RepRV w.heap.size w' p rv v) {d : Nat} (ht : takeResult s d rv = some s') :
    Rel B0 w0 s' (a.put (some d) v) w' := by
  obtain ⟨p', β', hp, hn, hb, hv⟩ := hr
  have inv' := inv_under inv hbel hp
  unfold takeResult at ht
  split at ht
  · rename_i hf
    obtain rfl := Option.some.inj ht
    have hn' : ∀ t, β' t = none := by
      intro t
      by_cases h0 : t = 0
      · subst h0
        cases hr0 : β' 0 with
        | none => rfl
        | some r => rw [hr0, hf] at hb; exact hb.1.elim
      · exact hn t h0
    exact ⟨β, _, inv'.put (some d) (repS_free hn' (fun b h => .inr h) hv)⟩
  · rename_i T e xs hf
    cases hr0 : β' 0 with
    | none => rw [hr0, hf] at hb; cases hb
    | some r =>
      rw [hr0, hf] at hb
      obtain ⟨⟨us, hown, he, hrow⟩, hnr⟩ := hb
      have hbig : ∀ b, rootBlock r = some b → w.heap.size ≤ b := fun b hb => (RepB.root (B0 := w.heap.size) (b := .buf T e xs) (H := fun _ => .free) (β := β') ⟨us, hown, he, hrow⟩ b hb).1
      refine (inv'.newAt ht (w' := w') (r0 := r) (v := v) (Below.refl _ _) (fun _ _ => rfl) (fun _ _ _ _ _ _ => rfl) (fun b hb => ⟨?_, ?_⟩) fun β1 H1 _ h1 h2 => ?_).elim fun β1 h => ⟨β1, _, h⟩
      · rintro (h | h)
        · have := (inv.shared b h).1; have := hbig b hb; omega
        · exact hnr b hb h
      · intro t q _ hq hqb
        have := ((inv.blk hq).root b hqb).2
        have := hbig b hb
        omega
      · have hd : ∀ b, p' b → (p b ∨ p' b) ∧ w'.heap[b]? = w'.heap[b]? := fun b h => ⟨.inr h, rfl⟩
        refine ⟨⟨us, ?_, he, hrow.imp fun _ _ h => RepT.mono hd h⟩, ?_⟩
        · refine ⟨hown.1, hown.2.imp id ?_⟩
          rintro ⟨g, cap, cur, e1, g1, g2⟩
          exact ⟨g, cap, cur, e1, Nat.le_trans inv.base g1, g2⟩
        · have leaf : ∀ c u, RepL w' p' β' (fun t => if t = 0 then rv.b else .free) c u → RepL w' (fun b => p b ∨ p' b) β1 H1 (relocL d c) u := by
            intro c u hc
            have at0 : ∀ {t q}, β' t = some q → t = 0 ∧ q = r := by
              intro t q hq
              by_cases h0 : t = 0
              · subst h0; rw [hr0] at hq; exact ⟨rfl, (Option.some.inj hq).symm⟩
              · rw [hn t h0] at hq; cases hq
            cases c <;> simp only [relocL]
            case ref t sz i q =>
              obtain ⟨r', b, g1, g2, g3, g4⟩ := hc
              obtain ⟨rfl, rfl⟩ := at0 g1
              exact ⟨r', b, h1, g2, g3, by rw [h2]; simpa [hf] using g4⟩
            case full t =>
              obtain ⟨g1, g2, g3⟩ := hc
              obtain ⟨rfl, rfl⟩ := at0 g1
              exact ⟨h1, by rw [h2]; trivial, g3⟩
            case sref t sz off len =>
              obtain ⟨ad, cap, r', g1, g2, g3, g4, g5⟩ := hc
              obtain ⟨rfl, rfl⟩ := at0 g3
              exact ⟨ad, cap, r', g1, g2, h1, by rw [h2]; simpa [hf] using g4, g5⟩
            case cref t q len e' =>
              obtain ⟨ad, cap, r', g1, g2, g3, g4, g5⟩ := hc
              obtain ⟨rfl, rfl⟩ := at0 g3
              simp [hf, crefOk] at g4
            case mref t =>
              obtain ⟨g1, g2, g3⟩ := hc
              obtain ⟨rfl, rfl⟩ := at0 g1
              simp [hf, Blk.isMap] at g2
            all_goals exact RepL.keep (w := w') (p := p') (β := β1) (H := H1) ⟨hd, fun _ _ h => h, fun _ _ => BlkSim.refl _⟩ (RepL.pure rfl hc)
          have part : ∀ c u, RepC w' p' β' (fun t => if t = 0 then rv.b else .free) c u → RepC w' (fun b => p b ∨ p' b) β1 H1 (relocC d c) u := by
            intro c u hc
            have := RepC.of (f := relocL d) rfl leaf hc
            cases c <;> exact this
          cases hx : rv.v with
          | c c => rw [hx] at hv; exact part c v hv
          | tup cs => rw [hx] at hv; obtain ⟨vs, rfl, hv⟩ := hv; exact ⟨vs, rfl, RepCs.of part hv⟩
  · cases ht
end

/-! A slice of one's own becomes data -/
section
variable {s : PS} {B0 : Nat} {w0 : Base} {a : Act} {w : World}

theorem freeze_rel (h : Rel B0 w0 s a w) {t0 : Nat} (ht : t0 < s.n) : Rel B0 w0 (s.freeze t0) a w := by
  obtain ⟨β, p, inv⟩ := h
  cases hblk : s.blk t0 with
  | buf T e xs =>
    obtain ⟨r0, hr0⟩ := inv.root_of (t := t0) (by rw [hblk]; simp)
    have hdep := lt_depth ht inv.deep
    have hs : s.freeze t0 = { n := s.n, tmps := s.tmps.map (SV.frz t0 e xs), hp := M.set .free 12 (s.hp.map (Blk.frz t0 e xs)) t0 } := by simp [PS.freeze, hblk]
    have eb : ∀ t, (s.freeze t0).blk t = if t = t0 then .free else (s.blk t).frz t0 e xs := by
      intro t
      rw [hs]
      simp only [PS.blk, M.get_set _ 12 _ t0 t hdep]
      by_cases htt : t = t0
      · simp [htt]
      · simp only [htt, if_false, M.get_map]
        cases hh : s.hp.get t <;> simp [Blk.frz]
    have eg : ∀ t, (s.freeze t0).get t = (s.get t).frz t0 e xs := by
      intro t
      rw [hs]
      simp only [PS.get, M.get_map]
      cases hh : s.tmps.get t <;> simp [SV.frz, CV.frz, LV.frz, LV.kill, undefS]
    have simk : ∀ b : Blk, BlkSim b (b.frz t0 e xs) := by
      intro b; cases b <;> simp [Blk.frz, BlkSim]
    let p' : Nat → Prop := fun b => p b ∨ rootBlock r0 = some b
    let β' : Nat → Option Value := fun t => if t = t0 then none else β t
    have hk : KeepsBut (some t0) w w p p' β β' s.blk (s.freeze t0).blk := by
      refine ⟨fun b hb => ⟨.inl hb, rfl⟩, fun t v ht hv => ?_, fun t ht _ => ?_⟩
      · have : t ≠ t0 := fun e => ht (by rw [e])
        simp [β', this, hv]
      · have : t ≠ t0 := fun e => ht (by rw [e])
        rw [eb t, if_neg this]
        exact simk _
    obtain ⟨us, hown, he, hrow⟩ : RepB w p β s.blk B0 (.buf T e xs) r0 := by have := inv.blk hr0; rwa [hblk] at this
    have hroot : ∀ b, rootBlock r0 = some b → B0 ≤ b ∧ b < w.heap.size := fun b hb => (RepB.root (B0 := B0) (b := .buf T e xs) (H := s.blk) (β := β) (p := p) ⟨us, hown, he, hrow⟩ b hb)
    have leaf : ∀ c v, RepL w p β s.blk c v → RepL w p' β' (s.freeze t0).blk (c.frz t0 e xs) v := by
      intro c v hc
      have hkill := RepL.kill hk hc
      cases c <;> try exact hkill
      case full u =>
        simp only [LV.frz]
        split
        · rename_i hu
          subst hu
          have h1 : β u = some v := hc.1
          rw [hr0] at h1
          obtain rfl := Option.some.inj h1
          exact slice_of_own hown (hrow.imp fun _ _ h => RepT.mono (fun g hg => ⟨.inl hg, rfl⟩) h) (fun b hb => .inr hb)
        · rename_i hu
          simp only [LV.kill, hu, if_false] at hkill
          exact hkill
    refine ⟨β', p', by rw [hs]; exact inv.size, by rw [hs]; exact inv.deep, inv.defers, inv.ext, inv.base, fun b hb => ?_, fun b hb => ?_, fun t u r q b h1 h2 h3 h4 => ?_, fun t => ?_, fun t v hv => ?_⟩
    · rcases hb with hb | hb
      · refine ⟨(inv.shared b hb).1, fun t r hr => ?_⟩
        by_cases htt : t = t0
        · simp [β', htt] at hr
        · simp [β', htt] at hr; exact (inv.shared b hb).2 t r hr
      · refine ⟨(hroot b hb).2, fun t r hr hrb => ?_⟩
        by_cases htt : t = t0
        · simp [β', htt] at hr
        · simp [β', htt] at hr
          exact htt (inv.inj t t0 r r0 b hr hr0 hrb hb)
    · rcases hb with hb | hb
      · exact inv.conf b hb
      · exact .inr (hroot b hb).1
    · by_cases htt : t = t0
      · simp [β', htt] at h1
      · by_cases huu : u = t0
        · simp [β', huu] at h2
        · simp [β', htt] at h1; simp [β', huu] at h2
          exact inv.inj t u r q b h1 h2 h3 h4
    · by_cases htt : t = t0
      · subst htt; simp [β', eb]
      · simp only [β', htt, if_false]
        have := inv.blks t
        cases hr : β t with
        | none => rw [hr] at this; rw [eb t, if_neg htt, this]; rfl
        | some r =>
          rw [hr] at this
          rw [eb t, if_neg htt]
          refine ⟨?_, by rw [hs]; exact this.2⟩
          have kb : ∀ b, RepB w p β s.blk B0 b r → RepB w p' β' (s.freeze t0).blk B0 (b.frz t0 e xs) r := fun b hb => by
            have h2 := RepB.of (f := LV.frz t0 e xs) leaf (fun b hb => ⟨.inl hb, rfl⟩) (fun _ _ => rfl) hb
            cases b <;> exact h2
          exact kb _ this.1
    · rw [eg t]
      have h0 := inv.slots t v hv
      have part : ∀ c u, RepC w p β s.blk c u → RepC w p' β' (s.freeze t0).blk (c.frz t0 e xs) u := by
        intro c u hc
        have := RepC.of (f := LV.frz t0 e xs) rfl leaf hc
        cases c <;> exact this
      cases hx : s.get t with
      | c c => rw [hx] at h0; exact part c v h0
      | tup cs =>
        rw [hx] at h0
        obtain ⟨vs, rfl, h1⟩ := h0
        exact ⟨vs, rfl, RepCs.of part h1⟩
  | _ => simp only [PS.freeze, hblk]; exact ⟨β, p, inv⟩

theorem n_freeze {t : Nat} : (s.freeze t).n = s.n := by unfold PS.freeze; split <;> rfl

theorem freezeAll_rel : ∀ {ts : List Nat} {s : PS}, Rel B0 w0 s a w → Rel B0 w0 (freezeAll s ts) a w
  | [], _, h => h
  | t :: ts, s, h => by
    rw [freezeAll]
    refine freezeAll_rel ?_
    cases hb : Nat.blt t s.n with
    | false => exact h
    | true => exact freeze_rel h (by simpa using hb)

theorem aheadOf_rel {P : Program} {g : FuncId} {args : List CV} (h : Rel B0 w0 s a w) : Rel B0 w0 (aheadOf P s g args) a w := by
  unfold aheadOf
  cases anyRef args && deep P g with
  | false => exact h
  | true => exact freezeAll_rel h

theorem aheadSlice_rel {P : Program} {T : TypeId} {x : LV} (h : Rel B0 w0 s a w) : Rel B0 w0 (aheadSlice P s T x) a w := by
  unfold aheadSlice
  split
  · split
    · rename_i t
      cases hb : Nat.blt t s.n with
      | false => exact h
      | true => exact freeze_rel h (by simpa using hb)
    · exact h
  · exact h
end
end Go.Ev
