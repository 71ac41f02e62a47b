/- The state of the evaluator beside a frame and the memory of the model: what it means, and how it is kept. -/
import Derived.Test.YtinkhmfciealkaaRep
set_option linter.unusedSimpArgs false
namespace Go.Ev
open Go.RowKit

theorem M.get_set {α : Type} (v : α) : ∀ (d : Nat) (m : M α) (i j : Nat), i + 1 < 2 ^ d → (M.set v d m i).get j = if j = i then some v else m.get j
  | 0, m, i, j, h => by simp at h
  | d + 1, m, i, j, h => by
    have hp : 2 ^ (d + 1) = 2 * 2 ^ d := by rw [Nat.pow_succ]; omega
    have he : (M.e : M α).get j = none := rfl
    have h1 : i / 2 + 1 < 2 ^ d ∨ i = 0 ∨ i % 2 = 0 := by omega
    by_cases hi : i = 0
    · subst hi
      cases m <;> (simp only [M.set, beq_self_eq_true, cond_true, M.get]; by_cases hj : j = 0
                <;> first | (subst hj; simp) | (have hj0 : (j == 0) = false := by simp [hj]
                                                simp [hj0, hj]))
    · have hi0 : (i == 0) = false := by simp [hi]
      by_cases ho : i % 2 = 1
      · have ho1 : (i % 2 == 1) = true := by simp [ho]
        have hd : i / 2 + 1 < 2 ^ d := by omega
        have key : ∀ l : M α, (M.set v d l (i / 2)).get (j / 2) = if j / 2 = i / 2 then some v else l.get (j / 2) := fun l => M.get_set v d l _ _ hd
        cases m <;> simp only [M.set, hi0, ho1, cond_true, cond_false, M.get] <;>
          (by_cases hj : j = 0
           · subst hj; have : ¬ (0 = i) := fun h => hi h.symm; simp [this]
           · have hj0 : (j == 0) = false := by simp [hj]
             by_cases hjo : j % 2 = 1
             · have hjo1 : (j % 2 == 1) = true := by simp [hjo]
               simp only [hj0, hjo1, cond_true, cond_false, key]
               by_cases hij : j = i
               · subst hij; simp
               · have : ¬ (j / 2 = i / 2) := by omega
                 simp [hij, this, M.get]
             · have hjo1 : (j % 2 == 1) = false := by simp [hjo]
               have hij : ¬ (j = i) := by omega
               simp [hj0, hjo1, hij, M.get])
      · have ho1 : (i % 2 == 1) = false := by simp [ho]
        have hd : i / 2 - 1 + 1 < 2 ^ d := by omega
        have key : ∀ l : M α, (M.set v d l (i / 2 - 1)).get (j / 2 - 1) = if j / 2 - 1 = i / 2 - 1 then some v else l.get (j / 2 - 1) := fun l => M.get_set v d l _ _ hd
        cases m <;> simp only [M.set, hi0, ho1, cond_true, cond_false, M.get] <;>
          (by_cases hj : j = 0
           · subst hj; have : ¬ (0 = i) := fun h => hi h.symm; simp [this]
           · have hj0 : (j == 0) = false := by simp [hj]
             by_cases hjo : j % 2 = 1
             · have hjo1 : (j % 2 == 1) = true := by simp [hjo]
               have hij : ¬ (j = i) := by omega
               simp [hj0, hjo1, hij, M.get]
             · have hjo1 : (j % 2 == 1) = false := by simp [hjo]
               simp only [hj0, hjo1, cond_true, cond_false, key]
               by_cases hij : j = i
               · subst hij; simp
               · have : ¬ (j / 2 - 1 = i / 2 - 1) := by omega
                 simp [hij, this, M.get])

theorem M.get_map {α : Type} (f : α → α) : ∀ (m : M α) (j : Nat), (m.map f).get j = (m.get j).map f
  | .e, j => rfl
  | .n v l r, j => by
    simp only [M.map, M.get]
    by_cases hj : j = 0
    · subst hj; cases v <;> rfl
    · have hj0 : (j == 0) = false := by simp [hj]
      by_cases ho : j % 2 = 1
      · have ho1 : (j % 2 == 1) = true := by simp [ho]
        simp only [hj0, ho1, cond_true, cond_false, M.get_map f l]
      · have ho1 : (j % 2 == 1) = false := by simp [ho]
        simp only [hj0, ho1, cond_true, cond_false, M.get_map f r]

theorem lt_depth {t n : Nat} (h : t < n) (hn : n ≤ 4000) : t + 1 < 2 ^ 12 := by omega

section
variable {s : PS}
theorem PS.get_setT {t : Nat} (v : SV) (h : t + 1 < 2 ^ 12) (u : Nat) : (s.setT t v).get u = if u = t then v else s.get u := by
  simp only [PS.get, PS.setT, M.get_set v 12 s.tmps t u h]
  by_cases e : u = t <;> simp [e]
theorem PS.blk_setT {t : Nat} (v : SV) (u : Nat) : (s.setT t v).blk u = s.blk u := rfl
theorem PS.blk_setB {t : Nat} (v : Blk) (h : t + 1 < 2 ^ 12) (u : Nat) : (s.setB t v).blk u = if u = t then v else s.blk u := by
  simp only [PS.blk, PS.setB, M.get_set v 12 s.hp t u h]
  by_cases e : u = t <;> simp [e]
theorem PS.get_setB {t : Nat} (v : Blk) (u : Nat) : (s.setB t v).get u = s.get u := rfl
theorem Blk.isFree_iff {b : Blk} : b.isFree = true ↔ b = .free := by cases b <;> simp [Blk.isFree]
theorem PS.n_drop {t : Nat} : (s.drop t).n = s.n := by unfold PS.drop; split <;> rfl
end

/-- Where a call began: the world, and the data that nobody writes. -/
structure Base where
  w : World
  p : Nat → Prop

/-- The relation, with its witnesses: the roots of the blocks, and the blocks of the data that nobody writes. -/
structure Inv (B0 : Nat) (w0 : Base) (β : Nat → Option Value) (p : Nat → Prop) (s : PS) (a : Act) (w : World) : Prop where
  size : a.tmps.size = s.n
  deep : s.n ≤ 4000
  defers : a.defers = []
  ext : Below B0 w0.w w
  base : B0 ≤ w.heap.size
  shared : ∀ b, p b → b < w.heap.size ∧ ∀ t r, β t = some r → rootBlock r ≠ some b
  conf : ∀ b, p b → w0.p b ∨ B0 ≤ b
  inj : ∀ t u r q b, β t = some r → β u = some q → rootBlock r = some b → rootBlock q = some b → t = u
  blks : ∀ t, match β t with
    | some r => RepB w p β s.blk B0 (s.blk t) r ∧ t < s.n
    | none => s.blk t = .free
  slots : ∀ t v, a.tmps[t]? = some v → RepS w p β s.blk (s.get t) v

def Rel (B0 : Nat) (w0 : Base) (s : PS) (a : Act) (w : World) : Prop := ∃ β p, Inv B0 w0 β p s a w

section
variable {B0 : Nat} {w0 : Base} {β : Nat → Option Value} {p : Nat → Prop} {s : PS} {a : Act} {w : World}

theorem Inv.blk (h : Inv B0 w0 β p s a w) {t : Nat} {r : Value} (hr : β t = some r) : RepB w p β s.blk B0 (s.blk t) r := by
  have := h.blks t; rw [hr] at this; exact this.1
theorem Inv.lt (h : Inv B0 w0 β p s a w) {t : Nat} {r : Value} (hr : β t = some r) : t < s.n := by
  have := h.blks t; rw [hr] at this; exact this.2
theorem Inv.root_of (h : Inv B0 w0 β p s a w) {t : Nat} (hb : s.blk t ≠ .free) : ∃ r, β t = some r := by
  have := h.blks t
  cases hr : β t with
  | some r => exact ⟨r, rfl⟩
  | none => rw [hr] at this; exact absurd this hb
theorem Inv.get (h : Inv B0 w0 β p s a w) (t : Nat) : RepS w p β s.blk (s.get t) (a.eval (.tmp t)) ∨ s.n ≤ t := by
  by_cases ht : t < a.tmps.size
  · left
    have := h.slots t a.tmps[t] (by simp [ht])
    simpa [Act.eval, ht] using this
  · right; rw [← h.size]; omega

theorem Act.put_size (a : Act) (d : Option Tmp) (v : Value) : (a.put d v).tmps.size = a.tmps.size := by cases d <;> simp [Act.put]
theorem Act.put_defers' (a : Act) (d : Option Tmp) (v : Value) : (a.put d v).defers = a.defers := by cases d <;> rfl

/-- A slot is written. -/
theorem Inv.put (h : Inv B0 w0 β p s a w) (d : Option Tmp) {x : SV} {v : Value} (hx : RepS w p β s.blk x v) : Inv B0 w0 β p (s.put d x) (a.put d v) w := by
  cases d with
  | none => exact h
  | some d =>
    by_cases hd : d < s.n
    · have hlt : Nat.blt d s.n = true := by simp [hd]
      have hdep := lt_depth hd h.deep
      have e : s.put (some d) x = s.setT d x := by simp only [PS.put, hlt, cond_true]
      rw [e]
      refine ⟨by rw [Act.put_size]; exact h.size, h.deep, h.defers, h.ext, h.base, h.shared, h.conf, h.inj, h.blks, fun t y ht => ?_⟩
      rw [PS.get_setT x hdep t]
      show RepS w p β s.blk _ _
      simp only [Act.put, Array.getElem?_setIfInBounds] at ht
      by_cases htd : t = d
      · subst htd
        rw [if_pos rfl] at ht ⊢
        split at ht
        · obtain rfl := Option.some.inj ht; exact hx
        · cases ht
      · rw [if_neg htd]
        rw [if_neg (fun h => htd h.symm)] at ht
        exact h.slots t y ht
    · have hlt : Nat.blt d s.n = false := by
        cases hq : Nat.blt d s.n with
        | false => rfl
        | true => exact absurd (Nat.blt_eq ▸ hq) hd
      have e : s.put (some d) x = s := by simp only [PS.put, hlt, cond_false]
      have e2 : a.put (some d) v = a := by
        have : a.tmps.setIfInBounds d v = a.tmps := by
          apply Array.ext
          · exact Array.size_setIfInBounds
          · intro i h1 h2
            have h3 := h.size
            have hdi : d ≠ i := fun e => hd (by rw [e, ← h3]; exact h2)
            rw [Array.getElem_setIfInBounds, if_neg hdi]
        show ({ a with tmps := a.tmps.setIfInBounds d v } : Act) = a
        rw [this]
      rw [e, e2]; exact h

/-- The world moves on: old memory stays. -/
theorem Inv.world {w' : World} (h : Inv B0 w0 β p s a w) (hb : Below w.heap.size w w') : Inv B0 w0 β p s a w' := by
  have hk : Keeps w w' p p β β s.blk s.blk := ⟨fun b hb' => ⟨hb', hb.block b (h.shared b hb').1⟩, fun _ _ h => h, fun _ _ => BlkSim.refl _⟩
  refine ⟨h.size, h.deep, h.defers, h.ext.trans (hb.mono h.base), Nat.le_trans h.base hb.size, fun b hb' => ⟨Nat.lt_of_lt_of_le (h.shared b hb').1 hb.size, (h.shared b hb').2⟩, h.conf, h.inj, fun t => ?_, fun t v hv => RepS.keep hk (h.slots t v hv)⟩
  have := h.blks t
  cases hr : β t with
  | none => rw [hr] at this; exact this
  | some r =>
    rw [hr] at this
    exact ⟨RepB.keep hk (fun g hg => hb.block g (this.1.root g hg).2) this.1, this.2⟩

/-- More data: blocks that are not the store's. -/
theorem Inv.more {p' : Nat → Prop} (h : Inv B0 w0 β p s a w) (hp : ∀ b, p b → p' b) (hn : ∀ b, p' b → b < w.heap.size ∧ ∀ t r, β t = some r → rootBlock r ≠ some b) (hcf : ∀ b, p' b → w0.p b ∨ B0 ≤ b) : Inv B0 w0 β p' s a w := by
  have hk : Keeps w w p p' β β s.blk s.blk := ⟨fun b hb' => ⟨hp b hb', rfl⟩, fun _ _ h => h, fun _ _ => BlkSim.refl _⟩
  refine ⟨h.size, h.deep, h.defers, h.ext, h.base, hn, hcf, h.inj, fun t => ?_, fun t v hv => RepS.keep hk (h.slots t v hv)⟩
  have := h.blks t
  cases hr : β t with
  | none => rw [hr] at this; exact this
  | some r => rw [hr] at this; exact ⟨RepB.keep hk (fun _ _ => rfl) this.1, this.2⟩

/-- A block of the store is given up. -/
theorem Inv.drop (h : Inv B0 w0 β p s a w) (t0 : Nat) (ht : t0 < s.n) : Inv B0 w0 (fun t => if t = t0 then none else β t) p (s.drop t0) a w ∧ (∀ c v, RepL w p β s.blk c v → RepL w p (fun t => if t = t0 then none else β t) (s.drop t0).blk (c.kill t0) v) := by
  have hdep := lt_depth ht h.deep
  by_cases hf : (s.blk t0).isFree = true
  · have e : s.drop t0 = s := by simp [PS.drop, hf]
    have hn : β t0 = none := by
      cases hr : β t0 with
      | none => rfl
      | some r => have := h.blk hr; rw [Blk.isFree_iff.1 hf] at this; exact this.elim
    have eβ : (fun t => if t = t0 then none else β t) = β := by
      funext t; by_cases e : t = t0
      · subst e; simp [hn]
      · simp [e]
    rw [e, eβ]
    exact ⟨h, fun c v hc => RepL.kill (t0 := t0) ⟨fun b hb => ⟨hb, rfl⟩, fun _ _ _ h => h, fun _ _ _ => BlkSim.refl _⟩ hc⟩
  · have e : s.drop t0 = { n := s.n, tmps := s.tmps.map (SV.kill t0), hp := M.set .free 12 (s.hp.map (Blk.kill t0)) t0 } := by simp [PS.drop, hf]
    have eb : ∀ t, (s.drop t0).blk t = if t = t0 then .free else (s.blk t).kill t0 := by
      intro t
      rw [e]
      simp only [PS.blk, M.get_set _ 12 _ t0 t hdep]
      by_cases htt : t = t0
      · simp [htt]
      · simp only [htt, if_false, M.get_map]
        cases hh : s.hp.get t <;> simp [Blk.kill]
    have eg : ∀ t, (s.drop t0).get t = (s.get t).kill t0 := by
      intro t
      rw [e]
      simp only [PS.get, M.get_map]
      cases hh : s.tmps.get t <;> simp [SV.kill, CV.kill, LV.kill, undefS]
    have simk : ∀ b : Blk, BlkSim b (b.kill t0) := by
      intro b; cases b <;> simp [Blk.kill, BlkSim]
    have hk : KeepsBut (some t0) w w p p β (fun t => if t = t0 then none else β t) s.blk (s.drop t0).blk := by
      refine ⟨fun b hb => ⟨hb, rfl⟩, fun t v ht hv => ?_, fun t ht _ => ?_⟩
      · have : t ≠ t0 := fun e => ht (by rw [e])
        simp [this, hv]
      · have : t ≠ t0 := fun e => ht (by rw [e])
        rw [eb t, if_neg this]
        exact simk _
    refine ⟨⟨by rw [PS.n_drop]; exact h.size, by rw [PS.n_drop]; exact h.deep, h.defers, h.ext, h.base, fun b hb => ⟨(h.shared b hb).1, fun t r hr => ?_⟩, h.conf, fun t u r q b h1 h2 h3 h4 => ?_, fun t => ?_, fun t v hv => ?_⟩, fun c v hc => RepL.kill hk hc⟩
    · by_cases htt : t = t0
      · simp [htt] at hr
      · simp [htt] at hr; exact (h.shared b hb).2 t r hr
    · by_cases htt : t = t0
      · simp [htt] at h1
      · by_cases huu : u = t0
        · simp [huu] at h2
        · simp [htt] at h1; simp [huu] at h2
          exact h.inj t u r q b h1 h2 h3 h4
    · by_cases htt : t = t0
      · subst htt; simp [eb]
      · simp only [htt, if_false]
        have := h.blks t
        cases hr : β t with
        | none => rw [hr] at this; rw [eb t, if_neg htt, this]; rfl
        | some r =>
          rw [hr] at this
          rw [eb t, if_neg htt, PS.n_drop]
          exact ⟨RepB.kill hk (fun _ _ => rfl) this.1, this.2⟩
    · rw [eg t]
      exact RepS.kill hk (h.slots t v hv)

/-- A new block, at a place that is free. -/
theorem Inv.fresh {w' : World} (h : Inv B0 w0 β p s a w) {t0 : Nat} (ht : t0 < s.n) (hfree : β t0 = none) (hbel : Below B0 w w') (hdata : ∀ b, p b → w'.heap[b]? = w.heap[b]?)
    (hown : ∀ t r b, β t = some r → rootBlock r = some b → w'.heap[b]? = w.heap[b]?) {r0 : Value} (hr0 : ∀ b, rootBlock r0 = some b → ¬ p b ∧ ∀ t r, β t = some r → rootBlock r ≠ some b)
    {b0 : Blk} {x : SV} {v : Value}
    (hbx : Keeps w w' p p β (fun t => if t = t0 then some r0 else β t) s.blk (s.setB t0 b0).blk → RepB w' p (fun t => if t = t0 then some r0 else β t) (s.setB t0 b0).blk B0 b0 r0 ∧
      ((fun t => if t = t0 then some r0 else β t) t0 = some r0 → (s.setB t0 b0).blk t0 = b0 → RepS w' p (fun t => if t = t0 then some r0 else β t) (s.setB t0 b0).blk x v)) :
    Inv B0 w0 (fun t => if t = t0 then some r0 else β t) p ((s.setT t0 x).setB t0 b0) (a.put (some t0) v) w' := by
  have hdep := lt_depth ht h.deep
  have eb : ((s.setT t0 x).setB t0 b0).blk = (s.setB t0 b0).blk := by funext t; rw [PS.blk_setB _ hdep, PS.blk_setB _ hdep]; rfl
  have hk : Keeps w w' p p β (fun t => if t = t0 then some r0 else β t) s.blk (s.setB t0 b0).blk := by
    refine ⟨fun b hb => ⟨hb, hdata b hb⟩, fun t v hv => ?_, fun t hs => ?_⟩
    · have : t ≠ t0 := fun e => by rw [e, hfree] at hv; cases hv
      simp [this, hv]
    · have : t ≠ t0 := fun e => by rw [e, hfree] at hs; cases hs
      rw [PS.blk_setB _ hdep, if_neg this]; exact BlkSim.refl _
  obtain ⟨hb0, hx⟩ := hbx hk
  have hx := hx (by simp) (by rw [PS.blk_setB _ hdep, if_pos rfl])
  refine ⟨by rw [Act.put_size]; exact h.size, h.deep, by rw [Act.put_defers']; exact h.defers, h.ext.trans hbel, Nat.le_trans h.base hbel.size, fun b hb => ⟨Nat.lt_of_lt_of_le (h.shared b hb).1 hbel.size, fun t r hr => ?_⟩, h.conf, fun t u r q b h1 h2 h3 h4 => ?_, fun t => ?_, fun t y hy => ?_⟩
  · by_cases htt : t = t0
    · simp [htt] at hr; subst hr; exact fun e => (hr0 b e).1 hb
    · simp [htt] at hr; exact (h.shared b hb).2 t r hr
  · by_cases htt : t = t0
    · by_cases huu : u = t0
      · rw [htt, huu]
      · simp [htt] at h1; simp [huu] at h2; subst h1
        exact absurd h4 ((hr0 b h3).2 u q h2)
    · by_cases huu : u = t0
      · simp [htt] at h1; simp [huu] at h2; subst h2
        exact absurd h3 ((hr0 b h4).2 t r h1)
      · simp [htt] at h1; simp [huu] at h2; exact h.inj t u r q b h1 h2 h3 h4
  · rw [eb]
    by_cases htt : t = t0
    · subst htt
      simp only [if_true]
      rw [PS.blk_setB _ hdep, if_pos rfl]
      exact ⟨hb0, ht⟩
    · simp only [htt, if_false]
      have := h.blks t
      cases hr : β t with
      | none => rw [hr] at this; simp only []; rw [PS.blk_setB _ hdep, if_neg htt]; exact this
      | some r =>
        rw [hr] at this
        simp only []
        rw [PS.blk_setB _ hdep, if_neg htt]
        exact ⟨RepB.keep hk (fun g hg => hown t r g hr hg) this.1, this.2⟩
  · rw [eb, PS.get_setB, PS.get_setT x hdep t]
    simp only [Act.put, Array.getElem?_setIfInBounds] at hy
    by_cases htt : t = t0
    · subst htt
      rw [if_pos rfl] at hy ⊢
      split at hy
      · obtain rfl := Option.some.inj hy; exact hx
      · cases hy
    · rw [if_neg htt]
      rw [if_neg (fun h => htt h.symm)] at hy
      exact RepS.keep hk (h.slots t y hy)

/-- A block of the store is written: of the same kind and length. -/
theorem Inv.write {w' : World} (h : Inv B0 w0 β p s a w) {t0 : Nat} {r0 : Value} (hr : β t0 = some r0) (hbel : Below B0 w w')
    (hoth : ∀ b, rootBlock r0 ≠ some b → w'.heap[b]? = w.heap[b]?) {b0 : Blk} (hsim : BlkSim (s.blk t0) b0) (hb0 : Keeps w w' p p β β s.blk (s.setB t0 b0).blk → RepB w' p β (s.setB t0 b0).blk B0 b0 r0) :
    Inv B0 w0 β p (s.setB t0 b0) a w' := by
  have ht := h.lt hr
  have hdep := lt_depth ht h.deep
  have hk : Keeps w w' p p β β s.blk (s.setB t0 b0).blk := by
    refine ⟨fun b hb => ⟨hb, hoth b ((h.shared b hb).2 t0 r0 hr)⟩, fun t v hv => hv, fun t hs => ?_⟩
    rw [PS.blk_setB _ hdep]
    by_cases e : t = t0
    · subst e; simpa using hsim
    · simp [e, BlkSim.refl]
  have hb0 := hb0 hk
  refine ⟨h.size, h.deep, h.defers, h.ext.trans hbel, Nat.le_trans h.base hbel.size, fun b hb => ⟨Nat.lt_of_lt_of_le (h.shared b hb).1 hbel.size, (h.shared b hb).2⟩, h.conf, h.inj, fun t => ?_, fun t y hy => RepS.keep hk (h.slots t y hy)⟩
  have := h.blks t
  by_cases htt : t = t0
  · subst htt
    rw [hr]
    simp only []
    exact ⟨by rw [PS.blk_setB _ hdep, if_pos rfl]; exact hb0, ht⟩
  · cases hrt : β t with
    | none => rw [hrt] at this; simp only []; rw [PS.blk_setB _ hdep, if_neg htt]; exact this
    | some r =>
      rw [hrt] at this
      simp only []
      rw [PS.blk_setB _ hdep, if_neg htt]
      refine ⟨RepB.keep hk (fun g hg => hoth g fun e => htt (h.inj t t0 r r0 g hrt hr hg e)) this.1, this.2⟩
end
end Go.Ev
