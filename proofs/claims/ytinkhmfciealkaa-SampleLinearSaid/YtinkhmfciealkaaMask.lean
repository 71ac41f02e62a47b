/- A state of which only some slots and blocks are kept. -/
import Derived.Test.YtinkhmfciealkaaExec5
set_option linter.unusedSimpArgs false
namespace Go.Ev
open Go.RowKit

theorem get_ofList {α : Type} (f : Nat → α) : ∀ (ts : List Nat) (m : M α) (u : Nat), (∀ t ∈ ts, t < 4000) → (ofList (ts.map fun t => (t, f t)) m).get u = if u ∈ ts then some (f u) else m.get u
  | [], m, u, _ => by simp [ofList]
  | t :: ts, m, u, h => by
    rw [List.map_cons, ofList, get_ofList f ts _ u (fun x hx => h x (by simp [hx])), M.get_set _ 12 m t u (by have := h t (by simp); omega)]
    by_cases h1 : u ∈ ts
    · simp [h1]
    · by_cases h2 : u = t
      · simp [h2]
      · simp [h1, h2]

section
variable {w : World} {p : Nat → Prop} {β β' : Nat → Option Value} {H H' : Nat → Blk} {bs : List Nat}

theorem RepL.mask (hβ : ∀ t r, t ∈ bs → β t = some r → β' t = some r) (hH : ∀ t, t ∈ bs → BlkSim (H t) (H' t)) {c : LV} {v : Value} (h : RepL w p β H c v) : RepL w p β' H' (c.keep bs) v := by
  have hu := h.undef_of
  have hu' : RepL w p β' H' .undef v := hu
  cases c <;> simp only [LV.keep]
  case ref t sz i o =>
    split
    · rename_i hb
      have hb : t ∈ bs := by simpa using hb
      obtain ⟨r, b, h1, h2, h3, h4⟩ := h
      exact ⟨r, b, hβ t r hb h1, h2, h3, h4.sim (hH t hb)⟩
    · exact hu'
  case full t =>
    split
    · rename_i hb
      have hb : t ∈ bs := by simpa using hb
      exact ⟨hβ t v hb h.1, h.2.1.sim (hH t hb), h.2.2⟩
    · exact hu'
  case sref t sz off len =>
    split
    · rename_i hb
      have hb : t ∈ bs := by simpa using hb
      obtain ⟨a, c, r, h1, h2, h3, h4, h5⟩ := h
      exact ⟨a, c, r, h1, h2, hβ t r hb h3, h4.sim (hH t hb), h5⟩
    · exact hu'
  case cref t o len e =>
    split
    · rename_i hb
      have hb : t ∈ bs := by simpa using hb
      obtain ⟨a, c, r, h1, h2, h3, h4, h5⟩ := h
      exact ⟨a, c, r, h1, h2, hβ t r hb h3, h4.sim (hH t hb), h5⟩
    · exact hu'
  case mref t =>
    split
    · rename_i hb
      have hb : t ∈ bs := by simpa using hb
      exact ⟨hβ t v hb h.1, h.2.1.sim (hH t hb), h.2.2⟩
    · exact hu'
  all_goals exact RepL.pure rfl h
end

section
variable {s : PS} {B0 : Nat} {w0 : Base} {a : Act} {w : World}

theorem keep_sim (bs : List Nat) (b : Blk) : BlkSim b (b.keep bs) := by
  cases b <;> simp [Blk.keep, BlkSim]

theorem mask_rel {ts bs : List Nat} (hts : ∀ t ∈ ts, t < 4000) (hbs : ∀ t ∈ bs, t < 4000) (h : Rel B0 w0 s a w) : Rel B0 w0 (s.mask ts bs) a w := by
  obtain ⟨β, p, inv⟩ := h
  have hget : ∀ u, (s.mask ts bs).get u = if u ∈ ts then (s.get u).keep bs else undefS := by
    intro u
    show (match (ofList (ts.map fun t => (t, (s.get t).keep bs)) .e).get u with | some v => v | none => undefS) = _
    rw [get_ofList (fun t => (s.get t).keep bs) ts .e u hts]
    by_cases hu : u ∈ ts
    · simp [hu]
    · simp [hu, M.get]
  have hblk : ∀ u, (s.mask ts bs).blk u = if u ∈ bs then (s.blk u).keep bs else .free := by
    intro u
    show (match (ofList (bs.map fun t => (t, (s.blk t).keep bs)) .e).get u with | some b => b | none => .free) = _
    rw [get_ofList (fun t => (s.blk t).keep bs) bs .e u hbs]
    by_cases hu : u ∈ bs
    · simp [hu]
    · simp [hu, M.get]
  have hβ : ∀ t r, t ∈ bs → β t = some r → (fun t => if t ∈ bs then β t else none) t = some r := fun t r ht hr => by simp [ht, hr]
  have hH : ∀ t, t ∈ bs → BlkSim (s.blk t) ((s.mask ts bs).blk t) := fun t ht => by rw [hblk t, if_pos ht]; exact keep_sim bs _
  have leaf : ∀ c v, RepL w p β s.blk c v → RepL w p (fun t => if t ∈ bs then β t else none) (s.mask ts bs).blk (c.keep bs) v := fun c v h => RepL.mask hβ hH h
  refine ⟨fun t => if t ∈ bs then β t else none, p, inv.size, inv.deep, inv.defers, inv.ext, inv.base, fun b hb => ⟨(inv.shared b hb).1, fun t r hr => ?_⟩, inv.conf, fun t u r q b h1 h2 h3 h4 => ?_, fun t => ?_, fun t v hv => ?_⟩
  · by_cases ht : t ∈ bs
    · simp [ht] at hr; exact (inv.shared b hb).2 t r hr
    · simp [ht] at hr
  · by_cases ht : t ∈ bs
    · by_cases hu : u ∈ bs
      · simp [ht] at h1; simp [hu] at h2; exact inv.inj t u r q b h1 h2 h3 h4
      · simp [hu] at h2
    · simp [ht] at h1
  · by_cases ht : t ∈ bs
    · simp only [ht, if_true]
      have := inv.blks t
      cases hr : β t with
      | none => rw [hr] at this; simp only []; rw [hblk t, if_pos ht, this]; rfl
      | some r =>
        rw [hr] at this
        simp only []
        refine ⟨?_, this.2⟩
        rw [hblk t, if_pos ht]
        have kb : ∀ b, RepB w p β s.blk B0 b r → RepB w p (fun t => if t ∈ bs then β t else none) (s.mask ts bs).blk B0 (b.keep bs) r := fun b hb => by
          have h2 := RepB.of (f := LV.keep bs) leaf (fun b hb => ⟨hb, rfl⟩) (fun _ _ => rfl) hb
          cases b <;> exact h2
        exact kb _ this.1
    · simp only [ht, if_false]
      rw [hblk t, if_neg ht]
  · rw [hget t]
    split
    · have h0 := inv.slots t v hv
      cases hx : s.get t with
      | c c =>
        rw [hx] at h0
        have := RepC.of (f := LV.keep bs) rfl leaf h0
        cases c <;> exact this
      | tup cs =>
        rw [hx] at h0
        obtain ⟨vs, rfl, h1⟩ := h0
        refine ⟨vs, rfl, RepCs.of (fun c v hc => ?_) h1⟩
        have := RepC.of (f := LV.keep bs) rfl leaf hc
        cases c <;> exact this
    · trivial

/-- A loop from a state of which part is forgotten. -/
theorem LoopTo.masked {P : Program} {x : Code} {ex : Ex} {s' : PS} {ts bs : List Nat} (hts : ∀ t ∈ ts, t < 4000) (hbs : ∀ t ∈ bs, t < 4000) (h : LoopTo P x (s.mask ts bs) ex s') : LoopTo P x s ex s' := by
  obtain ⟨n, h⟩ := h
  exact ⟨n, fun B0 w0 a w hr Q hq => h B0 w0 a w (mask_rel hts hbs hr) Q hq⟩

theorem RunsTo.masked {P : Program} {x : Code} {ex : Ex} {s' : PS} {ts bs : List Nat} (hts : ∀ t ∈ ts, t < 4000) (hbs : ∀ t ∈ bs, t < 4000) (h : RunsTo P x s ex s') : RunsTo P x s ex (s'.mask ts bs) :=
  fun B0 w0 a w hr Q hq => h B0 w0 a w hr Q fun a' w' hr' => hq a' w' (mask_rel hts hbs hr')
end
end Go.Ev
