/- How typed data stands in the model's memory, and what keeps it standing. -/
import Derived.Test.YtinkhmfciealkaaEv
import Derived.Below
import Derived.Laws.OwnMore
import Derived.Laws.MakeOwn
import Derived.Laws.StructEq
import Derived.Laws.Slices
set_option linter.unusedSimpArgs false
namespace Go.Ev
open Go.RowKit

/-- A number with its sign. -/
def sgn (neg : Bool) (mag : Nat) : Int := if neg then -(mag : Int) else (mag : Int)

/-- A datum of a float format stands for this whole number. -/
def Val (d : Ieee.Datum) (n : Int) : Prop :=
  ∃ (neg : Bool) (mag : Nat) (place : Int), d = .number neg mag place ∧ ∀ K : Nat, 0 ≤ place + K → sgn neg mag * 2 ^ (place + K).toNat = n * 2 ^ K

def IsF (b : Nat) (n : Int) : Prop := Val (FloatKind.f32.decode b) n ∧ -16777216 < n ∧ n < 16777216

/-- Rows of cells: so many, each of a size. -/
def Rows' {α : Type} (size : Nat) (R : α → List Value → Prop) (xs : List α) (us : List Value) : Prop :=
  us.length = xs.length * size ∧ ∀ i x, xs[i]? = some x → R x ((us.drop (i * size)).take size)

/-- The value of a type out of its cells. -/
def VOf (isAgg : Bool) (us : List Value) (v : Value) : Prop := if isAgg then v = .agg us.toArray else us = [v]

def RepT (w : World) (p : Nat → Prop) : (s : Sh) → s.T → List Value → Prop
  | .int k, n, vs => vs = [.int k n]
  | .bool, b, vs => vs = [.bool b]
  | .str, s, vs => vs = [.string s]
  | .zf, n, vs => ∃ b, vs = [.float .f32 b] ∧ IsF b n
  | .zc, z, vs => ∃ a b, vs = [.complex .f32 a b] ∧ IsF a z.1 ∧ IsF b z.2
  | .slice e, xs, vs => ∃ a cap, vs = [.slice a xs.length cap] ∧ (xs.length ≤ cap ∧ (a = none → cap = 0)) ∧
      (xs = [] ∨ ∃ b o, a = some ⟨b, o, none⟩ ∧ p b ∧ ∀ (i : Nat) (x : e.T), xs[i]? = some x → ∃ us, RepT w p e x us ∧ us.length = e.size ∧ ∀ j, j < e.size → w.cell? ⟨b, o + i * e.size + j, none⟩ = us[j]?)
  | .map k v, es, vs => ∃ r, vs = [.map r] ∧ ((r = none ∧ es = []) ∨ ∃ b ms clock, r = some b ∧ p b ∧ w.heap[b]? = some (.map ms clock) ∧ ms.size = es.length ∧
      ∀ (i : Nat) (x : k.T × v.T) (m : MapEntry), es[i]? = some x → ms[i]? = some m → (∃ us, RepT w p k x.1 us ∧ us.length = k.size ∧ VOf k.isAgg us m.key) ∧ (∃ us, RepT w p v x.2 us ∧ us.length = v.size ∧ VOf v.isAgg us m.val))
  | .pair a b, x, vs => ∃ us ts, vs = us ++ ts ∧ RepT w p a x.1 us ∧ RepT w p b x.2 ts
  | .agg s, x, vs => RepT w p s x vs
  | .unit, _, vs => vs = []

theorem RepT.length {w : World} {p : Nat → Prop} : ∀ {s : Sh} {x : s.T} {vs : List Value}, RepT w p s x vs → vs.length = s.size
  | .int _, _, _, h => by simp only [RepT] at h; simp [h, Sh.size]
  | .bool, _, _, h => by simp only [RepT] at h; simp [h, Sh.size]
  | .str, _, _, h => by simp only [RepT] at h; simp [h, Sh.size]
  | .zf, _, _, h => by simp only [RepT] at h; obtain ⟨b, rfl, _⟩ := h; rfl
  | .zc, _, _, h => by simp only [RepT] at h; obtain ⟨a, b, rfl, _⟩ := h; rfl
  | .slice _, _, _, h => by simp only [RepT] at h; obtain ⟨a, c, rfl, _⟩ := h; rfl
  | .map _ _, _, _, h => by simp only [RepT] at h; obtain ⟨r, rfl, _⟩ := h; rfl
  | .pair a b, x, vs, h => by
    simp only [RepT] at h
    obtain ⟨us, ts, rfl, h1, h2⟩ := h
    simp [Sh.size, RepT.length h1, RepT.length h2]
  | .agg s, x, vs, h => by simp only [RepT] at h; simp only [Sh.size]; exact RepT.length h
  | .unit, _, _, h => by simp only [RepT] at h; simp [h, Sh.size]

theorem RepT.oneCell {w : World} {p : Nat → Prop} : ∀ {s : Sh} {x : s.T} {vs : List Value}, RepT w p s x vs → ∀ v ∈ vs, v.oneCell' = true
  | .int _, _, _, h => by simp only [RepT] at h; simp [h, Value.oneCell']
  | .bool, _, _, h => by simp only [RepT] at h; simp [h, Value.oneCell']
  | .str, _, _, h => by simp only [RepT] at h; simp [h, Value.oneCell']
  | .zf, _, _, h => by simp only [RepT] at h; obtain ⟨b, rfl, _⟩ := h; simp [Value.oneCell']
  | .zc, _, _, h => by simp only [RepT] at h; obtain ⟨a, b, rfl, _⟩ := h; simp [Value.oneCell']
  | .slice _, _, _, h => by simp only [RepT] at h; obtain ⟨a, c, rfl, _⟩ := h; simp [Value.oneCell']
  | .map _ _, _, _, h => by simp only [RepT] at h; obtain ⟨r, rfl, _⟩ := h; simp [Value.oneCell']
  | .pair a b, x, vs, h => by
    simp only [RepT] at h
    obtain ⟨us, ts, rfl, h1, h2⟩ := h
    intro v hv
    rcases List.mem_append.1 hv with hv | hv
    · exact RepT.oneCell h1 v hv
    · exact RepT.oneCell h2 v hv
  | .agg s, x, vs, h => by simp only [RepT] at h; exact RepT.oneCell h
  | .unit, _, _, h => by simp only [RepT] at h; simp [h]

/-- What is read stays what it is where its blocks stay. -/
theorem RepT.mono {w w' : World} {p p' : Nat → Prop} (hp : ∀ b, p b → p' b ∧ w'.heap[b]? = w.heap[b]?) :
    ∀ {s : Sh} {x : s.T} {vs : List Value}, RepT w p s x vs → RepT w' p' s x vs
  | .int _, _, _, h => by simpa only [RepT] using h
  | .bool, _, _, h => by simpa only [RepT] using h
  | .str, _, _, h => by simpa only [RepT] using h
  | .zf, _, _, h => by simpa only [RepT] using h
  | .zc, _, _, h => by simpa only [RepT] using h
  | .slice e, xs, _, h => by
    simp only [RepT] at h ⊢
    obtain ⟨a, c, hv, hc, h⟩ := h
    refine ⟨a, c, hv, hc, h.imp id ?_⟩
    rintro ⟨b, o, ha, hb, hx⟩
    refine ⟨b, o, ha, (hp b hb).1, fun i x hi => ?_⟩
    obtain ⟨us, h1, h2, h3⟩ := hx i x hi
    exact ⟨us, RepT.mono hp h1, h2, fun j hj => by rw [← h3 j hj]; exact World.cell?_of_block (hp b hb).2⟩
  | .map k v, es, _, h => by
    simp only [RepT] at h ⊢
    obtain ⟨r, hv, h⟩ := h
    refine ⟨r, hv, h.imp id ?_⟩
    rintro ⟨b, ms, clock, hr, hb, hh, hs, hx⟩
    refine ⟨b, ms, clock, hr, (hp b hb).1, (hp b hb).2.trans hh, hs, fun i x m hi hm => ?_⟩
    obtain ⟨⟨us, h1, h2, h3⟩, ts, h4, h5, h6⟩ := hx i x m hi hm
    exact ⟨⟨us, RepT.mono hp h1, h2, h3⟩, ts, RepT.mono hp h4, h5, h6⟩
  | .pair a b, x, vs, h => by
    simp only [RepT] at h ⊢
    obtain ⟨us, ts, rfl, h1, h2⟩ := h
    exact ⟨us, ts, rfl, RepT.mono hp h1, RepT.mono hp h2⟩
  | .agg s, x, vs, h => by simp only [RepT] at h ⊢; exact RepT.mono hp h
  | .unit, _, _, h => by simpa only [RepT] using h

/-- Data without memory behind it stands anywhere. -/
theorem RepT.flat {w w' : World} {p p' : Nat → Prop} :
    ∀ {s : Sh} {x : s.T} {vs : List Value}, s.flat = true → RepT w p s x vs → RepT w' p' s x vs
  | .int _, _, _, _, h => by simpa only [RepT] using h
  | .bool, _, _, _, h => by simpa only [RepT] using h
  | .str, _, _, _, h => by simpa only [RepT] using h
  | .zf, _, _, _, h => by simpa only [RepT] using h
  | .zc, _, _, _, h => by simpa only [RepT] using h
  | .slice _, _, _, hf, _ => by simp [Sh.flat] at hf
  | .map _ _, _, _, hf, _ => by simp [Sh.flat] at hf
  | .pair a b, x, vs, hf, h => by
    simp only [RepT] at h ⊢
    simp only [Sh.flat, Bool.and_eq_true] at hf
    obtain ⟨us, ts, rfl, h1, h2⟩ := h
    exact ⟨us, ts, rfl, RepT.flat hf.1 h1, RepT.flat hf.2 h2⟩
  | .agg s, x, vs, hf, h => by simp only [RepT] at h ⊢; exact RepT.flat (by simpa [Sh.flat] using hf) h
  | .unit, _, _, _, h => by simpa only [RepT] using h

/-! ### Cells -/

def rootBlock : Value → Option Nat
  | .pointer (some a) => some a.block
  | .slice (some a) _ _ => some a.block
  | .map (some r) => some r
  | _ => none

def refOk : Blk → Nat → Nat → Prop
  | .cells _, sz, _ => sz = 0
  | .arr e xs, sz, i => (sz = 0 ∧ i = 0) ∨ (sz = e.size ∧ i < xs.length)
  | .buf _ e xs, sz, i => sz = e.size ∧ i < xs.length
  | _, _, _ => False

def srefOk : Blk → Nat → Nat → Nat → Prop
  | .arr e xs, sz, off, len => sz = e.size ∧ off + len ≤ xs.length
  | .buf _ e xs, sz, off, len => sz = e.size ∧ off + len ≤ xs.length
  | _, _, _, _ => False

def crefOk : Blk → Nat → Nat → Sh → Prop
  | .cells cs, o, len, e => o + len * e.size ≤ cs.length
  | _, _, _, _ => False

def Blk.isBuf : Blk → Prop
  | .buf _ _ _ => True
  | _ => False
def Blk.isMap : Blk → Prop
  | .map _ _ _ => True
  | _ => False

section
variable (w : World) (p : Nat → Prop) (β : Nat → Option Value) (H : Nat → Blk)

def RepL : LV → Value → Prop
  | .undef, v => v.oneCell' = true
  | .int k n, v => v = .int k n
  | .bool b, v => v = .bool b
  | .str s, v => v = .string s
  | .zf n, v => RepT w p .zf n [v]
  | .zc a b, v => RepT w p .zc (a, b) [v]
  | .slice e xs, v => RepT w p (.slice e) xs [v]
  | .nilslice, v => v = .slice none 0 0
  | .fn f, v => v = .func (.func f) #[] #[]
  | .iptr s x o, v => ∃ b q us, v = .pointer (some ⟨b, q + o, none⟩) ∧ p b ∧ RepT w p s x us ∧ ∀ j, j < us.length → w.cell? ⟨b, q + j, none⟩ = us[j]?
  | .nilptr, v => v = .pointer none
  | .imap k v' es, v => RepT w p (.map k v') es [v]
  | .ref t sz i o, v => ∃ r b, β t = some r ∧ rootBlock r = some b ∧ v = .pointer (some ⟨b, i * sz + o, none⟩) ∧ refOk (H t) sz i
  | .full t, v => β t = some v ∧ (H t).isBuf ∧ v.oneCell' = true
  | .sref t sz off len, v => ∃ a cap r, v = .slice a len cap ∧ len ≤ cap ∧ β t = some r ∧ srefOk (H t) sz off len ∧ ∃ b, rootBlock r = some b ∧ a = some ⟨b, off * sz, none⟩
  | .cref t o len e, v => ∃ a cap r, v = .slice a len cap ∧ len ≤ cap ∧ β t = some r ∧ crefOk (H t) o len e ∧ ∃ b, rootBlock r = some b ∧ a = some ⟨b, o, none⟩
  | .mref t, v => β t = some v ∧ (H t).isMap ∧ v.oneCell' = true

def RepLs (cs : List LV) (vs : List Value) : Prop := cs.length = vs.length ∧ ∀ (i : Nat) (c : LV) (v : Value), cs[i]? = some c → vs[i]? = some v → RepL w p β H c v

def RepC : CV → Value → Prop
  | .l .undef, _ => True
  | .l c, v => RepL w p β H c v
  | .agg cs, v => ∃ vs, v = .agg vs ∧ RepLs w p β H cs vs.toList

def RepCs (cs : List CV) (vs : List Value) : Prop := cs.length = vs.length ∧ ∀ (i : Nat) (c : CV) (v : Value), cs[i]? = some c → vs[i]? = some v → RepC w p β H c v

def RepS : SV → Value → Prop
  | .c c, v => RepC w p β H c v
  | .tup cs, v => ∃ vs, v = .tuple vs ∧ RepCs w p β H cs vs.toList

def RepB (B0 : Nat) : Blk → Value → Prop
  | .free, _ => False
  | .cells cs, r => ∃ b vs T, r = .pointer (some ⟨b, 0, none⟩) ∧ B0 ≤ b ∧ w.heap[b]? = some (.cells vs T (0, 0)) ∧ RepLs w p β H cs vs.toList
  | .arr e xs, r => ∃ b vs T, r = .pointer (some ⟨b, 0, none⟩) ∧ B0 ≤ b ∧ w.heap[b]? = some (.cells vs T (0, 0)) ∧ 0 < e.size ∧ Rows' e.size (RepT w p e) xs vs.toList
  | .buf T e xs, r => ∃ us, w.ownsRow B0 T e.size r xs.length us ∧ 0 < e.size ∧ Rows' e.size (RepT w p e) xs us
  | .map k v es, r => ∃ b ms clock, r = .map (some b) ∧ B0 ≤ b ∧ w.heap[b]? = some (.map ms clock) ∧ ms.size = es.length ∧
      ∀ (i : Nat) (x : k.T × v.T) (m : MapEntry), es[i]? = some x → ms[i]? = some m → (∃ us, RepT w p k x.1 us ∧ us.length = k.size ∧ VOf k.isAgg us m.key) ∧ (∃ us, RepT w p v x.2 us ∧ us.length = v.size ∧ VOf v.isAgg us m.val)
end

/-- Blocks of one kind and length. -/
def BlkSim : Blk → Blk → Prop
  | .free, .free => True
  | .cells cs, .cells ds => cs.length = ds.length
  | .arr e xs, b => ∃ ys, b = .arr e ys ∧ xs.length = ys.length
  | .buf T e xs, b => ∃ ys, b = .buf T e ys ∧ xs.length = ys.length
  | .map k v _, b => ∃ es, b = .map k v es
  | _, _ => False

theorem BlkSim.refl (b : Blk) : BlkSim b b := by cases b <;> simp [BlkSim]

section
variable {w w' : World} {p p' : Nat → Prop} {β β' : Nat → Option Value} {H H' : Nat → Blk}

theorem RepL.oneCell {c : LV} {v : Value} (h : RepL w p β H c v) : v.oneCell' = true := by
  cases c <;> simp only [RepL] at h
  case undef => exact h
  case int => subst h; rfl
  case bool => subst h; rfl
  case str => subst h; rfl
  case zf => exact RepT.oneCell h v (by simp)
  case zc => exact RepT.oneCell h v (by simp)
  case slice => exact RepT.oneCell h v (by simp)
  case nilslice => subst h; rfl
  case fn => subst h; rfl
  case iptr => obtain ⟨b, q, us, rfl, _⟩ := h; rfl
  case nilptr => subst h; rfl
  case imap => exact RepT.oneCell h v (by simp)
  case ref => obtain ⟨r, b, _, _, rfl, _⟩ := h; rfl
  case full => exact h.2.2
  case sref => obtain ⟨a, c, r, rfl, _⟩ := h; rfl
  case cref => obtain ⟨a, c, r, rfl, _⟩ := h; rfl
  case mref => exact h.2.2

/-- What a cell's standing hangs on: the store's shapes, the roots, the data's blocks. -/
structure Keeps (w w' : World) (p p' : Nat → Prop) (β β' : Nat → Option Value) (H H' : Nat → Blk) : Prop where
  data : ∀ b, p b → p' b ∧ w'.heap[b]? = w.heap[b]?
  roots : ∀ t v, β t = some v → β' t = some v
  sim : ∀ t, (β t).isSome = true → BlkSim (H t) (H' t)

theorem refOk.sim {a b : Blk} (h : BlkSim a b) {sz i : Nat} (hr : refOk a sz i) : refOk b sz i := by
  cases a <;> simp only [refOk] at hr
  case cells => cases b <;> simp [BlkSim] at h; exact hr
  case arr => obtain ⟨ys, rfl, hl⟩ := h; simp only [refOk]; rwa [← hl]
  case buf => obtain ⟨ys, rfl, hl⟩ := h; simp only [refOk]; rwa [← hl]
theorem srefOk.sim {a b : Blk} (h : BlkSim a b) {sz i n : Nat} (hr : srefOk a sz i n) : srefOk b sz i n := by
  cases a <;> simp only [srefOk] at hr
  case arr => obtain ⟨ys, rfl, hl⟩ := h; simp only [srefOk]; rwa [← hl]
  case buf => obtain ⟨ys, rfl, hl⟩ := h; simp only [srefOk]; rwa [← hl]
theorem crefOk.sim {a b : Blk} (h : BlkSim a b) {o n : Nat} {e : Sh} (hr : crefOk a o n e) : crefOk b o n e := by
  cases a <;> simp only [crefOk] at hr
  case cells => cases b <;> simp [BlkSim] at h; simp only [crefOk]; rwa [← h]
theorem Blk.isBuf.sim {a b : Blk} (h : BlkSim a b) (hr : a.isBuf) : b.isBuf := by
  cases a <;> simp only [Blk.isBuf] at hr
  case buf => obtain ⟨ys, rfl, hl⟩ := h; trivial
theorem Blk.isMap.sim {a b : Blk} (h : BlkSim a b) (hr : a.isMap) : b.isMap := by
  cases a <;> simp only [Blk.isMap] at hr
  case map => obtain ⟨ys, rfl⟩ := h; trivial

/-- The block that a cell refers to. -/
def LV.at? : LV → Option Nat
  | .ref t _ _ _ => some t
  | .full t => some t
  | .sref t _ _ _ => some t
  | .cref t _ _ _ => some t
  | .mref t => some t
  | _ => none

/-- As 'Keeps', but for one block of the store. -/
structure KeepsBut (t0 : Option Nat) (w w' : World) (p p' : Nat → Prop) (β β' : Nat → Option Value) (H H' : Nat → Blk) : Prop where
  data : ∀ b, p b → p' b ∧ w'.heap[b]? = w.heap[b]?
  roots : ∀ t v, some t ≠ t0 → β t = some v → β' t = some v
  sim : ∀ t, some t ≠ t0 → (β t).isSome = true → BlkSim (H t) (H' t)

theorem Keeps.but {t0 : Option Nat} (k : Keeps w w' p p' β β' H H') : KeepsBut t0 w w' p p' β β' H H' := ⟨k.data, fun t v _ h => k.roots t v h, fun t _ h => k.sim t h⟩

theorem RepL.keepBut {t0 : Option Nat} (k : KeepsBut t0 w w' p p' β β' H H') {c : LV} {v : Value} (hc : c.at? = none ∨ c.at? ≠ t0) (h : RepL w p β H c v) : RepL w' p' β' H' c v := by
  have some_of : ∀ {t v}, β t = some v → (β t).isSome = true := fun h => by simp [h]
  have lift : ∀ {t}, (some t = none ∨ some t ≠ t0) → some t ≠ t0 := fun h => h.resolve_left (by simp)
  cases c <;> simp only [RepL] at h ⊢
  case undef => exact h
  case int => exact h
  case bool => exact h
  case str => exact h
  case zf => exact RepT.mono k.data h
  case zc => exact RepT.mono k.data h
  case slice => exact RepT.mono k.data h
  case nilslice => exact h
  case fn => exact h
  case iptr =>
    obtain ⟨b, q, us, hv, hb, hx, hj⟩ := h
    exact ⟨b, q, us, hv, (k.data b hb).1, RepT.mono k.data hx, fun j hl => by rw [← hj j hl]; exact World.cell?_of_block (k.data b hb).2⟩
  case nilptr => exact h
  case imap => exact RepT.mono k.data h
  case ref =>
    obtain ⟨r, b, h1, h2, h3, h4⟩ := h
    exact ⟨r, b, k.roots _ _ (lift hc) h1, h2, h3, h4.sim (k.sim _ (lift hc) (some_of h1))⟩
  case full =>
    exact ⟨k.roots _ _ (lift hc) h.1, h.2.1.sim (k.sim _ (lift hc) (some_of h.1)), h.2.2⟩
  case sref t sz off len =>
    obtain ⟨a, c, r, h1, h2, h3, h4, h5⟩ := h
    exact ⟨a, c, r, h1, h2, k.roots _ _ (lift hc) h3, h4.sim (k.sim _ (lift hc) (some_of h3)), h5⟩
  case cref =>
    obtain ⟨a, c, r, h1, h2, h3, h4, h5⟩ := h
    exact ⟨a, c, r, h1, h2, k.roots _ _ (lift hc) h3, h4.sim (k.sim _ (lift hc) (some_of h3)), h5⟩
  case mref =>
    exact ⟨k.roots _ _ (lift hc) h.1, h.2.1.sim (k.sim _ (lift hc) (some_of h.1)), h.2.2⟩

theorem RepL.keep (k : Keeps w w' p p' β β' H H') {c : LV} {v : Value} (h : RepL w p β H c v) : RepL w' p' β' H' c v :=
  RepL.keepBut (t0 := none) k.but (by cases c.at? <;> simp) h

theorem LV.kill_at (t : Nat) : ∀ c : LV, (c.kill t).at? = none ∨ (c.kill t).at? ≠ some t
  | .ref u sz i o => by by_cases h : u = t <;> simp [LV.kill, LV.at?, h]
  | .full u => by by_cases h : u = t <;> simp [LV.kill, LV.at?, h]
  | .sref u sz i o => by by_cases h : u = t <;> simp [LV.kill, LV.at?, h]
  | .cref u o n e => by by_cases h : u = t <;> simp [LV.kill, LV.at?, h]
  | .mref u => by by_cases h : u = t <;> simp [LV.kill, LV.at?, h]
  | .undef | .int _ _ | .bool _ | .str _ | .zf _ | .zc _ _ | .slice _ _ | .nilslice | .fn _ | .iptr _ _ _ | .nilptr | .imap _ _ _ => .inl rfl

theorem RepL.undef_of {c : LV} {v : Value} (h : RepL w p β H c v) : RepL w p β H .undef v := h.oneCell

theorem RepL.kill {t0 : Nat} (k : KeepsBut (some t0) w w' p p' β β' H H') {c : LV} {v : Value} (h : RepL w p β H c v) : RepL w' p' β' H' (c.kill t0) v := by
  have h1 : RepL w p β H (c.kill t0) v := by
    have hu := h.undef_of
    cases c <;> simp only [LV.kill] <;> (try split) <;> assumption
  exact RepL.keepBut k (LV.kill_at t0 c) h1

theorem RepLs.of {f : LV → LV} (hf : ∀ c v, RepL w p β H c v → RepL w' p' β' H' (f c) v) {cs : List LV} {vs : List Value} (h : RepLs w p β H cs vs) : RepLs w' p' β' H' (cs.map f) vs := by
  refine ⟨by simpa using h.1, fun i c v hc hv => ?_⟩
  rw [List.getElem?_map] at hc
  cases hci : cs[i]? with
  | none => rw [hci] at hc; cases hc
  | some c0 =>
    rw [hci] at hc
    obtain rfl := Option.some.inj hc
    exact hf _ _ (h.2 i c0 v hci hv)
theorem RepLs.keep (k : Keeps w w' p p' β β' H H') {cs : List LV} {vs : List Value} (h : RepLs w p β H cs vs) : RepLs w' p' β' H' cs vs := by
  have := RepLs.of (f := id) (fun c v h => RepL.keep k h) h
  simpa using this
theorem RepLs.kill {t0 : Nat} (k : KeepsBut (some t0) w w' p p' β β' H H') {cs : List LV} {vs : List Value} (h : RepLs w p β H cs vs) : RepLs w' p' β' H' (cs.map (LV.kill t0)) vs :=
  RepLs.of (fun _ _ h => RepL.kill k h) h

theorem repC_l {c : LV} {v : Value} (h : RepL w p β H c v) : RepC w p β H (.l c) v := by
  cases c <;> simp only [RepC] <;> exact h
theorem repL_of {c : LV} {v : Value} (hc : c ≠ .undef) (h : RepC w p β H (.l c) v) : RepL w p β H c v := by
  cases c <;> simp only [RepC] at h <;> first | exact absurd rfl hc | exact h

theorem RepC.of {f : LV → LV} (hu : f .undef = .undef) (hf : ∀ c v, RepL w p β H c v → RepL w' p' β' H' (f c) v) {c : CV} {v : Value} (h : RepC w p β H c v) :
    RepC w' p' β' H' (match c with | .l c => .l (f c) | .agg cs => .agg (cs.map f)) v := by
  cases c with
  | l c =>
    by_cases hc : c = .undef
    · subst hc; simp only [hu, RepC]
    · exact repC_l (hf _ _ (repL_of hc h))
  | agg cs =>
    obtain ⟨vs, rfl, h⟩ := h
    exact ⟨vs, rfl, RepLs.of hf h⟩
theorem RepC.keep (k : Keeps w w' p p' β β' H H') {c : CV} {v : Value} (h : RepC w p β H c v) : RepC w' p' β' H' c v := by
  have := RepC.of (f := id) rfl (fun c v h => RepL.keep k h) h
  cases c <;> simpa using this
theorem RepC.kill {t0 : Nat} (k : KeepsBut (some t0) w w' p p' β β' H H') {c : CV} {v : Value} (h : RepC w p β H c v) : RepC w' p' β' H' (c.kill t0) v := by
  have := RepC.of (f := LV.kill t0) rfl (fun c v h => RepL.kill k h) h
  cases c <;> exact this

theorem RepCs.of {f : CV → CV} (hf : ∀ c v, RepC w p β H c v → RepC w' p' β' H' (f c) v) {cs : List CV} {vs : List Value} (h : RepCs w p β H cs vs) : RepCs w' p' β' H' (cs.map f) vs := by
  refine ⟨by simpa using h.1, fun i c v hc hv => ?_⟩
  rw [List.getElem?_map] at hc
  cases hci : cs[i]? with
  | none => rw [hci] at hc; cases hc
  | some c0 =>
    rw [hci] at hc
    obtain rfl := Option.some.inj hc
    exact hf _ _ (h.2 i c0 v hci hv)
theorem RepCs.keep (k : Keeps w w' p p' β β' H H') {cs : List CV} {vs : List Value} (h : RepCs w p β H cs vs) : RepCs w' p' β' H' cs vs := by
  have := RepCs.of (f := id) (fun c v h => RepC.keep k h) h
  simpa using this
theorem RepS.keep (k : Keeps w w' p p' β β' H H') {c : SV} {v : Value} (h : RepS w p β H c v) : RepS w' p' β' H' c v := by
  cases c with
  | c c => exact RepC.keep k h
  | tup cs => obtain ⟨vs, rfl, h⟩ := h; exact ⟨vs, rfl, RepCs.keep k h⟩
theorem RepS.kill {t0 : Nat} (k : KeepsBut (some t0) w w' p p' β β' H H') {c : SV} {v : Value} (h : RepS w p β H c v) : RepS w' p' β' H' (c.kill t0) v := by
  cases c with
  | c c => exact RepC.kill k h
  | tup cs => obtain ⟨vs, rfl, h⟩ := h; exact ⟨vs, rfl, RepCs.of (fun _ _ h => RepC.kill k h) h⟩

theorem Rows'.imp {α : Type} {size : Nat} {R R' : α → List Value → Prop} (h : ∀ x u, R x u → R' x u) {xs : List α} {us : List Value} (hr : Rows' size R xs us) : Rows' size R' xs us :=
  ⟨hr.1, fun i x hi => h _ _ (hr.2 i x hi)⟩

theorem ownsRow_same {B0 : Nat} {T : TypeId} {size : Nat} {r : Value} {n : Nat} {us : List Value} (hb : ∀ b, rootBlock r = some b → w'.heap[b]? = w.heap[b]?) (h : w.ownsRow B0 T size r n us) : w'.ownsRow B0 T size r n us := by
  refine ⟨h.1, h.2.imp id ?_⟩
  rintro ⟨g, cap, cur, rfl, h1, h2, h3⟩
  exact ⟨g, cap, cur, rfl, h1, (hb g rfl).trans h2, h3⟩

/-- A block of the store stands, where its own memory stays. -/
theorem RepB.of {B0 : Nat} {f : LV → LV} (hf : ∀ c v, RepL w p β H c v → RepL w' p' β' H' (f c) v) (hd : ∀ b, p b → p' b ∧ w'.heap[b]? = w.heap[b]?) {b : Blk} {r : Value}
    (hb : ∀ b, rootBlock r = some b → w'.heap[b]? = w.heap[b]?) (h : RepB w p β H B0 b r) : RepB w' p' β' H' B0 (match b with | .cells cs => .cells (cs.map f) | b => b) r := by
  cases b with
  | free => exact h
  | cells cs =>
    obtain ⟨b, vs, T, rfl, h1, h2, h3⟩ := h
    exact ⟨b, vs, T, rfl, h1, (hb b rfl).trans h2, RepLs.of hf h3⟩
  | arr e xs =>
    obtain ⟨b, vs, T, rfl, h1, h2, h3, h4⟩ := h
    exact ⟨b, vs, T, rfl, h1, (hb b rfl).trans h2, h3, h4.imp fun _ _ h => RepT.mono hd h⟩
  | buf T e xs =>
    obtain ⟨us, h1, h2, h3⟩ := h
    exact ⟨us, ownsRow_same hb h1, h2, h3.imp fun _ _ h => RepT.mono hd h⟩
  | map k v es =>
    obtain ⟨b, ms, clock, rfl, h1, h2, h3, h4⟩ := h
    refine ⟨b, ms, clock, rfl, h1, (hb b rfl).trans h2, h3, fun i x m hi hm => ?_⟩
    obtain ⟨⟨us, a1, a2, a3⟩, ts, a4, a5, a6⟩ := h4 i x m hi hm
    exact ⟨⟨us, RepT.mono hd a1, a2, a3⟩, ts, RepT.mono hd a4, a5, a6⟩
theorem RepB.keep {B0 : Nat} (k : Keeps w w' p p' β β' H H') {b : Blk} {r : Value} (hb : ∀ b, rootBlock r = some b → w'.heap[b]? = w.heap[b]?) (h : RepB w p β H B0 b r) : RepB w' p' β' H' B0 b r := by
  have := RepB.of (f := id) (fun c v h => RepL.keep k h) k.data hb h
  cases b <;> simpa using this
theorem RepB.kill {B0 t0 : Nat} (k : KeepsBut (some t0) w w' p p' β β' H H') {b : Blk} {r : Value} (hb : ∀ b, rootBlock r = some b → w'.heap[b]? = w.heap[b]?) (h : RepB w p β H B0 b r) : RepB w' p' β' H' B0 (b.kill t0) r := by
  have := RepB.of (f := LV.kill t0) (fun c v h => RepL.kill k h) k.data hb h
  cases b <;> exact this
theorem RepB.root {B0 : Nat} {b : Blk} {r : Value} (h : RepB w p β H B0 b r) : ∀ g, rootBlock r = some g → B0 ≤ g ∧ g < w.heap.size := by
  intro g hg
  cases b with
  | free => exact h.elim
  | cells cs => obtain ⟨b, vs, T, rfl, h1, h2, _⟩ := h; obtain rfl := Option.some.inj hg; exact ⟨h1, (Array.getElem?_eq_some_iff.1 h2).1⟩
  | arr e xs => obtain ⟨b, vs, T, rfl, h1, h2, _⟩ := h; obtain rfl := Option.some.inj hg; exact ⟨h1, (Array.getElem?_eq_some_iff.1 h2).1⟩
  | map k v es => obtain ⟨b, ms, c, rfl, h1, h2, _⟩ := h; obtain rfl := Option.some.inj hg; exact ⟨h1, (Array.getElem?_eq_some_iff.1 h2).1⟩
  | buf T e xs =>
    obtain ⟨us, h1, h2, h3⟩ := h
    refine h1.lt g ?_
    cases r with
    | slice a n c => cases a with
      | none => simp [rootBlock] at hg
      | some a => simpa [rootBlock, Value.ownBlock] using hg
    | _ => rcases h1.2 with ⟨h, _⟩ | ⟨_, _, _, h, _⟩ <;> cases h
theorem RepB.one {B0 : Nat} {b : Blk} {r : Value} (h : RepB w p β H B0 b r) : r.oneCell' = true := by
  cases b with
  | free => exact h.elim
  | cells cs => obtain ⟨b, vs, T, rfl, _⟩ := h; rfl
  | arr e xs => obtain ⟨b, vs, T, rfl, _⟩ := h; rfl
  | map k v es => obtain ⟨b, ms, c, rfl, _⟩ := h; rfl
  | buf T e xs => obtain ⟨us, h1, _⟩ := h; rcases h1.2 with ⟨rfl, _⟩ | ⟨_, _, _, rfl, _⟩ <;> rfl
end
end Go.Ev
