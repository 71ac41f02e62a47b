/- The machine of markers: what it does, phase by phase; with all signs opposite; the frames. -/
import Derived.Test.YthckjfbhdjjnkaaDoorSpaceMath
set_option linter.unusedSimpArgs false
namespace Go.Proofs.YthckjfbhdjjnkaaDoor
open Go.Ev
def firstAt {α : Type} (f : Nat → Option α) : Nat → Nat → Option α
 | 0, _ => none
 | n + 1, k => match f k with
   | some x => some x
   | none => firstAt f n (k + 1)
theorem firstAt_some {α : Type} {f : Nat → Option α} : ∀ {n k : Nat} {x : α}, firstAt f n k = some x → ∃ j, k ≤ j ∧ j < k + n ∧ f j = some x
 | 0, _, _, h => by cases h
 | n + 1, k, x, h => by
   unfold firstAt at h
   cases hf : f k with
   | some y => rw [hf] at h; exact ⟨k, Nat.le_refl _, by omega, by rw [hf]; exact h⟩
   | none =>
     rw [hf] at h
     obtain ⟨j, h1, h2, h3⟩ := firstAt_some h
     exact ⟨j, by omega, by omega, h3⟩
theorem firstAt_map {α β : Type} {f : Nat → Option α} {g : Nat → Option β} {u : α → β} (h : ∀ k, g k = (f k).map u) : ∀ n k, firstAt g n k = (firstAt f n k).map u
 | 0, _ => rfl
 | n + 1, k => by
   unfold firstAt
   rw [h k]
   cases f k with
   | some x => rfl
   | none => exact firstAt_map h n (k + 1)
theorem firstAt_congr {α : Type} {f g : Nat → Option α} (h : ∀ k, g k = f k) (n k : Nat) : firstAt g n k = firstAt f n k := by
 have := firstAt_map (u := id) (f := f) (g := g) (fun k => by rw [h k]; cases f k <;> rfl) n k
 rw [this]; cases firstAt f n k <;> rfl
theorem scan_first {α E : Type} (f : Nat → Option α) (g : α → E) (e : E) : ∀ n k, scan (fun k => (f k).map g) e n k = (match firstAt f n k with | some x => g x | none => e)
 | 0, _ => rfl
 | n + 1, k => by
   unfold scan firstAt
   cases f k with
   | some x => rfl
   | none => exact scan_first f g e n (k + 1)
abbrev St := List Mark × Int × Int × Int × Int × Bool
section
variable (r : Rule) (l : List Int)
def wI (v : Bool) (p : Int) : Int := bif v then (wrongN r.1 l p.toNat r.1.length).2 else (wrongN r.1 l p.toNat r.1.length).1
def findFrom (a : Nat) : Option Mark := firstAt (markAt r.1 l r.2.2.1) (places r.1 l - a) a
def aft (c : Int) : Nat := if c ≥ r.2.2.2.1 then 2 else 1
def hitD (v : Bool) (x : Int) (k : Nat) : Option Int := if wI r l v (x - (k : Int)) ≤ r.2.2.1 then some (-(k : Int)) else if wI r l v (x + (k : Int)) ≤ r.2.2.1 then some (k : Int) else none
def expD (v : Bool) (x : Int) : Option Int := firstAt (hitD r l v x) (r.2.2.2.2.2.toNat + 1) 0
def over (la : Int) : Prop := la + r.2.1 + r.2.2.2.2.2 + (r.1.length : Int) > (l.length : Int)
instance (la : Int) : Decidable (over r l la) := inferInstanceAs (Decidable (_ > _))
def nxt : Nat → St → Option (Nat × St)
 | 0, (ms, fr, la, co, mi, v) => some (match findFrom r l fr.toNat with
   | some m => (aft r 1, ms ++ [m], fr, m.2.1, 1, 0, m.2.2.1)
   | none => (3, ms, fr, la, co, mi, v))
 | 1, (ms, fr, la, co, mi, v) => some (if over r l la then (3, ms, fr, la, co, mi, v) else match expD r l v (la + r.2.1) with
   | some d => (aft r (co + 1), ms ++ [(1, la + r.2.1 + d, v, wI r l v (la + r.2.1 + d), d)], fr, la + r.2.1 + d, co + 1, 0, v)
   | none => (0, ms ++ [(4, la + r.2.1, v, wI r l v (la + r.2.1), 0)], la + 1, la, co, mi, v))
 | 2, (ms, fr, la, co, mi, v) => some (if over r l la then (3, ms, fr, la, co, mi, v) else match expD r l v (la + r.2.1) with
   | some d => (2, ms ++ [(2, la + r.2.1 + d, v, wI r l v (la + r.2.1 + d), d)], fr, la + r.2.1 + d, co, 0, v)
   | none => if mi + 1 > r.2.2.2.2.1 then (0, ms ++ [(4, la + r.2.1, v, wI r l v (la + r.2.1), 0)], la + r.2.1, la, co, mi + 1, v)
     else (2, ms ++ [(3, la + r.2.1, v, wI r l v (la + r.2.1), 0)], fr, la + r.2.1, co, mi + 1, v))
 | _, _ => none
def mach : Nat → Nat → St → St
 | 0, _, s => s
 | f + 1, p, s => match nxt r l p s with
   | some (p', s') => mach f p' s'
   | none => s
def st0 : St := ([], 0, 0, 0, 0, false)
def marksV : List Mark := (mach r l (2 * l.length + 8) 0 st0).1
end
def negL (l : List Int) : List Int := l.map fun x => -x
theorem negL_getD (l : List Int) (k : Nat) : (negL l).getD k 0 = -(l.getD k 0) := by
 unfold negL
 rw [List.getD_eq_getElem?_getD, List.getD_eq_getElem?_getD, List.getElem?_map]
 cases l[k]? <;> rfl
theorem hardV_neg (n : Int) : hardV (-n) = if n = 0 then -1 else 1 - hardV n := by
 unfold hardV
 by_cases h0 : n = 0
 ·subst h0; rfl
 ·rw [if_neg h0]
  by_cases h1 : n > 0
  ·rw [decide_eq_true h1, decide_eq_false (show ¬ -n > 0 by omega), decide_eq_true (show -n < 0 by omega)]; rfl
  ·rw [decide_eq_false h1, decide_eq_true (show n < 0 by omega), decide_eq_true (show -n > 0 by omega)]; rfl
theorem hardV_pos (n : Int) : (n = 0 → hardV n = -1) ∧ (n ≠ 0 → hardV n = 0 ∨ hardV n = 1) := by
 unfold hardV
 constructor
 ·intro h; subst h; rfl
 ·intro h
  by_cases h1 : n > 0
  ·rw [decide_eq_true h1]; exact .inl rfl
  ·rw [decide_eq_false h1, decide_eq_true (show n < 0 by omega)]; exact .inr rfl
theorem wrongN_neg {m l : List Int} (hm : ∀ k, k < m.length → m.getD k 0 = 0 ∨ m.getD k 0 = 1) (a : Nat) : ∀ k, k ≤ m.length → wrongN m (negL l) a k = ((wrongN m l a k).2, (wrongN m l a k).1)
 | 0, _ => rfl
 | k + 1, hk => by
   have ih := wrongN_neg (l := l) hm a k (by omega)
   have hb := hm k (by omega)
   have e1 : wr (1 - m.getD k 0) = 1 - m.getD k 0 := wr_id (by omega) (by omega)
   obtain ⟨p0, p1⟩ := hardV_pos (l.getD (a + k) 0)
   show nxW _ _ _ = ((nxW _ _ _).2, (nxW _ _ _).1)
   rw [ih, negL_getD, hardV_neg]
   unfold nxW
   simp only [e1]
   by_cases h0 : l.getD (a + k) 0 = 0
   ·rw [if_pos h0, p0 h0]
    rw [if_neg (by omega), if_neg (by omega), if_neg (by omega), if_neg (by omega)]
   ·rw [if_neg h0]
    have p := p1 h0
    by_cases g1 : hardV (l.getD (a + k) 0) = m.getD k 0
    ·rw [if_neg (show ¬ 1 - hardV (l.getD (a + k) 0) = m.getD k 0 by omega), if_pos (show 1 - hardV (l.getD (a + k) 0) = 1 - m.getD k 0 by omega), if_neg (show ¬ hardV (l.getD (a + k) 0) = 1 - m.getD k 0 by omega), if_pos g1]
    ·rw [if_pos (show 1 - hardV (l.getD (a + k) 0) = m.getD k 0 by omega), if_neg (show ¬ 1 - hardV (l.getD (a + k) 0) = 1 - m.getD k 0 by omega), if_pos (show hardV (l.getD (a + k) 0) = 1 - m.getD k 0 by omega), if_neg g1]
theorem negL_len (l : List Int) : (negL l).length = l.length := List.length_map _
def flipM (m : Mark) : Mark := (m.1, m.2.1, !m.2.2.1, m.2.2.2.1, m.2.2.2.2)
structure Fit (r : Rule) : Prop where
 bits : ∀ k, k < r.1.length → r.1.getD k 0 = 0 ∨ r.1.getD k 0 = 1
 len : 0 < r.1.length ∧ r.1.length ≤ 32
 half : 2 * r.2.2.1 < (r.1.length : Int)
 err : 0 ≤ r.2.2.1 ∧ r.2.2.1 ≤ 32
 ver : 1 ≤ r.2.2.2.1 ∧ r.2.2.2.1 ≤ 5
 fly : 0 ≤ r.2.2.2.2.1 ∧ r.2.2.2.2.1 ≤ 5
 slip : 0 ≤ r.2.2.2.2.2 ∧ r.2.2.2.2.2 ≤ 3
 far : (r.1.length : Int) + r.2.2.2.2.2 < r.2.1
 most : r.2.1 ≤ 200
section
variable {r : Rule} {l : List Int} (h : Fit r)
include h
theorem not_both (a : Nat) : ¬ ((wrongN r.1 l a r.1.length).1 ≤ r.2.2.1 ∧ (wrongN r.1 l a r.1.length).2 ≤ r.2.2.1) := by
 rintro ⟨h1, h2⟩
 have hc := wrongN_cnt r.1 l a r.1.length (by have := h.len; omega) h.bits
 have hb := both_wrong (m := r.1) (l := l) (a := a) r.1.length
 rw [hc] at h1 h2
 have := h.half
 simp only at h1 h2
 omega
theorem wI_neg (v : Bool) (p : Int) : wI r (negL l) (!v) p = wI r l v p := by
 unfold wI
 rw [wrongN_neg h.bits _ _ (Nat.le_refl _)]
 cases v <;> rfl
theorem markAt_neg (k : Nat) : markAt r.1 (negL l) r.2.2.1 k = (markAt r.1 l r.2.2.1 k).map flipM := by
 have hn := not_both (l := l) h k
 unfold markAt
 rw [wrongN_neg h.bits _ _ (Nat.le_refl _)]
 by_cases g1 : (wrongN r.1 l k r.1.length).1 ≤ r.2.2.1
 ·have g2 : ¬ (wrongN r.1 l k r.1.length).2 ≤ r.2.2.1 := fun g2 => hn ⟨g1, g2⟩
  simp only [if_pos g1, if_neg g2]
  rfl
 ·by_cases g2 : (wrongN r.1 l k r.1.length).2 ≤ r.2.2.1
  ·simp only [if_neg g1, if_pos g2]
   rfl
  ·simp only [if_neg g1, if_neg g2]
   rfl
theorem findFrom_neg (a : Nat) : findFrom r (negL l) a = (findFrom r l a).map flipM := by
 unfold findFrom
 rw [show places r.1 (negL l) = places r.1 l by unfold places; rw [negL_len]]
 exact firstAt_map (markAt_neg h) _ _
theorem expD_neg (v : Bool) (x : Int) : expD r (negL l) (!v) x = expD r l v x := by
 unfold expD
 exact firstAt_congr (fun k => by unfold hitD; rw [wI_neg h, wI_neg h]) _ _
omit h in
theorem over_neg (la : Int) : over r (negL l) la ↔ over r l la := by unfold over; rw [negL_len]
def Opp (p : Nat) (s t : St) : Prop := t.1 = s.1.map flipM ∧ t.2.1 = s.2.1 ∧ t.2.2.1 = s.2.2.1 ∧ t.2.2.2.1 = s.2.2.2.1 ∧ t.2.2.2.2.1 = s.2.2.2.2.1 ∧ (p = 1 ∨ p = 2 → t.2.2.2.2.2 = !s.2.2.2.2.2)
omit h in
theorem map_add (ms : List Mark) (m : Mark) : (ms ++ [m]).map flipM = ms.map flipM ++ [flipM m] := by rw [List.map_append]; rfl
omit h in
theorem map_add5 (ms : List Mark) (k a : Int) (v : Bool) (w d : Int) : (ms ++ [(k, a, v, w, d)]).map flipM = ms.map flipM ++ [(k, a, !v, w, d)] := by rw [List.map_append]; rfl
theorem nxt_opp {p : Nat} {s t : St} (ho : Opp p s t) : (nxt r l p s = none ∧ nxt r (negL l) p t = none) ∨ ∃ p' s' t', nxt r l p s = some (p', s') ∧ nxt r (negL l) p t = some (p', t') ∧ Opp p' s' t' := by
 obtain ⟨ms, fr, la, co, mi, v⟩ := s
 obtain ⟨ms', fr', la', co', mi', v'⟩ := t
 obtain ⟨h1, h2, h3, h4, h5, h6⟩ := ho
 simp only at h1 h2 h3 h4 h5 h6
 subst h1; subst h2; subst h3; subst h4; subst h5
 match p with
 | 0 =>
   right
   simp only [nxt, findFrom_neg h]
   cases hf : findFrom r l fr'.toNat with
   | none => exact ⟨_, _, _, rfl, rfl, rfl, rfl, rfl, rfl, rfl, fun h => by omega⟩
   | some m => exact ⟨_, _, _, rfl, rfl, (map_add ms m).symm, rfl, rfl, rfl, rfl, fun _ => rfl⟩
 | 1 =>
   right
   have h6 := h6 (.inl rfl)
   subst h6
   simp only [nxt, expD_neg h, over_neg, wI_neg h]
   by_cases ho : over r l la'
   ·simp only [if_pos ho]
    exact ⟨_, _, _, rfl, rfl, rfl, rfl, rfl, rfl, rfl, fun h => by omega⟩
   ·simp only [if_neg ho]
    cases hf : expD r l v (la' + r.2.1) with
    | none => exact ⟨_, _, _, rfl, rfl, (map_add5 ms _ _ _ _ _).symm, rfl, rfl, rfl, rfl, fun h => by omega⟩
    | some d => exact ⟨_, _, _, rfl, rfl, (map_add5 ms _ _ _ _ _).symm, rfl, rfl, rfl, rfl, fun _ => rfl⟩
 | 2 =>
   right
   have h6 := h6 (.inr rfl)
   subst h6
   simp only [nxt, expD_neg h, over_neg, wI_neg h]
   by_cases ho : over r l la'
   ·simp only [if_pos ho]
    exact ⟨_, _, _, rfl, rfl, rfl, rfl, rfl, rfl, rfl, fun h => by omega⟩
   ·simp only [if_neg ho]
    cases hf : expD r l v (la' + r.2.1) with
    | none =>
      by_cases hm : mi' + 1 > r.2.2.2.2.1
      ·simp only [if_pos hm]
       exact ⟨_, _, _, rfl, rfl, (map_add5 ms _ _ _ _ _).symm, rfl, rfl, rfl, rfl, fun h => by omega⟩
      ·simp only [if_neg hm]
       exact ⟨_, _, _, rfl, rfl, (map_add5 ms _ _ _ _ _).symm, rfl, rfl, rfl, rfl, fun _ => rfl⟩
    | some d => exact ⟨_, _, _, rfl, rfl, (map_add5 ms _ _ _ _ _).symm, rfl, rfl, rfl, rfl, fun _ => rfl⟩
 | p + 3 => exact .inl ⟨rfl, rfl⟩
theorem mach_opp : ∀ (f p : Nat) (s t : St), Opp p s t → (mach r (negL l) f p t).1 = (mach r l f p s).1.map flipM
 | 0, _, _, _, ho => ho.1
 | f + 1, p, s, t, ho => by
   unfold mach
   rcases nxt_opp (l := l) h ho with ⟨h1, h2⟩ | ⟨p', s', t', h1, h2, h3⟩
   ·rw [h1, h2]; exact ho.1
   ·rw [h1, h2]; exact mach_opp f p' s' t' h3
theorem marksV_neg : marksV r (negL l) = (marksV r l).map flipM := by
 unfold marksV
 rw [negL_len]
 exact mach_opp h _ 0 st0 st0 ⟨rfl, rfl, rfl, rfl, rfl, fun h => by omega⟩
end
end Go.Proofs.YthckjfbhdjjnkaaDoor
