/- The machine of markers: what it does, phase by phase; with all signs opposite; the frames. -/
import Derived.Test.YthckjfbhdjjnkaaSpaceMath
set_option linter.unusedSimpArgs false
namespace Go.Proofs.Ythckjfbhdjjnkaa
open Go.Ev
def firstAt {α : Type} (f : Nat → Option α) : Nat → Nat → Option α
 | 0, _ => none
 | n + 1, k => match f k with
   | some x => some x
   | none => firstAt f n (k + 1)
theorem firstAt_some {α : Type} {f : Nat → Option α} : ∀ {n k : Nat} {x : α}, firstAt f n k = some x → ∃ j, k ≤ j ∧ j < k + n ∧ f j = some x
 | 0, _, _, h => by cases h
 | n + 1, k, x, h => by
   unfold firstAt at h
   cases hf : f k with
   | some y => rw [hf] at h; exact ⟨k, Nat.le_refl _, by omega, by rw [hf]; exact h⟩
   | none =>
     rw [hf] at h
     obtain ⟨j, h1, h2, h3⟩ := firstAt_some h
     exact ⟨j, by omega, by omega, h3⟩
theorem scan_first {α E : Type} (f : Nat → Option α) (g : α → E) (e : E) : ∀ n k, scan (fun k => (f k).map g) e n k = (match firstAt f n k with | some x => g x | none => e)
 | 0, _ => rfl
 | n + 1, k => by
   unfold scan firstAt
   cases f k with
   | some x => rfl
   | none => exact scan_first f g e n (k + 1)
abbrev St := List Mark × Int × Int × Int × Int × Bool
section
variable (r : Rule) (l : List Int)
def wI (v : Bool) (p : Int) : Int := bif v then (wrongN r.1 l p.toNat r.1.length).2 else (wrongN r.1 l p.toNat r.1.length).1
def findFrom (a : Nat) : Option Mark := firstAt (markAt r.1 l r.2.2.1) (places r.1 l - a) a
def aft (c : Int) : Nat := if c ≥ r.2.2.2.1 then 2 else 1
def hitD (v : Bool) (x : Int) (k : Nat) : Option Int := if wI r l v (x - (k : Int)) ≤ r.2.2.1 then some (-(k : Int)) else if wI r l v (x + (k : Int)) ≤ r.2.2.1 then some (k : Int) else none
def expD (v : Bool) (x : Int) : Option Int := firstAt (hitD r l v x) (r.2.2.2.2.2.toNat + 1) 0
def over (la : Int) : Prop := la + r.2.1 + r.2.2.2.2.2 + (r.1.length : Int) > (l.length : Int)
instance (la : Int) : Decidable (over r l la) := inferInstanceAs (Decidable (_ > _))
def nxt : Nat → St → Option (Nat × St)
 | 0, (ms, fr, la, co, mi, v) => some (match findFrom r l fr.toNat with
   | some m => (aft r 1, ms ++ [m], fr, m.2.1, 1, 0, m.2.2.1)
   | none => (3, ms, fr, la, co, mi, v))
 | 1, (ms, fr, la, co, mi, v) => some (if over r l la then (3, ms, fr, la, co, mi, v) else match expD r l v (la + r.2.1) with
   | some d => (aft r (co + 1), ms ++ [(1, la + r.2.1 + d, v, wI r l v (la + r.2.1 + d), d)], fr, la + r.2.1 + d, co + 1, 0, v)
   | none => (0, ms ++ [(4, la + r.2.1, v, wI r l v (la + r.2.1), 0)], la + 1, la, co, mi, v))
 | 2, (ms, fr, la, co, mi, v) => some (if over r l la then (3, ms, fr, la, co, mi, v) else match expD r l v (la + r.2.1) with
   | some d => (2, ms ++ [(2, la + r.2.1 + d, v, wI r l v (la + r.2.1 + d), d)], fr, la + r.2.1 + d, co, 0, v)
   | none => if mi + 1 > r.2.2.2.2.1 then (0, ms ++ [(4, la + r.2.1, v, wI r l v (la + r.2.1), 0)], la + r.2.1, la, co, mi + 1, v)
     else (2, ms ++ [(3, la + r.2.1, v, wI r l v (la + r.2.1), 0)], fr, la + r.2.1, co, mi + 1, v))
 | _, _ => none
def mach : Nat → Nat → St → St
 | 0, _, s => s
 | f + 1, p, s => match nxt r l p s with
   | some (p', s') => mach f p' s'
   | none => s
def st0 : St := ([], 0, 0, 0, 0, false)
def marksV : List Mark := (mach r l (2 * l.length + 8) 0 st0).1
end
def negL (l : List Int) : List Int := l.map fun x => -x
theorem negL_len (l : List Int) : (negL l).length = l.length := List.length_map _
structure Fit (r : Rule) : Prop where
 bits : ∀ k, k < r.1.length → r.1.getD k 0 = 0 ∨ r.1.getD k 0 = 1
 len : 0 < r.1.length ∧ r.1.length ≤ 32
 half : 2 * r.2.2.1 < (r.1.length : Int)
 err : 0 ≤ r.2.2.1 ∧ r.2.2.1 ≤ 32
 ver : 1 ≤ r.2.2.2.1 ∧ r.2.2.2.1 ≤ 5
 fly : 0 ≤ r.2.2.2.2.1 ∧ r.2.2.2.2.1 ≤ 5
 slip : 0 ≤ r.2.2.2.2.2 ∧ r.2.2.2.2.2 ≤ 3
 far : (r.1.length : Int) + r.2.2.2.2.2 < r.2.1
 most : r.2.1 ≤ 200
section
variable {r : Rule} {l : List Int} (h : Fit r)
include h
end
end Go.Proofs.Ythckjfbhdjjnkaa
