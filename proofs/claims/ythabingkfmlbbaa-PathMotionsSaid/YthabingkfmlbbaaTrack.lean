/- Chapter 1: tracks. -/
import Derived.Test.YthabingkfmlbbaaSearch
import Derived.Test.YthabingkfmlbbaaGm4
set_option linter.unusedSimpArgs false
namespace Go.Proofs.Ythabingkfmlbbaa
open Go.Ev
abbrev Kn := Int × Int × Int × Int
abbrev Tr := List Kn × Int
def kR (k : Kn) : Bool := win k.1 0 1000000000000 && (win k.2.1 (-1000000) 1000000 && (win k.2.2.1 (-1000000) 1000000 && win k.2.2.2 (-1000000) 1000000))
def sqd (b k : Kn) : Int := (k.2.1 - b.2.1) * (k.2.1 - b.2.1) + (k.2.2.1 - b.2.2.1) * (k.2.2.1 - b.2.2.1) + (k.2.2.2 - b.2.2.2) * (k.2.2.2 - b.2.2.2)
theorem s24_eq (a b c : Int) : s24 (a, b, c) = some (win a b c) := by
 unfold s24 win; cases h : decide (b ≤ a) <;> simp [h]
theorem s18_eq (a b c : Int) : s18 (a, b, c) = some (win a b c) := by
 unfold s18 win; cases h : decide (b ≤ a) <;> simp [h]
theorem s27_eq (b : Bool) (e : Int) : s27 (b, e) = some (unl b e) := by unfold s27 unl; cases b <;> rfl
theorem s26_eq (l : List Int) (hl : l.length ≤ 1000) : s26 l = some (firstE l) := by
 have h := loop_scan (step := step26_0) (st := fun k => (l, (l.length : Int), (k : Int))) (hit := fun k => (fun x => bif x != 0 then some (Sum.inl x : Int ⊕ Unit) else none) (l.getD k 0)) (n := l.length) (e := .inr ())
  (fun k hk => by
    simp only [step26_0, lt_cast, inB_cast, hk, decide_true, cond_true, Int.toNat_natCast, wr_succ (show k < 4611686018427387904 by omega)]
    cases h : l.getD k 0 != 0 <;> simp [h])
  (by simp only [step26_0, lt_cast, Nat.lt_irrefl, decide_false, cond_false]) l.length 0 (by omega)
 rw [scan_list0 (fun x => bif x != 0 then some (Sum.inl x : Int ⊕ Unit) else none) (.inr ()) l 0, scanL_first] at h
 unfold s26
 have h' : loopVal step26_0 (l, (l.length : Int), 0) = _ := h
 rw [h']
 cases hf : firstE l != 0
 ·simp [optE, sumE, cond_false]
  have : firstE l = 0 := by simpa using hf
  exact this.symm
 ·simp [optE, sumE]
structure Valid (p : Tr) : Prop where
 pos : 0 < p.1.length
 most : p.1.length ≤ 12
 knot : ∀ i, i < p.1.length → kR (p.1.getD i (0, 0, 0, 0)) = true
 piece : ∀ i, i + 1 < p.1.length → (p.1.getD i (0, 0, 0, 0)).1 < (p.1.getD (i + 1) (0, 0, 0, 0)).1 ∧ (p.1.getD (i + 1) (0, 0, 0, 0)).1 - (p.1.getD i (0, 0, 0, 0)).1 ≤ 10000 ∧
  4 * sqd (p.1.getD i (0, 0, 0, 0)) (p.1.getD (i + 1) (0, 0, 0, 0)) ≤ ((p.1.getD (i + 1) (0, 0, 0, 0)).1 - (p.1.getD i (0, 0, 0, 0)).1) * ((p.1.getD (i + 1) (0, 0, 0, 0)).1 - (p.1.getD i (0, 0, 0, 0)).1)
 doubt : 0 ≤ p.2 ∧ p.2 ≤ 1000
end Go.Proofs.Ythabingkfmlbbaa
