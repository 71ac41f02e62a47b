/- All positions at which a marker is found. -/
import Derived.Test.YthckjfbhdjjnkaaDoorGd8
import Derived.Test.YthckjfbhdjjnkaaDoorMarkersLaw
set_option linter.unusedSimpArgs false
namespace Go.Proofs.YthckjfbhdjjnkaaDoor
open Go.Ev
abbrev Mark := Int × Int × Bool × Int × Int
def markAt (m l : List Int) (e : Int) (k : Nat) : Option Mark :=
 if (wrongN m l k m.length).1 ≤ e then some (0, (k : Int), false, (wrongN m l k m.length).1, 0) else if (wrongN m l k m.length).2 ≤ e then some (0, (k : Int), true, (wrongN m l k m.length).2, 0) else none
def places (m l : List Int) : Nat := l.length + 1 - m.length
def bE (r : Rule) (l : List Int) : Int := firstE [rE r, hE l]
theorem rE_ok {r : Rule} (h : rE r = 0) : mE r.1 = 0 := firstE_zero.1 h (mE r.1) (by simp)
theorem s33_eq (r : Rule) (l : List Int) (hr : r.1.length ≤ 1000) (hl : l.length ≤ 1000000) : s33 (r, l) = some (bE r l) := by
 unfold s33 bE
 simp only [s20_eq r hr, s30_eq l hl, optE_some]
 by_cases h : rE r = 0
 ·rw [h]
  simp only [bne_self_eq_false, cond_false, firstE]
  cases g : hE l != 0 with
  | true => rfl
  | false => have : hE l = 0 := bne_eq_false_iff_eq.1 g; rw [this]; rfl
 ·rw [bne_iff_ne.2 h]
  unfold firstE
  rw [bne_iff_ne.2 h]
  rfl
end Go.Proofs.YthckjfbhdjjnkaaDoor
