/- Chapter 1: PathEnclosed. -/
import Derived.Test.YthabingkfmlbbaaGreatEnclosed
set_option linter.unusedSimpArgs false
namespace Go.Proofs.YthabingkfmlbbaaGreat
open Go.Ev
theorem s5_eq (p : Tr) : s5 p = some (decide (p.1.length ≤ 14)) := by
 unfold s5
 congr 1
 by_cases h : p.1.length ≤ 14
 ·rw [decide_eq_true h, decide_eq_true (by omega)]
 ·rw [decide_eq_false h, decide_eq_false (by omega)]
theorem s53_eq (p : Tr) : s53 p = some (trkE p).2 := by unfold s53; simp only [s85_eq, optE_some]
theorem s26_eq (a b : Tr) : s26 (a, b) = some (bif (trkE a).2 != 0 then (trkE a).2 else (trkE b).2) := by
 unfold s26
 simp only [s53_eq, optE_some]
 cases (trkE a).2 != 0 <;> rfl
theorem s8_eq {a b : Tr} (Va : Valid a) (Vb : Valid b) (time : Int) : s8 (a, b, time) = some (bif tErr time a != 0 then tErr time a else tErr time b) := by
 unfold s8
 simp only [s28_eq Va, s28_eq Vb, optE_some]
 cases tErr time a != 0 <;> rfl
theorem both_zero {x y : Int} : ((bif x != 0 then x else y) != 0) = false ↔ x = 0 ∧ y = 0 := by
 cases h : x != 0
 ·have : x = 0 := by simpa using h
  subst this; simp
 ·have : x ≠ 0 := by simpa using h
  simp [this]
end Go.Proofs.YthabingkfmlbbaaGreat
