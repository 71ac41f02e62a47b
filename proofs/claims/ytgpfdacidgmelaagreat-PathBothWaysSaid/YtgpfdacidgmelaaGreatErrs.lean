/- Chapter 1: the errors of two tracks. -/
import Derived.Test.YtgpfdacidgmelaaGreatMono
set_option linter.unusedSimpArgs false
namespace Go.Proofs.YtgpfdacidgmelaaGreat
open Go.Ev

theorem s46_eq (p : Tr) : s46 p = some (decide (p.1.length ≤ 14)) := by
  unfold s46
  congr 1
  by_cases h : p.1.length ≤ 14
  · rw [decide_eq_true h, decide_eq_true (by omega)]
  · rw [decide_eq_false h, decide_eq_false (by omega)]
theorem s12_eq (a b : Tr) : s12 (a, b) = some (decide (a.1.length ≤ 14) && decide (b.1.length ≤ 14)) := by
  unfold s12
  simp only [s46_eq, optE_some]
  cases decide (a.1.length ≤ 14) <;> rfl
theorem s67_eq (p : Tr) : s67 p = some (trkE p).2 := by unfold s67; simp only [s107_eq, optE_some]
theorem s16_eq (a b : Tr) : s16 (a, b) = some (bif (trkE a).2 != 0 then (trkE a).2 else (trkE b).2) := by
  unfold s16
  simp only [s67_eq, optE_some]
  cases (trkE a).2 != 0 <;> rfl
theorem s17_eq {a b : Tr} (Va : Valid a) (Vb : Valid b) (time : Int) : s17 (a, b, time) = some (bif tErr time a != 0 then tErr time a else tErr time b) := by
  unfold s17
  simp only [s68_eq Va, s68_eq Vb, optE_some]
  cases tErr time a != 0 <;> rfl
theorem both_zero {x y : Int} : ((bif x != 0 then x else y) != 0) = false ↔ x = 0 ∧ y = 0 := by
  cases h : x != 0
  · have : x = 0 := by simpa using h
    subst this; simp
  · have : x ≠ 0 := by simpa using h
    simp [this]

end Go.Proofs.YtgpfdacidgmelaaGreat
