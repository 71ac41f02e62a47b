/- RangingEnclosures: its law holds. -/
import Derived.Test.YtfpppijfkeidgaaGreatDoorEnclose2
import Derived.Test.YtfpppijfkeidgaaGreatDoorClaimLaw
set_option linter.unusedSimpArgs false
namespace Go.Proofs.YtfpppijfkeidgaaGreatDoor
open Go.Ev
theorem dir_time {t : Int} (h : 0 ≤ t ∧ t ≤ 1000) : Dir (1, t) := ⟨by unfold VOk; simp only; omega, .inl rfl⟩
theorem dir_speed : Dir (0, 1) := ⟨by unfold VOk; simp only; omega, .inr (.inr ⟨rfl, .inl rfl⟩)⟩
theorem mErrs_eq (l : List Msr) : s8 l = some (chkM l).2 := by unfold s8; simp only [chk2, optE_some]
theorem distIn_good {l : List Msr} (h : (chkM l).2 = 0) {t : Int} (ht : win t 0 1000 = true) : s16 (l, t) = (s44 (l, (1, t))).elim none some := by
 unfold s16
 have : firstE [(0 : Int), unl true 2] = 0 := rfl
 simp only [chk1, optE_some, h, ht, this]
 cases s44 (l, (1, t)) <;> rfl
theorem speedOf_good {l : List Msr} (h : (chkM l).2 = 0) : s17 l = (s44 (l, (0, 1))).elim none some := by
 unfold s17
 simp only [chk1, optE_some, h]
 cases s44 (l, (0, 1)) <;> rfl
end Go.Proofs.YtfpppijfkeidgaaGreatDoor
