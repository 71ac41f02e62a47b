import Derived.Test.YtfmfiflpokogiaaDoorEnclose2
import Derived.Test.YtfmfiflpokogiaaDoorClaimLaw
set_option linter.unusedSimpArgs false
namespace Go.Proofs.YtfmfiflpokogiaaDoor
open Go.Ev
theorem dir_time {t : Int} (h : 0 ≤ t ∧ t ≤ 1000) : Dir (1, t) := ⟨by unfold VOk; simp only; omega, .inl rfl⟩
theorem dir_speed : Dir (0, 1) := ⟨by unfold VOk; simp only; omega, .inr (.inr ⟨rfl, .inl rfl⟩)⟩
theorem eq_self4 (a : (Int × Int) × Int × Int) : (((a.1.1 == a.1.1) && ((a.1.2 == a.1.2) && true)) && (((a.2.1 == a.2.1) && ((a.2.2 == a.2.2) && true)) && true)) = true := by simp
theorem few_le (l : List Msr) : ∃ b, s21 l = some b ∧ (b = true → l.length ≤ 14) := by
 unfold s21
 by_cases h1 : (l.length : Int) ≤ 6
 ·rw [decide_eq_true h1]; exact ⟨true, rfl, fun _ => by omega⟩
 ·rw [decide_eq_false h1]
  by_cases h2 : (l.length : Int) > 12
  ·rw [decide_eq_true h2]; exact ⟨_, rfl, fun h => by have := of_decide_eq_true h; omega⟩
  ·rw [decide_eq_false h2]; exact ⟨false, rfl, fun h => by cases h⟩
theorem mErrs_eq (l : List Msr) : s23 l = some (chkM l).2 := by unfold s23; simp only [chk2, optE_some]
theorem distIn_bad {l : List Msr} (h : (chkM l).2 ≠ 0) (t : Int) : s24 (l, t) = some (((0, 0), 0, 0), (chkM l).2) := by
 unfold s24
 have : firstE [(chkM l).2, unl (win t 0 1000) 2] = (chkM l).2 := by simp only [firstE, show ((chkM l).2 != 0) = true by simpa using h, cond_true]
 simp only [chk1, optE_some, this, show ((chkM l).2 != 0) = true by simpa using h, cond_true]
theorem speedOf_bad {l : List Msr} (h : (chkM l).2 ≠ 0) : s27 l = some (((0, 0), 0, 0), (chkM l).2) := by
 unfold s27
 simp only [chk1, optE_some, show ((chkM l).2 != 0) = true by simpa using h, cond_true]
theorem distIn_late {l : List Msr} (h : (chkM l).2 = 0) {t : Int} (ht : win t 0 1000 = false) : s24 (l, t) = some (((0, 0), 0, 0), 2) := by
 unfold s24
 simp only [chk1, optE_some, h, ht]
 rfl
theorem distIn_good {l : List Msr} (h : (chkM l).2 = 0) {t : Int} (ht : win t 0 1000 = true) : s24 (l, t) = (s81 (l, (1, t))).elim none some := by
 unfold s24
 have : firstE [(0 : Int), unl true 2] = 0 := rfl
 simp only [chk1, optE_some, h, ht, this]
 cases s81 (l, (1, t)) <;> rfl
theorem speedOf_good {l : List Msr} (h : (chkM l).2 = 0) : s27 l = (s81 (l, (0, 1))).elim none some := by
 unfold s27
 simp only [chk1, optE_some, h]
 cases s81 (l, (0, 1)) <;> rfl
theorem enclosures_true (y : List Msr × Int) : s5 y = some true := by
 obtain ⟨l, t⟩ := y
 unfold s5
 obtain ⟨b, hb, hl⟩ := few_le l
 simp only [hb, Bool.not_true, cond_false, optE_some]
 cases b with
 | false => rfl
 | true =>
   have hl := hl rfl
   simp only [optE_some, Bool.not_true, cond_false, copyM l (by omega), mErrs_eq]
   by_cases hm : (chkM l).2 = 0
   ·have hv := (chkE_zero mErr (0, 0, 0, 0, 0) 12 l).1 hm
    have s := enclosed_eq l (by omega) hv.2 dir_speed
    obtain ⟨y, s1, s2, _⟩ := s
    have s3 : s28 l = some y := by unfold s28; rw [s2]; rfl
    rw [speedOf_good hm, s1]
    simp only [Option.elim, hm, optE_some, bne_self_eq_false, cond_false, s3, eq_self4, Bool.not_true]
    cases ht : win t 0 1000 with
    | false =>
      rw [distIn_late hm ht]
      unfold s29
      simp only [ht]
      rfl
    | true =>
      rw [distIn_good hm ht]
      have ht' : 0 ≤ t ∧ t ≤ 1000 := by simpa [win] using ht
      obtain ⟨z, z1, z2, _⟩ := enclosed_eq l (by omega) hv.2 (dir_time ht')
      have z3 : s30 (l, t) = some z := by unfold s30; simp only [z2, optE_some]
      have e0 : s29 t = some 0 := by unfold s29; rw [ht]; rfl
      rw [z1, e0]
      simp only [Option.elim, optE_some, bne_self_eq_false, cond_false, z3, beq_self_eq_true, cond_true, eq_self4]
      rfl
   ·rw [distIn_bad hm, speedOf_bad hm]
    simp [optE_some, show ((chkM l).2 != 0) = true by simpa using hm]
end Go.Proofs.YtfmfiflpokogiaaDoor
