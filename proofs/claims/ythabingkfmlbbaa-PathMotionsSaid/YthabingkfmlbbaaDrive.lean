/- Chapter 1: drives, and motions that are checked. -/
import Derived.Test.YthabingkfmlbbaaTrack
import Derived.Test.YthabingkfmlbbaaGm4
set_option linter.unusedSimpArgs false
namespace Go.Proofs.Ythabingkfmlbbaa
open Go.Ev
abbrev Dr := Int × (Int × Int) × Int × Int
def dR (d : Dr) : Bool := win d.1 1 3600 && (win d.2.1.1 (-20000) 20000 && (win d.2.1.2 (-20000) 20000 && win d.2.2.2 0 40000))
def drvE (d : Dr) : Int := firstE [unl (dR d) 2, unl (decide (d.2.1.1 ≤ d.2.1.2)) 9, unl (win d.2.2.1 d.2.1.1 d.2.1.2) 2]
theorem s25_eq (a : Int) : s25 (a, 20000) = some (win a (-20000) 20000) := by
 unfold s25
 simp only [optE_some, s24_eq]
 rfl
theorem s7_eq (d : Dr) : s7 d = some (drvE d) := by
 unfold s7 drvE dR
 simp only [s24_eq, s25_eq, s27_eq, optE_some]
 cases win d.1 1 3600
 ·simp only [cond_false, Bool.false_and]; rw [s26_eq _ (by simp)]; rfl
 ·cases win d.2.1.1 (-20000) 20000
  ·simp only [cond_false, cond_true, Bool.true_and, Bool.false_and]; rw [s26_eq _ (by simp)]; rfl
  ·cases win d.2.1.2 (-20000) 20000
   ·simp only [cond_false, cond_true, Bool.true_and, Bool.false_and]; rw [s26_eq _ (by simp)]; rfl
   ·simp only [cond_true, Bool.true_and]; rw [s26_eq _ (by simp)]; rfl
theorem s11_eq (d : Dr) : s11 d = some (drvE d) := by
 unfold s11 drvE dR
 simp only [s18_eq, optE_some]
 cases win d.1 1 3600
 ·rfl
 ·cases win d.2.1.1 (-20000) 20000
  ·rfl
  ·cases win d.2.1.2 (-20000) 20000
   ·rfl
   ·cases win d.2.2.2 0 40000
    ·rfl
    ·simp only [Bool.and_true, Bool.not_true, cond_false, unl, cond_true, firstE, show ((0 : Int) != 0) = false from rfl]
     by_cases h : d.2.1.1 > d.2.1.2
     ·rw [decide_eq_true h, decide_eq_false (show ¬ d.2.1.1 ≤ d.2.1.2 by omega)]; rfl
     ·rw [decide_eq_false h, decide_eq_true (show d.2.1.1 ≤ d.2.1.2 by omega)]
      cases win d.2.2.1 d.2.1.1 d.2.1.2 <;> rfl
theorem drvE_ok {d : Dr} (h : drvE d = 0) : (1 ≤ d.1 ∧ d.1 ≤ 3600) ∧ (-20000 ≤ d.2.1.1 ∧ d.2.1.1 ≤ 20000) ∧ (-20000 ≤ d.2.1.2 ∧ d.2.1.2 ≤ 20000) ∧ (0 ≤ d.2.2.2 ∧ d.2.2.2 ≤ 40000) ∧ d.2.1.1 ≤ d.2.1.2 ∧ (d.2.1.1 ≤ d.2.2.1 ∧ d.2.2.1 ≤ d.2.1.2) := by
 have h := firstE_zero.1 h
 have h1 := unl_zero (by omega) (h _ (List.mem_cons_self))
 have h2 := unl_zero (by omega) (h _ (List.mem_cons_of_mem _ List.mem_cons_self))
 have h3 := unl_zero (by omega) (h _ (List.mem_cons_of_mem _ (List.mem_cons_of_mem _ List.mem_cons_self)))
 simp only [dR, Bool.and_eq_true, win_iff] at h1
 exact ⟨h1.1, h1.2.1, h1.2.2.1, h1.2.2.2, of_decide_eq_true h2, win_iff.1 h3⟩
def AllT (d : Dr) (l : List Int) : Prop := ∀ k, k < l.length → win (l.getD k 0) 0 (wr (d.1 - 1)) = true
theorem s28_eq {d : Dr} {l : List Int} (hl : l.length ≤ 1000) : (drvE d ≠ 0 → s28 (d, l) = some (drvE d)) ∧ (drvE d = 0 → 40 < l.length → s28 (d, l) = some 8) ∧ (drvE d = 0 → l.length ≤ 40 → AllT d l → s28 (d, l) = some 0) ∧ (drvE d = 0 → l.length ≤ 40 → ¬ AllT d l → s28 (d, l) = some 2) := by
 have hloop : loopVal step61_0 (l, ((d.1, d.2.1.1, d.2.1.2, d.2.2.1, d.2.2.2), ()), (l.length : Int), 0) = some (scan (fun k => bif win (l.getD k 0) 0 (wr (d.1 - 1)) then none else some (Sum.inl (k : Int) : Int ⊕ Unit)) (.inr ()) l.length 0) :=
  loop_scan (step := step61_0) (st := fun k => (l, ((d.1, d.2.1.1, d.2.1.2, d.2.2.1, d.2.2.2), ()), (l.length : Int), (k : Int))) (n := l.length)
   (fun k hk => by
     simp only [step61_0, lt_cast, inB_cast, hk, decide_true, cond_true, Int.toNat_natCast, s24_eq, optE_some, wr_succ (show k < 4611686018427387904 by omega)]
     cases win (l.getD k 0) 0 (wr (d.1 - 1)) <;> rfl)
   (by simp only [step61_0, lt_cast, Nat.lt_irrefl, decide_false, cond_false]) l.length 0 (by omega)
 have e46 : ∀ b, s26 [drvE d, unl b 8] = some (firstE [drvE d, unl b 8]) := fun b => s26_eq _ (by simp)
 unfold s28
 simp only [s7_eq, s27_eq, optE_some, e46]
 refine ⟨fun h => ?_, fun h h2 => ?_, fun h h2 h3 => ?_, fun h h2 h3 => ?_⟩
 ·have hb : (drvE d != 0) = true := by simpa using h
  simp only [firstE, hb, cond_true]
 ·rw [h, decide_eq_false (show ¬ (l.length : Int) ≤ 40 by omega)]; rfl
 ·rw [h, decide_eq_true (show (l.length : Int) ≤ 40 by omega)]
  rcases scan_cases (fun k => bif win (l.getD k 0) 0 (wr (d.1 - 1)) then none else some (Sum.inl (k : Int) : Int ⊕ Unit)) (.inr ()) l.length 0 with ⟨hs, _⟩ | ⟨j, x, _, hj, hx, _⟩
  ·rw [hs] at hloop
   simp only [firstE, unl, cond_true, show ((0 : Int) != 0) = false from rfl, cond_false, hloop, optE_some, sumE_r]
  ·have := h3 j (by omega)
   rw [this] at hx; cases hx
 ·rw [h, decide_eq_true (show (l.length : Int) ≤ 40 by omega)]
  rcases scan_cases (fun k => bif win (l.getD k 0) 0 (wr (d.1 - 1)) then none else some (Sum.inl (k : Int) : Int ⊕ Unit)) (.inr ()) l.length 0 with ⟨_, hn⟩ | ⟨j, x, _, hj, hx, hs⟩
  ·refine absurd (fun k hk => ?_) h3
   have := hn k (by omega) (by omega)
   cases hw : win (l.getD k 0) 0 (wr (d.1 - 1)) with
   | true => rfl
   | false => rw [hw] at this; cases this
  ·rw [hs] at hloop
   cases hw : win (l.getD j 0) 0 (wr (d.1 - 1)) with
   | true => rw [hw] at hx; cases hx
   | false =>
     rw [hw] at hx
     obtain rfl := Option.some.inj hx
     simp only [firstE, unl, cond_true, show ((0 : Int) != 0) = false from rfl, cond_false, hloop, optE_some, sumE_l, decide_eq_true (show (j : Int) ≥ 0 by omega), Bool.not_true]
theorem s12_eq {d : Dr} {l : List Int} (hl : l.length ≤ 1000) : (40 < l.length → s12 (d, l) = some 8) ∧ (l.length ≤ 40 → AllT d l → s12 (d, l) = some 0) ∧ (l.length ≤ 40 → ¬ AllT d l → s12 (d, l) = some 2) := by
 have hloop : loopVal step12_0 (l, 0, d) = some (scan (fun k => bif win (l.getD k 0) 0 (wr (d.1 - 1)) then none else some (Sum.inl 2 : Int ⊕ Unit)) (.inr ()) l.length 0) :=
  loop_scan (step := step12_0) (st := fun k => (l, (k : Int), d)) (n := l.length)
   (fun k hk => by
     simp only [step12_0, lt_cast, inB_cast, hk, decide_true, cond_true, Int.toNat_natCast, s18_eq, optE_some, wr_succ (show k < 4611686018427387904 by omega)]
     cases win (l.getD k 0) 0 (wr (d.1 - 1)) <;> rfl)
   (by simp only [step12_0, lt_cast, Nat.lt_irrefl, decide_false, cond_false]) l.length 0 (by omega)
 unfold s12
 refine ⟨fun h => ?_, fun h2 h3 => ?_, fun h2 h3 => ?_⟩
 ·simp only [decide_eq_true (show (l.length : Int) > 40 by omega), cond_true]
 ·rcases scan_cases (fun k => bif win (l.getD k 0) 0 (wr (d.1 - 1)) then none else some (Sum.inl 2 : Int ⊕ Unit)) (.inr ()) l.length 0 with ⟨hs, _⟩ | ⟨j, x, _, hj, hx, _⟩
  ·rw [hs] at hloop
   simp only [decide_eq_false (show ¬ (l.length : Int) > 40 by omega), cond_false, hloop, optE_some, sumE_r]
  ·have := h3 j (by omega)
   rw [this] at hx; cases hx
 ·rcases scan_cases (fun k => bif win (l.getD k 0) 0 (wr (d.1 - 1)) then none else some (Sum.inl 2 : Int ⊕ Unit)) (.inr ()) l.length 0 with ⟨_, hn⟩ | ⟨j, x, _, hj, hx, hs⟩
  ·refine absurd (fun k hk => ?_) h3
   have := hn k (by omega) (by omega)
   cases hw : win (l.getD k 0) 0 (wr (d.1 - 1)) with
   | true => rfl
   | false => rw [hw] at this; cases this
  ·rw [hs] at hloop
   cases hw : win (l.getD j 0) 0 (wr (d.1 - 1)) with
   | true => rw [hw] at hx; cases hx
   | false =>
     rw [hw] at hx
     obtain rfl := Option.some.inj hx
     simp only [decide_eq_false (show ¬ (l.length : Int) > 40 by omega), cond_false, hloop, optE_some, sumE_l]
theorem s9_eq {l : List Int} (h : l.length ≤ 1000) : s9 l = some l := by
 have hr : room 8 (0 + l.length) = true := room_true (by omega) (by omega)
 simp only [s9, hr, cond_true]
end Go.Proofs.Ythabingkfmlbbaa
