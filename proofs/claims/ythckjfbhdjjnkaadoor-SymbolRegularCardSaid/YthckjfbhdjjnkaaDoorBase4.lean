/- Chapter 4: small functions; quadrants. -/
import Derived.Test.YthckjfbhdjjnkaaDoorGd2
import Derived.Test.YthckjfbhdjjnkaaDoorSearch
set_option linter.unusedSimpArgs false
namespace Go.Proofs.YthckjfbhdjjnkaaDoor
open Go.Ev
theorem s79_eq (a b c : Int) : s79 (a, b, c) = some (win a b c) := by
 unfold s79 win; cases h : decide (b ≤ a) <;> simp [h]
theorem s28_eq (a b c : Int) : s28 (a, b, c) = some (win a b c) := by
 unfold s28 win; cases h : decide (b ≤ a) <;> simp [h]
theorem s82_eq (b : Bool) (e : Int) : s82 (b, e) = some (unl b e) := by unfold s82 unl; cases b <;> rfl
theorem s80_eq (l : List Int) (hl : l.length ≤ 1000) : s80 l = some (firstE l) := by
 have h := loop_scan (step := step80_0) (st := fun k => (l, (l.length : Int), (k : Int))) (hit := fun k => (fun x => bif x != 0 then some (Sum.inl x : Int ⊕ Unit) else none) (l.getD k 0)) (n := l.length) (e := .inr ())
  (fun k hk => by
    simp only [step80_0, lt_cast, inB_cast, hk, decide_true, cond_true, Int.toNat_natCast, wr_succ (show k < 4611686018427387904 by omega)]
    cases h : l.getD k 0 != 0 <;> simp [h])
  (by simp only [step80_0, lt_cast, Nat.lt_irrefl, decide_false, cond_false]) l.length 0 (by omega)
 rw [scan_list0 (fun x => bif x != 0 then some (Sum.inl x : Int ⊕ Unit) else none) (.inr ()) l 0, scanL_first] at h
 unfold s80
 have h' : loopVal step80_0 (l, (l.length : Int), 0) = _ := h
 rw [h']
 cases hf : firstE l != 0
 ·simp [optE, sumE, cond_false]
  have : firstE l = 0 := by simpa using hf
  exact this.symm
 ·simp [optE, sumE]
theorem copy_eq (l : List Int) (h : l.length ≤ 1000000) : s22 l = some l := by
 unfold s22
 rw [room_true (by omega) (by omega)]
 rfl
theorem ints_self (s : List Int) (h : s.length ≤ 1000000) : s26 (s, s) = some true := by
 unfold s26
 have h1 := loop_for (step := step26_0) (st := fun k => (s, s, (k : Int))) (n := s.length) (e := .inr ()) (fun k hk => by
  simp only [step26_0, lt_cast, inB_cast, hk, decide_true, cond_true, Int.toNat_natCast, bne_self_eq_false, cond_false, wr_succ (show k < 4611686018427387904 by omega)]) (by simp only [step26_0, lt_cast, Nat.lt_irrefl, decide_false, cond_false]) 0 (by omega)
 rw [show ((0 : Nat) : Int) = 0 from rfl] at h1
 simp only [bne_self_eq_false, cond_false, h1, optE_some, sumE_r]
end Go.Proofs.YthckjfbhdjjnkaaDoor
