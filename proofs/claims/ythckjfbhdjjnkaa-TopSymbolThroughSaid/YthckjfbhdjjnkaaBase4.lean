/- Chapter 4: small functions; quadrants. -/
import Derived.Test.YthckjfbhdjjnkaaGp8
import Derived.Test.YthckjfbhdjjnkaaSearch
set_option linter.unusedSimpArgs false
namespace Go.Proofs.Ythckjfbhdjjnkaa
open Go.Ev
theorem s40_eq (a b c : Int) : s40 (a, b, c) = some (win a b c) := by
 unfold s40 win; cases h : decide (b ≤ a) <;> simp [h]
theorem s7_eq (a b c : Int) : s7 (a, b, c) = some (win a b c) := by
 unfold s7 win; cases h : decide (b ≤ a) <;> simp [h]
theorem s39_eq (b : Bool) (e : Int) : s39 (b, e) = some (unl b e) := by unfold s39 unl; cases b <;> rfl
theorem s37_eq (l : List Int) (hl : l.length ≤ 1000) : s37 l = some (firstE l) := by
 have h := loop_scan (step := step37_0) (st := fun k => (l, (l.length : Int), (k : Int))) (hit := fun k => (fun x => bif x != 0 then some (Sum.inl x : Int ⊕ Unit) else none) (l.getD k 0)) (n := l.length) (e := .inr ())
  (fun k hk => by
    simp only [step37_0, lt_cast, inB_cast, hk, decide_true, cond_true, Int.toNat_natCast, wr_succ (show k < 4611686018427387904 by omega)]
    cases h : l.getD k 0 != 0 <;> simp [h])
  (by simp only [step37_0, lt_cast, Nat.lt_irrefl, decide_false, cond_false]) l.length 0 (by omega)
 rw [scan_list0 (fun x => bif x != 0 then some (Sum.inl x : Int ⊕ Unit) else none) (.inr ()) l 0, scanL_first] at h
 unfold s37
 have h' : loopVal step37_0 (l, (l.length : Int), 0) = _ := h
 rw [h']
 cases hf : firstE l != 0
 ·simp [optE, sumE, cond_false]
  have : firstE l = 0 := by simpa using hf
  exact this.symm
 ·simp [optE, sumE]
theorem copy_eq (l : List Int) (h : l.length ≤ 1000000) : s20 l = some l := by
 unfold s20
 rw [room_true (by omega) (by omega)]
 rfl
theorem ints_self (s : List Int) (h : s.length ≤ 1000000) : s22 (s, s) = some true := by
 unfold s22
 have h1 := loop_for (step := step22_0) (st := fun k => (s, s, (k : Int))) (n := s.length) (e := .inr ()) (fun k hk => by
  simp only [step22_0, lt_cast, inB_cast, hk, decide_true, cond_true, Int.toNat_natCast, bne_self_eq_false, cond_false, wr_succ (show k < 4611686018427387904 by omega)]) (by simp only [step22_0, lt_cast, Nat.lt_irrefl, decide_false, cond_false]) 0 (by omega)
 rw [show ((0 : Nat) : Int) = 0 from rfl] at h1
 simp only [bne_self_eq_false, cond_false, h1, optE_some, sumE_r]
theorem s8_eq {n m : Int} (h : 0 < m) (h2 : m < 4611686018427387904) : s8 (n, m) = some (n % m) := by
 unfold s8
 exact mod_law h h2
end Go.Proofs.Ythckjfbhdjjnkaa
