import Derived.Test.YthckjfbhdjjnkaaDoorGd2
import Derived.Test.YthckjfbhdjjnkaaDoorSearch
set_option linter.unusedSimpArgs false
namespace Go.Proofs.YthckjfbhdjjnkaaDoor
open Go.Ev
theorem s79_eq (a b c : Int) : s79 (a, b, c) = some (win a b c) := by
 unfold s79 win; cases h : decide (b ≤ a) <;> simp [h]
theorem s28_eq (a b c : Int) : s28 (a, b, c) = some (win a b c) := by
 unfold s28 win; cases h : decide (b ≤ a) <;> simp [h]
theorem s93_eq (a : Int) : s93 a = some (win a 0 3) := by
 unfold s93
 simp only [optE_some, s79_eq]
theorem s82_eq (b : Bool) (e : Int) : s82 (b, e) = some (unl b e) := by unfold s82 unl; cases b <;> rfl
theorem s80_eq (l : List Int) (hl : l.length ≤ 1000) : s80 l = some (firstE l) := by
 have h := loop_scan (step := step80_0) (st := fun k => (l, (l.length : Int), (k : Int))) (hit := fun k => (fun x => bif x != 0 then some (Sum.inl x : Int ⊕ Unit) else none) (l.getD k 0)) (n := l.length) (e := .inr ())
  (fun k hk => by
    simp only [step80_0, lt_cast, inB_cast, hk, decide_true, cond_true, Int.toNat_natCast, wr_succ (show k < 4611686018427387904 by omega)]
    cases h : l.getD k 0 != 0 <;> simp [h])
  (by simp only [step80_0, lt_cast, Nat.lt_irrefl, decide_false, cond_false]) l.length 0 (by omega)
 rw [scan_list0 (fun x => bif x != 0 then some (Sum.inl x : Int ⊕ Unit) else none) (.inr ()) l 0, scanL_first] at h
 unfold s80
 have h' : loopVal step80_0 (l, (l.length : Int), 0) = _ := h
 rw [h']
 cases hf : firstE l != 0
 ·simp [optE, sumE, cond_false]
  have : firstE l = 0 := by simpa using hf
  exact this.symm
 ·simp [optE, sumE]
theorem copy_eq (l : List Int) (h : l.length ≤ 1000000) : s22 l = some l := by
 unfold s22
 rw [room_true (by omega) (by omega)]
 rfl
theorem ints_self (s : List Int) (h : s.length ≤ 1000000) : s26 (s, s) = some true := by
 unfold s26
 have h1 := loop_for (step := step26_0) (st := fun k => (s, s, (k : Int))) (n := s.length) (e := .inr ()) (fun k hk => by
  simp only [step26_0, lt_cast, inB_cast, hk, decide_true, cond_true, Int.toNat_natCast, bne_self_eq_false, cond_false, wr_succ (show k < 4611686018427387904 by omega)]) (by simp only [step26_0, lt_cast, Nat.lt_irrefl, decide_false, cond_false]) 0 (by omega)
 rw [show ((0 : Nat) : Int) = 0 from rfl] at h1
 simp only [bne_self_eq_false, cond_false, h1, optE_some, sumE_r]
theorem s74_eq {n m : Int} (h : 0 < m) (h2 : m < 4611686018427387904) : s74 (n, m) = some (n % m) := by
 unfold s74
 exact mod_law h h2
theorem few_le (l : List Int) : (s17 l = some true ∧ l.length ≤ 120) ∨ (s17 l = some true ∧ 600 < l.length ∧ l.length ≤ 602) ∨ s17 l = some false := by
 unfold s17
 by_cases h1 : (l.length : Int) ≤ 120
 ·rw [decide_eq_true h1]; exact .inl ⟨rfl, by omega⟩
 ·rw [decide_eq_false h1, cond_false]
  by_cases h2 : (l.length : Int) > 600
  ·rw [decide_eq_true h2, cond_true]
   by_cases h3 : (l.length : Int) ≤ 602
   ·rw [decide_eq_true h3]; exact .inr (.inl ⟨rfl, by omega, by omega⟩)
   ·rw [decide_eq_false h3]; exact .inr (.inr rfl)
  ·rw [decide_eq_false h2]; exact .inr (.inr rfl)
def qE (l : List Int) : Int := if 600 < l.length then 8 else bif l.all fun x => win x 0 3 then 0 else 2
theorem scanQ {e : Int → Int ⊕ Unit} (f : Int → Bool) (l : List Int) : ∀ (m k : Nat), k + m = l.length →
 (scan (fun k => bif !(f (l.getD k 0)) then some (e k) else none) (Sum.inr () : Int ⊕ Unit) m k = .inr () ∧ ∀ x ∈ l.drop k, f x = true) ∨ (∃ j : Nat, scan (fun k => bif !(f (l.getD k 0)) then some (e k) else none) (Sum.inr () : Int ⊕ Unit) m k = e j) ∧ ∃ x ∈ l.drop k, f x = false
 | 0, k, h => .inl ⟨rfl, fun x hx => by rw [List.drop_eq_nil_of_le (by omega)] at hx; cases hx⟩
 | m + 1, k, h => by
   have hd := getD_drop l 0 (show k < l.length by omega)
   cases hf : f (l.getD k 0) with
   | true =>
     simp only [scan, hf, Bool.not_true, cond_false]
     rcases scanQ (e := e) f l m (k + 1) (by omega) with ⟨h1, h2⟩ | ⟨⟨j, h1⟩, x, h2, h3⟩
     ·refine .inl ⟨h1, fun x hx => ?_⟩
      rw [hd] at hx
      rcases List.mem_cons.1 hx with rfl | hx
      ·exact hf
      ·exact h2 x hx
     ·exact .inr ⟨⟨j, h1⟩, x, by rw [hd]; exact List.mem_cons_of_mem _ h2, h3⟩
   | false =>
     simp only [scan, hf, Bool.not_false, cond_true]
     exact .inr ⟨⟨k, rfl⟩, l.getD k 0, by rw [hd]; exact List.mem_cons_self, hf⟩
theorem s92_eq (l : List Int) (hl : l.length ≤ 1000000) : s92 l = some (qE l) := by
 unfold s92
 have h1 := loop_scan (step := step145_0) (st := fun k => (l, ((), ()), (l.length : Int), (k : Int))) (n := l.length) (hit := fun k => bif !(win (l.getD k 0) 0 3) then some (Sum.inl (k : Int)) else none) (e := Sum.inr ())
  (fun k hk => by
    simp only [step145_0, lt_cast, inB_cast, hk, decide_true, cond_true, Int.toNat_natCast, s93_eq, optE_some, wr_succ (show k < 4611686018427387904 by omega)]
    cases win (l.getD k 0) 0 3 <;> rfl) (by simp only [step145_0, lt_cast, Nat.lt_irrefl, decide_false, cond_false]) l.length 0 (by omega)
 rw [show ((0 : Nat) : Int) = 0 from rfl] at h1
 simp only [h1, s82_eq, optE_some]
 have hq : qE l = firstE [unl (decide ((l.length : Int) ≤ 600)) 8, unl (l.all fun x => win x 0 3) 2] := by
  unfold qE
  by_cases h6 : 600 < l.length
  ·rw [if_pos h6, decide_eq_false (by omega)]; rfl
  ·rw [if_neg h6, decide_eq_true (by omega)]
   cases l.all fun x => win x 0 3 <;> rfl
 rcases scanQ (e := fun k => Sum.inl k) (fun x => win x 0 3) l l.length 0 (by omega) with ⟨h2, h3⟩ | ⟨⟨j, h2⟩, x, h3, h4⟩
 ·have ha : (l.all fun x => win x 0 3) = true := List.all_eq_true.2 (by simpa using h3)
  have h2' : scan (fun k => bif !(win (l.getD k 0) 0 3) then some (Sum.inl (k : Int)) else none) (Sum.inr () : Int ⊕ Unit) l.length 0 = .inr () := h2
  rw [h2']
  simp only [sumE_r, optE_some]
  rw [s80_eq _ (by simp), hq, ha]
  rfl
 ·have ha : (l.all fun x => win x 0 3) = false := by
   rw [Bool.eq_false_iff]; intro e
   have := List.all_eq_true.1 e x (by simpa using h3)
   rw [this] at h4; cases h4
  have h2' : scan (fun k => bif !(win (l.getD k 0) 0 3) then some (Sum.inl (k : Int)) else none) (Sum.inr () : Int ⊕ Unit) l.length 0 = .inl (j : Int) := h2
  rw [h2']
  simp only [sumE, optE_some, decide_eq_true (show ((j : Nat) : Int) ≥ 0 by omega), Bool.not_true]
  rw [s80_eq _ (by simp), hq, ha]
  rfl
theorem s38_eq (l : List Int) (hl : l.length ≤ 1000000) : s38 l = some (qE l) := by
 unfold s38 qE
 by_cases h6 : 600 < l.length
 ·rw [if_pos h6, decide_eq_true (by omega)]; rfl
 rw [if_neg h6, decide_eq_false (by omega), cond_false]
 have h1 := loop_scan (step := step38_0) (st := fun k => (l, (k : Int))) (n := l.length) (hit := fun k => bif !(win (l.getD k 0) 0 3) then some (Sum.inl 2) else none) (e := Sum.inr ())
  (fun k hk => by
    simp only [step38_0, lt_cast, inB_cast, hk, decide_true, cond_true, Int.toNat_natCast, s28_eq, optE_some, wr_succ (show k < 4611686018427387904 by omega)]
    cases win (l.getD k 0) 0 3 <;> rfl) (by simp only [step38_0, lt_cast, Nat.lt_irrefl, decide_false, cond_false]) l.length 0 (by omega)
 rw [show ((0 : Nat) : Int) = 0 from rfl] at h1
 rw [h1]
 simp only [optE_some]
 rcases scanQ (e := fun _ => Sum.inl 2) (fun x => win x 0 3) l l.length 0 (by omega) with ⟨h2, h3⟩ | ⟨⟨j, h2⟩, x, h3, h4⟩
 ·have ha : (l.all fun x => win x 0 3) = true := List.all_eq_true.2 (by simpa using h3)
  rw [h2, ha]; rfl
 ·have ha : (l.all fun x => win x 0 3) = false := by
   rw [Bool.eq_false_iff]; intro e
   have := List.all_eq_true.1 e x (by simpa using h3)
   rw [this] at h4; cases h4
  rw [h2, ha]; rfl
theorem qE_ok {l : List Int} (h : qE l = 0) : l.length ≤ 600 ∧ ∀ k, k < l.length → 0 ≤ l.getD k 0 ∧ l.getD k 0 ≤ 3 := by
 unfold qE at h
 by_cases h6 : 600 < l.length
 ·rw [if_pos h6] at h; cases h
 ·rw [if_neg h6] at h
  refine ⟨by omega, fun k hk => ?_⟩
  cases ha : l.all fun x => win x 0 3 with
  | false => rw [ha] at h; cases h
  | true =>
    have := List.all_eq_true.1 ha (l.getD k 0) (by rw [List.getD_eq_getElem?_getD, List.getElem?_eq_getElem hk]; exact List.getElem_mem hk)
    exact win_iff.1 this
theorem qE_of {l : List Int} (h6 : l.length ≤ 600) (h : ∀ k, k < l.length → 0 ≤ l.getD k 0 ∧ l.getD k 0 ≤ 3) : qE l = 0 := by
 unfold qE
 rw [if_neg (by omega)]
 have : (l.all fun x => win x 0 3) = true := List.all_eq_true.2 fun x hx => by
  obtain ⟨k, hk, rfl⟩ := List.mem_iff_getElem.1 hx
  have := h k hk
  rw [List.getD_eq_getElem?_getD, List.getElem?_eq_getElem hk] at this
  exact win_iff.2 this
 rw [this]; rfl
end Go.Proofs.YthckjfbhdjjnkaaDoor
