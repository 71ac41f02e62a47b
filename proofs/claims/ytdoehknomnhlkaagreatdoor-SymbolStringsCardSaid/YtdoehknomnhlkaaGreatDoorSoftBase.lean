import Derived.Test.YtdoehknomnhlkaaGreatDoorG40
import Derived.Test.YtdoehknomnhlkaaGreatDoorStrBase
set_option linter.unusedSimpArgs false
namespace Go.Proofs.YtdoehknomnhlkaaGreatDoor
open Go.Ev
theorem s193_eq (a b c : Int) : s193 (a, b, c) = some (win a b c) := by
 unfold s193 win; cases h : decide (b ≤ a) <;> simp [h]
theorem s51_eq (a b c : Int) : s51 (a, b, c) = some (win a b c) := by
 unfold s51 win; cases h : decide (b ≤ a) <;> simp [h]
theorem s192_eq (b : Bool) (e : Int) : s192 (b, e) = some (unl b e) := by unfold s192 unl; cases b <;> rfl
theorem s190_eq (l : List Int) (hl : l.length ≤ 1000) : s190 l = some (firstE l) := by
 have h := loop_scan (step := step190_0) (st := fun k => (l, (l.length : Int), (k : Int))) (hit := fun k => (fun x => bif x != 0 then some (Sum.inl x : Int ⊕ Unit) else none) (l.getD k 0)) (n := l.length) (e := .inr ())
  (fun k hk => by
    simp only [step190_0, lt_cast, inB_cast, hk, decide_true, cond_true, Int.toNat_natCast, wr_succ (show k < 4611686018427387904 by omega)]
    cases h : l.getD k 0 != 0 <;> simp [h])
  (by simp only [step190_0, lt_cast, Nat.lt_irrefl, decide_false, cond_false]) l.length 0 (by omega)
 rw [scan_list0 (fun x => bif x != 0 then some (Sum.inl x : Int ⊕ Unit) else none) (.inr ()) l 0, scanL_first] at h
 unfold s190
 have h' : loopVal step190_0 (l, (l.length : Int), 0) = _ := h
 rw [h']
 cases hf : firstE l != 0
 ·simp [optE, sumE, cond_false]
  have : firstE l = 0 := by simpa using hf
  exact this.symm
 ·simp [optE, sumE]
theorem copy_eq (l : List Int) (h : l.length ≤ 1000000) : s25 l = some l := by
 unfold s25
 rw [room_true (by omega) (by omega)]
 rfl
theorem ints_self (s : List Int) (h : s.length ≤ 1000000) : s33 (s, s) = some true := by
 unfold s33
 have h1 := loop_for (step := step33_0) (st := fun k => (s, s, (k : Int))) (n := s.length) (e := .inr ()) (fun k hk => by
  simp only [step33_0, lt_cast, inB_cast, hk, decide_true, cond_true, Int.toNat_natCast, bne_self_eq_false, cond_false, wr_succ (show k < 4611686018427387904 by omega)]) (by simp only [step33_0, lt_cast, Nat.lt_irrefl, decide_false, cond_false]) 0 (by omega)
 rw [show ((0 : Nat) : Int) = 0 from rfl] at h1
 simp only [bne_self_eq_false, cond_false, h1, optE_some, sumE_r]
theorem scanG {α : Type} (d : α) {e : Nat → Int ⊕ Unit} (f : α → Bool) (l : List α) : ∀ (m k : Nat), k + m = l.length →
 (scan (fun k => bif !(f (l.getD k d)) then some (e k) else none) (Sum.inr () : Int ⊕ Unit) m k = .inr () ∧ ∀ x ∈ l.drop k, f x = true) ∨ (∃ j : Nat, scan (fun k => bif !(f (l.getD k d)) then some (e k) else none) (Sum.inr () : Int ⊕ Unit) m k = e j) ∧ ∃ x ∈ l.drop k, f x = false
 | 0, k, h => .inl ⟨rfl, fun x hx => by rw [List.drop_eq_nil_of_le (by omega)] at hx; cases hx⟩
 | m + 1, k, h => by
   have hd := getD_drop l d (show k < l.length by omega)
   cases hf : f (l.getD k d) with
   | true =>
     simp only [scan, hf, Bool.not_true, cond_false]
     rcases scanG d (e := e) f l m (k + 1) (by omega) with ⟨h1, h2⟩ | ⟨⟨j, h1⟩, x, h2, h3⟩
     ·refine .inl ⟨h1, fun x hx => ?_⟩
      rw [hd] at hx
      rcases List.mem_cons.1 hx with rfl | hx
      ·exact hf
      ·exact h2 x hx
     ·exact .inr ⟨⟨j, h1⟩, x, by rw [hd]; exact List.mem_cons_of_mem _ h2, h3⟩
   | false =>
     simp only [scan, hf, Bool.not_false, cond_true]
     exact .inr ⟨⟨k, rfl⟩, l.getD k d, by rw [hd]; exact List.mem_cons_self, hf⟩
def okH (n : Int) : Bool := win n (-7) 7
def hE (l : List Int) : Int := if 600 < l.length then 8 else bif l.all okH then 0 else 2
theorem s197_eq (n : Int) : s197 n = some (okH n) := by
 unfold s197 s115 okH
 have h : wr (-7) = -7 := wr_id (by omega) (by omega)
 simp only [s193_eq, optE_some, h]
theorem s116_eq (l : List Int) (hl : l.length ≤ 1000000) : s116 l = some (hE l) := by
 unfold s116
 have h1 := loop_scan (step := step290_0) (st := fun k => (l, ((), ()), (l.length : Int), (k : Int))) (n := l.length) (hit := fun k => bif !(okH (l.getD k 0)) then some (Sum.inl (k : Int)) else none) (e := Sum.inr ())
  (fun k hk => by
    simp only [step290_0, lt_cast, inB_cast, hk, decide_true, cond_true, Int.toNat_natCast, s197_eq, optE_some, wr_succ (show k < 4611686018427387904 by omega)]
    cases okH (l.getD k 0) <;> rfl) (by simp only [step290_0, lt_cast, Nat.lt_irrefl, decide_false, cond_false]) l.length 0 (by omega)
 rw [show ((0 : Nat) : Int) = 0 from rfl] at h1
 simp only [h1, s192_eq, optE_some]
 have hq : hE l = firstE [unl (decide ((l.length : Int) ≤ 600)) 8, unl (l.all okH) 2] := by
  unfold hE
  by_cases h6 : 600 < l.length
  ·rw [if_pos h6, decide_eq_false (by omega)]; rfl
  ·rw [if_neg h6, decide_eq_true (by omega)]
   cases l.all okH <;> rfl
 rcases scanG 0 (e := fun k => Sum.inl (k : Int)) okH l l.length 0 (by omega) with ⟨h2, h3⟩ | ⟨⟨j, h2⟩, x, h3, h4⟩
 ·have ha : l.all okH = true := List.all_eq_true.2 (by simpa using h3)
  rw [h2]
  simp only [sumE_r, optE_some]
  rw [s190_eq _ (by simp), hq, ha]
  rfl
 ·have ha : l.all okH = false := by
   rw [Bool.eq_false_iff]; intro e
   have := List.all_eq_true.1 e x (by simpa using h3)
   rw [this] at h4; cases h4
  rw [h2]
  simp only [sumE, optE_some, decide_eq_true (show ((j : Nat) : Int) ≥ 0 by omega), Bool.not_true]
  rw [s190_eq _ (by simp), hq, ha]
  rfl
theorem s35_eq (l : List Int) (hl : l.length ≤ 1000000) : s35 l = some (hE l) := by
 unfold s35 hE
 by_cases h6 : 600 < l.length
 ·rw [if_pos h6, decide_eq_true (by omega)]; rfl
 rw [if_neg h6, decide_eq_false (by omega), cond_false]
 have h1 := loop_scan (step := step35_0) (st := fun k => (l, (k : Int))) (n := l.length) (hit := fun k => bif !(okH (l.getD k 0)) then some (Sum.inl 2) else none) (e := Sum.inr ())
  (fun k hk => by
    simp only [step35_0, lt_cast, inB_cast, hk, decide_true, cond_true, Int.toNat_natCast, s51_eq, optE_some, wr_succ (show k < 4611686018427387904 by omega)]
    unfold okH
    cases win (l.getD k 0) (-7) 7 <;> rfl) (by simp only [step35_0, lt_cast, Nat.lt_irrefl, decide_false, cond_false]) l.length 0 (by omega)
 rw [show ((0 : Nat) : Int) = 0 from rfl] at h1
 rw [h1]
 simp only [optE_some]
 rcases scanG 0 (e := fun _ => Sum.inl 2) okH l l.length 0 (by omega) with ⟨h2, h3⟩ | ⟨⟨j, h2⟩, x, h3, h4⟩
 ·have ha : l.all okH = true := List.all_eq_true.2 (by simpa using h3)
  rw [h2, ha]; rfl
 ·have ha : l.all okH = false := by
   rw [Bool.eq_false_iff]; intro e
   have := List.all_eq_true.1 e x (by simpa using h3)
   rw [this] at h4; cases h4
  rw [h2, ha]; rfl
theorem hE_ok {l : List Int} (h : hE l = 0) : l.length ≤ 600 ∧ ∀ x ∈ l, okH x = true := by
 unfold hE at h
 by_cases h6 : 600 < l.length
 ·rw [if_pos h6] at h; cases h
 ·rw [if_neg h6] at h
  refine ⟨by omega, ?_⟩
  cases ha : l.all okH with
  | false => rw [ha] at h; cases h
  | true => exact List.all_eq_true.1 ha
end Go.Proofs.YtdoehknomnhlkaaGreatDoor
