/- Soft and hard values, the best quarter, and quadrants. -/
import Derived.Test.YthckjfbhdjjnkaaDoorGd4
import Derived.Test.YthckjfbhdjjnkaaDoorSamples
set_option linter.unusedSimpArgs false
namespace Go.Proofs.YthckjfbhdjjnkaaDoor
open Go.Ev
def sv (x full : Int) : Int := mn (mx (wr (Int.tdiv (wr (7 * x)) full)) (-7)) 7
def okH (n : Int) : Bool := win n (-7) 7
def hE (l : List Int) : Int := if 600 < l.length then 8 else bif l.all okH then 0 else 2
def hardV (n : Int) : Int := bif decide (n > 0) then 0 else bif decide (n < 0) then 1 else -1
theorem s107_eq (n : Int) : s107 n = some (hardV n) := by
 unfold s107 hardV
 cases decide (n > 0) <;> cases decide (n < 0) <;> rfl
theorem s119_eq (n : Int) : s119 n = some (okH n) := by
 unfold s119 s105 okH
 have h : wr (-7) = -7 := wr_id (by omega) (by omega)
 simp only [s79_eq, optE_some, h]
theorem s85_eq (l : List Int) (hl : l.length ≤ 1000000) : s85 l = some (hE l) := by
 unfold s85
 have h1 := loop_scan (step := step145_0a) (st := fun k => (l, ((), ()), (l.length : Int), (k : Int))) (n := l.length) (hit := fun k => bif !(okH (l.getD k 0)) then some (Sum.inl (k : Int)) else none) (e := Sum.inr ())
  (fun k hk => by
    simp only [step145_0a, lt_cast, inB_cast, hk, decide_true, cond_true, Int.toNat_natCast, s119_eq, optE_some, wr_succ (show k < 4611686018427387904 by omega)]
    cases okH (l.getD k 0) <;> rfl) (by simp only [step145_0a, lt_cast, Nat.lt_irrefl, decide_false, cond_false]) l.length 0 (by omega)
 rw [show ((0 : Nat) : Int) = 0 from rfl] at h1
 simp only [h1, s82_eq, optE_some]
 have hq : hE l = firstE [unl (decide ((l.length : Int) ≤ 600)) 8, unl (l.all okH) 2] := by
  unfold hE
  by_cases h6 : 600 < l.length
  ·rw [if_pos h6, decide_eq_false (by omega)]; rfl
  ·rw [if_neg h6, decide_eq_true (by omega)]
   cases l.all okH <;> rfl
 rcases scanG 0 (e := fun k => Sum.inl (k : Int)) okH l l.length 0 (by omega) with ⟨h2, h3⟩ | ⟨⟨j, h2⟩, x, h3, h4⟩
 ·have ha : l.all okH = true := List.all_eq_true.2 (by simpa using h3)
  rw [h2]
  simp only [sumE_r, optE_some]
  rw [s80_eq _ (by simp), hq, ha]
  rfl
 ·have ha : l.all okH = false := by
   rw [Bool.eq_false_iff]; intro e
   have := List.all_eq_true.1 e x (by simpa using h3)
   rw [this] at h4; cases h4
  rw [h2]
  simp only [sumE, optE_some, decide_eq_true (show ((j : Nat) : Int) ≥ 0 by omega), Bool.not_true]
  rw [s80_eq _ (by simp), hq, ha]
  rfl
theorem s30_eq (l : List Int) (hl : l.length ≤ 1000000) : s30 l = some (hE l) := by
 unfold s30 hE
 by_cases h6 : 600 < l.length
 ·rw [if_pos h6, decide_eq_true (by omega)]; rfl
 rw [if_neg h6, decide_eq_false (by omega), cond_false]
 have h1 := loop_scan (step := step30_0) (st := fun k => (l, (k : Int))) (n := l.length) (hit := fun k => bif !(okH (l.getD k 0)) then some (Sum.inl 2) else none) (e := Sum.inr ())
  (fun k hk => by
    simp only [step30_0, lt_cast, inB_cast, hk, decide_true, cond_true, Int.toNat_natCast, s28_eq, optE_some, wr_succ (show k < 4611686018427387904 by omega)]
    unfold okH
    cases win (l.getD k 0) (-7) 7 <;> rfl) (by simp only [step30_0, lt_cast, Nat.lt_irrefl, decide_false, cond_false]) l.length 0 (by omega)
 rw [show ((0 : Nat) : Int) = 0 from rfl] at h1
 rw [h1]
 simp only [optE_some]
 rcases scanG 0 (e := fun _ => Sum.inl 2) okH l l.length 0 (by omega) with ⟨h2, h3⟩ | ⟨⟨j, h2⟩, x, h3, h4⟩
 ·have ha : l.all okH = true := List.all_eq_true.2 (by simpa using h3)
  rw [h2, ha]; rfl
 ·have ha : l.all okH = false := by
   rw [Bool.eq_false_iff]; intro e
   have := List.all_eq_true.1 e x (by simpa using h3)
   rw [this] at h4; cases h4
  rw [h2, ha]; rfl
theorem hE_ok {l : List Int} (h : hE l = 0) : l.length ≤ 600 ∧ ∀ x ∈ l, okH x = true := by
 unfold hE at h
 by_cases h6 : 600 < l.length
 ·rw [if_pos h6] at h; cases h
 ·rw [if_neg h6] at h
  refine ⟨by omega, ?_⟩
  cases ha : l.all okH with
  | false => rw [ha] at h; cases h
  | true => exact List.all_eq_true.1 ha
end Go.Proofs.YthckjfbhdjjnkaaDoor
