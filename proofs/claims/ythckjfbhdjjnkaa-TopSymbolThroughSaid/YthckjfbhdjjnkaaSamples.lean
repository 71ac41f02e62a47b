/- Samples: their errors, and sums. -/
import Derived.Test.YthckjfbhdjjnkaaBase4
set_option linter.unusedSimpArgs false
namespace Go.Proofs.Ythckjfbhdjjnkaa
open Go.Ev
abbrev Gs := List (Int × Int)
def okS (g : Int × Int) : Bool := win g.1 (-2000) 2000 && win g.2 (-2000) 2000
def sE (l : Gs) : Int := if 400 < l.length then 8 else bif l.all okS then 0 else 2
theorem s57_eq (g : Int × Int) : s57 g = some (okS g) := by
 unfold s57 s42 okS
 have h : wr (-2000) = -2000 := wr_id (by omega) (by omega)
 simp only [s40_eq, optE_some, h]
 cases win g.1 (-2000) 2000 <;> rfl
theorem scanG {α : Type} (d : α) {e : Nat → Int ⊕ Unit} (f : α → Bool) (l : List α) : ∀ (m k : Nat), k + m = l.length →
 (scan (fun k => bif !(f (l.getD k d)) then some (e k) else none) (Sum.inr () : Int ⊕ Unit) m k = .inr () ∧ ∀ x ∈ l.drop k, f x = true) ∨ (∃ j : Nat, scan (fun k => bif !(f (l.getD k d)) then some (e k) else none) (Sum.inr () : Int ⊕ Unit) m k = e j) ∧ ∃ x ∈ l.drop k, f x = false
 | 0, k, h => .inl ⟨rfl, fun x hx => by rw [List.drop_eq_nil_of_le (by omega)] at hx; cases hx⟩
 | m + 1, k, h => by
   have hd := getD_drop l d (show k < l.length by omega)
   cases hf : f (l.getD k d) with
   | true =>
     simp only [scan, hf, Bool.not_true, cond_false]
     rcases scanG d (e := e) f l m (k + 1) (by omega) with ⟨h1, h2⟩ | ⟨⟨j, h1⟩, x, h2, h3⟩
     ·refine .inl ⟨h1, fun x hx => ?_⟩
      rw [hd] at hx
      rcases List.mem_cons.1 hx with rfl | hx
      ·exact hf
      ·exact h2 x hx
     ·exact .inr ⟨⟨j, h1⟩, x, by rw [hd]; exact List.mem_cons_of_mem _ h2, h3⟩
   | false =>
     simp only [scan, hf, Bool.not_false, cond_true]
     exact .inr ⟨⟨k, rfl⟩, l.getD k d, by rw [hd]; exact List.mem_cons_self, hf⟩
theorem s33_eq (l : Gs) (hl : l.length ≤ 1000000) : s33 l = some (sE l) := by
 unfold s33
 have h1 := loop_scan (step := step83_0) (st := fun k => (l, ((), ()), (l.length : Int), (k : Int))) (n := l.length) (hit := fun k => bif !(okS (l.getD k (0, 0))) then some (Sum.inl (k : Int)) else none) (e := Sum.inr ())
  (fun k hk => by
    simp only [step83_0, lt_cast, inB_cast, hk, decide_true, cond_true, Int.toNat_natCast, s57_eq, optE_some, wr_succ (show k < 4611686018427387904 by omega)]
    cases okS (l.getD k (0, 0)) <;> rfl) (by simp only [step83_0, lt_cast, Nat.lt_irrefl, decide_false, cond_false]) l.length 0 (by omega)
 rw [show ((0 : Nat) : Int) = 0 from rfl] at h1
 simp only [h1, s39_eq, optE_some]
 have hq : sE l = firstE [unl (decide ((l.length : Int) ≤ 400)) 8, unl (l.all okS) 2] := by
  unfold sE
  by_cases h6 : 400 < l.length
  ·rw [if_pos h6, decide_eq_false (by omega)]; rfl
  ·rw [if_neg h6, decide_eq_true (by omega)]
   cases l.all okS <;> rfl
 rcases scanG (0, 0) (e := fun k => Sum.inl (k : Int)) okS l l.length 0 (by omega) with ⟨h2, h3⟩ | ⟨⟨j, h2⟩, x, h3, h4⟩
 ·have ha : l.all okS = true := List.all_eq_true.2 (by simpa using h3)
  rw [h2]
  simp only [sumE_r, optE_some]
  rw [s37_eq _ (by simp), hq, ha]
  rfl
 ·have ha : l.all okS = false := by
   rw [Bool.eq_false_iff]; intro e
   have := List.all_eq_true.1 e x (by simpa using h3)
   rw [this] at h4; cases h4
  rw [h2]
  simp only [sumE, optE_some, decide_eq_true (show ((j : Nat) : Int) ≥ 0 by omega), Bool.not_true]
  rw [s37_eq _ (by simp), hq, ha]
  rfl
theorem sE_ok {l : Gs} (h : sE l = 0) : l.length ≤ 400 ∧ ∀ x ∈ l, okS x = true := by
 unfold sE at h
 by_cases h6 : 400 < l.length
 ·rw [if_pos h6] at h; cases h
 ·rw [if_neg h6] at h
  refine ⟨by omega, ?_⟩
  cases ha : l.all okS with
  | false => rw [ha] at h; cases h
  | true => exact List.all_eq_true.1 ha
theorem okS_iff {g : Int × Int} (h : okS g = true) : (-2000 ≤ g.1 ∧ g.1 ≤ 2000) ∧ -2000 ≤ g.2 ∧ g.2 ≤ 2000 := by
 simp only [okS, Bool.and_eq_true, win_iff] at h
 exact h
theorem copyG_eq (l : Gs) (h : l.length ≤ 1000000) : s11 l = some l := by
 unfold s11
 rw [room_true (by omega) (by omega)]
 rfl
def addG (a b : Int × Int) : Int × Int := (a.1 + b.1, a.2 + b.2)
def gsum (l : Gs) : Int × Int := l.foldl addG (0, 0)
theorem foldG_le : ∀ (l : Gs) (b : Int × Int), (∀ x ∈ l, okS x = true) → (b.1 - 2000 * l.length ≤ (l.foldl addG b).1 ∧ (l.foldl addG b).1 ≤ b.1 + 2000 * l.length) ∧ b.2 - 2000 * l.length ≤ (l.foldl addG b).2 ∧ (l.foldl addG b).2 ≤ b.2 + 2000 * l.length
 | [], b, _ => by simp
 | x :: l, b, h => by
   have h1 := okS_iff (h x (by simp))
   have h2 := foldG_le l (addG b x) fun y hy => h y (by simp [hy])
   simp only [List.foldl_cons, List.length_cons, addG] at h2 ⊢
   omega
theorem gsum_le {l : Gs} {k : Nat} (h : ∀ x ∈ l, okS x = true) (hk : k ≤ 400) : (-800000 ≤ ((l.take k).foldl addG (0, 0)).1 ∧ ((l.take k).foldl addG (0, 0)).1 ≤ 800000) ∧ -800000 ≤ ((l.take k).foldl addG (0, 0)).2 ∧ ((l.take k).foldl addG (0, 0)).2 ≤ 800000 := by
 have h1 := foldG_le (l.take k) (0, 0) fun x hx => h x (List.mem_of_mem_take hx)
 have h2 : (l.take k).length ≤ k := List.length_take_le _ _
 simp only [] at h1
 omega
theorem small24_of {n : Int} (h1 : -16777216 < n) (h2 : n < 16777216) : small24 n = true := by
 unfold small24
 rw [decide_eq_true h1, decide_eq_true h2]; rfl
theorem getG_ok {l : Gs} {k : Nat} (h : ∀ x ∈ l, okS x = true) (hk : k < l.length) : okS (l.getD k (0, 0)) = true :=
 h _ (by rw [List.getD_eq_getElem?_getD, List.getElem?_eq_getElem hk]; exact List.getElem_mem hk)
theorem s59_eq {l : Gs} (h : ∀ x ∈ l, okS x = true) (hl : l.length ≤ 400) : s59 l = some (gsum l) := by
 unfold s59
 have h1 := loop_for (step := step59_0) (st := fun k => ((l.take k).foldl addG (0, 0), l, (l.length : Int), (k : Int), ((0 : Int), (0 : Int)))) (n := l.length) (e := (gsum l, (0, 0)))
  (fun k hk => by
    have a1 := okS_iff (getG_ok h hk)
    have a2 := gsum_le (l := l) (k := k) h (by omega)
    simp only [step59_0, lt_cast, inB_cast, hk, decide_true, cond_true, Int.toNat_natCast, wr_succ (show k < 4611686018427387904 by omega)]
    rw [small24_of (by omega) (by omega), small24_of (by omega) (by omega), small24_of (by omega) (by omega), small24_of (by omega) (by omega)]
    have := foldl_take_succ addG (0, 0) l (0, 0) hk
    rw [← this]
    rfl)
  (by simp only [step59_0, lt_cast, Nat.lt_irrefl, decide_false, cond_false, List.take_length]; rfl) 0 (by omega)
 rw [show ((0 : Nat) : Int) = 0 from rfl] at h1
 simp only [List.take_zero, List.foldl_nil] at h1
 simp only [h1, optE_some]
def enW (z : Int × Int) : Int := wr ((wr (z.1 * z.1)) + (wr (z.2 * z.2)))
theorem s58_eq (z : Int × Int) : s58 z = some (enW z) := rfl
end Go.Proofs.Ythckjfbhdjjnkaa
