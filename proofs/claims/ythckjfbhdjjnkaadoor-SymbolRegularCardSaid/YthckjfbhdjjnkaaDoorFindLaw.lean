/- All positions at which a marker is found. -/
import Derived.Test.YthckjfbhdjjnkaaDoorGd8
import Derived.Test.YthckjfbhdjjnkaaDoorMarkersLaw
set_option linter.unusedSimpArgs false
namespace Go.Proofs.YthckjfbhdjjnkaaDoor
open Go.Ev
abbrev Mark := Int × Int × Bool × Int × Int
def markAt (m l : List Int) (e : Int) (k : Nat) : Option Mark :=
 if (wrongN m l k m.length).1 ≤ e then some (0, (k : Int), false, (wrongN m l k m.length).1, 0) else if (wrongN m l k m.length).2 ≤ e then some (0, (k : Int), true, (wrongN m l k m.length).2, 0) else none
def findV (m l : List Int) (e : Int) (c : Nat) : List Mark := (List.range c).filterMap (markAt m l e)
theorem findV_succ (m l : List Int) (e : Int) (k : Nat) : findV m l e (k + 1) = findV m l e k ++ (match markAt m l e k with | some x => [x] | none => []) := by
 unfold findV
 rw [List.range_succ, List.filterMap_append]
 congr 1
 simp only [List.filterMap_cons, List.filterMap_nil]
 cases markAt m l e k <;> rfl
theorem findV_len (m l : List Int) (e : Int) (k : Nat) : (findV m l e k).length ≤ k := by
 have := List.length_filterMap_le (markAt m l e) (List.range k)
 rw [List.length_range] at this
 exact this
def places (m l : List Int) : Nat := l.length + 1 - m.length
theorem places_lt {m l : List Int} {k : Nat} (h : k < places m l) : k + m.length ≤ l.length := by unfold places at h; omega
theorem places_end {m l : List Int} : ¬ (places m l) + m.length ≤ l.length := by unfold places; omega
theorem finds_a {r : Rule} {l : List Int} (hm : 0 < r.1.length ∧ r.1.length ≤ 100) (hl : l.length ≤ 1000) :
 loopVal (strip Lp120_0 step121_0) (0, (), [], (r, l, [], 0, 0, 0, 0, false)) = some (findV r.1 l r.2.2.1 (places r.1 l)) := by
 have c1 : ∀ a b : Nat, decide (((a : Nat) : Int) ≤ (b : Int)) = decide (a ≤ b) := fun a b => by simp
 have key : ∀ d k, k + d = places r.1 l → loopVal (strip Lp120_0 step121_0) ((k : Int), (), findV r.1 l r.2.2.1 k, (r, l, [], 0, 0, 0, 0, false)) = some (findV r.1 l r.2.2.1 (places r.1 l)) := by
  intro d
  induction d with
  | zero =>
    intro k hk
    have hk : k = places r.1 l := by omega
    subst hk
    have hend := places_end (m := r.1) (l := l)
    have hp : places r.1 l ≤ 1001 := by unfold places; omega
    have e1 : wr (((places r.1 l : Nat) : Int) + (r.1.length : Int)) = ((places r.1 l + r.1.length : Nat) : Int) := by rw [wr_id (by omega) (by omega)]; omega
    refine loopVal_last (strip_some (i := Lp120_0) (r := .inr _) ?_)
    simp only [step121_0, e1, c1]
    rw [decide_eq_false hend, cond_false]
  | succ d ih =>
    intro k hk
    have hlt := places_lt (m := r.1) (l := l) (k := k) (by omega)
    have hfl := findV_len r.1 l r.2.2.1 k
    have e1 : wr (((k : Nat) : Int) + (r.1.length : Int)) = ((k + r.1.length : Nat) : Int) := by rw [wr_id (by omega) (by omega)]; omega
    refine (loopVal_next (strip_some (i := Lp120_0) (r := .inl (((k + 1 : Nat) : Int), (), findV r.1 l r.2.2.1 (k + 1), (r, l, [], 0, 0, 0, 0, false))) ?_)).trans (ih (k + 1) (by omega))
    simp only [step121_0, e1, c1, wrong_a hl hlt, optE_some, wr_succ (show k < 4611686018427387904 by omega)]
    rw [decide_eq_true hlt, cond_true, findV_succ]
    unfold markAt
    by_cases g1 : (wrongN r.1 l k r.1.length).1 ≤ r.2.2.1
    ·rw [decide_eq_false (show ¬ (wrongN r.1 l k r.1.length).1 > r.2.2.1 by omega), cond_false, decide_eq_true g1, cond_true, if_pos g1, room_true (by omega) (by omega)]
     rfl
    ·rw [decide_eq_true (show (wrongN r.1 l k r.1.length).1 > r.2.2.1 by omega), cond_true, if_neg g1]
     by_cases g2 : (wrongN r.1 l k r.1.length).2 ≤ r.2.2.1
     ·rw [decide_eq_true g2, cond_true, if_pos g2, room_true (by omega) (by omega)]
      rfl
     ·rw [decide_eq_false g2, cond_false, if_neg g2, List.append_nil]
 exact key (places r.1 l) 0 (by omega)
def bE (r : Rule) (l : List Int) : Int := firstE [rE r, hE l]
theorem rE_ok {r : Rule} (h : rE r = 0) : mE r.1 = 0 := firstE_zero.1 h (mE r.1) (by simp)
theorem find_eq (r : Rule) (l : List Int) (hr : r.1.length ≤ 100) (hl : l.length ≤ 1000) : s32 (r, l) = some (if bE r l = 0 then (findV r.1 l r.2.2.1 (places r.1 l), 0) else ([], bE r l)) := by
 unfold s32
 simp only [s18_eq r (by omega), s85_eq l (by omega), optE_some]
 rw [s80_eq _ (by simp), optE_some, show firstE [rE r, hE l] = bE r l from rfl]
 by_cases h : bE r l = 0
 ·have hm := mE_ok (rE_ok (firstE_zero.1 h (rE r) (by simp)))
  rw [if_pos h, h]
  simp only [bne_self_eq_false, cond_false, onlyAt_eq, finds_a ⟨hm.1, hr⟩ hl, optE_some]
 ·rw [if_neg h, bne_iff_ne.2 h]; rfl
end Go.Proofs.YthckjfbhdjjnkaaDoor
