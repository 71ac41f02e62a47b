import Derived.Test.YthckjfbhdjjnkaaDoorGd8
import Derived.Test.YthckjfbhdjjnkaaDoorMarkersLaw
set_option linter.unusedSimpArgs false
namespace Go.Proofs.YthckjfbhdjjnkaaDoor
open Go.Ev
abbrev Mark := Int × Int × Bool × Int × Int
def markAt (m l : List Int) (e : Int) (k : Nat) : Option Mark :=
 if (wrongN m l k m.length).1 ≤ e then some (0, (k : Int), false, (wrongN m l k m.length).1, 0) else if (wrongN m l k m.length).2 ≤ e then some (0, (k : Int), true, (wrongN m l k m.length).2, 0) else none
def findV (m l : List Int) (e : Int) (c : Nat) : List Mark := (List.range c).filterMap (markAt m l e)
theorem findV_succ (m l : List Int) (e : Int) (k : Nat) : findV m l e (k + 1) = findV m l e k ++ (match markAt m l e k with | some x => [x] | none => []) := by
 unfold findV
 rw [List.range_succ, List.filterMap_append]
 congr 1
 simp only [List.filterMap_cons, List.filterMap_nil]
 cases markAt m l e k <;> rfl
theorem findV_len (m l : List Int) (e : Int) (k : Nat) : (findV m l e k).length ≤ k := by
 have := List.length_filterMap_le (markAt m l e) (List.range k)
 rw [List.length_range] at this
 exact this
def places (m l : List Int) : Nat := l.length + 1 - m.length
theorem places_lt {m l : List Int} {k : Nat} (h : k < places m l) : k + m.length ≤ l.length := by unfold places at h; omega
theorem places_end {m l : List Int} : ¬ (places m l) + m.length ≤ l.length := by unfold places; omega
theorem finds_a {r : Rule} {l : List Int} (hm : 0 < r.1.length ∧ r.1.length ≤ 100) (hl : l.length ≤ 1000) :
 loopVal (strip Lp120_0 step121_0) (0, (), [], (r, l, [], 0, 0, 0, 0, false)) = some (findV r.1 l r.2.2.1 (places r.1 l)) := by
 have c1 : ∀ a b : Nat, decide (((a : Nat) : Int) ≤ (b : Int)) = decide (a ≤ b) := fun a b => by simp
 have key : ∀ d k, k + d = places r.1 l → loopVal (strip Lp120_0 step121_0) ((k : Int), (), findV r.1 l r.2.2.1 k, (r, l, [], 0, 0, 0, 0, false)) = some (findV r.1 l r.2.2.1 (places r.1 l)) := by
  intro d
  induction d with
  | zero =>
    intro k hk
    have hk : k = places r.1 l := by omega
    subst hk
    have hend := places_end (m := r.1) (l := l)
    have hp : places r.1 l ≤ 1001 := by unfold places; omega
    have e1 : wr (((places r.1 l : Nat) : Int) + (r.1.length : Int)) = ((places r.1 l + r.1.length : Nat) : Int) := by rw [wr_id (by omega) (by omega)]; omega
    refine loopVal_last (strip_some (i := Lp120_0) (r := .inr _) ?_)
    simp only [step121_0, e1, c1]
    rw [decide_eq_false hend, cond_false]
  | succ d ih =>
    intro k hk
    have hlt := places_lt (m := r.1) (l := l) (k := k) (by omega)
    have hfl := findV_len r.1 l r.2.2.1 k
    have e1 : wr (((k : Nat) : Int) + (r.1.length : Int)) = ((k + r.1.length : Nat) : Int) := by rw [wr_id (by omega) (by omega)]; omega
    refine (loopVal_next (strip_some (i := Lp120_0) (r := .inl (((k + 1 : Nat) : Int), (), findV r.1 l r.2.2.1 (k + 1), (r, l, [], 0, 0, 0, 0, false))) ?_)).trans (ih (k + 1) (by omega))
    simp only [step121_0, e1, c1, wrong_a hl hlt, optE_some, wr_succ (show k < 4611686018427387904 by omega)]
    rw [decide_eq_true hlt, cond_true, findV_succ]
    unfold markAt
    by_cases g1 : (wrongN r.1 l k r.1.length).1 ≤ r.2.2.1
    ·rw [decide_eq_false (show ¬ (wrongN r.1 l k r.1.length).1 > r.2.2.1 by omega), cond_false, decide_eq_true g1, cond_true, if_pos g1, room_true (by omega) (by omega)]
     rfl
    ·rw [decide_eq_true (show (wrongN r.1 l k r.1.length).1 > r.2.2.1 by omega), cond_true, if_neg g1]
     by_cases g2 : (wrongN r.1 l k r.1.length).2 ≤ r.2.2.1
     ·rw [decide_eq_true g2, cond_true, if_pos g2, room_true (by omega) (by omega)]
      rfl
     ·rw [decide_eq_false g2, cond_false, if_neg g2, List.append_nil]
 exact key (places r.1 l) 0 (by omega)
theorem finds_b {r : Rule} {l : List Int} (hm : 0 < r.1.length ∧ r.1.length ≤ 100) (hl : l.length ≤ 1000) :
 loopVal step35_0 (l, [], 0, r) = some (findV r.1 l r.2.2.1 (places r.1 l)) := by
 have c1 : ∀ a b : Nat, decide (((a : Nat) : Int) ≤ (b : Int)) = decide (a ≤ b) := fun a b => by simp
 have h1 := loop_for (step := step35_0) (st := fun k => (l, findV r.1 l r.2.2.1 k, (k : Int), r)) (n := places r.1 l) (e := findV r.1 l r.2.2.1 (places r.1 l))
  (fun k hk => by
    have hlt := places_lt hk
    have hfl := findV_len r.1 l r.2.2.1 k
    have e1 : wr (((k : Nat) : Int) + (r.1.length : Int)) = ((k + r.1.length : Nat) : Int) := by rw [wr_id (by omega) (by omega)]; omega
    simp only [step35_0, s91, e1, c1, wrong_b hl hlt, optE_some, wr_succ (show k < 4611686018427387904 by omega)]
    rw [decide_eq_true hlt, cond_true, findV_succ]
    unfold markAt
    by_cases g1 : (wrongN r.1 l k r.1.length).1 ≤ r.2.2.1
    ·rw [decide_eq_true g1, cond_true, optE_some, cond_true, if_pos g1, room_true (by omega) (by omega)]
     rfl
    ·rw [decide_eq_false g1, cond_false, optE_some, if_neg g1]
     by_cases g2 : (wrongN r.1 l k r.1.length).2 ≤ r.2.2.1
     ·rw [decide_eq_true g2, cond_true, if_pos g2, room_true (by omega) (by omega)]
      rfl
     ·rw [decide_eq_false g2, cond_false, if_neg g2, List.append_nil])
  (by
    have hend := places_end (m := r.1) (l := l)
    have hp : places r.1 l ≤ 1001 := by unfold places; omega
    have e1 : wr (((places r.1 l : Nat) : Int) + (r.1.length : Int)) = ((places r.1 l + r.1.length : Nat) : Int) := by rw [wr_id (by omega) (by omega)]; omega
    simp only [step35_0, e1, c1]
    rw [decide_eq_false hend, cond_false]) 0 (by omega)
 exact h1
theorem marks_self (s : List Mark) (h : s.length ≤ 1000000) : s34 (s, s) = some true := by
 unfold s34
 have h1 := loop_for (step := step34_0) (st := fun k => (s, s, (k : Int))) (n := s.length) (e := .inr ()) (fun k hk => by
  simp only [step34_0, lt_cast, inB_cast, hk, decide_true, cond_true, Int.toNat_natCast, beq_self_eq_true, Bool.and_true, Bool.not_true, cond_false, wr_succ (show k < 4611686018427387904 by omega)]) (by simp only [step34_0, lt_cast, Nat.lt_irrefl, decide_false, cond_false]) 0 (by omega)
 rw [show ((0 : Nat) : Int) = 0 from rfl] at h1
 simp only [bne_self_eq_false, cond_false, h1, optE_some, sumE_r]
def bE (r : Rule) (l : List Int) : Int := firstE [rE r, hE l]
theorem rE_ok {r : Rule} (h : rE r = 0) : mE r.1 = 0 := firstE_zero.1 h (mE r.1) (by simp)
theorem s33_eq (r : Rule) (l : List Int) (hr : r.1.length ≤ 1000) (hl : l.length ≤ 1000000) : s33 (r, l) = some (bE r l) := by
 unfold s33 bE
 simp only [s20_eq r hr, s30_eq l hl, optE_some]
 by_cases h : rE r = 0
 ·rw [h]
  simp only [bne_self_eq_false, cond_false, firstE]
  cases g : hE l != 0 with
  | true => rfl
  | false => have : hE l = 0 := bne_eq_false_iff_eq.1 g; rw [this]; rfl
 ·rw [bne_iff_ne.2 h]
  unfold firstE
  rw [bne_iff_ne.2 h]
  rfl
theorem find_eq (r : Rule) (l : List Int) (hr : r.1.length ≤ 100) (hl : l.length ≤ 1000) : s32 (r, l) = some (if bE r l = 0 then (findV r.1 l r.2.2.1 (places r.1 l), 0) else ([], bE r l)) := by
 unfold s32
 simp only [s18_eq r (by omega), s85_eq l (by omega), optE_some]
 rw [s80_eq _ (by simp), optE_some, show firstE [rE r, hE l] = bE r l from rfl]
 by_cases h : bE r l = 0
 ·have hm := mE_ok (rE_ok (firstE_zero.1 h (rE r) (by simp)))
  rw [if_pos h, h]
  simp only [bne_self_eq_false, cond_false, onlyAt_eq, finds_a ⟨hm.1, hr⟩ hl, optE_some]
 ·rw [if_neg h, bne_iff_ne.2 h]; rfl
theorem finds_true (r : Rule) (soft : List Int) : s4 (r, soft) = some true := by
 unfold s4 s16
 simp only [Bool.not_true, cond_false, optE_some]
 by_cases hb : (r.1.length : Int) ≤ 34
 case neg => rw [decide_eq_false hb]; rfl
 have hs : s17 soft = some false ∨ (s17 soft = some true ∧ soft.length ≤ 1000) := by
  rcases few_le soft with ⟨h, h2⟩ | ⟨h, h2, h3⟩ | h
  ·exact .inr ⟨h, by omega⟩
  ·exact .inr ⟨h, by omega⟩
  ·exact .inl h
 rcases hs with hs | ⟨hs, hl⟩
 ·simp only [hs, decide_eq_true hb, optE_some, Bool.not_false, Bool.not_true, cond_false, cond_true]
 simp only [hs, decide_eq_true hb, optE_some, Bool.not_true, cond_false, copyR_eq r (by omega), copy_eq soft (by omega), find_eq r soft (by omega) hl, s33_eq r soft (by omega) (by omega)]
 by_cases h : bE r soft = 0
 ·have hm := mE_ok (rE_ok (firstE_zero.1 h (rE r) (by simp)))
  have hv := findV_len r.1 soft r.2.2.1 (places r.1 soft)
  have hp : places r.1 soft ≤ 1001 := by unfold places; omega
  have f1 : s35 (r, soft) = some (findV r.1 soft r.2.2.1 (places r.1 soft)) := by
   unfold s35
   simp only [finds_b ⟨hm.1, by omega⟩ hl, optE_some]
  simp only [h, if_pos, bne_self_eq_false, beq_self_eq_true, cond_false, cond_true, f1, marks_self (findV r.1 soft r.2.2.1 (places r.1 soft)) (by omega), optE_some]
 ·simp only [h, if_false, bne_iff_ne.2 h, beq_self_eq_true, cond_true]
  rfl
end Go.Proofs.YthckjfbhdjjnkaaDoor
