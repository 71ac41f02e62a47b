import Derived.Test.YthckjfbhdjjnkaaDoorBase4
set_option linter.unusedSimpArgs false
namespace Go.Proofs.YthckjfbhdjjnkaaDoor
open Go.Ev
def diffs (l : List Int) : List Int := (List.range (l.length - 1)).map fun k => (l.getD (k + 1) 0 - l.getD k 0) % 4
def sumsN (a : Int) (l : List Int) : Nat → List Int
 | 0 => [a]
 | k + 1 => sumsN a l k ++ [((sumsN a l k).getD k 0 + l.getD k 0) % 4]
theorem sumsN_len (a : Int) (l : List Int) : ∀ k, (sumsN a l k).length = k + 1
 | 0 => rfl
 | k + 1 => by simp [sumsN, sumsN_len a l k]
theorem sumsN_at (a : Int) (l : List Int) : ∀ (m k : Nat), k ≤ m → (sumsN a l m).getD k 0 = (sumsN a l k).getD k 0
 | 0, k, h => by obtain rfl : k = 0 := by omega
                 rfl
 | m + 1, k, h => by
   by_cases e : k = m + 1
   ·rw [e]
   ·rw [← sumsN_at a l m k (by omega)]
    simp only [sumsN, List.getD_eq_getElem?_getD]
    rw [List.getElem?_append_left (by rw [sumsN_len]; omega)]
theorem sumsN_next (a : Int) (l : List Int) (k : Nat) : (sumsN a l (k + 1)).getD (k + 1) 0 = ((sumsN a l k).getD k 0 + l.getD k 0) % 4 := by
 simp only [sumsN, List.getD_eq_getElem?_getD]
 rw [List.getElem?_append_right (by rw [sumsN_len]; omega), sumsN_len, Nat.sub_self]
 rfl
theorem sumsN_in {a : Int} (l : List Int) (ha : 0 ≤ a ∧ a ≤ 3) : ∀ k, 0 ≤ (sumsN a l k).getD k 0 ∧ (sumsN a l k).getD k 0 ≤ 3
 | 0 => ha
 | k + 1 => by rw [sumsN_next]; omega
theorem tmod4 {n : Int} (h : 0 ≤ n) : Int.tmod n 4 = n % 4 := by rw [Int.tmod_eq_emod_of_nonneg h]
theorem s36_eq (l : List Int) (hl : l.length ≤ 1000000) : s36 l = some (if qE l = 0 then (diffs l, 0) else ([], qE l)) := by
 unfold s36
 rw [s92_eq l hl]
 simp only [optE_some]
 by_cases hq : qE l = 0
 case neg => rw [bne_iff_ne.2 hq, if_neg hq]; rfl
 rw [hq, if_pos rfl]
 obtain ⟨h6, hr⟩ := qE_ok hq
 have h1 := loop_for (step := step36_0) (st := fun k => (l, (List.range (k - 1)).map (fun k => (l.getD (k + 1) 0 - l.getD k 0) % 4), l, (l.length : Int), (k : Int))) (n := l.length) (e := diffs l)
  (fun k hk => by
    simp only [step36_0, lt_cast, inB_cast, hk, decide_true, cond_true, Int.toNat_natCast, wr_succ (show k < 4611686018427387904 by omega)]
    cases k with
    | zero => rw [decide_eq_false (by omega)]; rfl
    | succ k =>
      have a1 := hr (k + 1) hk
      have a2 := hr k (by omega)
      have e1 : wr (((k + 1 : Nat) : Int) - 1) = (k : Int) := by rw [wr_id (by omega) (by omega)]; omega
      rw [decide_eq_true (by omega), e1, inB_cast, decide_eq_true (show k < l.length by omega), room_true (by simp; omega) (by simp; omega)]
      simp only [cond_true, Int.toNat_natCast, Nat.add_sub_cancel]
      rw [wr_id (n := l.getD (k + 1) 0 - l.getD k 0) (by omega) (by omega), wr_id (by omega) (by omega), tmod4 (by omega), show (l.getD (k + 1) 0 - l.getD k 0 + 4) % 4 = (l.getD (k + 1) 0 - l.getD k 0) % 4 by omega]
      have := range_map_succ (fun k => (l.getD (k + 1) 0 - l.getD k 0) % 4) k
      rw [this])
  (by simp only [step36_0, lt_cast, Nat.lt_irrefl, decide_false, cond_false]; rfl) 0 (by omega)
 rw [show ((0 : Nat) : Int) = 0 from rfl] at h1
 simp only [Nat.zero_sub, List.range_zero, List.map_nil] at h1
 simp only [bne_self_eq_false, cond_false, h1, optE_some]
theorem s39_eq {l : List Int} (hq : qE l = 0) : s39 l = some (diffs l) := by
 unfold s39
 obtain ⟨h6, hr⟩ := qE_ok hq
 by_cases h0 : l.length = 0
 ·have : step39_0 (l, [], 1) = some (.inr []) := by
   simp only [step39_0]
   rw [decide_eq_false (by omega), cond_false]
  rw [loopVal_last this]
  simp only [optE_some, diffs, h0]
  rfl
 have h1 := loop_for (step := step39_0) (st := fun k => (l, (List.range k).map (fun k => (l.getD (k + 1) 0 - l.getD k 0) % 4), ((k + 1 : Nat) : Int))) (n := l.length - 1) (e := diffs l)
  (fun k hk => by
    have a1 := hr (k + 1) (by omega)
    have a2 := hr k (by omega)
    have e1 : wr (((k + 1 : Nat) : Int) - 1) = (k : Int) := by rw [wr_id (by omega) (by omega)]; omega
    simp only [step39_0, lt_cast, inB_cast, e1, Int.toNat_natCast, wr_succ (show k + 1 < 4611686018427387904 by omega)]
    rw [decide_eq_true (show k + 1 < l.length by omega), decide_eq_true (show k < l.length by omega), wr_id (n := l.getD (k + 1) 0 - l.getD k 0) (by omega) (by omega), s74_eq (by omega) (by omega), room_true (by simp; omega) (by simp; omega)]
    simp only [cond_true, optE_some]
    have := range_map_succ (fun k => (l.getD (k + 1) 0 - l.getD k 0) % 4) k
    rw [this])
  (by
    simp only [step39_0, lt_cast]
    rw [show l.length - 1 + 1 = l.length by omega, decide_eq_false (Nat.lt_irrefl _), cond_false]
    rfl) 0 (by omega)
 rw [show ((0 + 1 : Nat) : Int) = 1 from rfl] at h1
 simp only [List.range_zero, List.map_nil] at h1
 rw [h1]
 rfl
theorem s37_eq (a : Int) (l : List Int) (hl : l.length ≤ 1000000) : s37 (a, l) = some (if firstE [unl (win a 0 3) 2, qE l] = 0 then (sumsN a l l.length, 0) else ([], firstE [unl (win a 0 3) 2, qE l])) := by
 unfold s37
 simp only [s93_eq, s82_eq, s92_eq l hl, s80_eq _ (show [unl (win a 0 3) 2, qE l].length ≤ 1000 by simp), optE_some]
 by_cases hf : firstE [unl (win a 0 3) 2, qE l] = 0
 case neg => rw [bne_iff_ne.2 hf, if_neg hf]; rfl
 rw [hf, if_pos rfl]
 have hz := firstE_zero.1 hf
 have ha := win_iff.1 (unl_zero (b := win a 0 3) (e := 2) (by decide) (hz (unl (win a 0 3) 2) (by simp)))
 obtain ⟨h6, hr⟩ := qE_ok (hz (qE l) (by simp))
 have h1 := loop_for (step := step37_0) (st := fun k => (sumsN a l k, l, (l.length : Int), (k : Int))) (n := l.length) (e := sumsN a l l.length)
  (fun k hk => by
    have a1 := hr k hk
    have a2 := sumsN_in l ha k
    have hlen := sumsN_len a l k
    simp only [step37_0, lt_cast, inB_cast, hk, decide_true, cond_true, Int.toNat_natCast, wr_succ (show k < 4611686018427387904 by omega), hlen]
    rw [decide_eq_true (show k < k + 1 by omega), room_true (by omega) (by omega), wr_id (by omega) (by omega), tmod4 (by omega)]
    rfl)
  (by simp only [step37_0, lt_cast, Nat.lt_irrefl, decide_false, cond_false]) 0 (by omega)
 rw [show ((0 : Nat) : Int) = 0 from rfl] at h1
 have h1 : loopVal step37_0 ([a], l, (l.length : Int), 0) = some (sumsN a l l.length) := h1
 simp only [bne_self_eq_false, cond_false, h1, optE_some]
theorem s40_eq {a : Int} {l : List Int} (ha : 0 ≤ a ∧ a ≤ 3) (hq : qE l = 0) : s40 (a, l) = some (sumsN a l l.length) := by
 unfold s40
 obtain ⟨h6, hr⟩ := qE_ok hq
 have h1 := loop_for (step := step40_0) (st := fun k => (l, sumsN a l k, (k : Int))) (n := l.length) (e := sumsN a l l.length)
  (fun k hk => by
    have a1 := hr k hk
    have a2 := sumsN_in l ha k
    have hlen := sumsN_len a l k
    simp only [step40_0, lt_cast, inB_cast, hk, decide_true, cond_true, Int.toNat_natCast, wr_succ (show k < 4611686018427387904 by omega), hlen]
    rw [decide_eq_true (show k < k + 1 by omega), room_true (by omega) (by omega), wr_id (by omega) (by omega), s74_eq (by omega) (by omega)]
    rfl)
  (by simp only [step40_0, lt_cast, Nat.lt_irrefl, decide_false, cond_false]) 0 (by omega)
 rw [show ((0 : Nat) : Int) = 0 from rfl] at h1
 have h1 : loopVal step40_0 (l, [a], 0) = some (sumsN a l l.length) := h1
 simp only [h1, optE_some]
theorem getD_range (f : Nat → Int) {n k : Nat} (h : k < n) : ((List.range n).map f).getD k 0 = f k := by
 rw [List.getD_eq_getElem?_getD, List.getElem?_map, List.getElem?_range h]
 rfl
theorem list_ext {a b : List Int} (h : a.length = b.length) (hk : ∀ k, k < a.length → a.getD k 0 = b.getD k 0) : a = b := by
 apply List.ext_getElem h
 intro k h1 h2
 have := hk k h1
 rw [List.getD_eq_getElem?_getD, List.getD_eq_getElem?_getD, List.getElem?_eq_getElem h1, List.getElem?_eq_getElem h2] at this
 exact this
theorem diffs_sums {a : Int} {l : List Int} (ha : 0 ≤ a ∧ a ≤ 3) (hq : qE l = 0) : diffs (sumsN a l l.length) = l := by
 obtain ⟨h6, hr⟩ := qE_ok hq
 refine list_ext (by simp [diffs, sumsN_len]) fun k hk => ?_
 have hk' : k < l.length := by simpa [diffs, sumsN_len] using hk
 unfold diffs
 rw [getD_range _ (by rw [sumsN_len]; omega), sumsN_at a l l.length (k + 1) (by omega), sumsN_at a l l.length k (by omega), sumsN_next]
 have a1 := hr k hk'
 have a2 := sumsN_in l ha k
 omega
theorem diffs_ok {l : List Int} (h : l.length ≤ 600) : qE (diffs l) = 0 :=
 qE_of (by simp [diffs]; omega) fun k hk => by
  have hk' : k < l.length - 1 := by simpa [diffs] using hk
  unfold diffs
  rw [getD_range _ hk']
  omega
theorem sums_ok {a : Int} {l : List Int} (ha : 0 ≤ a ∧ a ≤ 3) (h : l.length < 600) : qE (sumsN a l l.length) = 0 :=
 qE_of (by rw [sumsN_len]; omega) fun k hk => by
  rw [sumsN_len] at hk
  rw [sumsN_at a l l.length k (by omega)]
  exact sumsN_in l ha k
theorem sums_diffs {l : List Int} (hq : qE l = 0) (h0 : 0 < l.length) : sumsN (l.getD 0 0) (diffs l) (diffs l).length = l := by
 obtain ⟨h6, hr⟩ := qE_ok hq
 have hlen : (diffs l).length = l.length - 1 := by simp [diffs]
 have key : ∀ k, k < l.length → (sumsN (l.getD 0 0) (diffs l) k).getD k 0 = l.getD k 0 := by
  intro k
  induction k with
  | zero => intro _; rfl
  | succ k ih =>
    intro hk
    rw [sumsN_next, ih (by omega)]
    unfold diffs
    rw [getD_range _ (by omega)]
    have a1 := hr k (by omega)
    have a2 := hr (k + 1) hk
    omega
 refine list_ext (by rw [sumsN_len, hlen]; omega) fun k hk => ?_
 rw [sumsN_len] at hk
 rw [sumsN_at _ _ _ k (by omega)]
 exact key k (by omega)
theorem differences_true (l : List Int) (a : Int) : s6 (l, a) = some true := by
 unfold s6
 rcases few_le l with ⟨hf, hl⟩ | ⟨hf, hl, hl2⟩ | hf
 case inr.inr => simp only [hf, optE_some, Bool.not_true, cond_false, Bool.not_false, cond_true]
 case inr.inl =>
  have hq : qE l = 8 := by unfold qE; rw [if_pos hl]
  simp only [hf, optE_some, Bool.not_true, cond_false, copy_eq l (by omega), s36_eq l (by omega), s37_eq a l (by omega), s38_eq l (by omega), s28_eq, hq]
  cases win a 0 3 <;> rfl
 case inl =>
  simp only [hf, optE_some, Bool.not_true, cond_false, copy_eq l (by omega), s36_eq l (by omega), s37_eq a l (by omega), s38_eq l (by omega), s28_eq]
  by_cases hq : qE l = 0
  case neg =>
   have hq : qE l = 2 := by
    unfold qE at hq ⊢
    rw [if_neg (by omega)] at hq ⊢
    cases h : l.all fun x => win x 0 3 with
    | true => rw [h] at hq; exact absurd rfl hq
    | false => rfl
   simp only [hq]
   cases win a 0 3 <;> rfl
  case pos =>
   obtain ⟨h6, hr⟩ := qE_ok hq
   have hdl : (diffs l).length ≤ 600 := by simp [diffs]; omega
   have d1 := ints_self (diffs l) (by omega)
   simp only [hq, if_pos, s39_eq hq, d1, optE_some]
   cases hw : win a 0 3 with
   | false => rfl
   | true =>
     have ha := win_iff.1 hw
     have hsl := sumsN_len a l l.length
     have d2 := ints_self (sumsN a l l.length) (by omega)
     have d3 := ints_self l (by omega)
     have d4 := copy_eq (sumsN a l l.length) (by omega)
     have d5 := copy_eq (diffs l) (by omega)
     have d6 := s36_eq (sumsN a l l.length) (by omega)
     rw [sums_ok ha (by omega), diffs_sums ha hq, if_pos rfl] at d6
     have hu : firstE [unl true 2, 0] = 0 := rfl
     simp only [hu, if_pos, s40_eq ha hq, d2, d4, d6, d3, optE_some, Bool.not_true, cond_false, bne_self_eq_false, beq_self_eq_true, cond_true, decide_eq_false (show ¬ (l.length : Int) ≥ 600 by omega)]
     by_cases h0 : l.length = 0
     ·simp only [h0]; rfl
     ·have hw0 : win (l.getD 0 0) 0 3 = true := win_iff.2 (hr 0 (by omega))
      have d7 := s37_eq (l.getD 0 0) (diffs l) (by omega)
      rw [hw0, diffs_ok (by omega), hu, if_pos rfl, sums_diffs hq (by omega)] at d7
      have e0 : ((l.length : Int) == 0) = false := beq_eq_false_iff_ne.2 (by omega)
      have e1 : inBounds 0 l.length = true := by
       have := inB_cast (k := 0) (n := l.length)
       rw [decide_eq_true (by omega)] at this
       exact this
      simp only [e0, e1, cond_false, cond_true, d5, d7, d3, optE_some, beq_self_eq_true]
end Go.Proofs.YthckjfbhdjjnkaaDoor
