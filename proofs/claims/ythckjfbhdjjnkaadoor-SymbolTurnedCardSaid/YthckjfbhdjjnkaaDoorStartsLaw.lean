import Derived.Test.YthckjfbhdjjnkaaDoorSamples
set_option linter.unusedSimpArgs false
namespace Go.Proofs.YthckjfbhdjjnkaaDoor
open Go.Ev
def tmE (t : Int × Int) : Int := bif win t.1 2 16 && win t.2 0 1000000000000000 then (bif Int.tmod t.1 2 == 0 then 0 else 3) else 2
theorem s44_eq (t : Int × Int) : s44 t = some (tmE t) := by
 unfold s44 tmE
 simp only [s28_eq, optE_some]
 cases win t.1 2 16 <;> cases win t.2 0 1000000000000000 <;> cases h : (Int.tmod t.1 2 == 0) <;> simp [bne, h]
theorem first3 (t : Int × Int) (l : Gs) : firstE [unl (win t.1 2 16 && win t.2 0 1000000000000000) 2, unl (Int.tmod t.1 2 == 0) 3, sE l] = bif tmE t == 0 then sE l else tmE t := by
 unfold tmE
 cases win t.1 2 16 && win t.2 0 1000000000000000 <;> cases Int.tmod t.1 2 == 0 <;> simp [firstE, unl]
 by_cases h : sE l = 0
 ·rw [h]; rfl
 ·rw [bne_iff_ne.2 h]; rfl
theorem tm_ok {t : Int × Int} (h : tmE t = 0) : ∃ h0 : Nat, 1 ≤ h0 ∧ h0 ≤ 8 ∧ t.1 = 2 * h0 ∧ Int.tdiv t.1 2 = h0 := by
 unfold tmE at h
 cases h1 : win t.1 2 16 && win t.2 0 1000000000000000 with
 | false => rw [h1] at h; cases h
 | true =>
   rw [h1, cond_true] at h
   simp only [Bool.and_eq_true, win_iff] at h1
   cases h2 : (Int.tmod t.1 2 == 0) with
   | false => rw [h2] at h; cases h
   | true =>
     have h2 : Int.tmod t.1 2 = 0 := by simpa using h2
     rw [Int.tmod_eq_emod_of_nonneg (by omega)] at h2
     refine ⟨(t.1 / 2).toNat, by omega, by omega, by omega, ?_⟩
     rw [Int.tdiv_eq_ediv_of_nonneg (by omega)]
     omega
section
variable (t : Int × Int) (l : Gs) (h0 : Nat)
def enA (p : Nat) : Int := enW (gsum ((l.drop p).take h0))
def nxt (p : Nat) : Nat := if enA l h0 (p + h0) > wr (enA l h0 p + t.2) then p + 2 * h0 + 1 else if enA l h0 p > wr (enA l h0 (p + h0) + t.2) then p + 2 * h0 - 1 else p + 2 * h0
end
section
variable {t : Int × Int} {l : Gs} {h0 : Nat}
theorem nxt_in (h1 : 1 ≤ h0) (p : Nat) : p + 2 * h0 ≤ nxt t l h0 p + 1 ∧ nxt t l h0 p ≤ p + 2 * h0 + 1 := by
 unfold nxt
 split
 ·omega
 ·split <;> omega
theorem step_a (h1 : 1 ≤ h0) (h2 : h0 ≤ 8) (ht : t.1 = 2 * h0) (hok : ∀ x ∈ l, okS x = true) (hl : l.length ≤ 400) {p : Nat} (hp : p + 2 * h0 ≤ l.length) {out : List Int} (ho : out.length ≤ 1000) :
 step42_0 (l, out, (h0 : Int), (p : Int), t) = some (.inl (l, out ++ [(p : Int)], (h0 : Int), (nxt t l h0 p : Int), t)) := by
 have e1 : wr ((p : Int) + t.1) = ((p + 2 * h0 : Nat) : Int) := by rw [wr_id (by omega) (by omega)]; omega
 have e2 : wr ((p : Int) + (h0 : Int)) = ((p + h0 : Nat) : Int) := by rw [wr_id (by omega) (by omega)]; omega
 have c1 : ∀ a b : Nat, decide (((a : Nat) : Int) ≤ (b : Int)) = decide (a ≤ b) := fun a b => by simp
 have d1 : ((l.take (p + h0)).drop p) = (l.drop p).take h0 := by rw [List.drop_take, Nat.add_sub_cancel_left]
 have d2 : ((l.take (p + 2 * h0)).drop (p + h0)) = (l.drop (p + h0)).take h0 := by rw [List.drop_take, show p + 2 * h0 - (p + h0) = h0 by omega]
 have s1 := s96_eq (l := (l.drop p).take h0) (fun x hx => hok x (List.mem_of_mem_drop (List.mem_of_mem_take hx))) (by rw [List.length_take, List.length_drop]; omega)
 have s2 := s96_eq (l := (l.drop (p + h0)).take h0) (fun x hx => hok x (List.mem_of_mem_drop (List.mem_of_mem_take hx))) (by rw [List.length_take, List.length_drop]; omega)
 simp only [step42_0, e1, e2, c1, Int.toNat_natCast, d1, d2, s1, s2, s95_eq, optE_some]
 rw [decide_eq_true hp, decide_eq_true (show p ≤ p + h0 by omega), decide_eq_true (show p + h0 ≤ l.length by omega), decide_eq_true (show p + h0 ≤ p + 2 * h0 by omega), decide_eq_true (show (0 : Int) ≤ (p : Int) by omega), decide_eq_true (show (0 : Int) ≤ ((p + h0 : Nat) : Int) by omega), room_true (by omega) (by omega)]
 simp only [cond_true, Bool.and_true]
 unfold nxt enA
 by_cases g1 : enW (gsum ((l.drop (p + h0)).take h0)) > wr (enW (gsum ((l.drop p).take h0)) + t.2)
 ·rw [decide_eq_true g1, if_pos g1, cond_true, wr_id (by omega) (by omega)]
  rfl
 ·rw [decide_eq_false g1, if_neg g1, cond_false]
  by_cases g2 : enW (gsum ((l.drop p).take h0)) > wr (enW (gsum ((l.drop (p + h0)).take h0)) + t.2)
  ·rw [decide_eq_true g2, if_pos g2, cond_true, wr_id (by omega) (by omega), show ((p + 2 * h0 - 1 : Nat) : Int) = ((p + 2 * h0 : Nat) : Int) - 1 by omega]
  ·rw [decide_eq_false g2, if_neg g2, cond_false]
theorem step_b (h1 : 1 ≤ h0) (h2 : h0 ≤ 8) (ht : t.1 = 2 * h0) (hd : Int.tdiv t.1 2 = h0) (hok : ∀ x ∈ l, okS x = true) (hl : l.length ≤ 400) {p : Nat} (hp : p + 2 * h0 ≤ l.length) {out : List Int} (ho : out.length ≤ 1000) :
 step46_0 (l, out, (p : Int), t) = some (.inl (l, out ++ [(p : Int)], (nxt t l h0 p : Int), t)) := by
 have e0 : wr (Int.tdiv t.1 2) = (h0 : Int) := by rw [hd, wr_id (by omega) (by omega)]
 have e1 : wr ((p : Int) + t.1) = ((p + 2 * h0 : Nat) : Int) := by rw [wr_id (by omega) (by omega)]; omega
 have e2 : wr ((p : Int) + (h0 : Int)) = ((p + h0 : Nat) : Int) := by rw [wr_id (by omega) (by omega)]; omega
 have c1 : ∀ a b : Nat, decide (((a : Nat) : Int) ≤ (b : Int)) = decide (a ≤ b) := fun a b => by simp
 have s1 := s99_eq hok hl (a := p) (n := h0) (by omega)
 have s2 := s99_eq hok hl (a := p + h0) (n := h0) (by omega)
 simp only [step46_0, e0, e1, e2, c1, s1, s2, s98_eq, optE_some]
 rw [decide_eq_true hp, room_true (by omega) (by omega)]
 simp only [cond_true]
 unfold nxt enA
 by_cases g1 : enW (gsum ((l.drop (p + h0)).take h0)) > wr (enW (gsum ((l.drop p).take h0)) + t.2)
 ·rw [decide_eq_true g1, if_pos g1, cond_true, wr_id (by omega) (by omega)]
  rfl
 ·rw [decide_eq_false g1, if_neg g1, cond_false]
  by_cases g2 : enW (gsum ((l.drop p).take h0)) > wr (enW (gsum ((l.drop (p + h0)).take h0)) + t.2)
  ·rw [decide_eq_true g2, if_pos g2, cond_true, wr_id (by omega) (by omega), show ((p + 2 * h0 - 1 : Nat) : Int) = ((p + 2 * h0 : Nat) : Int) - 1 by omega]
  ·rw [decide_eq_false g2, if_neg g2, cond_false]
theorem end_a (h2 : h0 ≤ 8) (ht : t.1 = 2 * h0) {p : Nat} (hp : ¬ p + 2 * h0 ≤ l.length) (hpb : p ≤ 1000) {out : List Int} : step42_0 (l, out, (h0 : Int), (p : Int), t) = some (.inr out) := by
 have e1 : wr ((p : Int) + t.1) = ((p + 2 * h0 : Nat) : Int) := by rw [wr_id (by omega) (by omega)]; omega
 simp only [step42_0, e1]
 rw [decide_eq_false (by omega), cond_false]
theorem end_b (h2 : h0 ≤ 8) (ht : t.1 = 2 * h0) {p : Nat} (hp : ¬ p + 2 * h0 ≤ l.length) (hpb : p ≤ 1000) {out : List Int} : step46_0 (l, out, (p : Int), t) = some (.inr out) := by
 have e1 : wr ((p : Int) + t.1) = ((p + 2 * h0 : Nat) : Int) := by rw [wr_id (by omega) (by omega)]; omega
 simp only [step46_0, e1]
 rw [decide_eq_false (by omega), cond_false]
end
def Chain (h0 : Nat) (out : List Int) : Prop := (∀ i, i < out.length → 0 ≤ out.getD i 0 ∧ out.getD i 0 ≤ 1000) ∧ ∀ i, i + 1 < out.length → 2 * (h0 : Int) - 1 ≤ out.getD (i + 1) 0 - out.getD i 0 ∧ out.getD (i + 1) 0 - out.getD i 0 ≤ 2 * (h0 : Int) + 1
theorem getD_app1 {a b : List Int} {i : Nat} (h : i < a.length) : (a ++ b).getD i 0 = a.getD i 0 := by
 rw [List.getD_eq_getElem?_getD, List.getD_eq_getElem?_getD, List.getElem?_append_left h]
theorem getD_app2 {a : List Int} {x : Int} : (a ++ [x]).getD a.length 0 = x := by
 rw [List.getD_eq_getElem?_getD, List.getElem?_append_right (Nat.le_refl _), Nat.sub_self]
 rfl
theorem chain_less {h0 : Nat} {out : List Int} {x : Int} (h : Chain h0 (out ++ [x])) : Chain h0 out := by
 obtain ⟨h1, h2⟩ := h
 refine ⟨fun i hi => ?_, fun i hi => ?_⟩
 ·have := h1 i (by simp; omega)
  rwa [getD_app1 hi] at this
 ·have := h2 i (by simp; omega)
  rwa [getD_app1 (by omega), getD_app1 (by omega)] at this
theorem chain_more {h0 : Nat} {out : List Int} {x y : Int} (h : Chain h0 (out ++ [x])) (hy : 0 ≤ y ∧ y ≤ 1000) (hxy : 2 * (h0 : Int) - 1 ≤ y - x ∧ y - x ≤ 2 * (h0 : Int) + 1) : Chain h0 (out ++ [x] ++ [y]) := by
 obtain ⟨h1, h2⟩ := h
 have e : (out ++ [x]).length = out.length + 1 := by simp
 refine ⟨fun i hi => ?_, fun i hi => ?_⟩
 ·have hi : i < out.length + 2 := by simpa using hi
  by_cases g : i < out.length + 1
  ·rw [getD_app1 (by rw [e]; exact g)]
   exact h1 i (by rw [e]; exact g)
  ·obtain rfl : i = (out ++ [x]).length := by omega
   rw [getD_app2]; exact hy
 ·have hi : i + 1 < out.length + 2 := by simpa using hi
  by_cases g : i + 1 < out.length + 1
  ·rw [getD_app1 (a := out ++ [x]) (b := [y]) (by rw [e]; exact g), getD_app1 (a := out ++ [x]) (b := [y]) (by rw [e]; omega)]
   exact h2 i (by rw [e]; exact g)
  ·obtain rfl : i = out.length := by omega
   have : (out ++ [x] ++ [y]).getD (out.length + 1) 0 = y := by rw [← e]; exact getD_app2
   rw [this, getD_app1 (a := out ++ [x]) (b := [y]) (by rw [e]; omega), getD_app2]
   exact hxy
theorem starts_both {t : Int × Int} {l : Gs} {h0 : Nat} (h1 : 1 ≤ h0) (h2 : h0 ≤ 8) (ht : t.1 = 2 * h0) (hd : Int.tdiv t.1 2 = h0) (hok : ∀ x ∈ l, okS x = true) (hl : l.length ≤ 400) : ∀ (m p : Nat) (out : List Int), l.length + 1 ≤ p + m → p ≤ 402 → out.length ≤ p → Chain h0 (out ++ [(p : Int)]) →
 ∃ res, loopVal step42_0 (l, out, (h0 : Int), (p : Int), t) = some res ∧ loopVal step46_0 (l, out, (p : Int), t) = some res ∧ Chain h0 res ∧ res.length ≤ 1000 := by
 intro m
 induction m with
 | zero =>
   intro p out hm hp ho hc
   exact ⟨out, loopVal_last (end_a h2 ht (by omega) (by omega)), loopVal_last (end_b h2 ht (by omega) (by omega)), chain_less hc, by omega⟩
 | succ m ih =>
   intro p out hm hp ho hc
   by_cases g : p + 2 * h0 ≤ l.length
   ·have hn := nxt_in (t := t) (l := l) h1 p
    obtain ⟨res, r1, r2, r3, r4⟩ := ih (nxt t l h0 p) (out ++ [(p : Int)]) (by omega) (by omega) (by simp; omega) (chain_more hc (by omega) (by omega))
    exact ⟨res, by rw [loopVal_next (step_a h1 h2 ht hok hl g (by omega))]; exact r1, by rw [loopVal_next (step_b h1 h2 ht hd hok hl g (by omega))]; exact r2, r3, r4⟩
   ·exact ⟨out, loopVal_last (end_a h2 ht g (by omega)), loopVal_last (end_b h2 ht g (by omega)), chain_less hc, by omega⟩
theorem check_chain {t : Int × Int} {h0 : Nat} (ht : t.1 = 2 * h0) {res : List Int} (hc : Chain h0 res) (hr : res.length ≤ 1000) : loopVal step7_0 (res, 1, t) = some (.inr ()) := by
 by_cases g : res.length = 0
 ·refine loopVal_last ?_
  simp only [step7_0, g]
  rfl
 have h1 := loop_for (step := step7_0) (st := fun k => (res, ((k + 1 : Nat) : Int), t)) (n := res.length - 1) (e := Sum.inr ())
  (fun k hk => by
    have e1 : wr (((k + 1 : Nat) : Int) - 1) = (k : Int) := by rw [wr_id (by omega) (by omega)]; omega
    have c1 := hc.1 (k + 1) (by omega)
    have c2 := hc.1 k (by omega)
    have c3 := hc.2 k (by omega)
    simp only [step7_0, lt_cast, inB_cast, e1, Int.toNat_natCast, s28_eq, optE_some, wr_succ (show k + 1 < 4611686018427387904 by omega)]
    have hw : win (wr (res.getD (k + 1) 0 - res.getD k 0)) (wr (t.1 - 1)) (wr (t.1 + 1)) = true := by
     rw [wr_id (n := res.getD (k + 1) 0 - res.getD k 0) (by omega) (by omega), wr_id (n := t.1 - 1) (by omega) (by omega), wr_id (n := t.1 + 1) (by omega) (by omega)]
     exact win_iff.2 (by omega)
    rw [hw, decide_eq_true (show k + 1 < res.length by omega), decide_eq_true (show k < res.length by omega)]
    rfl)
  (by
    simp only [step7_0, lt_cast]
    rw [show res.length - 1 + 1 = res.length by omega, decide_eq_false (Nat.lt_irrefl _), cond_false]) 0 (by omega)
 exact h1
theorem starts_true (t : Int × Int) (l : Gs) : s7 (t, l) = some true := by
 unfold s7
 rcases fewS_le l with ⟨hf, hl⟩ | ⟨hf, hl, hl2⟩ | hf
 case inr.inr => simp only [hf, optE_some, Bool.not_true, cond_false, Bool.not_false, cond_true]
 all_goals
  have hl3 : l.length ≤ 1000 := by omega
  have hs : s42 (t, l) = bif (bif tmE t == 0 then sE l else tmE t) != 0 then some (([], bif tmE t == 0 then sE l else tmE t)) else optE (loopVal step42_0 (l, [], wr (Int.tdiv t.1 2), 0, t)) (fun e7 => some ((e7, 0))) (none) := by
   unfold s42
   have := first3 t l
   simp only [s79_eq, s82_eq, s94_eq l (by omega), optE_some]
   cases hw : win t.1 2 16 with
   | false =>
     rw [hw, Bool.false_and] at this
     simp only [cond_false]
     rw [s80_eq _ (by simp)]
     simp only [optE_some, this]
   | true =>
     rw [hw, Bool.true_and] at this
     simp only [cond_true]
     rw [s80_eq _ (by simp)]
     simp only [optE_some, this]
  simp only [hf, optE_some, Bool.not_true, cond_false, copyG_eq l (by omega), s44_eq, s45_eq l (by omega), hs]
  by_cases ht : tmE t = 0
  case neg =>
   have e1 : (tmE t == 0) = false := beq_eq_false_iff_ne.2 ht
   have e2 : (tmE t != 0) = true := bne_iff_ne.2 ht
   simp only [e1, e2, cond_false, cond_true, optE_some, beq_self_eq_true]
   rfl
  case pos =>
   have e1 : (tmE t == 0) = true := by rw [ht]; rfl
   simp only [e1, cond_true]
   by_cases hq : sE l = 0
   case neg =>
    have e2 : (sE l != 0) = true := bne_iff_ne.2 hq
    simp only [e2, cond_true, optE_some, beq_self_eq_true]
    rfl
   case pos =>
    obtain ⟨hlen, hok⟩ := sE_ok hq
    obtain ⟨h0, h1, h2, ht1, hd⟩ := tm_ok ht
    obtain ⟨res, r1, r2, r3, r4⟩ := starts_both h1 h2 ht1 hd hok hlen (l.length + 1) 0 [] (by omega) (by omega) (by simp) ⟨fun i hi => by
     have : i = 0 := by simp at hi; exact hi
     subst this; exact ⟨by decide, by decide⟩, fun i hi => by simp at hi⟩
    have e0 : wr (Int.tdiv t.1 2) = (h0 : Int) := by rw [hd, wr_id (by omega) (by omega)]
    rw [show ((0 : Nat) : Int) = 0 from rfl] at r1 r2
    have d1 := ints_self res (by omega)
    have d2 : s46 (t, l) = some res := by unfold s46; simp only [r2, optE_some]
    have d3 := check_chain ht1 r3 r4
    simp only [hq, bne_self_eq_false, cond_false, e0, r1, optE_some, d2, d1, d3, Bool.not_true, sumE_r]
end Go.Proofs.YthckjfbhdjjnkaaDoor
