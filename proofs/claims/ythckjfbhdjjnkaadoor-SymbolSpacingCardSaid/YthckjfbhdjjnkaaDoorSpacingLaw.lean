import Derived.Test.YthckjfbhdjjnkaaDoorSpaceLaw
set_option linter.unusedSimpArgs false
namespace Go.Proofs.YthckjfbhdjjnkaaDoor
open Go.Ev
theorem wrongAt_ok {m l : List Int} (hm : mE m = 0) (hh : hE l = 0) (hl : l.length ≤ 1000) {p : Nat} (hp : p + m.length ≤ l.length) : s24 (m, l, (p : Int)) = some (wrongN m l p m.length, 0) := by
 obtain ⟨h1, h2, h3⟩ := mE_ok hm
 obtain ⟨w, w1, w2⟩ := wrongAt_eq (m := m) (l := l) (by omega) hl (p : Int)
 have he : wE m l (p : Int) = 0 := by
  unfold wE
  rw [hm, hh, win_iff.2 (by rw [wr_id (by omega) (by omega)]; omega)]
  rfl
 have hb := wrong_b (m := m) (l := l) hl hp
 rw [w2 he] at hb
 obtain rfl := Option.some.inj hb
 rw [w1, if_pos he]
section
variable {r : Rule} {l : List Int}
abbrev vv (r : Rule) (l : List Int) : List Mark := findV r.1 l r.2.2.1 (places r.1 l)
theorem inner_loop (hm : mE r.1 = 0) (he : 0 ≤ r.2.2.1 ∧ r.2.2.1 ≤ 32) (hl : l.length ≤ 1000) {i : Nat} (hi : i < (vv r l).length) : loopVal step5_2 (l, vv r l, (i : Int), 0, r, spV r.1 r.2.2.1) = some (Sum.inr (l, vv r l, (i : Int), r, spV r.1 r.2.2.1)) := by
 obtain ⟨h1, h2⟩ : (∀ i, i < (vv r l).length → ∃ p, p < places r.1 l ∧ markAt r.1 l r.2.2.1 p = some ((vv r l).getD i mk0)) ∧ ∀ i k, k < i → i < (vv r l).length → ((vv r l).getD k mk0).2.1 < ((vv r l).getD i mk0).2.1 := findV_props r.1 l r.2.2.1 (places r.1 l)
 have hlen : (vv r l).length ≤ places r.1 l := findV_len r.1 l r.2.2.1 (places r.1 l)
 have hpl : places r.1 l ≤ 1001 := by unfold places; omega
 obtain ⟨p, hpc, hp⟩ := h1 i hi
 have hs := spV_in hm r.2.2.1
 have k1 := loop_for (step := step5_2) (st := fun k => (l, vv r l, (i : Int), (k : Int), r, spV r.1 r.2.2.1)) (n := i) (e := Sum.inr (l, vv r l, (i : Int), r, spV r.1 r.2.2.1))
  (fun k hk => by
    obtain ⟨q, hqc, hq⟩ := h1 k (by omega)
    have hord := h2 i k hk hi
    have ap := markAt_at hp
    have aq := markAt_at hq
    have hsp := space_ok hm he hp hq (by rw [ap, aq] at hord; omega)
    rw [← ap, ← aq] at hsp
    simp only [step5_2, lt_cast, inB_cast, decide_eq_true hk, decide_eq_true hi, decide_eq_true (show k < (vv r l).length by omega), cond_true, Int.toNat_natCast, wr_succ (show k < 4611686018427387904 by omega)]
    have e1 : wr (((vv r l).getD i mk0).2.1 - ((vv r l).getD k mk0).2.1) = ((vv r l).getD i mk0).2.1 - ((vv r l).getD k mk0).2.1 := by rw [ap, aq]; exact wr_id (by omega) (by omega)
    have ex : ∀ k, (vv r l).getD k (0, 0, false, 0, 0) = (vv r l).getD k mk0 := fun _ => rfl
    simp only [ex, e1]
    by_cases g : ((vv r l).getD i mk0).2.2.1 = ((vv r l).getD k mk0).2.2.1
    ·rw [if_pos g] at hsp
     rw [beq_iff_eq.2 g, Bool.not_true, cond_false, decide_eq_false hsp, cond_false]
    ·rw [if_neg g] at hsp
     rw [beq_eq_false_iff_ne.2 g, Bool.not_false, cond_true, decide_eq_false hsp, cond_false])
  (by simp only [step5_2, lt_cast, Nat.lt_irrefl, decide_false, cond_false]) 0 (by omega)
 exact k1
theorem outer_loop (hm : mE r.1 = 0) (hh : hE l = 0) (he : 0 ≤ r.2.2.1 ∧ r.2.2.1 ≤ 32) (h2e : 2 * r.2.2.1 < (r.1.length : Int)) (hl : l.length ≤ 1000) : loopVal step5_0 (l, vv r l, 0, r, spV r.1 r.2.2.1) = some (Sum.inr ()) := by
 obtain ⟨h1, h2⟩ : (∀ i, i < (vv r l).length → ∃ p, p < places r.1 l ∧ markAt r.1 l r.2.2.1 p = some ((vv r l).getD i mk0)) ∧ ∀ i k, k < i → i < (vv r l).length → ((vv r l).getD k mk0).2.1 < ((vv r l).getD i mk0).2.1 := findV_props r.1 l r.2.2.1 (places r.1 l)
 obtain ⟨m1, m2, m3⟩ := mE_ok hm
 have hlen : (vv r l).length ≤ places r.1 l := findV_len r.1 l r.2.2.1 (places r.1 l)
 have hpl : places r.1 l ≤ 1001 := by unfold places; omega
 have k1 := loop_for (step := step5_0) (st := fun i => (l, vv r l, (i : Int), r, spV r.1 r.2.2.1)) (n := (vv r l).length) (e := Sum.inr ())
  (fun i hi => by
    obtain ⟨p, hpc, hp⟩ := h1 i hi
    have ap := markAt_at hp
    have hw := wrongAt_ok hm hh hl (places_lt hpc)
    have hin := inner_loop hm he hl hi
    have hcnt := wrongN_cnt r.1 l p r.1.length (by omega) m3
    have hboth := both_wrong (m := r.1) (l := l) (a := p) r.1.length
    have hk := markAt_kind hp
    have ex : (vv r l).getD i (0, 0, false, 0, 0) = (vv r l).getD i mk0 := rfl
    simp only [step5_0, lt_cast, inB_cast, decide_eq_true hi, cond_true, Int.toNat_natCast, copy_eq r.1 (by omega), copy_eq l (by omega), optE_some, ex]
    rw [show ((vv r l).getD i mk0).2.1 = (p : Int) from ap, hw]
    simp only [optE_some, bne_self_eq_false, cond_false]
    rcases hk with ⟨hx, g1⟩ | ⟨hx, g1, g2⟩
    ·have g2 : ¬ (wrongN r.1 l p r.1.length).2 ≤ r.2.2.1 := by rw [hcnt] at g1 ⊢; simp only at g1 ⊢; omega
     have hx : (vv r l).getD i mk0 = (0, (p : Int), false, (wrongN r.1 l p r.1.length).1, 0) := hx
     simp only [hx, decide_eq_true g1, decide_eq_false g2, decide_eq_false (show ¬ (wrongN r.1 l p r.1.length).1 > r.2.2.1 by omega), cond_true, cond_false, Bool.not_false, bne_self_eq_false, hin, optE_some, sumE_r, wr_succ (show i < 4611686018427387904 by omega)]
    ·have hx : (vv r l).getD i mk0 = (0, (p : Int), true, (wrongN r.1 l p r.1.length).2, 0) := hx
     simp only [hx, decide_eq_false g1, decide_eq_false (show ¬ (wrongN r.1 l p r.1.length).2 > r.2.2.1 by omega), cond_true, cond_false, Bool.not_true, bne_self_eq_false, hin, optE_some, sumE_r, wr_succ (show i < 4611686018427387904 by omega)])
  (by simp only [step5_0, lt_cast, Nat.lt_irrefl, decide_false, cond_false]) 0 (by omega)
 exact k1
end
theorem spacing_true (r : Rule) (l : List Int) : s5 (r, l) = some true := by
 unfold s5 s16
 simp only [Bool.not_true, cond_false, optE_some]
 by_cases hb : (r.1.length : Int) ≤ 34
 case neg => rw [decide_eq_false hb]; rfl
 simp only [decide_eq_true hb, Bool.not_true, cond_false]
 by_cases hl : l.length > 120
 ·rw [decide_eq_true (show (l.length : Int) > 120 by omega)]; rfl
 simp only [decide_eq_false (show ¬ (l.length : Int) > 120 by omega), cond_false, s33_eq r l (by omega) (by omega), optE_some]
 by_cases h : bE r l = 0
 case neg => rw [bne_iff_ne.2 h]; rfl
 have hz := firstE_zero.1 h
 have hr := hz (rE r) (by simp)
 have hh := hz (hE l) (by simp)
 have hm := rE_ok hr
 have hzr := firstE_zero.1 hr
 have hright := unl_zero (b := rightR r) (e := 2) (by decide) (hzr (unl (rightR r) 2) (by simp))
 have h23 := unl_zero (e := 23) (by decide) (hzr (unl (decide ((wr (2 * r.2.2.1)) < (r.1.length : Int))) 23) (by simp))
 unfold rightR at hright
 simp only [Bool.and_eq_true] at hright
 have hwin := hright.2.1
 have he := win_iff.1 hwin
 have h2e := of_decide_eq_true h23
 rw [wr_id (by omega) (by omega)] at h2e
 obtain ⟨m1, m2, m3⟩ := mE_ok hm
 obtain ⟨⟨s1, s2⟩, s3, s4⟩ := spV_in hm r.2.2.1
 have hlen := findV_len r.1 l r.2.2.1 (places r.1 l)
 have hpl : places r.1 l ≤ l.length := by unfold places; omega
 simp only [h, bne_self_eq_false, cond_false, copyR_eq r (by omega), copy_eq l (by omega), copy_eq r.1 (by omega), find_eq r l (by omega) (by omega), if_pos, optE_some, spacingOf_eq hm hwin, s28_eq, win_iff.2 (And.intro s1 s2), win_iff.2 (And.intro s3 s4), Bool.not_true, decide_eq_false (show ¬ (((findV r.1 l r.2.2.1 (places r.1 l)).length : Int) > (l.length : Int)) by omega), outer_loop hm hh he h2e (show l.length ≤ 1000 by omega), sumE_r]
end Go.Proofs.YthckjfbhdjjnkaaDoor
