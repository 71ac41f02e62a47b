import Derived.Test.YthckjfbhdjjnkaaDoorSeqLaw
set_option linter.unusedSimpArgs false
namespace Go.Proofs.YthckjfbhdjjnkaaDoor
open Go.Ev
theorem first2 (a b : Int) : firstE [a, b] = if a = 0 then b else a := by
 show (bif a != 0 then a else bif b != 0 then b else 0) = _
 by_cases h : a = 0
 ·subst h
  by_cases h2 : b = 0
  ·subst h2; rfl
  ·rw [bne_iff_ne.2 h2]; rfl
 ·rw [bne_iff_ne.2 h, if_neg h]; rfl
theorem beq_off {a b : Int} (h : a ≠ b) : (a == b) = false := beq_eq_false_iff_ne.2 h
theorem rE_or (r : Int × Int × Int) : rE r = 0 ∨ rE r = 2 ∨ rE r = 3 := by
 unfold rE
 generalize (win r.1 1 8 && (win r.2.1 1 (rM r) && win r.2.2 1 (rM r))) = b
 generalize (r.2.1 % 2 == 0) = c
 cases b <;> cases c <;> simp
theorem sequences_true (r : Int × Int × Int) (count : Int) (soft : List Int) : s9 (r, count, soft) = some true := by
 unfold s9
 simp only [Bool.not_true, cond_false]
 rcases few_le soft with ⟨hf, hlen⟩ | ⟨hf, hlo, hhi⟩ | hf
 case inr.inr => rw [hf]; rfl
 all_goals
  rw [hf]
  have hlen : soft.length ≤ 1000000 := by omega
  simp only [optE_some, Bool.not_true, cond_false, copy_eq soft hlen, s52_eq, s30_eq soft hlen, s28_eq]
  by_cases hr : rE r = 0
  case neg =>
   have f1 : firstE [rE r, unl (win count 0 600) 2] = rE r := by rw [first2, if_neg hr]
   have f2 : firstE [rE r, hE soft] = rE r := by rw [first2, if_neg hr]
   rw [s49_bad r count (by rw [f1]; exact hr), s50_bad hr, s51_bad r soft hlen (by rw [f2]; exact hr), f1, f2]
   simp only [optE_some, bne_iff_ne.2 hr, cond_true, beq_self_eq_true, List.length_nil]
   rfl
  case pos =>
  obtain ⟨d, t, s, rfl, h1, h8, ht, ho, hs1, hs⟩ := rE_ok hr
  obtain ⟨p, p1, p2, p3, p4⟩ := period_least h1 ho hs hs1
  rw [s50_eq hr h1 h8 ht hs p1 p2 p3 p4, s53_eq h1 h8 ht hs p1 p2 p3 p4]
  have hseq : ∃ q, s49 (((d : Int), (t : Int), (s : Int)), count) = some q ∧ ((win count 0 600 = true ∧ q = (seqL d t s count.toNat, 0) ∧ s54 (((d : Int), (t : Int), (s : Int)), count) = some (seqL d t s count.toNat)) ∨ (win count 0 600 = false ∧ q = ([], 2))) := by
   cases hw : win count 0 600 with
   | true =>
     have hw := win_iff.1 hw
     exact ⟨_, s49_eq hr (show count = (count.toNat : Int) by omega) (by omega) h1 h8 ht hs, .inl ⟨rfl, rfl, s54_eq (show count = (count.toNat : Int) by omega) (by omega) h1 h8 ht hs⟩⟩
   | false =>
     have f1 : firstE [rE ((d : Int), (t : Int), (s : Int)), unl (win count 0 600) 2] = 2 := by rw [first2, if_pos hr, hw]; rfl
     have := s49_bad ((d : Int), (t : Int), (s : Int)) count (by rw [f1]; decide)
     rw [f1] at this
     exact ⟨_, this, .inr ⟨rfl, rfl⟩⟩
  have hrnd : ∃ q, s51 (((d : Int), (t : Int), (s : Int)), soft) = some q ∧ ((hE soft = 0 ∧ q = (rnd d t s soft soft.length, 0) ∧ s55 (((d : Int), (t : Int), (s : Int)), soft) = some (rnd d t s soft soft.length) ∧ soft.length ≤ 600) ∨ (hE soft ≠ 0 ∧ q = ([], hE soft))) := by
   by_cases hh : hE soft = 0
   ·exact ⟨_, s51_eq hr hh h1 h8 ht hs, .inl ⟨hh, rfl, s55_eq hh h1 h8 ht hs, (hE_ok hh).1⟩⟩
   ·have f2 : firstE [rE ((d : Int), (t : Int), (s : Int)), hE soft] = hE soft := by rw [first2, if_pos hr]
    have := s51_bad ((d : Int), (t : Int), (s : Int)) soft hlen (by rw [f2]; exact hh)
    rw [f2] at this
    exact ⟨_, this, .inr ⟨hh, rfl⟩⟩
  obtain ⟨q, hq, hq2⟩ := hseq
  obtain ⟨z, hz, hz2⟩ := hrnd
  rw [hq, hz]
  simp only [optE_some, hr, bne_self_eq_false, cond_false]
  have last : (bif hE soft != 0 then bif z.2 == hE soft then some ((z.1.length : Int) == 0) else some false else bif z.2 == 0 then optE (s55 (((d : Int), (t : Int), (s : Int)), soft)) (fun r13 => optE (s26 (z.1, r13)) (fun r14 => some r14) none) none else some false) = some true := by
   rcases hz2 with ⟨hh, rfl, h3, h4⟩ | ⟨hh, rfl⟩
   ·rw [hh, h3]
    simp only [bne_self_eq_false, cond_false, cond_true, beq_self_eq_true, optE_some]
    rw [ints_self _ (by rw [rnd_len]; omega)]
    rfl
   ·rw [bne_iff_ne.2 hh]
    simp only [cond_true, beq_self_eq_true, List.length_nil]
    rfl
  rcases hq2 with ⟨hw, rfl, h3⟩ | ⟨hw, rfl⟩
  ·have hb := win_iff.1 hw
   rw [hw, h3]
   simp only [Bool.not_true, cond_false, cond_true, bne_self_eq_false, optE_some]
   rw [ints_self _ (by rw [seqL_len]; omega)]
   exact last
  ·rw [hw]
   simp only [Bool.not_false, cond_true, cond_false, List.length_nil]
   exact last
theorem rnd_okH {d t s : Nat} {l : List Int} (h : hE l = 0) : hE (rnd d t s l l.length) = 0 := by
 have hn := (hE_ok h).1
 unfold hE
 rw [rnd_len, if_neg (by omega)]
 have : (rnd d t s l l.length).all okH = true := List.all_eq_true.2 fun x hx => by
  unfold rnd at hx
  obtain ⟨k, hk, rfl⟩ := List.mem_map.1 hx
  have hk := List.mem_range.1 hk
  have hv := hE_at h hk
  refine okH_iff.2 ?_
  unfold rndG
  have e : itr d t s k % 2 = 1 ∨ itr d t s k % 2 = 0 := by omega
  rcases e with e | e <;> rw [e] <;> omega
 rw [this]; rfl
theorem rnd_twice (d t s : Nat) (l : List Int) : rnd d t s (rnd d t s l l.length) l.length = l := by
 apply List.ext_getElem
 ·rw [rnd_len]
 ·intro k h1 h2
  have a : (rnd d t s (rnd d t s l l.length) l.length).getD k 0 = l.getD k 0 := by
   rw [rnd_at _ _ _ _ h2]
   unfold rndG
   rw [rnd_at _ _ _ _ h2]
   unfold rndG
   have e : itr d t s k % 2 = 1 ∨ itr d t s k % 2 = 0 := by omega
   rcases e with e | e <;> rw [e] <;> omega
  rw [List.getD_eq_getElem?_getD, List.getD_eq_getElem?_getD, List.getElem?_eq_getElem h1, List.getElem?_eq_getElem h2] at a
  exact a
theorem twice_true (r : Int × Int × Int) (soft : List Int) (count : Int) : s10 (r, soft, count) = some true := by
 unfold s10
 simp only [Bool.not_true, cond_false, s52_eq, optE_some]
 by_cases hr : rE r = 0
 case neg => rw [bne_iff_ne.2 hr]; rfl
 by_cases hl : soft.length ≤ 120
 case neg => rw [decide_eq_true (show (soft.length : Int) > 120 by omega), hr]; rfl
 rw [decide_eq_false (show ¬ (soft.length : Int) > 120 by omega), hr]
 simp only [bne_self_eq_false, cond_false, s30_eq soft (by omega), s28_eq, optE_some]
 by_cases hh : hE soft = 0
 case neg => rw [bne_iff_ne.2 hh]; rfl
 rw [hh]
 cases hw : win count 0 120 with
 | false => rfl
 | true =>
 have hb := win_iff.1 hw
 simp only [bne_self_eq_false, cond_false, Bool.not_true, copy_eq soft (by omega), optE_some]
 obtain ⟨d, t, s, rfl, h1, h8, ht, ho, hs1, hs⟩ := rE_ok hr
 obtain ⟨p, p1, p2, p3, p4⟩ := period_least h1 ho hs hs1
 have hp := pow_le h8
 obtain ⟨n, rfl⟩ : ∃ n : Nat, count = (n : Int) := ⟨count.toNat, by omega⟩
 rw [s50_eq hr h1 h8 ht hs p1 p2 p3 p4, s51_eq hr hh h1 h8 ht hs]
 have e1 := s51_eq hr (rnd_okH (d := d) (t := t) (s := s) hh) h1 h8 ht hs
 rw [rnd_len, rnd_twice] at e1
 simp only [optE_some, copy_eq (rnd d t s soft soft.length) (by rw [rnd_len]; omega), e1, bne_self_eq_false, cond_false, ints_self soft (by omega), Bool.not_true]
 rw [decide_eq_true (show (0 : Int) ≤ (d : Int) by omega), shl_pow (by omega) (by omega), Int.toNat_natCast, win_iff.2 (show (1 : Int) ≤ (p : Int) ∧ (p : Int) ≤ ((2 ^ d - 1 : Nat) : Int) by omega), wr_id (n := (n : Int) + (p : Int)) (by omega) (by omega), s49_eq (n := n + p) hr (by omega) (by omega) h1 h8 ht hs, s49_eq (n := n) hr rfl (by omega) h1 h8 ht hs]
 simp only [optE_some, Bool.not_true, cond_false, cond_true, bne_self_eq_false, seqL_len]
 rw [show (((n + p : Nat) : Int) != (n : Int) + (p : Int)) = false by simp, decide_eq_true (show (0 : Int) ≤ (n : Int) by omega), decide_eq_true (show (n : Int) ≤ ((n + p : Nat) : Int) by omega), Int.toNat_natCast]
 have e2 : (seqL d t s (n + p)).take n = seqL d t s n := by
  unfold seqL
  rw [← List.map_take, List.take_range, Nat.min_eq_left (by omega)]
 rw [e2, ints_self _ (by rw [seqL_len]; omega)]
 have hlp := loop_for (step := step10_0) (st := fun k => ((n : Int), (p : Int), seqL d t s (n + p), (k : Int))) (n := n) (e := .inr ())
  (fun k hk => by
    simp only [step10_0, lt_cast, inB_cast, seqL_len, hk, decide_true, cond_true, Int.toNat_natCast, wr_succ (show k < 4611686018427387904 by omega)]
    rw [wr_id (n := (k : Int) + (p : Int)) (by omega) (by omega), show (k : Int) + (p : Int) = ((k + p : Nat) : Int) by omega, inB_cast, Int.toNat_natCast, decide_eq_true (show k < n + p by omega), decide_eq_true (show k + p < n + p by omega), seqL_at d t s (show k < n + p by omega), seqL_at d t s (show k + p < n + p by omega), Nat.add_comm k p, itr_add, p3]
    simp only [cond_true, bne_self_eq_false, cond_false])
  (by simp only [step10_0, lt_cast, Nat.lt_irrefl, decide_false, cond_false]) 0 (by omega)
 have hlp : loopVal step10_0 ((n : Int), (p : Int), seqL d t s (n + p), 0) = some (.inr ()) := hlp
 simp only [optE_some, Bool.not_true, cond_false, cond_true, Bool.and_true, hlp, sumE_r]
end Go.Proofs.YthckjfbhdjjnkaaDoor
