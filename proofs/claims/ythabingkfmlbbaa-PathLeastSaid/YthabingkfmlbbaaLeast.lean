/- No motion travels less. -/
import Derived.Test.YthabingkfmlbbaaRate
set_option linter.unusedSimpArgs false
set_option linter.unusedVariables false
set_option maxRecDepth 100000
namespace Go.Proofs.Ythabingkfmlbbaa
open Go.Ev
theorem bef_nil (b : List Int) : bef [] b = decide (0 < b.length) := by
 cases b <;> rfl
theorem bef_nil' (a : List Int) : bef a [] = false := by
 cases a <;> rfl
theorem before_loop (a b : List Int) (hb : b.length ≤ 1000) : ∀ m i : Nat, i + m = a.length → i ≤ b.length →
 (loopVal step17_0 (a, b, (i : Int)) = some (.inl (bef (a.drop i) (b.drop i)))) ∨
 (loopVal step17_0 (a, b, (i : Int)) = some (.inr (a, b)) ∧ decide ((a.length : Int) < (b.length : Int)) = bef (a.drop i) (b.drop i)) := by
 intro m
 induction m with
 | zero =>
   intro i hi hib
   obtain rfl : i = a.length := by omega
   right
   refine ⟨loopVal_last ?_, ?_⟩
   ·simp only [step17_0, lt_cast, Nat.lt_irrefl, decide_false, cond_false]
   ·rw [List.drop_eq_nil_of_le (Nat.le_refl a.length), bef_nil, lt_cast, List.length_drop]
    by_cases h : a.length < b.length
    ·rw [dT h, dT (show 0 < b.length - a.length by omega)]
    ·rw [dF h, dF (show ¬ 0 < b.length - a.length by omega)]
 | succ m ih =>
   intro i hi hib
   have hia : i < a.length := by omega
   by_cases h : i < b.length
   ·have da := getD_drop a 0 hia
    have db := getD_drop b 0 h
    by_cases hc : a.getD i 0 = b.getD i 0
    ·have hs : step17_0 (a, b, (i : Int)) = some (.inl (a, b, ((i + 1 : Nat) : Int))) := by
      simp only [step17_0, lt_cast, inB_cast, dT hia, dT h, cond_true, Int.toNat_natCast, bne_eq_false_iff_eq.2 hc, cond_false, wr_succ (show i < 4611686018427387904 by omega)]
     have e : bef (a.drop i) (b.drop i) = bef (a.drop (i + 1)) (b.drop (i + 1)) := by
      rw [da, db, bef, if_neg (by simpa using hc)]
     rw [loopVal_next hs, e]
     exact ih (i + 1) (by omega) (by omega)
    ·left
     refine loopVal_last ?_
     rw [da, db, bef, if_pos hc]
     simp only [step17_0, lt_cast, inB_cast, dT hia, dT h, cond_true, Int.toNat_natCast, bne_iff_ne.2 hc]
   ·right
    refine ⟨loopVal_last ?_, ?_⟩
    ·simp only [step17_0, lt_cast, dT hia, dF h, cond_true, cond_false]
    ·rw [List.drop_eq_nil_of_le (show b.length ≤ i by omega), bef_nil', dF (show ¬ (a.length : Int) < (b.length : Int) by omega)]
theorem Before_z (a b : List Int) (hb : b.length ≤ 1000) : s17 (a, b) = some (bef a b) := by
 rcases before_loop a b hb a.length 0 (by omega) (Nat.zero_le _) with h | ⟨h, h'⟩
 ·have h : loopVal step17_0 (a, b, 0) = some (.inl (bef a b)) := h
  simp only [s17, h, optE_some, sumE_l]
 ·have h : loopVal step17_0 (a, b, 0) = some (.inr (a, b)) := h
  have h' : decide ((a.length : Int) < (b.length : Int)) = bef a b := h'
  simp only [s17, h, optE_some, sumE_r, h']
theorem pathLeast_true (d : Dr) (ts other : List Int) : s4 (d, ts, other) = some true := by
 have hz : ((0 : Int) != 0) = false := rfl
 have hz2 : ((0 : Int) == 0) = true := rfl
 have h12 : ((12 : Int) != 0) = true := rfl
 have h12' : ((12 : Int) != 12) = false := rfl
 unfold s4
 simp only [Bool.not_true, cond_false, s11_eq, optE_some]
 by_cases h0 : drvE d = 0
 case neg => rw [bne_iff_ne.2 h0]; rfl
 have hd := DOk.of h0
 have hdz : (d.1 == 0) = false := beq_eq_false_iff_ne.2 (by have := hd.t1; omega)
 have hroomy : ∃ b, s6 d = some b := by
  simp only [s6, s11_eq, optE_some, h0, hz, cond_false, hdz, Bool.not_false, cond_true]
  exact ⟨_, rfl⟩
 obtain ⟨b, hb⟩ := hroomy
 simp only [h0, hz, cond_false, hb, optE_some]
 cases b
 ·rfl
 simp only [Bool.not_true, cond_false]
 by_cases c1 : (ts.length : Int) > 12
 ·rw [dT c1]; rfl
 rw [dF c1, cond_false]
 by_cases c2 : (other.length : Int) > 14
 ·rw [dT c2]; rfl
 rw [dF c2, cond_false]
 obtain ⟨b1, b2, b3⟩ := s12_eq (d := d) (l := ts) (by omega)
 by_cases hA : AllT d ts
 case neg => simp only [b3 (by omega) hA, optE_some]; rfl
 have hts : ts.length ≤ 40 := by omega
 have hT := TOk.of hd hA
 have a3 := fun (e : Dr) (he : DOk e) (hAe : AllT e ts) => (s28_eq (d := e) (l := ts) (by omega)).2.2.1 (drvE_zero he) hts hAe
 have te := a3 d hd hA
 have cts := s9_eq (l := ts) (by omega)
 have cot := s9_eq (l := other) (by omega)
 have ck := fun (ps : List Int) (hps : ps.length ≤ 1000) => (s16_eq (d := d) (ts := ts) (ps := ps) hps te).2 rfl h0
 have cko := ck other (by omega)
 simp only [b2 (by omega) hA, optE_some, hz, cond_false, cts, cot, cko]
 obtain ⟨m, m1, m2, m3⟩ := MinimumRate_z hd hA hts te
 have hfd := feas_v hd hts
 have last : ∀ q : Int, (q = 0 ∧ Feas d ts d.2.2.2 ∨ q = 12 ∧ ¬ Feas d ts d.2.2.2) →
  (optE (s9 ts) (fun r9 =>
    optE (s10 (d, r9)) (fun r10 =>
     bif r10.2 != 0 then bif r10.2 == 12 then some (q == 12) else some false
     else optE (s18 (r10.1, 0, 40000)) (fun r11 =>
      bif !r11 then some false
      else bif !((q == 0) == (decide (d.2.2.2 ≥ r10.1))) then some false
      else optE (s9 ts) (fun r12 =>
       optE (s8 ((d.1, d.2.1, d.2.2.1, r10.1), r12)) (fun r13 =>
        bif r13.2.2 != 0 then some false
        else bif r10.1 == 0 then some true
        else optE (s9 ts) (fun r14 =>
         optE (s8 ((d.1, d.2.1, d.2.2.1, wr (r10.1 - 1)), r14)) (fun r15 => some (r15.2.2 == 12)) none) none) none) none) none) none) none : Option Bool) = some true := by
  intro q hq
  rw [cts]; simp only [optE_some, m3]
  have hr1 := hd.r1; have hr2 := hd.r2
  obtain ⟨r, hr⟩ : ∃ r : Nat, d.2.2.2 = (r : Int) := ⟨d.2.2.2.toNat, by omega⟩
  have hmr := m2 r (by omega)
  rw [← hr] at hmr
  by_cases hm : (m : Int) > 40000
  ·simp only [dT hm, cond_true, h12]
   have hq : q = 12 := by
    rcases hq with ⟨_, h⟩ | ⟨h, _⟩
    ·have := hmr.2 h; omega
    ·exact h
   rw [hq]; rfl
  ·simp only [dF hm, cond_false, hz, s18_eq, optE_some, win_iff.2 (show (0 : Int) ≤ (m : Int) ∧ (m : Int) ≤ 40000 by omega), Bool.not_true]
   have hq1 : ((q == 0) == (decide (d.2.2.2 ≥ (m : Int)))) = true := by
    rcases hq with ⟨h, h'⟩ | ⟨h, h'⟩
    ·have := hmr.2 h'
     rw [h, dT (show d.2.2.2 ≥ (m : Int) by omega)]; rfl
    ·have : ¬ m ≤ r := fun x => h' (hmr.1 x)
     rw [h, dF (show ¬ d.2.2.2 ≥ (m : Int) by omega)]; rfl
   have hdm : DOk (dr d (m : Int)) := hd.rate (by omega) (by omega)
   have p1 : ∃ x, s8 (dr d (m : Int), ts) = some x ∧ x.2.2 = 0 := by
    rcases Pointing_z hdm (TOk.of hdm hA) hts (a3 _ hdm hA) with ⟨h, h'⟩ | ⟨_, out, _, h'⟩
    ·have := (feas_v hdm hts).2 ((m2 m (by omega)).1 (Nat.le_refl _))
     have h : NEV ≤ VpD (dr d (m : Int)) ts (dr d (m : Int)).2.2.1 := h
     omega
    ·exact ⟨_, h', rfl⟩
   obtain ⟨x, p1, p1'⟩ := p1
   have p1 : s8 ((d.1, d.2.1, d.2.2.1, (m : Int)), ts) = some x := p1
   simp only [hq1, Bool.not_true, cond_false, cts, optE_some, p1, p1', hz]
   by_cases hm0 : m = 0
   ·subst hm0; rfl
   ·have hmz : ((m : Int) == 0) = false := beq_eq_false_iff_ne.2 (by omega)
    have hw : wr ((m : Int) - 1) = ((m - 1 : Nat) : Int) := by rw [wr_id (by omega) (by omega)]; omega
    have hdn : DOk (dr d ((m - 1 : Nat) : Int)) := hd.rate (by omega) (by omega)
    have p2 : ∃ x, s8 (dr d ((m - 1 : Nat) : Int), ts) = some x ∧ x.2.2 = 12 := by
     rcases Pointing_z hdn (TOk.of hdn hA) hts (a3 _ hdn hA) with ⟨h, h'⟩ | ⟨h, out, _, h'⟩
     ·exact ⟨_, h', rfl⟩
     ·have := (m2 (m - 1) (by omega)).2 ((feas_v hdn hts).1 h)
      omega
    obtain ⟨y, p2, p2'⟩ := p2
    have p2 : s8 ((d.1, d.2.1, d.2.2.1, ((m - 1 : Nat) : Int)), ts) = some y := p2
    simp only [hmz, cond_false, hw, p2, optE_some, p2']
    rfl
 simp only [cts, optE_some] at last
 rcases Pointing_z hd hT hts te with ⟨hv, hp⟩ | ⟨hv, out, hpath, hp⟩
 ·have hno : ¬ Feas d ts d.2.2.2 := fun h => by have := hfd.2 h; omega
  have hpt : ∃ e, e ≠ 0 ∧ ptgE d ts other = (0, e) := by
   rcases ptgE_spec hd hT (ps := other) (by omega) with ⟨e, h, h', _⟩ | ⟨_, h⟩
   ·exact ⟨e, h, h'⟩
   ·exact absurd ⟨other, h⟩ hno
  obtain ⟨e, he, hpt⟩ := hpt
  simp only [hp, optE_some, hpt, h12, cond_true, h12', cond_false, beq_eq_false_iff_ne.2 he]
  exact last 12 (.inr ⟨rfl, hno⟩)
 ·have hyes : Feas d ts d.2.2.2 := hfd.1 hv
  obtain ⟨hacc, htr⟩ := path_acc hpath
  have hol : out.length ≤ 1000 := by have := Acc.len _ _ _ _ hacc; omega
  have cout := s9_eq (l := out) hol
  have ckp : ptgE d ts out = (VpD d ts d.2.2.1, 0) := by
   rcases ptgE_spec hd hT (ps := out) hol with ⟨e, _, _, h⟩ | ⟨h, _⟩
   ·exact absurd hacc h
   ·rw [h, htr]
  simp only [hp, optE_some, hz, cond_false, cts, cout, ck out hol, ckp, bne_self_eq_false]
  rcases ptgE_spec hd hT (ps := other) (by omega) with ⟨e, he, hpt, _⟩ | ⟨hpt, hao⟩
  ·simp only [hpt, beq_eq_false_iff_ne.2 he, cond_false]
   exact last 0 (.inl ⟨rfl, hyes⟩)
  ·have hle := acc_le _ _ _ _ hao
   have hle : VpD d ts d.2.2.1 ≤ trv other d.2.2.1 := hle
   simp only [hpt, hz2, cond_true, dF (show ¬ trv other d.2.2.1 < VpD d ts d.2.2.1 by omega), cond_false]
   by_cases heq : trv other d.2.2.1 = VpD d ts d.2.2.1
   ·simp only [beq_iff_eq.2 heq, cond_true, Before_z other out hol, optE_some, path_lex hpath hao heq, cond_false]
    exact last 0 (.inl ⟨rfl, hyes⟩)
   ·simp only [beq_eq_false_iff_ne.2 heq, cond_false]
    exact last 0 (.inl ⟨rfl, hyes⟩)
end Go.Proofs.Ythabingkfmlbbaa
