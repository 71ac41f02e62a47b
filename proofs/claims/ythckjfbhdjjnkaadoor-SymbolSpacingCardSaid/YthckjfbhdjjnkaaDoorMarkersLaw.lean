import Derived.Test.YthckjfbhdjjnkaaDoorMarkLaw
set_option linter.unusedSimpArgs false
namespace Go.Proofs.YthckjfbhdjjnkaaDoor
open Go.Ev
theorem copyR_eq (r : Rule) (hl : r.1.length ≤ 1000000) : s19 r = some r := by
 unfold s19
 simp only [copy_eq r.1 hl, optE_some]
theorem s21_eq (m : List Int) (hl : m.length ≤ 1000) : s21 m = some (if mE m = 0 then (misV m, 0) else ([], mE m)) := by
 unfold s21
 simp only [s81_eq m (by omega), optE_some]
 by_cases h : mE m = 0
 ·obtain ⟨_, h2, h3⟩ := mE_ok h
  rw [if_pos h, h]
  simp only [bne_self_eq_false, cond_false, mism_a h2 h3, optE_some]
 ·rw [if_neg h, bne_iff_ne.2 h]; rfl
theorem spacing_eq {m : List Int} (h : mE m = 0) (e : Int) : ∃ res, s29 (m, e) = some res ∧ s23 (m, e) = some (if win e 0 32 = true then (res, 0) else ((0, 0), 2)) := by
 obtain ⟨h1, h2, h3⟩ := mE_ok h
 have hlen : (misV m).length ≤ 1000 := by simp [misV]; omega
 obtain ⟨res, r1, r2⟩ := spacing_both m (misV m) e hlen (misV m).length ((m.length : Int), (m.length : Int)) (Nat.le_refl _)
 have e0 : wr (((misV m).length : Int) - 1) = ((misV m).length : Int) - 1 := wr_id (by omega) (by omega)
 refine ⟨res, ?_, ?_⟩
 ·unfold s29
  simp only [mism_b h2, optE_some, e0, r2]
 ·unfold s23
  simp only [s81_eq m (by omega), s79_eq, s82_eq, optE_some]
  rw [s80_eq _ (by simp), h]
  cases hw : win e 0 32 with
  | false => rfl
  | true =>
    have hf : firstE [0, unl true 2] = 0 := rfl
    simp only [hf, optE_some, bne_self_eq_false, cond_false, mism_a h2 h3, e0, onlyAt_eq, r1, if_true]
theorem spacing_bad {m : List Int} (hl : m.length ≤ 1000) (h : mE m ≠ 0) (e : Int) : s23 (m, e) = some ((0, 0), mE m) := by
 unfold s23
 simp only [s81_eq m (by omega), s79_eq, s82_eq, optE_some]
 rw [s80_eq _ (by simp)]
 have hf : firstE [mE m, unl (win e 0 32) 2] = mE m := by unfold firstE; rw [bne_iff_ne.2 h]; rfl
 simp only [hf, optE_some, bne_iff_ne.2 h, cond_true]
def wE (m l : List Int) (a : Int) : Int := firstE [mE m, hE l, unl (win a 0 (wr ((l.length : Int) - (m.length : Int)))) 6]
theorem wrongAt_eq {m l : List Int} (hm : m.length ≤ 1000) (hl : l.length ≤ 1000) (a : Int) : ∃ w, s24 (m, l, a) = some (if wE m l a = 0 then (w, 0) else ((0, 0), wE m l a)) ∧ (wE m l a = 0 → s31 (m, l, a) = some w) := by
 have hx : s24 (m, l, a) = bif wE m l a != 0 then some ((0, 0), wE m l a) else optE (s86 (m, l, a)) (fun r6 => some ((r6, 0))) (none) := by
  unfold s24 wE
  simp only [s81_eq m (by omega), s85_eq l (by omega), s79_eq, s82_eq, optE_some]
  rw [s80_eq _ (by simp)]
  simp only [optE_some]
 by_cases h : wE m l a = 0
 ·have hz := firstE_zero.1 h
  have hw := win_iff.1 (unl_zero (b := win a 0 (wr ((l.length : Int) - (m.length : Int)))) (e := 6) (by decide) (hz (unl (win a 0 (wr ((l.length : Int) - (m.length : Int)))) 6) (by simp)))
  rw [wr_id (by omega) (by omega)] at hw
  obtain ⟨p, rfl⟩ : ∃ p : Nat, a = (p : Int) := ⟨a.toNat, by omega⟩
  refine ⟨wrongN m l p m.length, ?_, fun _ => wrong_b hl (by omega)⟩
  rw [hx, if_pos h, h]
  simp only [bne_self_eq_false, cond_false, wrong_a hl (show p + m.length ≤ l.length by omega), optE_some]
 ·refine ⟨(0, 0), ?_, fun e => absurd e h⟩
  rw [hx, if_neg h, bne_iff_ne.2 h]
  rfl
theorem markers_true (r : Rule) (soft : List Int) (x : Int × Int) : s3 (r, soft, x) = some true := by
 unfold s3 s16
 simp only [Bool.not_true, cond_false, optE_some]
 by_cases hb : (r.1.length : Int) ≤ 34
 case neg => rw [decide_eq_false hb]; rfl
 have hs : s17 soft = some false ∨ (s17 soft = some true ∧ soft.length ≤ 1000) := by
  rcases few_le soft with ⟨h, h2⟩ | ⟨h, h2, h3⟩ | h
  ·exact .inr ⟨h, by omega⟩
  ·exact .inr ⟨h, by omega⟩
  ·exact .inl h
 rcases hs with hs | ⟨hs, hl⟩
 ·simp only [hs, decide_eq_true hb, optE_some, Bool.not_false, Bool.not_true, cond_false, cond_true]
 have hm : r.1.length ≤ 1000 := by omega
 obtain ⟨w, w1, w2⟩ := wrongAt_eq (m := r.1) (l := soft) hm hl x.2
 simp only [hs, decide_eq_true hb, optE_some, Bool.not_true, cond_false, copyR_eq r (by omega), s18_eq r (by omega), s20_eq r hm, bne_self_eq_false, copy_eq r.1 (by omega), copy_eq soft (by omega), s21_eq r.1 hm, s25_eq r.1 (by omega), w1]
 by_cases h : mE r.1 = 0
 case neg =>
  have hw : wE r.1 soft x.2 = mE r.1 := by unfold wE firstE; rw [bne_iff_ne.2 h]; rfl
  simp only [spacing_bad hm h, hw, h, if_false, optE_some, bne_iff_ne.2 h, cond_true, beq_self_eq_true]
  rfl
 case pos =>
  obtain ⟨res, s1, s2⟩ := spacing_eq h x.1
  obtain ⟨g1, g2, g3⟩ := mE_ok h
  have d1 := ints_self (misV r.1) (by simp [misV]; omega)
  simp only [s1, s2, h, if_pos, optE_some, bne_self_eq_false, cond_false, mism_b g2, d1, Bool.not_true, s28_eq, s30_eq soft (by omega)]
  have last : (bif hE soft == 0 then bif !(win x.2 0 (wr ((soft.length : Int) - (r.1.length : Int)))) then bif (if wE r.1 soft x.2 = 0 then (w, (0 : Int)) else ((0, 0), wE r.1 soft x.2)).2 == 6 then some (((if wE r.1 soft x.2 = 0 then (w, (0 : Int)) else ((0, 0), wE r.1 soft x.2)).1.1 == 0) && (((if wE r.1 soft x.2 = 0 then (w, (0 : Int)) else ((0, 0), wE r.1 soft x.2)).1.2 == 0) && true)) else some false
   else bif hE soft != 0 then bif (if wE r.1 soft x.2 = 0 then (w, (0 : Int)) else ((0, 0), wE r.1 soft x.2)).2 == hE soft then some (((if wE r.1 soft x.2 = 0 then (w, (0 : Int)) else ((0, 0), wE r.1 soft x.2)).1.1 == 0) && (((if wE r.1 soft x.2 = 0 then (w, (0 : Int)) else ((0, 0), wE r.1 soft x.2)).1.2 == 0) && true)) else some false
    else bif (if wE r.1 soft x.2 = 0 then (w, (0 : Int)) else ((0, 0), wE r.1 soft x.2)).2 == 0 then optE (s31 (r.1, soft, x.2)) (fun r21 => some (((if wE r.1 soft x.2 = 0 then (w, (0 : Int)) else ((0, 0), wE r.1 soft x.2)).1.1 == r21.1) && (((if wE r.1 soft x.2 = 0 then (w, (0 : Int)) else ((0, 0), wE r.1 soft x.2)).1.2 == r21.2) && true))) none else some false
   else bif hE soft != 0 then bif (if wE r.1 soft x.2 = 0 then (w, (0 : Int)) else ((0, 0), wE r.1 soft x.2)).2 == hE soft then some (((if wE r.1 soft x.2 = 0 then (w, (0 : Int)) else ((0, 0), wE r.1 soft x.2)).1.1 == 0) && (((if wE r.1 soft x.2 = 0 then (w, (0 : Int)) else ((0, 0), wE r.1 soft x.2)).1.2 == 0) && true)) else some false
    else bif (if wE r.1 soft x.2 = 0 then (w, (0 : Int)) else ((0, 0), wE r.1 soft x.2)).2 == 0 then optE (s31 (r.1, soft, x.2)) (fun r21 => some (((if wE r.1 soft x.2 = 0 then (w, (0 : Int)) else ((0, 0), wE r.1 soft x.2)).1.1 == r21.1) && (((if wE r.1 soft x.2 = 0 then (w, (0 : Int)) else ((0, 0), wE r.1 soft x.2)).1.2 == r21.2) && true))) none else some false) = some true := by
   by_cases hh : hE soft = 0
   ·cases hw : win x.2 0 (wr ((soft.length : Int) - (r.1.length : Int))) with
    | false =>
      have he : wE r.1 soft x.2 = 6 := by unfold wE; rw [h, hh, hw]; rfl
      simp only [he, hh, beq_self_eq_true, cond_true, Bool.not_false, show ¬ ((6 : Int) = 0) by omega, if_false]
      rfl
    | true =>
      have he : wE r.1 soft x.2 = 0 := by unfold wE; rw [h, hh, hw]; rfl
      simp only [he, hh, beq_self_eq_true, bne_self_eq_false, cond_true, cond_false, Bool.not_true, if_true, w2 he, optE_some, Bool.and_self]
   ·have he : wE r.1 soft x.2 = hE soft := by unfold wE firstE; rw [h, bne_self_eq_false, cond_false]; unfold firstE; rw [bne_iff_ne.2 hh]; rfl
    simp only [he, hh, if_false, beq_eq_false_iff_ne.2 hh, bne_iff_ne.2 hh, beq_self_eq_true, cond_true, cond_false]
    rfl
  cases hw : win x.1 0 32 with
  | false =>
    simp only [hw, Bool.not_false, cond_true, cond_false, Bool.false_eq_true, if_false, bne_self_eq_false, beq_self_eq_true, Bool.and_self, Bool.not_true]
    exact last
  | true =>
    simp only [hw, Bool.not_true, cond_true, cond_false, if_true, bne_self_eq_false, beq_self_eq_true, Bool.and_self]
    exact last
end Go.Proofs.YthckjfbhdjjnkaaDoor
