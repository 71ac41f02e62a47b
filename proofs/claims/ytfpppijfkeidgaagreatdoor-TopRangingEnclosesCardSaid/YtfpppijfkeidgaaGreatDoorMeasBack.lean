/- The strings of measurements are parsed again. -/
import Derived.Test.YtfpppijfkeidgaaGreatDoorDelays
import Derived.Test.YtfpppijfkeidgaaGreatDoorStrBase
set_option linter.unusedSimpArgs false
namespace Go.Proofs.YtfpppijfkeidgaaGreatDoor
open Go.Ev
def uW (d : Nat) (w : ByteArray) : Option Int := match numR w.data.toList d with
 | some v => bif decide (v < 0) then none else some v
 | none => none
theorem uw_cases (d : Nat) (hd : d ≤ 18) (w : ByteArray) (hw : w.size ≤ 1000000) :
 (uW d w = none ∧ ∃ v, atoiF w = some (v, true))
 ∨ (∃ v, atoiF w = some (v, false) ∧ itoaF v = some (decS v) ∧ ((uW d w = none ∧ decide ((decS v).data.toList = w.data.toList) = false) ∨ (decide ((decS v).data.toList = w.data.toList) = true ∧ ((uW d w = none ∧ decide (((strL (trimS w.data.toList)).size : Int) > (d : Int)) = true) ∨ (decide (((strL (trimS w.data.toList)).size : Int) > (d : Int)) = false ∧ ((uW d w = none ∧ decide (v < 0) = true) ∨ (uW d w = some v ∧ decide (v < 0) = false))))))) := by
 rcases word_cases w hw with ⟨v, a1, a2, a3, a4⟩ | ⟨v, a1, a4⟩
 ·have a4 := a4 d hd
  refine .inr ⟨v, a1, itoaF_eq a2 a3, ?_⟩
  by_cases hq : Lib.itoa v = w.data.toList
  ·refine .inr ⟨decide_eq_true hq, ?_⟩
   rw [strL_len]
   by_cases ht : (trimS w.data.toList).length ≤ d
   ·refine .inr ⟨decide_eq_false (by omega), ?_⟩
    rw [if_pos ⟨hq, ht⟩] at a4
    unfold uW
    rw [a4]
    by_cases hv : v < 0
    ·exact .inl ⟨by simp only [decide_eq_true hv, cond_true], decide_eq_true hv⟩
    ·exact .inr ⟨by simp only [decide_eq_false hv, cond_false], decide_eq_false hv⟩
   ·refine .inl ⟨?_, decide_eq_true (by omega)⟩
    rw [if_neg (fun e => ht e.2)] at a4
    unfold uW
    rw [a4]
  ·refine .inl ⟨?_, decide_eq_false hq⟩
   rw [if_neg (fun e => hq e.1)] at a4
   unfold uW
   rw [a4]
 ·refine .inl ⟨?_, v, a1⟩
  unfold uW
  rw [a4 d hd]
theorem first7 (e : Int) : firstE [7, e] = 7 := rfl
theorem first0 (e : Int) : firstE [0, e] = e := by
 show (bif (0 : Int) != 0 then 0 else bif e != 0 then e else 0) = e
 by_cases h : e = 0
 ·subst h; rfl
 ·rw [bne_iff_ne.2 h]; rfl
theorem uW_own {v : Int} {d : Nat} (hd : 1 ≤ d) (h1 : 0 ≤ v) (h2 : v < (10 ^ d : Nat)) : uW d (decS v) = some v := by
 unfold uW
 rw [decS_list, numR_own (trim_itoa hd (by omega) h2)]
 simp only [decide_eq_false (show ¬ v < 0 by omega), cond_false]
def sW (d : Nat) (w : ByteArray) : Option Int := numR w.data.toList d
theorem sw_cases (d : Nat) (hd : d ≤ 18) (w : ByteArray) (hw : w.size ≤ 1000000) :
 (sW d w = none ∧ ∃ v, atoiF w = some (v, true))
 ∨ (∃ v, atoiF w = some (v, false) ∧ itoaF v = some (decS v) ∧ ((sW d w = none ∧ decide ((decS v).data.toList = w.data.toList) = false) ∨ (decide ((decS v).data.toList = w.data.toList) = true ∧ ((sW d w = none ∧ decide (((strL (trimS w.data.toList)).size : Int) > (d : Int)) = true) ∨ (decide (((strL (trimS w.data.toList)).size : Int) > (d : Int)) = false ∧ sW d w = some v))))) := by
 rcases word_cases w hw with ⟨v, a1, a2, a3, a4⟩ | ⟨v, a1, a4⟩
 ·have a4 := a4 d hd
  refine .inr ⟨v, a1, itoaF_eq a2 a3, ?_⟩
  by_cases hq : Lib.itoa v = w.data.toList
  ·refine .inr ⟨decide_eq_true hq, ?_⟩
   rw [strL_len]
   by_cases ht : (trimS w.data.toList).length ≤ d
   ·refine .inr ⟨decide_eq_false (by omega), ?_⟩
    rw [if_pos ⟨hq, ht⟩] at a4
    exact a4
   ·refine .inl ⟨?_, decide_eq_true (by omega)⟩
    rw [if_neg (fun e => ht e.2)] at a4
    exact a4
  ·refine .inl ⟨?_, decide_eq_false hq⟩
   rw [if_neg (fun e => hq e.1)] at a4
   exact a4
 ·exact .inl ⟨a4 d hd, v, a1⟩
def badM : Msr × Int := ((0, 0, 0, 0, 0), 7)
noncomputable def mV (m : Msr) : Msr × Int := bif mErr m != 0 then ((0, 0, 0, 0, 0), mErr m) else (m, 0)
noncomputable def mAt (a b c : ByteArray) : Msr × Int := match uW 4 a with
 | none => badM
 | some t => match sW 6 b with
   | none => badM
   | some lo => match sW 6 c with
     | none => badM
     | some hi => mV (0, 0, t, lo, hi)
noncomputable def mFrom (a b c d : ByteArray) : Msr × Int := match uW 4 a with
 | none => badM
 | some f => match uW 4 b with
   | none => badM
   | some t => match sW 6 c with
     | none => badM
     | some lo => match sW 6 d with
       | none => badM
       | some hi => mV (1, f, t, lo, hi)
def atL : List UInt8 := [97, 116]
def frL : List UInt8 := [102, 114, 111, 109]
noncomputable def mP (k : ByteArray) (ws : List ByteArray) : Msr × Int :=
 if k.data.toList = atL then (if ws.length = 3 then mAt (ws.getD 0 ByteArray.empty) (ws.getD 1 ByteArray.empty) (ws.getD 2 ByteArray.empty) else badM)
 else if k.data.toList = frL then (if ws.length = 4 then mFrom (ws.getD 0 ByteArray.empty) (ws.getD 1 ByteArray.empty) (ws.getD 2 ByteArray.empty) (ws.getD 3 ByteArray.empty) else badM)
 else badM
noncomputable def mW : List ByteArray → Msr × Int
 | [] => badM
 | k :: ws => mP k ws
theorem s35_eq (w : ByteArray) : s35 ([ByteArray.mk #[97, 116], ByteArray.mk #[102, 114, 111, 109]], w) = some (if w.data.toList = atL then 0 else if w.data.toList = frL then 1 else -1) := by
 unfold s35
 have e0 : ((ByteArray.mk #[97, 116]).data.toList) = atL := rfl
 have e1 : ((ByteArray.mk #[102, 114, 111, 109]).data.toList) = frL := rfl
 have g0 : ([ByteArray.mk #[97, 116], ByteArray.mk #[102, 114, 111, 109]] : List ByteArray).getD (Int.toNat 0) ByteArray.empty = ByteArray.mk #[97, 116] := rfl
 have g1 : ([ByteArray.mk #[97, 116], ByteArray.mk #[102, 114, 111, 109]] : List ByteArray).getD (Int.toNat 1) ByteArray.empty = ByteArray.mk #[102, 114, 111, 109] := rfl
 have b0 : inBounds 0 ([ByteArray.mk #[97, 116], ByteArray.mk #[102, 114, 111, 109]] : List ByteArray).length = true := rfl
 have b1 : inBounds 1 ([ByteArray.mk #[97, 116], ByteArray.mk #[102, 114, 111, 109]] : List ByteArray).length = true := rfl
 have l2 : ((([ByteArray.mk #[97, 116], ByteArray.mk #[102, 114, 111, 109]] : List ByteArray).length : Nat) : Int) = 2 := rfl
 have w1 : wr (0 + 1) = 1 := rfl
 have w2 : wr (1 + 1) = 2 := rfl
 dsimp only
 rw [l2]
 by_cases h0 : w.data.toList = atL
 ·rw [loopVal_last (e := .inl 0) (by
   simp only [step35_0, b0, g0, e0, cond_true]
   rw [decide_eq_true (show (0 : Int) < 2 by omega), decide_eq_true (show w.data.toList = [97, 116] from h0)]; rfl), if_pos h0]
  rfl
 rw [if_neg h0, loopVal_next (y := ([ByteArray.mk #[97, 116], ByteArray.mk #[102, 114, 111, 109]], w, 2, 1)) (by
  simp only [step35_0, b0, g0, e0, cond_true]
  rw [decide_eq_true (show (0 : Int) < 2 by omega), decide_eq_false (show ¬ w.data.toList = [97, 116] from h0)]; rfl)]
 by_cases h1 : w.data.toList = frL
 ·rw [loopVal_last (e := .inl 1) (by
   simp only [step35_0, b1, g1, e1, cond_true]
   rw [decide_eq_true (show (1 : Int) < 2 by omega), decide_eq_true (show w.data.toList = [102, 114, 111, 109] from h1)]; rfl), if_pos h1]
  rfl
 rw [if_neg h1, loopVal_next (y := ([ByteArray.mk #[97, 116], ByteArray.mk #[102, 114, 111, 109]], w, 2, 2)) (by
  simp only [step35_0, b1, g1, e1, cond_true]
  rw [decide_eq_true (show (1 : Int) < 2 by omega), decide_eq_false (show ¬ w.data.toList = [102, 114, 111, 109] from h1)]; rfl)]
 rw [loopVal_last (e := .inr ()) (by
     simp only [step35_0]
     rw [decide_eq_false (show ¬ (2 : Int) < 2 by omega)]; rfl)]
 rfl
def hdW (s : ByteArray) : ByteArray := strL (Lib.cut s.data.toList [32]).1
def tlW (s : ByteArray) : ByteArray := strL (Lib.cut s.data.toList [32]).2.1
theorem cutF_eq (s : ByteArray) (hs : s.size ≤ 1000000) : ∃ b, cutF (s, ByteArray.mk #[32]) = some (hdW s, tlW s, b) := by
 unfold cutF
 rw [decide_eq_true (show s.size < 4294967281 by omega), cond_true]
 exact ⟨_, rfl⟩
theorem cut_parts (s : ByteArray) : (hdW s = s ∧ tlW s = strL [] ∧ wordsOf s = [s]) ∨ (wordsOf s = hdW s :: wordsOf (tlW s) ∧ (tlW s).size ≤ s.size) := by
 unfold hdW tlW Lib.cut wordsOf
 rcases index_one 32 s.data.toList with ⟨h, hn⟩ | ⟨i, h, h1, h2⟩
 ·left
  rw [h, if_neg (by omega), cutL_none hn]
  exact ⟨strL_self s, rfl, by rw [List.map_cons, List.map_nil, strL_self]⟩
 ·right
  rw [h, if_pos (by omega), cutL_at h1 h2]
  refine ⟨?_, ?_⟩
  ·simp only [Int.toNat_natCast, List.length_cons, List.length_nil, Nat.zero_add, List.map_cons, strL_toList]
  ·rw [strL_len, List.length_drop, sizeW]; omega
theorem mP_short (k : ByteArray) : mP k (wordsOf (strL [])) = badM := by
 have h : (wordsOf (strL [])).length = 1 := rfl
 unfold mP
 rw [h]
 simp
theorem mP_nil (k : ByteArray) : mP k [] = badM := by
 unfold mP
 simp
theorem mW_cut (s : ByteArray) : mP (hdW s) (wordsOf (tlW s)) = mW (wordsOf s) := by
 rcases cut_parts s with ⟨h1, h2, h3⟩ | ⟨h, _⟩
 ·rw [h1, h2, h3, mP_short]
  exact (mP_nil s).symm
 ·rw [h]; rfl
theorem tlW_size (s : ByteArray) : (tlW s).size ≤ s.size := by
 rcases cut_parts s with ⟨_, h2, _⟩ | ⟨_, h⟩
 ·rw [h2, strL_len]; exact Nat.zero_le _
 ·exact h
theorem s13_eq (s : ByteArray) (hs : s.size ≤ 1000) : s13 s = some (mW (wordsOf s)) := by
 rw [← mW_cut s]
 unfold s13 mP
 obtain ⟨fb, hc⟩ := cutF_eq s (by omega)
 rw [hc]
 have hl := tlW_size s
 have hsp : splitF (tlW s, ByteArray.mk #[32]) = some (wordsOf (tlW s)) := splitF_eq (tlW s) 32 (by omega)
 have hz : ∀ w ∈ wordsOf (tlW s), w.size ≤ 1000 := fun w hw => by have := wordsOf_size hw; omega
 simp only [optE_some, s35_eq, first0, trimF_eq, hsp]
 generalize wordsOf (tlW s) = ws at hz
 clear hsp hc
 have e7 : ((7 : Int) != 0) = true := rfl
 have f7 : ∀ e, firstE [7, e] = 7 := first7
 by_cases k0 : (hdW s).data.toList = atL
 ·rw [if_pos k0, if_pos k0]
  rw [show decide ((0 : Int) < 0) = false from rfl, show ((0 : Int) == 0) = true from rfl]
  simp only [cond_true, cond_false]
  unfold mAt
  by_cases h3 : ws.length = 3
  case neg =>
   rw [if_neg h3, show (((ws.length : Nat) : Int) != 3) = true by rw [bne_iff_ne]; omega]
   simp only [f7, e7, optE_some, cond_true]
   rfl
  rw [if_pos h3, show (((ws.length : Nat) : Int) != 3) = false by rw [h3]; rfl]
  simp only [cond_false]
  have hb : ∀ k : Nat, k < 3 → inBounds (k : Int) ws.length = true := fun k hk => by rw [inB_cast, h3]; exact decide_eq_true hk
  have hb0 : inBounds 0 ws.length = true := hb 0 (by omega)
  have hb1 : inBounds 1 ws.length = true := hb 1 (by omega)
  have hb2 : inBounds 2 ws.length = true := hb 2 (by omega)
  simp only [hb0, hb1, hb2, cond_true, cond_false]
  have z0 : (ws.getD 0 ByteArray.empty).size ≤ 1000 := hz _ (getDW_mem (by omega))
  have z1 : (ws.getD 1 ByteArray.empty).size ≤ 1000 := hz _ (getDW_mem (by omega))
  have z2 : (ws.getD 2 ByteArray.empty).size ≤ 1000 := hz _ (getDW_mem (by omega))
  generalize ws.getD 0 ByteArray.empty = x0 at z0 ⊢
  generalize ws.getD 1 ByteArray.empty = x1 at z1 ⊢
  generalize ws.getD 2 ByteArray.empty = x2 at z2 ⊢
  rcases uw_cases 4 (by omega) x0 (by omega) with ⟨h, v, a1⟩ | ⟨u0, a1, a2, ⟨h, b⟩ | ⟨b, ⟨h, c⟩ | ⟨c, ⟨h, d⟩ | ⟨h, d⟩⟩⟩⟩
  ·simp only [h, a1, optE_some, cond_true, cond_false, Bool.not_true, Bool.not_false, first7, e7, badM]
  ·simp only [h, a1, a2, b, optE_some, cond_true, cond_false, Bool.not_true, Bool.not_false, first7, e7, badM]
  ·simp only [h, a1, a2, b, optE_some, cond_true, cond_false, Bool.not_true, Bool.not_false, first7, e7, badM]
   rw [show decide (((strL (trimS x0.data.toList)).size : Int) > 4) = true from c]
   simp only [optE_some, cond_true, cond_false, Bool.not_true, Bool.not_false, first7, e7, badM]
  ·simp only [h, a1, a2, b, optE_some, cond_true, cond_false, Bool.not_true, Bool.not_false, first7, e7, badM]
   rw [show decide (((strL (trimS x0.data.toList)).size : Int) > 4) = false from c, d]
   simp only [optE_some, cond_true, cond_false, Bool.not_true, Bool.not_false, first7, e7, badM]
  simp only [h, a1, a2, b, optE_some, cond_true, cond_false, Bool.not_true, Bool.not_false, first7, e7, badM]
  rw [show decide (((strL (trimS x0.data.toList)).size : Int) > 4) = false from c, d]
  simp only [Bool.cond_self, optE_some, cond_true, cond_false, Bool.not_true, Bool.not_false, first7, e7, badM]
  clear h a1 a2 b c d
  rcases sw_cases 6 (by omega) x1 (by omega) with ⟨h, v, a1⟩ | ⟨u1, a1, a2, ⟨h, b⟩ | ⟨b, ⟨h, c⟩ | ⟨c, h⟩⟩⟩
  ·simp only [h, a1, optE_some, cond_true, cond_false, Bool.not_true, Bool.not_false, first7, e7, badM]
  ·simp only [h, a1, a2, b, optE_some, cond_true, cond_false, Bool.not_true, Bool.not_false, first7, e7, badM]
  ·simp only [h, a1, a2, b, optE_some, cond_true, cond_false, Bool.not_true, Bool.not_false, first7, e7, badM]
   rw [show decide (((strL (trimS x1.data.toList)).size : Int) > 6) = true from c]
   simp only [optE_some, cond_true, cond_false, Bool.not_true, Bool.not_false, first7, e7, badM]
  simp only [h, a1, a2, b, optE_some, cond_true, cond_false, Bool.not_true, Bool.not_false, first7, e7, badM]
  rw [show decide (((strL (trimS x1.data.toList)).size : Int) > 6) = false from c]
  simp only [Bool.cond_self, optE_some, cond_true, cond_false, Bool.not_true, Bool.not_false, first7, e7, badM]
  clear h a1 a2 b c
  rcases sw_cases 6 (by omega) x2 (by omega) with ⟨h, v, a1⟩ | ⟨u2, a1, a2, ⟨h, b⟩ | ⟨b, ⟨h, c⟩ | ⟨c, h⟩⟩⟩
  ·simp only [h, a1, optE_some, cond_true, cond_false, Bool.not_true, Bool.not_false, first7, e7, badM]
  ·simp only [h, a1, a2, b, optE_some, cond_true, cond_false, Bool.not_true, Bool.not_false, first7, e7, badM]
  ·simp only [h, a1, a2, b, optE_some, cond_true, cond_false, Bool.not_true, Bool.not_false, first7, e7, badM]
   rw [show decide (((strL (trimS x2.data.toList)).size : Int) > 6) = true from c]
   simp only [optE_some, cond_true, cond_false, Bool.not_true, Bool.not_false, first7, e7, badM]
  simp only [h, a1, a2, b, optE_some, cond_true, cond_false, Bool.not_true, Bool.not_false, first7, e7, badM]
  rw [show decide (((strL (trimS x2.data.toList)).size : Int) > 6) = false from c]
  simp only [Bool.cond_self, optE_some, cond_true, cond_false, Bool.not_true, Bool.not_false, first7, e7, badM]
  clear h a1 a2 b c
  unfold mV
  cases mErr (0, 0, u0, u1, u2) != 0 <;> rfl
 rw [if_neg k0, if_neg k0]
 by_cases k1 : (hdW s).data.toList = frL
 ·rw [if_pos k1, if_pos k1]
  rw [show decide ((1 : Int) < 0) = false from rfl, show ((1 : Int) == 0) = false from rfl]
  simp only [cond_true, cond_false]
  unfold mFrom
  by_cases h3 : ws.length = 4
  case neg =>
   rw [if_neg h3, show (((ws.length : Nat) : Int) != 4) = true by rw [bne_iff_ne]; omega]
   simp only [f7, e7, optE_some, cond_true]
   rfl
  rw [if_pos h3, show (((ws.length : Nat) : Int) != 4) = false by rw [h3]; rfl]
  simp only [cond_false]
  have hb : ∀ k : Nat, k < 4 → inBounds (k : Int) ws.length = true := fun k hk => by rw [inB_cast, h3]; exact decide_eq_true hk
  have hb0 : inBounds 0 ws.length = true := hb 0 (by omega)
  have hb1 : inBounds 1 ws.length = true := hb 1 (by omega)
  have hb2 : inBounds 2 ws.length = true := hb 2 (by omega)
  have hb3 : inBounds 3 ws.length = true := hb 3 (by omega)
  simp only [hb0, hb1, hb2, hb3, cond_true, cond_false]
  have z0 : (ws.getD 0 ByteArray.empty).size ≤ 1000 := hz _ (getDW_mem (by omega))
  have z1 : (ws.getD 1 ByteArray.empty).size ≤ 1000 := hz _ (getDW_mem (by omega))
  have z2 : (ws.getD 2 ByteArray.empty).size ≤ 1000 := hz _ (getDW_mem (by omega))
  have z3 : (ws.getD 3 ByteArray.empty).size ≤ 1000 := hz _ (getDW_mem (by omega))
  generalize ws.getD 0 ByteArray.empty = x0 at z0 ⊢
  generalize ws.getD 1 ByteArray.empty = x1 at z1 ⊢
  generalize ws.getD 2 ByteArray.empty = x2 at z2 ⊢
  generalize ws.getD 3 ByteArray.empty = x3 at z3 ⊢
  rcases uw_cases 4 (by omega) x0 (by omega) with ⟨h, v, a1⟩ | ⟨u0, a1, a2, ⟨h, b⟩ | ⟨b, ⟨h, c⟩ | ⟨c, ⟨h, d⟩ | ⟨h, d⟩⟩⟩⟩
  ·simp only [h, a1, optE_some, cond_true, cond_false, Bool.not_true, Bool.not_false, first7, e7, badM]
  ·simp only [h, a1, a2, b, optE_some, cond_true, cond_false, Bool.not_true, Bool.not_false, first7, e7, badM]
  ·simp only [h, a1, a2, b, optE_some, cond_true, cond_false, Bool.not_true, Bool.not_false, first7, e7, badM]
   rw [show decide (((strL (trimS x0.data.toList)).size : Int) > 4) = true from c]
   simp only [optE_some, cond_true, cond_false, Bool.not_true, Bool.not_false, first7, e7, badM]
  ·simp only [h, a1, a2, b, optE_some, cond_true, cond_false, Bool.not_true, Bool.not_false, first7, e7, badM]
   rw [show decide (((strL (trimS x0.data.toList)).size : Int) > 4) = false from c, d]
   simp only [optE_some, cond_true, cond_false, Bool.not_true, Bool.not_false, first7, e7, badM]
  simp only [h, a1, a2, b, optE_some, cond_true, cond_false, Bool.not_true, Bool.not_false, first7, e7, badM]
  rw [show decide (((strL (trimS x0.data.toList)).size : Int) > 4) = false from c, d]
  simp only [Bool.cond_self, optE_some, cond_true, cond_false, Bool.not_true, Bool.not_false, first7, e7, badM]
  clear h a1 a2 b c d
  rcases uw_cases 4 (by omega) x1 (by omega) with ⟨h, v, a1⟩ | ⟨u1, a1, a2, ⟨h, b⟩ | ⟨b, ⟨h, c⟩ | ⟨c, ⟨h, d⟩ | ⟨h, d⟩⟩⟩⟩
  ·simp only [h, a1, optE_some, cond_true, cond_false, Bool.not_true, Bool.not_false, first7, e7, badM]
  ·simp only [h, a1, a2, b, optE_some, cond_true, cond_false, Bool.not_true, Bool.not_false, first7, e7, badM]
  ·simp only [h, a1, a2, b, optE_some, cond_true, cond_false, Bool.not_true, Bool.not_false, first7, e7, badM]
   rw [show decide (((strL (trimS x1.data.toList)).size : Int) > 4) = true from c]
   simp only [optE_some, cond_true, cond_false, Bool.not_true, Bool.not_false, first7, e7, badM]
  ·simp only [h, a1, a2, b, optE_some, cond_true, cond_false, Bool.not_true, Bool.not_false, first7, e7, badM]
   rw [show decide (((strL (trimS x1.data.toList)).size : Int) > 4) = false from c, d]
   simp only [optE_some, cond_true, cond_false, Bool.not_true, Bool.not_false, first7, e7, badM]
  simp only [h, a1, a2, b, optE_some, cond_true, cond_false, Bool.not_true, Bool.not_false, first7, e7, badM]
  rw [show decide (((strL (trimS x1.data.toList)).size : Int) > 4) = false from c, d]
  simp only [Bool.cond_self, optE_some, cond_true, cond_false, Bool.not_true, Bool.not_false, first7, e7, badM]
  clear h a1 a2 b c d
  rcases sw_cases 6 (by omega) x2 (by omega) with ⟨h, v, a1⟩ | ⟨u2, a1, a2, ⟨h, b⟩ | ⟨b, ⟨h, c⟩ | ⟨c, h⟩⟩⟩
  ·simp only [h, a1, optE_some, cond_true, cond_false, Bool.not_true, Bool.not_false, first7, e7, badM]
  ·simp only [h, a1, a2, b, optE_some, cond_true, cond_false, Bool.not_true, Bool.not_false, first7, e7, badM]
  ·simp only [h, a1, a2, b, optE_some, cond_true, cond_false, Bool.not_true, Bool.not_false, first7, e7, badM]
   rw [show decide (((strL (trimS x2.data.toList)).size : Int) > 6) = true from c]
   simp only [optE_some, cond_true, cond_false, Bool.not_true, Bool.not_false, first7, e7, badM]
  simp only [h, a1, a2, b, optE_some, cond_true, cond_false, Bool.not_true, Bool.not_false, first7, e7, badM]
  rw [show decide (((strL (trimS x2.data.toList)).size : Int) > 6) = false from c]
  simp only [Bool.cond_self, optE_some, cond_true, cond_false, Bool.not_true, Bool.not_false, first7, e7, badM]
  clear h a1 a2 b c
  rcases sw_cases 6 (by omega) x3 (by omega) with ⟨h, v, a1⟩ | ⟨u3, a1, a2, ⟨h, b⟩ | ⟨b, ⟨h, c⟩ | ⟨c, h⟩⟩⟩
  ·simp only [h, a1, optE_some, cond_true, cond_false, Bool.not_true, Bool.not_false, first7, e7, badM]
  ·simp only [h, a1, a2, b, optE_some, cond_true, cond_false, Bool.not_true, Bool.not_false, first7, e7, badM]
  ·simp only [h, a1, a2, b, optE_some, cond_true, cond_false, Bool.not_true, Bool.not_false, first7, e7, badM]
   rw [show decide (((strL (trimS x3.data.toList)).size : Int) > 6) = true from c]
   simp only [optE_some, cond_true, cond_false, Bool.not_true, Bool.not_false, first7, e7, badM]
  simp only [h, a1, a2, b, optE_some, cond_true, cond_false, Bool.not_true, Bool.not_false, first7, e7, badM]
  rw [show decide (((strL (trimS x3.data.toList)).size : Int) > 6) = false from c]
  simp only [Bool.cond_self, optE_some, cond_true, cond_false, Bool.not_true, Bool.not_false, first7, e7, badM]
  clear h a1 a2 b c
  unfold mV
  cases mErr (1, u0, u1, u2, u3) != 0 <;> rfl
 rw [if_neg k1, if_neg k1]
 rfl
def wordN (k : List UInt8) (l : List Int) : ByteArray := strL (Lib.join (k :: l.map Lib.itoa) [32])
theorem wordN_join (k : List UInt8) (x : Int) (l : List Int) : wordN k (x :: l) = strL k ++ ByteArray.mk #[32] ++ joinS (x :: l) := by
 unfold wordN joinS
 refine str_ext ?_
 rw [app_toList, app_toList, strL_toList, strL_toList, strL_toList, List.map_cons, Lib.join_cons, Lib.join_cons]
 simp [Lib.joinTail]
def fmtM (m : Msr) : ByteArray := if m.1 = 0 then wordN atL [m.2.2.1, m.2.2.2.1, m.2.2.2.2] else if m.1 = 1 then wordN frL [m.2.1, m.2.2.1, m.2.2.2.1, m.2.2.2.2] else strL []
def inM (m : Msr) : Prop := inI m.1 ∧ inI m.2.1 ∧ inI m.2.2.1 ∧ inI m.2.2.2.1 ∧ inI m.2.2.2.2
theorem joinS_size (l : List Int) (hi : ∀ x ∈ l, inI x) : (joinS l).size ≤ 21 * l.length := by
 unfold joinS
 rw [strL_len]
 have := join_len (l.map Lib.itoa) (fun x hx => by
  obtain ⟨n, hn, rfl⟩ := List.mem_map.1 hx
  exact itoa_len (hi n hn).1 (hi n hn).2)
 rw [List.length_map] at this
 exact this
theorem s14_eq (m : Msr) (h : inM m) : s14 m = some (fmtM m) := by
 obtain ⟨_, h1, h2, h3, h4⟩ := h
 unfold s14 fmtM
 have mA : ∀ x ∈ [m.2.2.1, m.2.2.2.1, m.2.2.2.2], inI x := fun x hx => by
  simp only [List.mem_cons, List.not_mem_nil, or_false] at hx
  rcases hx with rfl | rfl | rfl
  ·exact h2
  ·exact h3
  ·exact h4
 have mF : ∀ x ∈ [m.2.1, m.2.2.1, m.2.2.2.1, m.2.2.2.2], inI x := fun x hx => by
  simp only [List.mem_cons, List.not_mem_nil, or_false] at hx
  rcases hx with rfl | rfl | rfl | rfl
  ·exact h1
  ·exact h2
  ·exact h3
  ·exact h4
 have hA := joinF_nums _ (by simp) mA
 have hF := joinF_nums _ (by simp) mF
 have zA := joinS_size _ mA
 have zF := joinS_size _ mF
 have hA : joinF ([decS m.2.2.1, decS m.2.2.2.1, decS m.2.2.2.2], ByteArray.mk #[32]) = _ := hA
 have hF : joinF ([decS m.2.1, decS m.2.2.1, decS m.2.2.2.1, decS m.2.2.2.2], ByteArray.mk #[32]) = _ := hF
 simp only [List.length_cons, List.length_nil] at zA zF
 simp only [itoaF_eq h1.1 h1.2, itoaF_eq h2.1 h2.2, itoaF_eq h3.1 h3.2, itoaF_eq h4.1 h4.2, optE_some, hA, hF]
 by_cases k0 : m.1 = 0
 ·rw [if_pos k0, k0, wordN_join]
  have hz : ((strL atL) ++ ByteArray.mk #[32]).size = 3 := rfl
  rw [show win 0 0 1 = true from rfl, show inBounds 0 2 = true from rfl, show ((0 : Int) == 0) = true from rfl]
  simp only [Bool.not_true, cond_false, cond_true]
  show (bif decide ((strL atL).size + 1 ≤ 9223372036854775807) then bif decide (((strL atL) ++ ByteArray.mk #[32]).size + _ ≤ _) then some ((strL atL) ++ ByteArray.mk #[32] ++ _) else none else none) = _
  rw [hz, show (strL atL).size = 2 from rfl, decide_eq_true (by omega), cond_true, decide_eq_true (by omega), cond_true]
 rw [if_neg k0]
 by_cases k1 : m.1 = 1
 ·rw [if_pos k1, k1, wordN_join]
  have hz : ((strL frL) ++ ByteArray.mk #[32]).size = 5 := rfl
  rw [show win 1 0 1 = true from rfl, show inBounds 1 2 = true from rfl, show ((1 : Int) == 0) = false from rfl]
  simp only [Bool.not_true, cond_false, cond_true]
  show (bif decide ((strL frL).size + 1 ≤ 9223372036854775807) then bif decide (((strL frL) ++ ByteArray.mk #[32]).size + _ ≤ _) then some ((strL frL) ++ ByteArray.mk #[32] ++ _) else none else none) = _
  rw [hz, show (strL frL).size = 4 from rfl, decide_eq_true (by omega), cond_true, decide_eq_true (by omega), cond_true]
 rw [if_neg k1, show win m.1 0 1 = false by
  cases hw : win m.1 0 1 with
  | false => rfl
  | true => have := win_iff.1 hw; omega]
 rfl
theorem wordN_words (k : List UInt8) (hk : (32 : UInt8) ∉ k) (l : List Int) : wordsOf (wordN k l) = strL k :: l.map decS := by
 unfold wordsOf wordN
 rw [strL_toList, cutL_join _ _ hk (fun y hy => by obtain ⟨q, _, rfl⟩ := List.mem_map.1 hy; exact itoa_space q), List.map_cons, List.map_map]
 rfl
theorem sW_own {v : Int} {d : Nat} (hd : 1 ≤ d) (h1 : -(10 ^ d : Nat) < v) (h2 : v < (10 ^ d : Nat)) : sW d (decS v) = some v := by
 unfold sW
 rw [decS_list]
 exact numR_own (trim_itoa hd h1 h2)
theorem meas_back {m : Msr} (h : mErr m = 0) : mW (wordsOf (fmtM m)) = (m, 0) := by
 have hm := mErr_ok.1 h
 obtain ⟨k, f, t, lo, hi⟩ := m
 simp only at hm
 have hk : k = 0 ∨ k = 1 := by omega
 have hf : 0 ≤ f ∧ f ≤ 1000 := by omega
 have ht : 0 ≤ t ∧ t ≤ 1000 := by omega
 have hlo : -100000 ≤ lo ∧ lo ≤ 100000 := by omega
 have hhi : -100000 ≤ hi ∧ hi ≤ 100000 := by omega
 have h0 : k = 0 → f = 0 := by omega
 rcases hk with rfl | rfl
 ·obtain rfl := h0 rfl
  show mW (wordsOf (wordN atL [t, lo, hi])) = _
  rw [wordN_words _ (by decide)]
  show mP (strL atL) [decS t, decS lo, decS hi] = _
  unfold mP
  rw [if_pos (show (strL atL).data.toList = atL from rfl), if_pos (show [decS t, decS lo, decS hi].length = 3 from rfl)]
  show mAt (decS t) (decS lo) (decS hi) = _
  unfold mAt
  rw [uW_own (by omega) (by omega) (by omega), sW_own (by omega) (by omega) (by omega), sW_own (by omega) (by omega) (by omega)]
  simp only [mV, h, bne_self_eq_false, cond_false]
 ·show mW (wordsOf (wordN frL [f, t, lo, hi])) = _
  rw [wordN_words _ (by decide)]
  show mP (strL frL) [decS f, decS t, decS lo, decS hi] = _
  unfold mP
  rw [if_neg (show ¬ (strL frL).data.toList = atL by decide), if_pos (show (strL frL).data.toList = frL from rfl), if_pos (show [decS f, decS t, decS lo, decS hi].length = 4 from rfl)]
  show mFrom (decS f) (decS t) (decS lo) (decS hi) = _
  unfold mFrom
  rw [uW_own (by omega) (by omega) (by omega), uW_own (by omega) (by omega) (by omega), sW_own (by omega) (by omega) (by omega), sW_own (by omega) (by omega) (by omega)]
  simp only [mV, h, bne_self_eq_false, cond_false]
theorem fmtM_size (m : Msr) (h : inM m) : (fmtM m).size ≤ 1000 := by
 obtain ⟨_, h1, h2, h3, h4⟩ := h
 unfold fmtM
 have key : ∀ (k : List UInt8) (l : List Int), k.length ≤ 10 → l.length ≤ 4 → (∀ x ∈ l, inI x) → (wordN k l).size ≤ 1000 := fun k l hk hl hi => by
  unfold wordN
  rw [strL_len]
  have := join_len (k :: l.map Lib.itoa) (fun x hx => by
   rcases List.mem_cons.1 hx with rfl | hx
   ·omega
   obtain ⟨n, hn, rfl⟩ := List.mem_map.1 hx
   exact itoa_len (hi n hn).1 (hi n hn).2)
  rw [List.length_cons, List.length_map] at this
  omega
 split
 ·exact key _ _ (by decide) (by simp) (fun x hx => by
   simp only [List.mem_cons, List.not_mem_nil, or_false] at hx
   rcases hx with rfl | rfl | rfl
   ·exact h2
   ·exact h3
   ·exact h4)
 split
 ·exact key _ _ (by decide) (by simp) (fun x hx => by
   simp only [List.mem_cons, List.not_mem_nil, or_false] at hx
   rcases hx with rfl | rfl | rfl | rfl
   ·exact h1
   ·exact h2
   ·exact h3
   ·exact h4)
 ·rw [strL_len]; exact Nat.zero_le _
end Go.Proofs.YtfpppijfkeidgaaGreatDoor
