import Derived.Test.YtdoehknomnhlkaaGreatDoorG71
import Derived.Test.YtdoehknomnhlkaaGreatDoorToneStr
set_option linter.unusedSimpArgs false
namespace Go.Proofs.YtdoehknomnhlkaaGreatDoor
open Go.Ev
abbrev Msr := Int × Int × Int × Int × Int
theorem dec_ge (a b : Int) : decide (a ≥ b) = !decide (a < b) := by
 by_cases h : a < b
 ·rw [decide_eq_true h, decide_eq_false (show ¬ a ≥ b by omega)]; rfl
 ·rw [decide_eq_false h, decide_eq_true (show a ≥ b by omega)]; rfl
theorem dec_gt (a b : Int) : decide (a > b) = !decide (a ≤ b) := by
 by_cases h : a ≤ b
 ·rw [decide_eq_true h, decide_eq_false (show ¬ a > b by omega)]; rfl
 ·rw [decide_eq_false h, decide_eq_true (show a > b by omega)]; rfl
def mErr (m : Msr) : Int :=
 firstE [unl (win m.1 0 1) 15, unl (win m.2.1 0 1000 && (win m.2.2.1 0 1000 && (win m.2.2.2.1 (-100000) 100000 && win m.2.2.2.2 (-100000) 100000))) 2, unl (m.1 == 1 || m.2.1 == 0) 3, unl (!(m.1 == 1) || decide (m.2.1 < m.2.2.1)) 9, unl (decide (m.2.2.2.1 ≤ m.2.2.2.2)) 9]
theorem s152_eq (n : Int) : s152 n = some (unl (win n 0 1000) 2) := by
 unfold s152; simp only [s117_eq, s145_eq, optE_some]
theorem s148_eq (n m : Int) : s148 (n, m) = some (win n (wr (-m)) m) := by
 unfold s148; simp only [s117_eq, optE_some]
theorem s121_eq (m : Msr) : s121 m = some (mErr m) := by
 obtain ⟨k, f, t, lo, hi⟩ := m
 have e : wr (-100000) = -100000 := rfl
 simp only [s121, mErr, s152_eq, s148_eq, s117_eq, s145_eq, optE_some, e, s106_eq _ (show ([_, _, _, _, _] : List Int).length ≤ 1000 by simp)]
 cases win f 0 1000 <;> cases win t 0 1000 <;> cases win lo (-100000) 100000 <;> cases (k == 1) <;> rfl
theorem s40_eq (m : Msr) : s40 m = some (mErr m) := by
 obtain ⟨k, f, t, lo, hi⟩ := m
 simp only [s40, mErr, s51_eq, dec_ge f t, dec_gt lo hi, bne, optE_some]
 cases hk : win k 0 1
 ·rfl
 ·have hk := win_iff.1 hk
  rcases (show k = 0 ∨ k = 1 by omega) with rfl | rfl <;>
   cases win f 0 1000 <;> cases win t 0 1000 <;> cases win lo (-100000) 100000 <;> cases win hi (-100000) 100000 <;> cases (f == 0) <;> cases decide (f < t) <;> cases decide (lo ≤ hi) <;> rfl
def sW (d : Nat) (w : ByteArray) : Option Int := numR w.data.toList d
theorem sw_cases (d : Nat) (hd : d ≤ 18) (w : ByteArray) (hw : w.size ≤ 1000000) :
 (sW d w = none ∧ ∃ v, atoiF w = some (v, true))
 ∨ (∃ v, atoiF w = some (v, false) ∧ itoaF v = some (decS v) ∧ ((sW d w = none ∧ decide ((decS v).data.toList = w.data.toList) = false) ∨ (decide ((decS v).data.toList = w.data.toList) = true ∧ ((sW d w = none ∧ decide (((strL (trimS w.data.toList)).size : Int) > (d : Int)) = true) ∨ (decide (((strL (trimS w.data.toList)).size : Int) > (d : Int)) = false ∧ sW d w = some v))))) := by
 rcases word_cases w hw with ⟨v, a1, a2, a3, a4⟩ | ⟨v, a1, a4⟩
 ·have a4 := a4 d hd
  refine .inr ⟨v, a1, itoaF_eq a2 a3, ?_⟩
  by_cases hq : Lib.itoa v = w.data.toList
  ·refine .inr ⟨decide_eq_true hq, ?_⟩
   rw [strL_len]
   by_cases ht : (trimS w.data.toList).length ≤ d
   ·refine .inr ⟨decide_eq_false (by omega), ?_⟩
    rw [if_pos ⟨hq, ht⟩] at a4
    exact a4
   ·refine .inl ⟨?_, decide_eq_true (by omega)⟩
    rw [if_neg (fun e => ht e.2)] at a4
    exact a4
  ·refine .inl ⟨?_, decide_eq_false hq⟩
   rw [if_neg (fun e => hq e.1)] at a4
   exact a4
 ·exact .inl ⟨a4 d hd, v, a1⟩
theorem numS_sw (d : Nat) (w : ByteArray) : (sW d w = none ∧ (numS w d).2 = false) ∨ (sW d w = some (numS w d).1 ∧ (numS w d).2 = true) := by
 unfold sW numS
 cases numR w.data.toList d with
 | none => exact .inl ⟨rfl, rfl⟩
 | some v => exact .inr ⟨rfl, rfl⟩
def badM : Msr × Int := ((0, 0, 0, 0, 0), 7)
def mV (m : Msr) : Msr × Int := bif mErr m != 0 then ((0, 0, 0, 0, 0), mErr m) else (m, 0)
def mAt (a b c : ByteArray) : Msr × Int := match uW 4 a with
 | none => badM
 | some t => match sW 6 b with
   | none => badM
   | some lo => match sW 6 c with
     | none => badM
     | some hi => mV (0, 0, t, lo, hi)
def mFrom (a b c d : ByteArray) : Msr × Int := match uW 4 a with
 | none => badM
 | some f => match uW 4 b with
   | none => badM
   | some t => match sW 6 c with
     | none => badM
     | some lo => match sW 6 d with
       | none => badM
       | some hi => mV (1, f, t, lo, hi)
def atL : List UInt8 := [97, 116]
def frL : List UInt8 := [102, 114, 111, 109]
def mP (k : ByteArray) (ws : List ByteArray) : Msr × Int :=
 if k.data.toList = atL then (if ws.length = 3 then mAt (ws.getD 0 ByteArray.empty) (ws.getD 1 ByteArray.empty) (ws.getD 2 ByteArray.empty) else badM)
 else if k.data.toList = frL then (if ws.length = 4 then mFrom (ws.getD 0 ByteArray.empty) (ws.getD 1 ByteArray.empty) (ws.getD 2 ByteArray.empty) (ws.getD 3 ByteArray.empty) else badM)
 else badM
def mW : List ByteArray → Msr × Int
 | [] => badM
 | k :: ws => mP k ws
theorem s120_eq (w : ByteArray) : s120 ([ByteArray.mk #[97, 116], ByteArray.mk #[102, 114, 111, 109]], w) = some (if w.data.toList = atL then 0 else if w.data.toList = frL then 1 else -1) := by
 unfold s120
 have e0 : ((ByteArray.mk #[97, 116]).data.toList) = atL := rfl
 have e1 : ((ByteArray.mk #[102, 114, 111, 109]).data.toList) = frL := rfl
 have g0 : ([ByteArray.mk #[97, 116], ByteArray.mk #[102, 114, 111, 109]] : List ByteArray).getD (Int.toNat 0) ByteArray.empty = ByteArray.mk #[97, 116] := rfl
 have g1 : ([ByteArray.mk #[97, 116], ByteArray.mk #[102, 114, 111, 109]] : List ByteArray).getD (Int.toNat 1) ByteArray.empty = ByteArray.mk #[102, 114, 111, 109] := rfl
 have b0 : inBounds 0 ([ByteArray.mk #[97, 116], ByteArray.mk #[102, 114, 111, 109]] : List ByteArray).length = true := rfl
 have b1 : inBounds 1 ([ByteArray.mk #[97, 116], ByteArray.mk #[102, 114, 111, 109]] : List ByteArray).length = true := rfl
 have l2 : ((([ByteArray.mk #[97, 116], ByteArray.mk #[102, 114, 111, 109]] : List ByteArray).length : Nat) : Int) = 2 := rfl
 have w1 : wr (0 + 1) = 1 := rfl
 have w2 : wr (1 + 1) = 2 := rfl
 dsimp only
 rw [l2]
 by_cases h0 : w.data.toList = atL
 ·rw [loopVal_last (e := .inl 0) (by
   simp only [step120_0, b0, g0, e0, cond_true]
   rw [decide_eq_true (show (0 : Int) < 2 by omega), decide_eq_true (show w.data.toList = [97, 116] from h0)]; rfl), if_pos h0]
  rfl
 rw [if_neg h0, loopVal_next (y := ([ByteArray.mk #[97, 116], ByteArray.mk #[102, 114, 111, 109]], w, 2, 1)) (by
  simp only [step120_0, b0, g0, e0, cond_true]
  rw [decide_eq_true (show (0 : Int) < 2 by omega), decide_eq_false (show ¬ w.data.toList = [97, 116] from h0)]; rfl)]
 by_cases h1 : w.data.toList = frL
 ·rw [loopVal_last (e := .inl 1) (by
   simp only [step120_0, b1, g1, e1, cond_true]
   rw [decide_eq_true (show (1 : Int) < 2 by omega), decide_eq_true (show w.data.toList = [102, 114, 111, 109] from h1)]; rfl), if_pos h1]
  rfl
 rw [if_neg h1, loopVal_next (y := ([ByteArray.mk #[97, 116], ByteArray.mk #[102, 114, 111, 109]], w, 2, 2)) (by
  simp only [step120_0, b1, g1, e1, cond_true]
  rw [decide_eq_true (show (1 : Int) < 2 by omega), decide_eq_false (show ¬ w.data.toList = [102, 114, 111, 109] from h1)]; rfl)]
 rw [loopVal_last (e := .inr ()) (by
     simp only [step120_0]
     rw [decide_eq_false (show ¬ (2 : Int) < 2 by omega)]; rfl)]
 rfl
def hdW (s : ByteArray) : ByteArray := strL (Lib.cut s.data.toList [32]).1
def tlW (s : ByteArray) : ByteArray := strL (Lib.cut s.data.toList [32]).2.1
theorem cutF_eq (s : ByteArray) (hs : s.size ≤ 1000000) : ∃ b, cutF (s, ByteArray.mk #[32]) = some (hdW s, tlW s, b) := by
 unfold cutF
 rw [decide_eq_true (show s.size < 4294967281 by omega), cond_true]
 exact ⟨_, rfl⟩
theorem cut_parts (s : ByteArray) : (hdW s = s ∧ tlW s = strL [] ∧ wordsOf s = [s]) ∨ (wordsOf s = hdW s :: wordsOf (tlW s) ∧ (tlW s).size ≤ s.size) := by
 unfold hdW tlW Lib.cut wordsOf
 rcases index_one 32 s.data.toList with ⟨h, hn⟩ | ⟨i, h, h1, h2⟩
 ·left
  rw [h, if_neg (by omega), cutL_none hn]
  exact ⟨strL_self s, rfl, by rw [List.map_cons, List.map_nil, strL_self]⟩
 ·right
  rw [h, if_pos (by omega), cutL_at h1 h2]
  refine ⟨?_, ?_⟩
  ·simp only [Int.toNat_natCast, List.length_cons, List.length_nil, Nat.zero_add, List.map_cons, strL_toList]
  ·rw [strL_len, List.length_drop, sizeW]; omega
theorem mP_short (k : ByteArray) : mP k (wordsOf (strL [])) = badM := by
 have h : (wordsOf (strL [])).length = 1 := rfl
 unfold mP
 rw [h]
 simp
theorem mP_nil (k : ByteArray) : mP k [] = badM := by
 unfold mP
 simp
theorem mW_cut (s : ByteArray) : mP (hdW s) (wordsOf (tlW s)) = mW (wordsOf s) := by
 rcases cut_parts s with ⟨h1, h2, h3⟩ | ⟨h, _⟩
 ·rw [h1, h2, h3, mP_short]
  exact (mP_nil s).symm
 ·rw [h]; rfl
theorem tlW_size (s : ByteArray) : (tlW s).size ≤ s.size := by
 rcases cut_parts s with ⟨_, h2, _⟩ | ⟨_, h⟩
 ·rw [h2, strL_len]; exact Nat.zero_le _
 ·exact h
theorem s37_eq (s : ByteArray) (hs : s.size ≤ 1000) : s37 s = some (mW (wordsOf s)) := by
 rw [← mW_cut s]
 unfold s37 mP
 obtain ⟨fb, hc⟩ := cutF_eq s (by omega)
 rw [hc]
 have hl := tlW_size s
 have hsp : splitF (tlW s, ByteArray.mk #[32]) = some (wordsOf (tlW s)) := splitF_eq (tlW s) 32 (by omega)
 have hz : ∀ w ∈ wordsOf (tlW s), w.size ≤ 1000 := fun w hw => by have := wordsOf_size hw; omega
 simp only [optE_some, s120_eq, s121_eq, s106_eq _ (show ([_, _] : List Int).length ≤ 1000 by simp), first0, trimF_eq, hsp]
 generalize wordsOf (tlW s) = ws at hz
 clear hsp hc
 have e7 : ((7 : Int) != 0) = true := rfl
 have f7 : ∀ e, firstE [7, e] = 7 := first7
 by_cases k0 : (hdW s).data.toList = atL
 ·rw [if_pos k0, if_pos k0]
  rw [show decide ((0 : Int) < 0) = false from rfl, show ((0 : Int) == 0) = true from rfl]
  simp only [cond_true, cond_false]
  unfold mAt
  by_cases h3 : ws.length = 3
  case neg =>
   rw [if_neg h3, show (((ws.length : Nat) : Int) != 3) = true by rw [bne_iff_ne]; omega]
   simp only [f7, e7, optE_some, cond_true]
   rfl
  rw [if_pos h3, show (((ws.length : Nat) : Int) != 3) = false by rw [h3]; rfl]
  simp only [cond_false]
  have hb : ∀ k : Nat, k < 3 → inBounds (k : Int) ws.length = true := fun k hk => by rw [inB_cast, h3]; exact decide_eq_true hk
  have hb0 : inBounds 0 ws.length = true := hb 0 (by omega)
  have hb1 : inBounds 1 ws.length = true := hb 1 (by omega)
  have hb2 : inBounds 2 ws.length = true := hb 2 (by omega)
  simp only [hb0, hb1, hb2, cond_true, cond_false]
  have z0 : (ws.getD 0 ByteArray.empty).size ≤ 1000 := hz _ (getDW_mem (by omega))
  have z1 : (ws.getD 1 ByteArray.empty).size ≤ 1000 := hz _ (getDW_mem (by omega))
  have z2 : (ws.getD 2 ByteArray.empty).size ≤ 1000 := hz _ (getDW_mem (by omega))
  generalize ws.getD 0 ByteArray.empty = x0 at z0 ⊢
  generalize ws.getD 1 ByteArray.empty = x1 at z1 ⊢
  generalize ws.getD 2 ByteArray.empty = x2 at z2 ⊢
  rcases uw_cases 4 (by omega) x0 (by omega) with ⟨h, v, a1⟩ | ⟨u0, a1, a2, ⟨h, b⟩ | ⟨b, ⟨h, c⟩ | ⟨c, ⟨h, d⟩ | ⟨h, d⟩⟩⟩⟩
  ·simp only [h, a1, optE_some, cond_true, cond_false, Bool.not_true, Bool.not_false, first7, e7, badM]
  ·simp only [h, a1, a2, b, optE_some, cond_true, cond_false, Bool.not_true, Bool.not_false, first7, e7, badM]
  ·simp only [h, a1, a2, b, optE_some, cond_true, cond_false, Bool.not_true, Bool.not_false, first7, e7, badM]
   rw [show decide (((strL (trimS x0.data.toList)).size : Int) > 4) = true from c]
   simp only [optE_some, cond_true, cond_false, Bool.not_true, Bool.not_false, first7, e7, badM]
  ·simp only [h, a1, a2, b, optE_some, cond_true, cond_false, Bool.not_true, Bool.not_false, first7, e7, badM]
   rw [show decide (((strL (trimS x0.data.toList)).size : Int) > 4) = false from c, d]
   simp only [optE_some, cond_true, cond_false, Bool.not_true, Bool.not_false, first7, e7, badM]
  simp only [h, a1, a2, b, optE_some, cond_true, cond_false, Bool.not_true, Bool.not_false, first7, e7, badM]
  rw [show decide (((strL (trimS x0.data.toList)).size : Int) > 4) = false from c, d]
  simp only [Bool.cond_self, optE_some, cond_true, cond_false, Bool.not_true, Bool.not_false, first7, e7, badM]
  clear h a1 a2 b c d
  rcases sw_cases 6 (by omega) x1 (by omega) with ⟨h, v, a1⟩ | ⟨u1, a1, a2, ⟨h, b⟩ | ⟨b, ⟨h, c⟩ | ⟨c, h⟩⟩⟩
  ·simp only [h, a1, optE_some, cond_true, cond_false, Bool.not_true, Bool.not_false, first7, e7, badM]
  ·simp only [h, a1, a2, b, optE_some, cond_true, cond_false, Bool.not_true, Bool.not_false, first7, e7, badM]
  ·simp only [h, a1, a2, b, optE_some, cond_true, cond_false, Bool.not_true, Bool.not_false, first7, e7, badM]
   rw [show decide (((strL (trimS x1.data.toList)).size : Int) > 6) = true from c]
   simp only [optE_some, cond_true, cond_false, Bool.not_true, Bool.not_false, first7, e7, badM]
  simp only [h, a1, a2, b, optE_some, cond_true, cond_false, Bool.not_true, Bool.not_false, first7, e7, badM]
  rw [show decide (((strL (trimS x1.data.toList)).size : Int) > 6) = false from c]
  simp only [Bool.cond_self, optE_some, cond_true, cond_false, Bool.not_true, Bool.not_false, first7, e7, badM]
  clear h a1 a2 b c
  rcases sw_cases 6 (by omega) x2 (by omega) with ⟨h, v, a1⟩ | ⟨u2, a1, a2, ⟨h, b⟩ | ⟨b, ⟨h, c⟩ | ⟨c, h⟩⟩⟩
  ·simp only [h, a1, optE_some, cond_true, cond_false, Bool.not_true, Bool.not_false, first7, e7, badM]
  ·simp only [h, a1, a2, b, optE_some, cond_true, cond_false, Bool.not_true, Bool.not_false, first7, e7, badM]
  ·simp only [h, a1, a2, b, optE_some, cond_true, cond_false, Bool.not_true, Bool.not_false, first7, e7, badM]
   rw [show decide (((strL (trimS x2.data.toList)).size : Int) > 6) = true from c]
   simp only [optE_some, cond_true, cond_false, Bool.not_true, Bool.not_false, first7, e7, badM]
  simp only [h, a1, a2, b, optE_some, cond_true, cond_false, Bool.not_true, Bool.not_false, first7, e7, badM]
  rw [show decide (((strL (trimS x2.data.toList)).size : Int) > 6) = false from c]
  simp only [Bool.cond_self, optE_some, cond_true, cond_false, Bool.not_true, Bool.not_false, first7, e7, badM]
  clear h a1 a2 b c
  unfold mV
  cases mErr (0, 0, u0, u1, u2) != 0 <;> rfl
 rw [if_neg k0, if_neg k0]
 by_cases k1 : (hdW s).data.toList = frL
 ·rw [if_pos k1, if_pos k1]
  rw [show decide ((1 : Int) < 0) = false from rfl, show ((1 : Int) == 0) = false from rfl]
  simp only [cond_true, cond_false]
  unfold mFrom
  by_cases h3 : ws.length = 4
  case neg =>
   rw [if_neg h3, show (((ws.length : Nat) : Int) != 4) = true by rw [bne_iff_ne]; omega]
   simp only [f7, e7, optE_some, cond_true]
   rfl
  rw [if_pos h3, show (((ws.length : Nat) : Int) != 4) = false by rw [h3]; rfl]
  simp only [cond_false]
  have hb : ∀ k : Nat, k < 4 → inBounds (k : Int) ws.length = true := fun k hk => by rw [inB_cast, h3]; exact decide_eq_true hk
  have hb0 : inBounds 0 ws.length = true := hb 0 (by omega)
  have hb1 : inBounds 1 ws.length = true := hb 1 (by omega)
  have hb2 : inBounds 2 ws.length = true := hb 2 (by omega)
  have hb3 : inBounds 3 ws.length = true := hb 3 (by omega)
  simp only [hb0, hb1, hb2, hb3, cond_true, cond_false]
  have z0 : (ws.getD 0 ByteArray.empty).size ≤ 1000 := hz _ (getDW_mem (by omega))
  have z1 : (ws.getD 1 ByteArray.empty).size ≤ 1000 := hz _ (getDW_mem (by omega))
  have z2 : (ws.getD 2 ByteArray.empty).size ≤ 1000 := hz _ (getDW_mem (by omega))
  have z3 : (ws.getD 3 ByteArray.empty).size ≤ 1000 := hz _ (getDW_mem (by omega))
  generalize ws.getD 0 ByteArray.empty = x0 at z0 ⊢
  generalize ws.getD 1 ByteArray.empty = x1 at z1 ⊢
  generalize ws.getD 2 ByteArray.empty = x2 at z2 ⊢
  generalize ws.getD 3 ByteArray.empty = x3 at z3 ⊢
  rcases uw_cases 4 (by omega) x0 (by omega) with ⟨h, v, a1⟩ | ⟨u0, a1, a2, ⟨h, b⟩ | ⟨b, ⟨h, c⟩ | ⟨c, ⟨h, d⟩ | ⟨h, d⟩⟩⟩⟩
  ·simp only [h, a1, optE_some, cond_true, cond_false, Bool.not_true, Bool.not_false, first7, e7, badM]
  ·simp only [h, a1, a2, b, optE_some, cond_true, cond_false, Bool.not_true, Bool.not_false, first7, e7, badM]
  ·simp only [h, a1, a2, b, optE_some, cond_true, cond_false, Bool.not_true, Bool.not_false, first7, e7, badM]
   rw [show decide (((strL (trimS x0.data.toList)).size : Int) > 4) = true from c]
   simp only [optE_some, cond_true, cond_false, Bool.not_true, Bool.not_false, first7, e7, badM]
  ·simp only [h, a1, a2, b, optE_some, cond_true, cond_false, Bool.not_true, Bool.not_false, first7, e7, badM]
   rw [show decide (((strL (trimS x0.data.toList)).size : Int) > 4) = false from c, d]
   simp only [optE_some, cond_true, cond_false, Bool.not_true, Bool.not_false, first7, e7, badM]
  simp only [h, a1, a2, b, optE_some, cond_true, cond_false, Bool.not_true, Bool.not_false, first7, e7, badM]
  rw [show decide (((strL (trimS x0.data.toList)).size : Int) > 4) = false from c, d]
  simp only [Bool.cond_self, optE_some, cond_true, cond_false, Bool.not_true, Bool.not_false, first7, e7, badM]
  clear h a1 a2 b c d
  rcases uw_cases 4 (by omega) x1 (by omega) with ⟨h, v, a1⟩ | ⟨u1, a1, a2, ⟨h, b⟩ | ⟨b, ⟨h, c⟩ | ⟨c, ⟨h, d⟩ | ⟨h, d⟩⟩⟩⟩
  ·simp only [h, a1, optE_some, cond_true, cond_false, Bool.not_true, Bool.not_false, first7, e7, badM]
  ·simp only [h, a1, a2, b, optE_some, cond_true, cond_false, Bool.not_true, Bool.not_false, first7, e7, badM]
  ·simp only [h, a1, a2, b, optE_some, cond_true, cond_false, Bool.not_true, Bool.not_false, first7, e7, badM]
   rw [show decide (((strL (trimS x1.data.toList)).size : Int) > 4) = true from c]
   simp only [optE_some, cond_true, cond_false, Bool.not_true, Bool.not_false, first7, e7, badM]
  ·simp only [h, a1, a2, b, optE_some, cond_true, cond_false, Bool.not_true, Bool.not_false, first7, e7, badM]
   rw [show decide (((strL (trimS x1.data.toList)).size : Int) > 4) = false from c, d]
   simp only [optE_some, cond_true, cond_false, Bool.not_true, Bool.not_false, first7, e7, badM]
  simp only [h, a1, a2, b, optE_some, cond_true, cond_false, Bool.not_true, Bool.not_false, first7, e7, badM]
  rw [show decide (((strL (trimS x1.data.toList)).size : Int) > 4) = false from c, d]
  simp only [Bool.cond_self, optE_some, cond_true, cond_false, Bool.not_true, Bool.not_false, first7, e7, badM]
  clear h a1 a2 b c d
  rcases sw_cases 6 (by omega) x2 (by omega) with ⟨h, v, a1⟩ | ⟨u2, a1, a2, ⟨h, b⟩ | ⟨b, ⟨h, c⟩ | ⟨c, h⟩⟩⟩
  ·simp only [h, a1, optE_some, cond_true, cond_false, Bool.not_true, Bool.not_false, first7, e7, badM]
  ·simp only [h, a1, a2, b, optE_some, cond_true, cond_false, Bool.not_true, Bool.not_false, first7, e7, badM]
  ·simp only [h, a1, a2, b, optE_some, cond_true, cond_false, Bool.not_true, Bool.not_false, first7, e7, badM]
   rw [show decide (((strL (trimS x2.data.toList)).size : Int) > 6) = true from c]
   simp only [optE_some, cond_true, cond_false, Bool.not_true, Bool.not_false, first7, e7, badM]
  simp only [h, a1, a2, b, optE_some, cond_true, cond_false, Bool.not_true, Bool.not_false, first7, e7, badM]
  rw [show decide (((strL (trimS x2.data.toList)).size : Int) > 6) = false from c]
  simp only [Bool.cond_self, optE_some, cond_true, cond_false, Bool.not_true, Bool.not_false, first7, e7, badM]
  clear h a1 a2 b c
  rcases sw_cases 6 (by omega) x3 (by omega) with ⟨h, v, a1⟩ | ⟨u3, a1, a2, ⟨h, b⟩ | ⟨b, ⟨h, c⟩ | ⟨c, h⟩⟩⟩
  ·simp only [h, a1, optE_some, cond_true, cond_false, Bool.not_true, Bool.not_false, first7, e7, badM]
  ·simp only [h, a1, a2, b, optE_some, cond_true, cond_false, Bool.not_true, Bool.not_false, first7, e7, badM]
  ·simp only [h, a1, a2, b, optE_some, cond_true, cond_false, Bool.not_true, Bool.not_false, first7, e7, badM]
   rw [show decide (((strL (trimS x3.data.toList)).size : Int) > 6) = true from c]
   simp only [optE_some, cond_true, cond_false, Bool.not_true, Bool.not_false, first7, e7, badM]
  simp only [h, a1, a2, b, optE_some, cond_true, cond_false, Bool.not_true, Bool.not_false, first7, e7, badM]
  rw [show decide (((strL (trimS x3.data.toList)).size : Int) > 6) = false from c]
  simp only [Bool.cond_self, optE_some, cond_true, cond_false, Bool.not_true, Bool.not_false, first7, e7, badM]
  clear h a1 a2 b c
  unfold mV
  cases mErr (1, u0, u1, u2, u3) != 0 <;> rfl
 rw [if_neg k1, if_neg k1]
 rfl
theorem stepM {w : List ByteArray} {times i : Nat} {n : List Int} {z : Msr} (hi : i < w.length) (hw : w.length ≤ 1000) (hn : n.length ≤ 1000) (hz : ∀ x ∈ w, x.size ≤ 1000) :
 step38_0 (w, (times : Int), n, (i : Int), z, z) = some (match (if i ≤ times then uW 4 (w.getD i ByteArray.empty) else sW 6 (w.getD i ByteArray.empty)) with
  | none => .inr (.inl (7, z))
  | some v => .inl (w, (times : Int), n ++ [v], ((i + 1 : Nat) : Int), z, z)) := by
 have hx := hz _ (getDW_mem hi)
 have n4 : s95 (w.getD i ByteArray.empty, 4) = some (numS (w.getD i ByteArray.empty) 4) := s95_eq _ 4 (by omega) (by omega)
 have n6 : s95 (w.getD i ByteArray.empty, 6) = some (numS (w.getD i ByteArray.empty) 6) := s95_eq _ 6 (by omega) (by omega)
 simp only [step38_0, lt_cast, inB_cast, hi, decide_true, cond_true, Int.toNat_natCast, n4, n6, optE_some, wr_succ (show i < 4611686018427387904 by omega), room_true (b := 8) (n := n.length + 1) (by omega) (by omega)]
 by_cases h : i ≤ times
 ·rw [if_pos h, decide_eq_true (show (i : Int) ≤ (times : Int) by omega)]
  simp only [cond_true]
  rcases numS_cases 4 (w.getD i ByteArray.empty) with ⟨h, e | ⟨e, f⟩⟩ | ⟨h, e, f⟩
  ·simp only [h, e, Bool.not_false, cond_true]
  ·simp only [h, e, f, Bool.not_true, cond_false, cond_true]
  ·simp only [h, e, f, Bool.not_true, cond_false]
 ·rw [if_neg h, decide_eq_false (show ¬ (i : Int) ≤ (times : Int) by omega)]
  simp only [cond_false]
  rcases numS_sw 6 (w.getD i ByteArray.empty) with ⟨h, e⟩ | ⟨h, e⟩
  ·simp only [h, e, Bool.not_false, cond_true]
  ·simp only [h, e, Bool.not_true, cond_false]
theorem lastM {w : List ByteArray} {times : Nat} {n : List Int} {z : Msr} : step38_0 (w, (times : Int), n, (w.length : Int), z, z) = some (.inr (.inr ((times : Int), n, z, z))) := by
 simp only [step38_0, lt_cast, Nat.lt_irrefl, decide_false, cond_false]
theorem loopM {w : List ByteArray} {times i : Nat} {n : List Int} {z : Msr} (hi : i < w.length) (hw : w.length ≤ 1000) (hn : n.length ≤ 1000) (hz : ∀ x ∈ w, x.size ≤ 1000) :
 loopVal step38_0 (w, (times : Int), n, (i : Int), z, z) = match (if i ≤ times then uW 4 (w.getD i ByteArray.empty) else sW 6 (w.getD i ByteArray.empty)) with
  | none => some (.inl (7, z))
  | some v => loopVal step38_0 (w, (times : Int), n ++ [v], ((i + 1 : Nat) : Int), z, z) := by
 have h := stepM (times := times) (z := z) hi hw hn hz
 cases hv : (if i ≤ times then uW 4 (w.getD i ByteArray.empty) else sW 6 (w.getD i ByteArray.empty)) with
 | none => rw [hv] at h; exact loopVal_last h
 | some v => rw [hv] at h; exact loopVal_next h
theorem loopAt (k a b c : ByteArray) (z : Msr) (hz : ∀ x ∈ [k, a, b, c], x.size ≤ 1000) : loopVal step38_0 ([k, a, b, c], 1, [], 1, z, z) = match uW 4 a with
 | none => some (.inl (7, z))
 | some t => match sW 6 b with
   | none => some (.inl (7, z))
   | some lo => match sW 6 c with
     | none => some (.inl (7, z))
     | some hi => some (.inr (1, [t, lo, hi], z, z)) := by
 have h1 := loopM (w := [k, a, b, c]) (times := 1) (i := 1) (n := []) (z := z) (by simp) (by simp) (by simp) hz
 refine h1.trans ?_
 rw [if_pos (show 1 ≤ 1 by omega)]
 simp only [List.getD_cons_succ, List.getD_cons_zero]
 cases uW 4 a with
 | none => rfl
 | some t =>
 have h2 := loopM (w := [k, a, b, c]) (times := 1) (i := 2) (n := [t]) (z := z) (by simp) (by simp) (by simp) hz
 refine h2.trans ?_
 rw [if_neg (show ¬ 2 ≤ 1 by omega)]
 simp only [List.getD_cons_succ, List.getD_cons_zero]
 cases sW 6 b with
 | none => rfl
 | some lo =>
 have h3 := loopM (w := [k, a, b, c]) (times := 1) (i := 3) (n := [t, lo]) (z := z) (by simp) (by simp) (by simp) hz
 refine h3.trans ?_
 rw [if_neg (show ¬ 3 ≤ 1 by omega)]
 simp only [List.getD_cons_succ, List.getD_cons_zero]
 cases sW 6 c with
 | none => rfl
 | some hi => exact loopVal_last (lastM (w := [k, a, b, c]) (times := 1) (n := [t, lo, hi]) (z := z))
theorem loopFrom (k a b c d : ByteArray) (z : Msr) (hz : ∀ x ∈ [k, a, b, c, d], x.size ≤ 1000) : loopVal step38_0 ([k, a, b, c, d], 2, [], 1, z, z) = match uW 4 a with
 | none => some (.inl (7, z))
 | some f => match uW 4 b with
   | none => some (.inl (7, z))
   | some t => match sW 6 c with
     | none => some (.inl (7, z))
     | some lo => match sW 6 d with
       | none => some (.inl (7, z))
       | some hi => some (.inr (2, [f, t, lo, hi], z, z)) := by
 have h1 := loopM (w := [k, a, b, c, d]) (times := 2) (i := 1) (n := []) (z := z) (by simp) (by simp) (by simp) hz
 refine h1.trans ?_
 rw [if_pos (show 1 ≤ 2 by omega)]
 simp only [List.getD_cons_succ, List.getD_cons_zero]
 cases uW 4 a with
 | none => rfl
 | some f =>
 have h2 := loopM (w := [k, a, b, c, d]) (times := 2) (i := 2) (n := [f]) (z := z) (by simp) (by simp) (by simp) hz
 refine h2.trans ?_
 rw [if_pos (show 2 ≤ 2 by omega)]
 simp only [List.getD_cons_succ, List.getD_cons_zero]
 cases uW 4 b with
 | none => rfl
 | some t =>
 have h3 := loopM (w := [k, a, b, c, d]) (times := 2) (i := 3) (n := [f, t]) (z := z) (by simp) (by simp) (by simp) hz
 refine h3.trans ?_
 rw [if_neg (show ¬ 3 ≤ 2 by omega)]
 simp only [List.getD_cons_succ, List.getD_cons_zero]
 cases sW 6 c with
 | none => rfl
 | some lo =>
 have h4 := loopM (w := [k, a, b, c, d]) (times := 2) (i := 4) (n := [f, t, lo]) (z := z) (by simp) (by simp) (by simp) hz
 refine h4.trans ?_
 rw [if_neg (show ¬ 4 ≤ 2 by omega)]
 simp only [List.getD_cons_succ, List.getD_cons_zero]
 cases sW 6 d with
 | none => rfl
 | some hi => exact loopVal_last (lastM (w := [k, a, b, c, d]) (times := 2) (n := [f, t, lo, hi]) (z := z))
theorem list4 {α : Type} {l : List α} (h : l.length = 4) : ∃ a b c d, l = [a, b, c, d] := by
 match l, h with
 | [a, b, c, d], _ => exact ⟨a, b, c, d, rfl⟩
theorem list5 {α : Type} {l : List α} (h : l.length = 5) : ∃ a b c d e, l = [a, b, c, d, e] := by
 match l, h with
 | [a, b, c, d, e], _ => exact ⟨a, b, c, d, e, rfl⟩
theorem s38_eq (s : ByteArray) (hs : s.size ≤ 1000) : s38 s = some (mW (wordsOf s)) := by
 unfold s38
 have hsp : s94 (s, 32) = some (wordsOf s) := s94_eq s 32 (by omega)
 rw [hsp]
 simp only [optE_some]
 have hz : ∀ w ∈ wordsOf s, w.size ≤ 1000 := fun w hw => by have := wordsOf_size hw; omega
 have hne : wordsOf s ≠ [] := by
  unfold wordsOf
  intro e
  exact cutL_ne 32 _ (List.map_eq_nil_iff.1 e)
 generalize wordsOf s = ws at hz hne
 clear hsp
 cases ws with
 | nil => exact absurd rfl hne
 | cons k r =>
 have b0 : inBounds 0 (k :: r).length = true := by rw [show (0 : Int) = ((0 : Nat) : Int) from rfl, inB_cast]; simp
 have g0 : (k :: r).getD 0 ByteArray.empty = k := rfl
 have e0 : ((ByteArray.mk #[97, 116]).data.toList) = atL := rfl
 have e1 : ((ByteArray.mk #[102, 114, 111, 109]).data.toList) = frL := rfl
 simp only [b0, g0, e0, e1, cond_true]
 show _ = some (mP k r)
 unfold mP
 have hlen : ∀ n : Nat, ((((k :: r).length : Nat) : Int) != ((n + 1 : Nat) : Int)) = !decide (r.length = n) := fun n => by
  rw [List.length_cons]
  by_cases h : r.length = n
  ·rw [h, decide_eq_true rfl]; simp
  ·rw [decide_eq_false h, Bool.not_false, bne_iff_ne]; omega
 have hl5 : ((((k :: r).length : Nat) : Int) != 5) = !decide (r.length = 4) := hlen 4
 have hl4 : ((((k :: r).length : Nat) : Int) != 4) = !decide (r.length = 3) := hlen 3
 rw [hl5, hl4]
 by_cases k0 : k.data.toList = atL
 ·rw [if_pos k0, decide_eq_true (show k.data.toList = [97, 116] from k0), decide_eq_false (show ¬ k.data.toList = [102, 114, 111, 109] by rw [k0]; decide)]
  simp only [cond_true, cond_false]
  by_cases h3 : r.length = 3
  case neg => rw [if_neg h3, decide_eq_false h3]; rfl
  rw [if_pos h3, decide_eq_true h3]
  obtain ⟨k', a, b, c, hr⟩ := list4 (show (k :: r).length = 4 by rw [List.length_cons, h3])
  obtain ⟨rfl, rfl⟩ := List.cons.inj hr
  rw [loopAt k a b c (0, 0, 0, 0, 0) hz]
  simp only [Bool.not_true, cond_false, List.getD_cons_zero, List.getD_cons_succ]
  unfold mAt
  cases uW 4 a with
  | none => rfl
  | some t =>
  cases sW 6 b with
  | none => rfl
  | some lo =>
  cases sW 6 c with
  | none => rfl
  | some hi =>
  have q0 : inBounds (wr (1 - 1)) ([t, lo, hi] : List Int).length = true := rfl
  have q1 : inBounds 1 ([t, lo, hi] : List Int).length = true := rfl
  have q2 : inBounds (wr (1 + 1)) ([t, lo, hi] : List Int).length = true := rfl
  have p0 : ([t, lo, hi] : List Int).getD (wr (1 - 1)).toNat 0 = t := rfl
  have p1 : ([t, lo, hi] : List Int).getD (Int.toNat 1) 0 = lo := rfl
  have p2 : ([t, lo, hi] : List Int).getD (wr (1 + 1)).toNat 0 = hi := rfl
  simp only [optE_some, sumE_r, q0, q1, q2, p0, p1, p2, cond_true, s40_eq]
  rw [show ((1 : Int) == 2) = false from rfl, cond_false]
  unfold mV
  cases mErr (0, 0, t, lo, hi) != 0 <;> rfl
 rw [if_neg k0, decide_eq_false (show ¬ k.data.toList = [97, 116] from k0)]
 by_cases k1 : k.data.toList = frL
 ·rw [if_pos k1, decide_eq_true (show k.data.toList = [102, 114, 111, 109] from k1)]
  simp only [cond_true, cond_false]
  by_cases h3 : r.length = 4
  case neg => rw [if_neg h3, decide_eq_false h3]; rfl
  rw [if_pos h3, decide_eq_true h3]
  obtain ⟨k', a, b, c, d, hr⟩ := list5 (show (k :: r).length = 5 by rw [List.length_cons, h3])
  obtain ⟨rfl, rfl⟩ := List.cons.inj hr
  rw [loopFrom k a b c d (0, 0, 0, 0, 0) hz]
  simp only [Bool.not_true, cond_false, List.getD_cons_zero, List.getD_cons_succ]
  unfold mFrom
  cases uW 4 a with
  | none => rfl
  | some f =>
  cases uW 4 b with
  | none => rfl
  | some t =>
  cases sW 6 c with
  | none => rfl
  | some lo =>
  cases sW 6 d with
  | none => rfl
  | some hi =>
  have q0 : inBounds (wr (2 - 1)) ([f, t, lo, hi] : List Int).length = true := rfl
  have q1 : inBounds 2 ([f, t, lo, hi] : List Int).length = true := rfl
  have q2 : inBounds (wr (2 + 1)) ([f, t, lo, hi] : List Int).length = true := rfl
  have q3 : inBounds 0 ([f, t, lo, hi] : List Int).length = true := rfl
  have p0 : ([f, t, lo, hi] : List Int).getD (wr (2 - 1)).toNat 0 = t := rfl
  have p1 : ([f, t, lo, hi] : List Int).getD (Int.toNat 2) 0 = lo := rfl
  have p2 : ([f, t, lo, hi] : List Int).getD (wr (2 + 1)).toNat 0 = hi := rfl
  have p3 : ([f, t, lo, hi] : List Int).getD 0 0 = f := rfl
  simp only [optE_some, sumE_r, q0, q1, q2, q3, p0, p1, p2, p3, cond_true, s40_eq]
  rw [show ((2 : Int) == 2) = true from rfl, cond_true]
  unfold mV
  cases mErr (1, f, t, lo, hi) != 0 <;> rfl
 rw [if_neg k1, decide_eq_false (show ¬ k.data.toList = [102, 114, 111, 109] from k1)]
 rfl
def wordN (k : List UInt8) (l : List Int) : ByteArray := strL (Lib.join (k :: l.map Lib.itoa) [32])
theorem wordN_join (k : List UInt8) (x : Int) (l : List Int) : wordN k (x :: l) = strL k ++ ByteArray.mk #[32] ++ joinS (x :: l) := by
 unfold wordN joinS
 refine str_ext ?_
 rw [app_toList, app_toList, strL_toList, strL_toList, strL_toList, List.map_cons, Lib.join_cons, Lib.join_cons]
 simp [Lib.joinTail]
theorem joinW_eq (w : List UInt8) (hw : w ≠ [] ∧ w.length ≤ 10) (l : List Int) (hl : l.length ≤ 1000) (hi : ∀ x ∈ l, inI x) : s108 (strL w, l) = some (wordN w l) := by
 unfold s108
 have hlen : ∀ k, k ≤ l.length → (Lib.join (w :: (l.take k).map Lib.itoa) [32]).length ≤ 21 * (k + 1) := fun k hk => by
  have := join_len (w :: (l.take k).map Lib.itoa) (fun x hx => by
   rcases List.mem_cons.1 hx with rfl | hx
   ·omega
   obtain ⟨n, hn, rfl⟩ := List.mem_map.1 hx
   have := hi n (List.mem_of_mem_take hn)
   exact itoa_len this.1 this.2)
  rw [List.length_cons, List.length_map, List.length_take, Nat.min_eq_left hk] at this
  exact this
 have hwn : (!(decide ((strL w).data.toList = (ByteArray.mk #[]).data.toList))) = true := by
  rw [decide_eq_false (show ¬ (strL w).data.toList = (ByteArray.mk #[]).data.toList from fun e => hw.1 e)]; rfl
 have h1 := loop_for (step := step108_0) (st := fun k => (strL w, l, strL (Lib.join (w :: (l.take k).map Lib.itoa) [32]), (k : Int))) (n := l.length) (e := wordN w l)
  (fun k hk => by
    have hx := hi _ (getD_mem hk)
    have hz : (strL (Lib.join (w :: (l.take k).map Lib.itoa) [32])).size ≤ 21 * (k + 1) := by rw [strL_len]; exact hlen k (by omega)
    have hd : (decS (l.getD k 0)).size ≤ 20 := by unfold decS; rw [strL_len]; exact itoa_len hx.1 hx.2
    have hsp : (ByteArray.mk #[32]).size = 1 := rfl
    have e1 : strL (Lib.join (w :: (l.take k).map Lib.itoa) [32]) ++ ByteArray.mk #[32] = strL (Lib.join (w :: (l.take k).map Lib.itoa) [32] ++ [32]) := strL_app _ [32]
    have hz2 : (strL (Lib.join (w :: (l.take k).map Lib.itoa) [32] ++ [32])).size ≤ 21 * (k + 1) + 1 := by
     rw [strL_len, List.length_append]
     have := hlen k (by omega)
     simp only [List.length_cons, List.length_nil]; omega
    simp only [step108_0, lt_cast, inB_cast, hk, decide_true, cond_true, Int.toNat_natCast, s96_eq hx.1 hx.2, optE_some, wr_succ (show k < 4611686018427387904 by omega), hwn, Bool.cond_self, hsp, e1]
    rw [decide_eq_true (by omega), cond_true, decide_eq_true (by omega), cond_true, ← take_map_succ Lib.itoa l 0 hk, ← List.cons_append, join_snoc _ _ (by simp)]
    rw [show decS (l.getD k 0) = strL (Lib.itoa (l.getD k 0)) from rfl, strL_app]) (by simp only [step108_0, lt_cast, Nat.lt_irrefl, decide_false, cond_false, List.take_length]; rfl) 0 (by omega)
 have h1 : loopVal step108_0 (strL w, l, strL (Lib.join [w] [32]), 0) = _ := h1
 rw [Lib.join_one] at h1
 dsimp only
 rw [h1]
 rfl
def fmtM (m : Msr) : ByteArray := if m.1 = 0 then wordN atL [m.2.2.1, m.2.2.2.1, m.2.2.2.2] else if m.1 = 1 then wordN frL [m.2.1, m.2.2.1, m.2.2.2.1, m.2.2.2.2] else strL []
def inM (m : Msr) : Prop := inI m.1 ∧ inI m.2.1 ∧ inI m.2.2.1 ∧ inI m.2.2.2.1 ∧ inI m.2.2.2.2
theorem s39_eq (m : Msr) (h : inM m) : s39 m = some (fmtM m) := by
 obtain ⟨_, h1, h2, h3, h4⟩ := h
 unfold s39 fmtM
 have hA := joinW_eq atL ⟨by decide, by decide⟩ [m.2.2.1, m.2.2.2.1, m.2.2.2.2] (by simp) (fun x hx => by
  simp only [List.mem_cons, List.not_mem_nil, or_false] at hx
  rcases hx with rfl | rfl | rfl
  ·exact h2
  ·exact h3
  ·exact h4)
 have hF := joinW_eq frL ⟨by decide, by decide⟩ [m.2.1, m.2.2.1, m.2.2.2.1, m.2.2.2.2] (by simp) (fun x hx => by
  simp only [List.mem_cons, List.not_mem_nil, or_false] at hx
  rcases hx with rfl | rfl | rfl | rfl
  ·exact h1
  ·exact h2
  ·exact h3
  ·exact h4)
 have hA : s108 (ByteArray.mk #[97, 116], [m.2.2.1, m.2.2.2.1, m.2.2.2.2]) = _ := hA
 have hF : s108 (ByteArray.mk #[102, 114, 111, 109], [m.2.1, m.2.2.1, m.2.2.2.1, m.2.2.2.2]) = _ := hF
 rw [hA, hF]
 by_cases k0 : m.1 = 0
 ·rw [if_pos k0, show (m.1 == 0) = true by rw [k0]; rfl]; rfl
 rw [if_neg k0, show (m.1 == 0) = false from beq_eq_false_iff_ne.2 k0]
 by_cases k1 : m.1 = 1
 ·rw [if_pos k1, show (m.1 == 1) = true by rw [k1]; rfl]; rfl
 rw [if_neg k1, show (m.1 == 1) = false from beq_eq_false_iff_ne.2 k1]
 rfl
theorem joinS_size (l : List Int) (hi : ∀ x ∈ l, inI x) : (joinS l).size ≤ 21 * l.length := by
 unfold joinS
 rw [strL_len]
 have := join_len (l.map Lib.itoa) (fun x hx => by
  obtain ⟨n, hn, rfl⟩ := List.mem_map.1 hx
  exact itoa_len (hi n hn).1 (hi n hn).2)
 rw [List.length_map] at this
 exact this
theorem s36_eq (m : Msr) (h : inM m) : s36 m = some (fmtM m) := by
 obtain ⟨_, h1, h2, h3, h4⟩ := h
 unfold s36 fmtM
 have mA : ∀ x ∈ [m.2.2.1, m.2.2.2.1, m.2.2.2.2], inI x := fun x hx => by
  simp only [List.mem_cons, List.not_mem_nil, or_false] at hx
  rcases hx with rfl | rfl | rfl
  ·exact h2
  ·exact h3
  ·exact h4
 have mF : ∀ x ∈ [m.2.1, m.2.2.1, m.2.2.2.1, m.2.2.2.2], inI x := fun x hx => by
  simp only [List.mem_cons, List.not_mem_nil, or_false] at hx
  rcases hx with rfl | rfl | rfl | rfl
  ·exact h1
  ·exact h2
  ·exact h3
  ·exact h4
 have hA := joinF_nums _ (by simp) mA
 have hF := joinF_nums _ (by simp) mF
 have zA := joinS_size _ mA
 have zF := joinS_size _ mF
 have hA : joinF ([decS m.2.2.1, decS m.2.2.2.1, decS m.2.2.2.2], ByteArray.mk #[32]) = _ := hA
 have hF : joinF ([decS m.2.1, decS m.2.2.1, decS m.2.2.2.1, decS m.2.2.2.2], ByteArray.mk #[32]) = _ := hF
 simp only [List.length_cons, List.length_nil] at zA zF
 simp only [s117_eq, itoaF_eq h1.1 h1.2, itoaF_eq h2.1 h2.2, itoaF_eq h3.1 h3.2, itoaF_eq h4.1 h4.2, optE_some, hA, hF]
 by_cases k0 : m.1 = 0
 ·rw [if_pos k0, k0, wordN_join]
  have hz : ((strL atL) ++ ByteArray.mk #[32]).size = 3 := rfl
  rw [show win 0 0 1 = true from rfl, show inBounds 0 2 = true from rfl, show ((0 : Int) == 0) = true from rfl]
  simp only [Bool.not_true, cond_false, cond_true]
  show (bif decide ((strL atL).size + 1 ≤ 9223372036854775807) then bif decide (((strL atL) ++ ByteArray.mk #[32]).size + _ ≤ _) then some ((strL atL) ++ ByteArray.mk #[32] ++ _) else none else none) = _
  rw [hz, show (strL atL).size = 2 from rfl, decide_eq_true (by omega), cond_true, decide_eq_true (by omega), cond_true]
 rw [if_neg k0]
 by_cases k1 : m.1 = 1
 ·rw [if_pos k1, k1, wordN_join]
  have hz : ((strL frL) ++ ByteArray.mk #[32]).size = 5 := rfl
  rw [show win 1 0 1 = true from rfl, show inBounds 1 2 = true from rfl, show ((1 : Int) == 0) = false from rfl]
  simp only [Bool.not_true, cond_false, cond_true]
  show (bif decide ((strL frL).size + 1 ≤ 9223372036854775807) then bif decide (((strL frL) ++ ByteArray.mk #[32]).size + _ ≤ _) then some ((strL frL) ++ ByteArray.mk #[32] ++ _) else none else none) = _
  rw [hz, show (strL frL).size = 4 from rfl, decide_eq_true (by omega), cond_true, decide_eq_true (by omega), cond_true]
 rw [if_neg k1, show win m.1 0 1 = false by
  cases hw : win m.1 0 1 with
  | false => rfl
  | true => have := win_iff.1 hw; omega]
 rfl
theorem wordN_words (k : List UInt8) (hk : (32 : UInt8) ∉ k) (l : List Int) : wordsOf (wordN k l) = strL k :: l.map decS := by
 unfold wordsOf wordN
 rw [strL_toList, cutL_join _ _ hk (fun y hy => by obtain ⟨q, _, rfl⟩ := List.mem_map.1 hy; exact itoa_space q), List.map_cons, List.map_map]
 rfl
theorem sW_own {v : Int} {d : Nat} (hd : 1 ≤ d) (h1 : -(10 ^ d : Nat) < v) (h2 : v < (10 ^ d : Nat)) : sW d (decS v) = some v := by
 unfold sW
 rw [decS_list]
 exact numR_own (trim_itoa hd h1 h2)
theorem mErr_ok {m : Msr} (h : mErr m = 0) : (m.1 = 0 ∨ m.1 = 1) ∧ (0 ≤ m.2.1 ∧ m.2.1 ≤ 1000) ∧ (0 ≤ m.2.2.1 ∧ m.2.2.1 ≤ 1000) ∧ (-100000 ≤ m.2.2.2.1 ∧ m.2.2.2.1 ≤ 100000) ∧ (-100000 ≤ m.2.2.2.2 ∧ m.2.2.2.2 ≤ 100000) ∧ (m.1 = 0 → m.2.1 = 0) := by
 unfold mErr at h
 have a1 := firstE_zero.1 h (unl (win m.1 0 1) 15) (by simp)
 have a2 := firstE_zero.1 h (unl (win m.2.1 0 1000 && (win m.2.2.1 0 1000 && (win m.2.2.2.1 (-100000) 100000 && win m.2.2.2.2 (-100000) 100000))) 2) (by simp)
 have a3 := firstE_zero.1 h (unl (m.1 == 1 || m.2.1 == 0) 3) (by simp)
 have ul : ∀ {b : Bool} {e : Int}, e ≠ 0 → unl b e = 0 → b = true := fun {b e} he hu => by
  unfold unl at hu; cases b
  ·exact absurd hu he
  ·rfl
 have b1 := win_iff.1 (ul (by decide) a1)
 have b2 := ul (by decide) a2
 have b3 := ul (by decide) a3
 simp only [Bool.and_eq_true, win_iff] at b2
 refine ⟨by omega, b2.1, b2.2.1, b2.2.2.1, b2.2.2.2, fun h0 => ?_⟩
 rw [h0] at b3
 simpa using b3
theorem meas_back {m : Msr} (h : mErr m = 0) : mW (wordsOf (fmtM m)) = (m, 0) := by
 have hm := mErr_ok h
 obtain ⟨k, f, t, lo, hi⟩ := m
 simp only at hm
 obtain ⟨hk, hf, ht, hlo, hhi, h0⟩ := hm
 rcases hk with rfl | rfl
 ·obtain rfl := h0 rfl
  show mW (wordsOf (wordN atL [t, lo, hi])) = _
  rw [wordN_words _ (by decide)]
  show mP (strL atL) [decS t, decS lo, decS hi] = _
  unfold mP
  rw [if_pos (show (strL atL).data.toList = atL from rfl), if_pos (show [decS t, decS lo, decS hi].length = 3 from rfl)]
  show mAt (decS t) (decS lo) (decS hi) = _
  unfold mAt
  rw [uW_own (by omega) (by omega) (by omega), sW_own (by omega) (by omega) (by omega), sW_own (by omega) (by omega) (by omega)]
  simp only [mV, h, bne_self_eq_false, cond_false]
 ·show mW (wordsOf (wordN frL [f, t, lo, hi])) = _
  rw [wordN_words _ (by decide)]
  show mP (strL frL) [decS f, decS t, decS lo, decS hi] = _
  unfold mP
  rw [if_neg (show ¬ (strL frL).data.toList = atL by decide), if_pos (show (strL frL).data.toList = frL from rfl), if_pos (show [decS f, decS t, decS lo, decS hi].length = 4 from rfl)]
  show mFrom (decS f) (decS t) (decS lo) (decS hi) = _
  unfold mFrom
  rw [uW_own (by omega) (by omega) (by omega), uW_own (by omega) (by omega) (by omega), sW_own (by omega) (by omega) (by omega), sW_own (by omega) (by omega) (by omega)]
  simp only [mV, h, bne_self_eq_false, cond_false]
theorem fmtM_size (m : Msr) (h : inM m) : (fmtM m).size ≤ 1000 := by
 obtain ⟨_, h1, h2, h3, h4⟩ := h
 unfold fmtM
 have key : ∀ (k : List UInt8) (l : List Int), k.length ≤ 10 → l.length ≤ 4 → (∀ x ∈ l, inI x) → (wordN k l).size ≤ 1000 := fun k l hk hl hi => by
  unfold wordN
  rw [strL_len]
  have := join_len (k :: l.map Lib.itoa) (fun x hx => by
   rcases List.mem_cons.1 hx with rfl | hx
   ·omega
   obtain ⟨n, hn, rfl⟩ := List.mem_map.1 hx
   exact itoa_len (hi n hn).1 (hi n hn).2)
  rw [List.length_cons, List.length_map] at this
  omega
 split
 ·exact key _ _ (by decide) (by simp) (fun x hx => by
   simp only [List.mem_cons, List.not_mem_nil, or_false] at hx
   rcases hx with rfl | rfl | rfl
   ·exact h2
   ·exact h3
   ·exact h4)
 split
 ·exact key _ _ (by decide) (by simp) (fun x hx => by
   simp only [List.mem_cons, List.not_mem_nil, or_false] at hx
   rcases hx with rfl | rfl | rfl | rfl
   ·exact h1
   ·exact h2
   ·exact h3
   ·exact h4)
 ·rw [strL_len]; exact Nat.zero_le _
theorem meas_true (m : Msr) (s : ByteArray) (h : inM m) : s6 (m, s) = some true := by
 unfold s6
 simp only [Bool.not_true, cond_false]
 by_cases hs : (s.size : Int) > 60
 ·rw [decide_eq_true hs]; rfl
 rw [decide_eq_false hs, cond_false, s36_eq m h, s39_eq m h, s37_eq s (by omega), s38_eq s (by omega)]
 simp only [optE_some, decide_true, Bool.not_true, cond_false, bne_self_eq_false, beq_self_eq_true, Bool.and_self, s40_eq]
 by_cases ht : mErr m = 0
 ·rw [ht, s37_eq _ (fmtM_size m h), meas_back ht]
  simp only [bne_self_eq_false, cond_false, optE_some, beq_self_eq_true, cond_true, Bool.and_self]
 ·rw [bne_iff_ne.2 ht]; rfl
end Go.Proofs.YtdoehknomnhlkaaGreatDoor
