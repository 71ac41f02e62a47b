/- The statement SampleStrings holds of what the program computes. -/
import Derived.Test.YtcdpgjlaajdfmaaGreatDoorG20
import Derived.Test.YtcdpgjlaajdfmaaGreatDoorStrBase
set_option linter.unusedSimpArgs false
namespace Go.Proofs.YtcdpgjlaajdfmaaGreatDoor
open Go.Ev
abbrev Pk := Int × Int × (Int × Int) × (Int × Int) × (Int × Int) × (Int × Int) × (Int × Int) × (Int × Int) × (Int × Int) × Int × Int
def okS (g : Int × Int) : Bool := win g.1 (-2000) 2000 && win g.2 (-2000) 2000
def pE (p : Pk) : Int := bif win p.1 0 1023 && (win p.2.1 1 100 && (okS p.2.2.1 && (okS p.2.2.2.1 && (okS p.2.2.2.2.1 && (okS p.2.2.2.2.2.1 && (okS p.2.2.2.2.2.2.1 && (okS p.2.2.2.2.2.2.2.1 && (okS p.2.2.2.2.2.2.2.2.1 && (okS p.2.2.2.2.2.2.2.2.2))))))))) then 0 else 2
theorem within_z (a b c : Int) : s64 (a, b, c) = some (win a b c) := by
 unfold s64 win; cases h : decide (b ≤ a) <;> simp [h]
theorem Within_z (a b c : Int) : s12 (a, b, c) = some (win a b c) := by
 unfold s12 win; cases h : decide (b ≤ a) <;> simp [h]
theorem unless_z (b : Bool) (e : Int) : s63 (b, e) = some (unl b e) := by unfold s63 unl; cases b <;> rfl
theorem sample_z (g : Int × Int) : s81 g = some (okS g) := by
 have e : wr (-2000) = -2000 := by decide
 unfold s81 s109 okS
 simp only [within_z, e, optE_some]
 cases win g.1 (-2000) 2000
 ·rfl
 ·simp only [cond_true, optE_some, Bool.true_and]
theorem gauss_z (g : Int × Int) : s44 (g, 2000) = some (bif okS g then 0 else 2) := by
 have e : wr (-2000) = -2000 := by decide
 unfold s44 okS
 simp only [Within_z, e, optE_some]
 cases win g.1 (-2000) 2000
 ·rfl
 ·cases win g.2 (-2000) 2000 <;> rfl
theorem check_z (p : Pk) : s40 p = some (pE p) := by
 unfold s40 pE
 simp only [within_z, sample_z, unless_z, optE_some]
 cases win p.1 0 1023
 ·rfl
 cases win p.2.1 1 100
 ·rfl
 cases okS (p.2.2.1)
 ·rfl
 cases okS (p.2.2.2.1)
 ·rfl
 cases okS (p.2.2.2.2.1)
 ·rfl
 cases okS (p.2.2.2.2.2.1)
 ·rfl
 cases okS (p.2.2.2.2.2.2.1)
 ·rfl
 cases okS (p.2.2.2.2.2.2.2.1)
 ·rfl
 cases okS (p.2.2.2.2.2.2.2.2.1)
 ·rfl
 cases okS (p.2.2.2.2.2.2.2.2.2) <;> rfl
def uW (d : Nat) (w : ByteArray) : Option Int := match numR w.data.toList d with
 | some v => bif decide (v < 0) then none else some v
 | none => none
theorem uw_cases (d : Nat) (hd : d ≤ 18) (w : ByteArray) (hw : w.size ≤ 1000000) :
 (uW d w = none ∧ ∃ v, atoiF w = some (v, true))
 ∨ (∃ v, atoiF w = some (v, false) ∧ itoaF v = some (decS v) ∧ ((uW d w = none ∧ decide ((decS v).data.toList = w.data.toList) = false) ∨ (decide ((decS v).data.toList = w.data.toList) = true ∧ ((uW d w = none ∧ decide (((strL (trimS w.data.toList)).size : Int) > (d : Int)) = true) ∨ (decide (((strL (trimS w.data.toList)).size : Int) > (d : Int)) = false ∧ ((uW d w = none ∧ decide (v < 0) = true) ∨ (uW d w = some v ∧ decide (v < 0) = false))))))) := by
 rcases word_cases w hw with ⟨v, a1, a2, a3, a4⟩ | ⟨v, a1, a4⟩
 ·have a4 := a4 d hd
  refine .inr ⟨v, a1, itoaF_eq a2 a3, ?_⟩
  by_cases hq : Lib.itoa v = w.data.toList
  ·refine .inr ⟨decide_eq_true hq, ?_⟩
   rw [strL_len]
   by_cases ht : (trimS w.data.toList).length ≤ d
   ·refine .inr ⟨decide_eq_false (by omega), ?_⟩
    rw [if_pos ⟨hq, ht⟩] at a4
    unfold uW
    rw [a4]
    by_cases hv : v < 0
    ·exact .inl ⟨by simp only [decide_eq_true hv, cond_true], decide_eq_true hv⟩
    ·exact .inr ⟨by simp only [decide_eq_false hv, cond_false], decide_eq_false hv⟩
   ·refine .inl ⟨?_, decide_eq_true (by omega)⟩
    rw [if_neg (fun e => ht e.2)] at a4
    unfold uW
    rw [a4]
  ·refine .inl ⟨?_, decide_eq_false hq⟩
   rw [if_neg (fun e => hq e.1)] at a4
   unfold uW
   rw [a4]
 ·refine .inl ⟨?_, v, a1⟩
  unfold uW
  rw [a4 d hd]
def sW (d : Nat) (w : ByteArray) : Option Int := numR w.data.toList d
theorem sw_cases (d : Nat) (hd : d ≤ 18) (w : ByteArray) (hw : w.size ≤ 1000000) :
 (sW d w = none ∧ ∃ v, atoiF w = some (v, true))
 ∨ (∃ v, atoiF w = some (v, false) ∧ itoaF v = some (decS v) ∧ ((sW d w = none ∧ decide ((decS v).data.toList = w.data.toList) = false) ∨ (decide ((decS v).data.toList = w.data.toList) = true ∧ ((sW d w = none ∧ decide (((strL (trimS w.data.toList)).size : Int) > (d : Int)) = true) ∨ (decide (((strL (trimS w.data.toList)).size : Int) > (d : Int)) = false ∧ sW d w = some v))))) := by
 rcases word_cases w hw with ⟨v, a1, a2, a3, a4⟩ | ⟨v, a1, a4⟩
 ·have a4 := a4 d hd
  refine .inr ⟨v, a1, itoaF_eq a2 a3, ?_⟩
  by_cases hq : Lib.itoa v = w.data.toList
  ·refine .inr ⟨decide_eq_true hq, ?_⟩
   rw [strL_len]
   by_cases ht : (trimS w.data.toList).length ≤ d
   ·refine .inr ⟨decide_eq_false (by omega), ?_⟩
    rw [if_pos ⟨hq, ht⟩] at a4
    exact a4
   ·refine .inl ⟨?_, decide_eq_true (by omega)⟩
    rw [if_neg (fun e => ht e.2)] at a4
    exact a4
  ·refine .inl ⟨?_, decide_eq_false hq⟩
   rw [if_neg (fun e => hq e.1)] at a4
   exact a4
 ·exact .inl ⟨a4 d hd, v, a1⟩
theorem stepU {R : Type} (w : ByteArray) (hw : w.size ≤ 1000000) (E : Option R) (K : Int × Bool → Option R) :
 optE (atoiF w) (fun r => optE (trimF (w, ByteArray.mk #[45])) (fun t => bif r.2 then E else optE (itoaF r.1) (fun q => bif !(decide (q.data.toList = w.data.toList)) then E else bif decide ((t.size : Int) > 6) then E else bif decide (r.1 < 0) then E else K r) none) none) none = (uW 6 w).elim E (fun v => K (v, false)) := by
 rw [trimF_eq]
 rcases uw_cases 6 (by omega) w hw with ⟨h, v, a1⟩ | ⟨v, a1, a2, ⟨h, b⟩ | ⟨b, ⟨h, c⟩ | ⟨c, ⟨h, d⟩ | ⟨h, d⟩⟩⟩⟩
 ·simp only [h, a1, optE_some, cond_true, Option.elim]
 ·simp only [h, a1, a2, b, optE_some, cond_false, cond_true, Bool.not_false, Option.elim]
 ·simp only [h, a1, a2, b, optE_some, cond_false, cond_true, Bool.not_true, Option.elim]
  rw [show decide (((strL (trimS w.data.toList)).size : Int) > 6) = true from c]; rfl
 ·simp only [h, a1, a2, b, optE_some, cond_false, cond_true, Bool.not_true, Option.elim]
  rw [show decide (((strL (trimS w.data.toList)).size : Int) > 6) = false from c, d]; rfl
 ·simp only [h, a1, a2, b, optE_some, cond_false, cond_true, Bool.not_true, Option.elim]
  rw [show decide (((strL (trimS w.data.toList)).size : Int) > 6) = false from c, d]; rfl
theorem stepS {R : Type} (w : ByteArray) (hw : w.size ≤ 1000000) (E : Option R) (K : Int × Bool → Option R) :
 optE (atoiF w) (fun r => optE (trimF (w, ByteArray.mk #[45])) (fun t => bif r.2 then E else optE (itoaF r.1) (fun q => bif !(decide (q.data.toList = w.data.toList)) then E else bif decide ((t.size : Int) > 6) then E else K r) none) none) none = (sW 6 w).elim E (fun v => K (v, false)) := by
 rw [trimF_eq]
 rcases sw_cases 6 (by omega) w hw with ⟨h, v, a1⟩ | ⟨v, a1, a2, ⟨h, b⟩ | ⟨b, ⟨h, c⟩ | ⟨c, h⟩⟩⟩
 ·simp only [h, a1, optE_some, cond_true, Option.elim]
 ·simp only [h, a1, a2, b, optE_some, cond_false, cond_true, Bool.not_false, Option.elim]
 ·simp only [h, a1, a2, b, optE_some, cond_false, cond_true, Bool.not_true, Option.elim]
  rw [show decide (((strL (trimS w.data.toList)).size : Int) > 6) = true from c]; rfl
 ·simp only [h, a1, a2, b, optE_some, cond_false, cond_true, Bool.not_true, Option.elim]
  rw [show decide (((strL (trimS w.data.toList)).size : Int) > 6) = false from c]; rfl
def pktO (ws : List ByteArray) : Option (Pk × Int) := if ws.length = 18 then (uW 6 (ws.getD 0 ByteArray.empty)).elim (some ((0, 0, (0, 0), (0, 0), (0, 0), (0, 0), (0, 0), (0, 0), (0, 0), 0, 0), 7)) fun v0 => (uW 6 (ws.getD 1 ByteArray.empty)).elim (some ((0, 0, (0, 0), (0, 0), (0, 0), (0, 0), (0, 0), (0, 0), (0, 0), 0, 0), 7)) fun v1 => (sW 6 (ws.getD 2 ByteArray.empty)).elim (some ((0, 0, (0, 0), (0, 0), (0, 0), (0, 0), (0, 0), (0, 0), (0, 0), 0, 0), 7)) fun v2 => (sW 6 (ws.getD 3 ByteArray.empty)).elim (some ((0, 0, (0, 0), (0, 0), (0, 0), (0, 0), (0, 0), (0, 0), (0, 0), 0, 0), 7)) fun v3 => (sW 6 (ws.getD 4 ByteArray.empty)).elim (some ((0, 0, (0, 0), (0, 0), (0, 0), (0, 0), (0, 0), (0, 0), (0, 0), 0, 0), 7)) fun v4 => (sW 6 (ws.getD 5 ByteArray.empty)).elim (some ((0, 0, (0, 0), (0, 0), (0, 0), (0, 0), (0, 0), (0, 0), (0, 0), 0, 0), 7)) fun v5 => (sW 6 (ws.getD 6 ByteArray.empty)).elim (some ((0, 0, (0, 0), (0, 0), (0, 0), (0, 0), (0, 0), (0, 0), (0, 0), 0, 0), 7)) fun v6 => (sW 6 (ws.getD 7 ByteArray.empty)).elim (some ((0, 0, (0, 0), (0, 0), (0, 0), (0, 0), (0, 0), (0, 0), (0, 0), 0, 0), 7)) fun v7 => (sW 6 (ws.getD 8 ByteArray.empty)).elim (some ((0, 0, (0, 0), (0, 0), (0, 0), (0, 0), (0, 0), (0, 0), (0, 0), 0, 0), 7)) fun v8 => (sW 6 (ws.getD 9 ByteArray.empty)).elim (some ((0, 0, (0, 0), (0, 0), (0, 0), (0, 0), (0, 0), (0, 0), (0, 0), 0, 0), 7)) fun v9 => (sW 6 (ws.getD 10 ByteArray.empty)).elim (some ((0, 0, (0, 0), (0, 0), (0, 0), (0, 0), (0, 0), (0, 0), (0, 0), 0, 0), 7)) fun v10 => (sW 6 (ws.getD 11 ByteArray.empty)).elim (some ((0, 0, (0, 0), (0, 0), (0, 0), (0, 0), (0, 0), (0, 0), (0, 0), 0, 0), 7)) fun v11 => (sW 6 (ws.getD 12 ByteArray.empty)).elim (some ((0, 0, (0, 0), (0, 0), (0, 0), (0, 0), (0, 0), (0, 0), (0, 0), 0, 0), 7)) fun v12 => (sW 6 (ws.getD 13 ByteArray.empty)).elim (some ((0, 0, (0, 0), (0, 0), (0, 0), (0, 0), (0, 0), (0, 0), (0, 0), 0, 0), 7)) fun v13 => (sW 6 (ws.getD 14 ByteArray.empty)).elim (some ((0, 0, (0, 0), (0, 0), (0, 0), (0, 0), (0, 0), (0, 0), (0, 0), 0, 0), 7)) fun v14 => (sW 6 (ws.getD 15 ByteArray.empty)).elim (some ((0, 0, (0, 0), (0, 0), (0, 0), (0, 0), (0, 0), (0, 0), (0, 0), 0, 0), 7)) fun v15 => (sW 6 (ws.getD 16 ByteArray.empty)).elim (some ((0, 0, (0, 0), (0, 0), (0, 0), (0, 0), (0, 0), (0, 0), (0, 0), 0, 0), 7)) fun v16 => (sW 6 (ws.getD 17 ByteArray.empty)).elim (some ((0, 0, (0, 0), (0, 0), (0, 0), (0, 0), (0, 0), (0, 0), (0, 0), 0, 0), 7)) fun v17 => bif pE (v0, v1, (v2, v3), (v4, v5), (v6, v7), (v8, v9), (v10, v11), (v12, v13), (v14, v15), v16, v17) != 0 then some ((0, 0, (0, 0), (0, 0), (0, 0), (0, 0), (0, 0), (0, 0), (0, 0), 0, 0), pE (v0, v1, (v2, v3), (v4, v5), (v6, v7), (v8, v9), (v10, v11), (v12, v13), (v14, v15), v16, v17)) else some ((v0, v1, (v2, v3), (v4, v5), (v6, v7), (v8, v9), (v10, v11), (v12, v13), (v14, v15), v16, v17), 0) else (some ((0, 0, (0, 0), (0, 0), (0, 0), (0, 0), (0, 0), (0, 0), (0, 0), 0, 0), 7))
theorem s7_eq (s : ByteArray) (hs : s.size ≤ 1000) : s7 s = pktO (wordsOf s) := by
 unfold s7 pktO
 have hsp : splitF (s, ByteArray.mk #[32]) = some (wordsOf s) := splitF_eq s 32 (by omega)
 rw [hsp]
 have hz : ∀ x ∈ wordsOf s, x.size ≤ 1000000 := fun x hx => Nat.le_trans (wordsOf_size hx) (by omega)
 generalize wordsOf s = ws at hz ⊢
 simp only [optE_some]
 by_cases h3 : ws.length = 18
 case neg =>
  rw [if_neg h3, show (((ws.length : Nat) : Int) != 18) = true by rw [bne_iff_ne]; omega, cond_true]
 rw [if_pos h3, show (((ws.length : Nat) : Int) != 18) = false by rw [h3]; rfl]
 have hl : ws.length = 18 := h3
 have b18 : decide ((18 : Int) < (ws.length : Int)) = false := by rw [hl]; rfl
 have b0 : decide ((0 : Int) < (ws.length : Int)) = true := by rw [hl]; rfl
 have c0 : inBounds 0 ws.length = true := by rw [hl]; rfl
 have b1 : decide ((1 : Int) < (ws.length : Int)) = true := by rw [hl]; rfl
 have c1 : inBounds 1 ws.length = true := by rw [hl]; rfl
 have b2 : decide ((2 : Int) < (ws.length : Int)) = true := by rw [hl]; rfl
 have c2 : inBounds 2 ws.length = true := by rw [hl]; rfl
 have b3 : decide ((3 : Int) < (ws.length : Int)) = true := by rw [hl]; rfl
 have c3 : inBounds 3 ws.length = true := by rw [hl]; rfl
 have b4 : decide ((4 : Int) < (ws.length : Int)) = true := by rw [hl]; rfl
 have c4 : inBounds 4 ws.length = true := by rw [hl]; rfl
 have b5 : decide ((5 : Int) < (ws.length : Int)) = true := by rw [hl]; rfl
 have c5 : inBounds 5 ws.length = true := by rw [hl]; rfl
 have b6 : decide ((6 : Int) < (ws.length : Int)) = true := by rw [hl]; rfl
 have c6 : inBounds 6 ws.length = true := by rw [hl]; rfl
 have b7 : decide ((7 : Int) < (ws.length : Int)) = true := by rw [hl]; rfl
 have c7 : inBounds 7 ws.length = true := by rw [hl]; rfl
 have b8 : decide ((8 : Int) < (ws.length : Int)) = true := by rw [hl]; rfl
 have c8 : inBounds 8 ws.length = true := by rw [hl]; rfl
 have b9 : decide ((9 : Int) < (ws.length : Int)) = true := by rw [hl]; rfl
 have c9 : inBounds 9 ws.length = true := by rw [hl]; rfl
 have b10 : decide ((10 : Int) < (ws.length : Int)) = true := by rw [hl]; rfl
 have c10 : inBounds 10 ws.length = true := by rw [hl]; rfl
 have b11 : decide ((11 : Int) < (ws.length : Int)) = true := by rw [hl]; rfl
 have c11 : inBounds 11 ws.length = true := by rw [hl]; rfl
 have b12 : decide ((12 : Int) < (ws.length : Int)) = true := by rw [hl]; rfl
 have c12 : inBounds 12 ws.length = true := by rw [hl]; rfl
 have b13 : decide ((13 : Int) < (ws.length : Int)) = true := by rw [hl]; rfl
 have c13 : inBounds 13 ws.length = true := by rw [hl]; rfl
 have b14 : decide ((14 : Int) < (ws.length : Int)) = true := by rw [hl]; rfl
 have c14 : inBounds 14 ws.length = true := by rw [hl]; rfl
 have b15 : decide ((15 : Int) < (ws.length : Int)) = true := by rw [hl]; rfl
 have c15 : inBounds 15 ws.length = true := by rw [hl]; rfl
 have b16 : decide ((16 : Int) < (ws.length : Int)) = true := by rw [hl]; rfl
 have c16 : inBounds 16 ws.length = true := by rw [hl]; rfl
 have b17 : decide ((17 : Int) < (ws.length : Int)) = true := by rw [hl]; rfl
 have c17 : inBounds 17 ws.length = true := by rw [hl]; rfl
 have z0 : (ws.getD 0 ByteArray.empty).size ≤ 1000000 := hz _ (getDW_mem (by omega))
 have z1 : (ws.getD 1 ByteArray.empty).size ≤ 1000000 := hz _ (getDW_mem (by omega))
 have z2 : (ws.getD 2 ByteArray.empty).size ≤ 1000000 := hz _ (getDW_mem (by omega))
 have z3 : (ws.getD 3 ByteArray.empty).size ≤ 1000000 := hz _ (getDW_mem (by omega))
 have z4 : (ws.getD 4 ByteArray.empty).size ≤ 1000000 := hz _ (getDW_mem (by omega))
 have z5 : (ws.getD 5 ByteArray.empty).size ≤ 1000000 := hz _ (getDW_mem (by omega))
 have z6 : (ws.getD 6 ByteArray.empty).size ≤ 1000000 := hz _ (getDW_mem (by omega))
 have z7 : (ws.getD 7 ByteArray.empty).size ≤ 1000000 := hz _ (getDW_mem (by omega))
 have z8 : (ws.getD 8 ByteArray.empty).size ≤ 1000000 := hz _ (getDW_mem (by omega))
 have z9 : (ws.getD 9 ByteArray.empty).size ≤ 1000000 := hz _ (getDW_mem (by omega))
 have z10 : (ws.getD 10 ByteArray.empty).size ≤ 1000000 := hz _ (getDW_mem (by omega))
 have z11 : (ws.getD 11 ByteArray.empty).size ≤ 1000000 := hz _ (getDW_mem (by omega))
 have z12 : (ws.getD 12 ByteArray.empty).size ≤ 1000000 := hz _ (getDW_mem (by omega))
 have z13 : (ws.getD 13 ByteArray.empty).size ≤ 1000000 := hz _ (getDW_mem (by omega))
 have z14 : (ws.getD 14 ByteArray.empty).size ≤ 1000000 := hz _ (getDW_mem (by omega))
 have z15 : (ws.getD 15 ByteArray.empty).size ≤ 1000000 := hz _ (getDW_mem (by omega))
 have z16 : (ws.getD 16 ByteArray.empty).size ≤ 1000000 := hz _ (getDW_mem (by omega))
 have z17 : (ws.getD 17 ByteArray.empty).size ≤ 1000000 := hz _ (getDW_mem (by omega))
 have u0 := fun E K => stepU (R := Pk × Int) (ws.getD 0 ByteArray.empty) z0 E K
 have u1 := fun E K => stepU (R := Pk × Int) (ws.getD 1 ByteArray.empty) z1 E K
 have u2 := fun E K => stepS (R := Pk × Int) (ws.getD 2 ByteArray.empty) z2 E K
 have u3 := fun E K => stepS (R := Pk × Int) (ws.getD 3 ByteArray.empty) z3 E K
 have u4 := fun E K => stepS (R := Pk × Int) (ws.getD 4 ByteArray.empty) z4 E K
 have u5 := fun E K => stepS (R := Pk × Int) (ws.getD 5 ByteArray.empty) z5 E K
 have u6 := fun E K => stepS (R := Pk × Int) (ws.getD 6 ByteArray.empty) z6 E K
 have u7 := fun E K => stepS (R := Pk × Int) (ws.getD 7 ByteArray.empty) z7 E K
 have u8 := fun E K => stepS (R := Pk × Int) (ws.getD 8 ByteArray.empty) z8 E K
 have u9 := fun E K => stepS (R := Pk × Int) (ws.getD 9 ByteArray.empty) z9 E K
 have u10 := fun E K => stepS (R := Pk × Int) (ws.getD 10 ByteArray.empty) z10 E K
 have u11 := fun E K => stepS (R := Pk × Int) (ws.getD 11 ByteArray.empty) z11 E K
 have u12 := fun E K => stepS (R := Pk × Int) (ws.getD 12 ByteArray.empty) z12 E K
 have u13 := fun E K => stepS (R := Pk × Int) (ws.getD 13 ByteArray.empty) z13 E K
 have u14 := fun E K => stepS (R := Pk × Int) (ws.getD 14 ByteArray.empty) z14 E K
 have u15 := fun E K => stepS (R := Pk × Int) (ws.getD 15 ByteArray.empty) z15 E K
 have u16 := fun E K => stepS (R := Pk × Int) (ws.getD 16 ByteArray.empty) z16 E K
 have u17 := fun E K => stepS (R := Pk × Int) (ws.getD 17 ByteArray.empty) z17 E K
 simp only [b18, b0, c0, b1, c1, b2, c2, b3, c3, b4, c4, b5, c5, b6, c6, b7, c7, b8, c8, b9, c9, b10, c10, b11, c11, b12, c12, b13, c13, b14, c14, b15, c15, b16, c16, b17, c17, cond_true, cond_false, optE_some, u0, u1, u2, u3, u4, u5, u6, u7, u8, u9, u10, u11, u12, u13, u14, u15, u16, u17, check_z]
def nums (p : Pk) : List Int := [p.1, p.2.1, p.2.2.1.1, p.2.2.1.2, p.2.2.2.1.1, p.2.2.2.1.2, p.2.2.2.2.1.1, p.2.2.2.2.1.2, p.2.2.2.2.2.1.1, p.2.2.2.2.2.1.2, p.2.2.2.2.2.2.1.1, p.2.2.2.2.2.2.1.2, p.2.2.2.2.2.2.2.1.1, p.2.2.2.2.2.2.2.1.2, p.2.2.2.2.2.2.2.2.1.1, p.2.2.2.2.2.2.2.2.1.2, p.2.2.2.2.2.2.2.2.2.1, p.2.2.2.2.2.2.2.2.2.2]
def inP (p : Pk) : Prop := ∀ x ∈ nums p, inI x
theorem s6_eq (p : Pk) (hp : inP p) : s6 p = some (joinS (nums p)) := by
 unfold s6
 have hj := joinF_nums (nums p) (by simp [nums]) hp
 have hj : joinF ([decS (p.1), decS (p.2.1), decS (p.2.2.1.1), decS (p.2.2.1.2), decS (p.2.2.2.1.1), decS (p.2.2.2.1.2), decS (p.2.2.2.2.1.1), decS (p.2.2.2.2.1.2), decS (p.2.2.2.2.2.1.1), decS (p.2.2.2.2.2.1.2), decS (p.2.2.2.2.2.2.1.1), decS (p.2.2.2.2.2.2.1.2), decS (p.2.2.2.2.2.2.2.1.1), decS (p.2.2.2.2.2.2.2.1.2), decS (p.2.2.2.2.2.2.2.2.1.1), decS (p.2.2.2.2.2.2.2.2.1.2), decS (p.2.2.2.2.2.2.2.2.2.1), decS (p.2.2.2.2.2.2.2.2.2.2)], ByteArray.mk #[32]) = _ := hj
 have h0 : inI (p.1) := hp _ (by simp [nums])
 have h1 : inI (p.2.1) := hp _ (by simp [nums])
 have h2 : inI (p.2.2.1.1) := hp _ (by simp [nums])
 have h3 : inI (p.2.2.1.2) := hp _ (by simp [nums])
 have h4 : inI (p.2.2.2.1.1) := hp _ (by simp [nums])
 have h5 : inI (p.2.2.2.1.2) := hp _ (by simp [nums])
 have h6 : inI (p.2.2.2.2.1.1) := hp _ (by simp [nums])
 have h7 : inI (p.2.2.2.2.1.2) := hp _ (by simp [nums])
 have h8 : inI (p.2.2.2.2.2.1.1) := hp _ (by simp [nums])
 have h9 : inI (p.2.2.2.2.2.1.2) := hp _ (by simp [nums])
 have h10 : inI (p.2.2.2.2.2.2.1.1) := hp _ (by simp [nums])
 have h11 : inI (p.2.2.2.2.2.2.1.2) := hp _ (by simp [nums])
 have h12 : inI (p.2.2.2.2.2.2.2.1.1) := hp _ (by simp [nums])
 have h13 : inI (p.2.2.2.2.2.2.2.1.2) := hp _ (by simp [nums])
 have h14 : inI (p.2.2.2.2.2.2.2.2.1.1) := hp _ (by simp [nums])
 have h15 : inI (p.2.2.2.2.2.2.2.2.1.2) := hp _ (by simp [nums])
 have h16 : inI (p.2.2.2.2.2.2.2.2.2.1) := hp _ (by simp [nums])
 have h17 : inI (p.2.2.2.2.2.2.2.2.2.2) := hp _ (by simp [nums])
 simp only [itoaF_eq h0.1 h0.2, itoaF_eq h1.1 h1.2, itoaF_eq h2.1 h2.2, itoaF_eq h3.1 h3.2, itoaF_eq h4.1 h4.2, itoaF_eq h5.1 h5.2, itoaF_eq h6.1 h6.2, itoaF_eq h7.1 h7.2, itoaF_eq h8.1 h8.2, itoaF_eq h9.1 h9.2, itoaF_eq h10.1 h10.2, itoaF_eq h11.1 h11.2, itoaF_eq h12.1 h12.2, itoaF_eq h13.1 h13.2, itoaF_eq h14.1 h14.2, itoaF_eq h15.1 h15.2, itoaF_eq h16.1 h16.2, itoaF_eq h17.1 h17.2, optE_some, hj]
theorem uW_own {v : Int} {d : Nat} (hd : 1 ≤ d) (h1 : 0 ≤ v) (h2 : v < (10 ^ d : Nat)) : uW d (decS v) = some v := by
 unfold uW
 rw [decS_list, numR_own (trim_itoa hd (by omega) h2)]
 simp only [decide_eq_false (show ¬ v < 0 by omega), cond_false]
theorem sW_own {v : Int} {d : Nat} (hd : 1 ≤ d) (h1 : -(10 ^ d : Nat) < v) (h2 : v < (10 ^ d : Nat)) : sW d (decS v) = some v := by
 unfold sW
 rw [decS_list]
 exact numR_own (trim_itoa hd h1 h2)
theorem pE_ok {p : Pk} (h : pE p = 0) : (0 ≤ p.1 ∧ p.1 ≤ 1023) ∧ (1 ≤ p.2.1 ∧ p.2.1 ≤ 100) ∧ (-2000 ≤ p.2.2.1.1 ∧ p.2.2.1.1 ≤ 2000) ∧ (-2000 ≤ p.2.2.1.2 ∧ p.2.2.1.2 ≤ 2000) ∧ (-2000 ≤ p.2.2.2.1.1 ∧ p.2.2.2.1.1 ≤ 2000) ∧ (-2000 ≤ p.2.2.2.1.2 ∧ p.2.2.2.1.2 ≤ 2000) ∧ (-2000 ≤ p.2.2.2.2.1.1 ∧ p.2.2.2.2.1.1 ≤ 2000) ∧ (-2000 ≤ p.2.2.2.2.1.2 ∧ p.2.2.2.2.1.2 ≤ 2000) ∧ (-2000 ≤ p.2.2.2.2.2.1.1 ∧ p.2.2.2.2.2.1.1 ≤ 2000) ∧ (-2000 ≤ p.2.2.2.2.2.1.2 ∧ p.2.2.2.2.2.1.2 ≤ 2000) ∧ (-2000 ≤ p.2.2.2.2.2.2.1.1 ∧ p.2.2.2.2.2.2.1.1 ≤ 2000) ∧ (-2000 ≤ p.2.2.2.2.2.2.1.2 ∧ p.2.2.2.2.2.2.1.2 ≤ 2000) ∧ (-2000 ≤ p.2.2.2.2.2.2.2.1.1 ∧ p.2.2.2.2.2.2.2.1.1 ≤ 2000) ∧ (-2000 ≤ p.2.2.2.2.2.2.2.1.2 ∧ p.2.2.2.2.2.2.2.1.2 ≤ 2000) ∧ (-2000 ≤ p.2.2.2.2.2.2.2.2.1.1 ∧ p.2.2.2.2.2.2.2.2.1.1 ≤ 2000) ∧ (-2000 ≤ p.2.2.2.2.2.2.2.2.1.2 ∧ p.2.2.2.2.2.2.2.2.1.2 ≤ 2000) ∧ (-2000 ≤ p.2.2.2.2.2.2.2.2.2.1 ∧ p.2.2.2.2.2.2.2.2.2.1 ≤ 2000) ∧ (-2000 ≤ p.2.2.2.2.2.2.2.2.2.2 ∧ p.2.2.2.2.2.2.2.2.2.2 ≤ 2000) := by
 unfold pE at h
 cases hc : (win p.1 0 1023 && (win p.2.1 1 100 && (okS p.2.2.1 && (okS p.2.2.2.1 && (okS p.2.2.2.2.1 && (okS p.2.2.2.2.2.1 && (okS p.2.2.2.2.2.2.1 && (okS p.2.2.2.2.2.2.2.1 && (okS p.2.2.2.2.2.2.2.2.1 && (okS p.2.2.2.2.2.2.2.2.2)))))))))) with
 | false => rw [hc] at h; cases h
 | true =>
   simp only [okS, Bool.and_eq_true, win_iff] at hc
   omega
theorem pkt_back {p : Pk} (h : pE p = 0) : pktO (wordsOf (joinS (nums p))) = some (p, 0) := by
 have ht := pE_ok h
 have e : (p.1, p.2.1, (p.2.2.1.1, p.2.2.1.2), (p.2.2.2.1.1, p.2.2.2.1.2), (p.2.2.2.2.1.1, p.2.2.2.2.1.2), (p.2.2.2.2.2.1.1, p.2.2.2.2.2.1.2), (p.2.2.2.2.2.2.1.1, p.2.2.2.2.2.2.1.2), (p.2.2.2.2.2.2.2.1.1, p.2.2.2.2.2.2.2.1.2), (p.2.2.2.2.2.2.2.2.1.1, p.2.2.2.2.2.2.2.2.1.2), p.2.2.2.2.2.2.2.2.2.1, p.2.2.2.2.2.2.2.2.2.2) = p := rfl
 unfold nums
 rw [words_join]
 unfold pktO
 simp only [List.map_cons, List.map_nil, List.length_cons, List.length_nil, if_true, List.getD_cons_zero, List.getD_cons_succ]
 have o0 : uW 6 (decS (p.1)) = some (p.1) := uW_own (by omega) (by have := ht; omega) (by have := ht; omega)
 have o1 : uW 6 (decS (p.2.1)) = some (p.2.1) := uW_own (by omega) (by have := ht; omega) (by have := ht; omega)
 have o2 : sW 6 (decS (p.2.2.1.1)) = some (p.2.2.1.1) := sW_own (by omega) (by have := ht; omega) (by have := ht; omega)
 have o3 : sW 6 (decS (p.2.2.1.2)) = some (p.2.2.1.2) := sW_own (by omega) (by have := ht; omega) (by have := ht; omega)
 have o4 : sW 6 (decS (p.2.2.2.1.1)) = some (p.2.2.2.1.1) := sW_own (by omega) (by have := ht; omega) (by have := ht; omega)
 have o5 : sW 6 (decS (p.2.2.2.1.2)) = some (p.2.2.2.1.2) := sW_own (by omega) (by have := ht; omega) (by have := ht; omega)
 have o6 : sW 6 (decS (p.2.2.2.2.1.1)) = some (p.2.2.2.2.1.1) := sW_own (by omega) (by have := ht; omega) (by have := ht; omega)
 have o7 : sW 6 (decS (p.2.2.2.2.1.2)) = some (p.2.2.2.2.1.2) := sW_own (by omega) (by have := ht; omega) (by have := ht; omega)
 have o8 : sW 6 (decS (p.2.2.2.2.2.1.1)) = some (p.2.2.2.2.2.1.1) := sW_own (by omega) (by have := ht; omega) (by have := ht; omega)
 have o9 : sW 6 (decS (p.2.2.2.2.2.1.2)) = some (p.2.2.2.2.2.1.2) := sW_own (by omega) (by have := ht; omega) (by have := ht; omega)
 have o10 : sW 6 (decS (p.2.2.2.2.2.2.1.1)) = some (p.2.2.2.2.2.2.1.1) := sW_own (by omega) (by have := ht; omega) (by have := ht; omega)
 have o11 : sW 6 (decS (p.2.2.2.2.2.2.1.2)) = some (p.2.2.2.2.2.2.1.2) := sW_own (by omega) (by have := ht; omega) (by have := ht; omega)
 have o12 : sW 6 (decS (p.2.2.2.2.2.2.2.1.1)) = some (p.2.2.2.2.2.2.2.1.1) := sW_own (by omega) (by have := ht; omega) (by have := ht; omega)
 have o13 : sW 6 (decS (p.2.2.2.2.2.2.2.1.2)) = some (p.2.2.2.2.2.2.2.1.2) := sW_own (by omega) (by have := ht; omega) (by have := ht; omega)
 have o14 : sW 6 (decS (p.2.2.2.2.2.2.2.2.1.1)) = some (p.2.2.2.2.2.2.2.2.1.1) := sW_own (by omega) (by have := ht; omega) (by have := ht; omega)
 have o15 : sW 6 (decS (p.2.2.2.2.2.2.2.2.1.2)) = some (p.2.2.2.2.2.2.2.2.1.2) := sW_own (by omega) (by have := ht; omega) (by have := ht; omega)
 have o16 : sW 6 (decS (p.2.2.2.2.2.2.2.2.2.1)) = some (p.2.2.2.2.2.2.2.2.2.1) := sW_own (by omega) (by have := ht; omega) (by have := ht; omega)
 have o17 : sW 6 (decS (p.2.2.2.2.2.2.2.2.2.2)) = some (p.2.2.2.2.2.2.2.2.2.2) := sW_own (by omega) (by have := ht; omega) (by have := ht; omega)
 simp only [o0, o1, o2, o3, o4, o5, o6, o7, o8, o9, o10, o11, o12, o13, o14, o15, o16, o17, Option.elim, e, h, bne_self_eq_false, cond_false]
end Go.Proofs.YtcdpgjlaajdfmaaGreatDoor
