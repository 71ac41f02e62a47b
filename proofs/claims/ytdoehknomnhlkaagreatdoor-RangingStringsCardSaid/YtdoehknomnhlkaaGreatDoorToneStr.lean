import Derived.Test.YtdoehknomnhlkaaGreatDoorG70
import Derived.Test.YtdoehknomnhlkaaGreatDoorStrBase
set_option linter.unusedSimpArgs false
namespace Go.Proofs.YtdoehknomnhlkaaGreatDoor
open Go.Ev
theorem s117_eq (a b c : Int) : s117 (a, b, c) = some (win a b c) := by
 unfold s117 win; cases h : decide (b ≤ a) <;> simp [h]
theorem s51_eq (a b c : Int) : s51 (a, b, c) = some (win a b c) := by
 unfold s51 win; cases h : decide (b ≤ a) <;> simp [h]
theorem s145_eq (b : Bool) (e : Int) : s145 (b, e) = some (unl b e) := by unfold s145 unl; cases b <;> rfl
theorem s106_eq (l : List Int) (hl : l.length ≤ 1000) : s106 l = some (firstE l) := by
 have h := loop_scan (step := step106_0) (st := fun k => (l, (l.length : Int), (k : Int))) (hit := fun k => (fun x => bif x != 0 then some (Sum.inl x : Int ⊕ Unit) else none) (l.getD k 0)) (n := l.length) (e := .inr ())
  (fun k hk => by
    simp only [step106_0, lt_cast, inB_cast, hk, decide_true, cond_true, Int.toNat_natCast, wr_succ (show k < 4611686018427387904 by omega)]
    cases h : l.getD k 0 != 0 <;> simp [h])
  (by simp only [step106_0, lt_cast, Nat.lt_irrefl, decide_false, cond_false]) l.length 0 (by omega)
 rw [scan_list0 (fun x => bif x != 0 then some (Sum.inl x : Int ⊕ Unit) else none) (.inr ()) l 0, scanL_first] at h
 unfold s106
 have h' : loopVal step106_0 (l, (l.length : Int), 0) = _ := h
 rw [h']
 cases hf : firstE l != 0
 ·simp [optE, sumE, cond_false]
  have : firstE l = 0 := by simpa using hf
  exact this.symm
 ·simp [optE, sumE]
def tE (t : Int × Int × Int) : Int := bif win t.1 1 100000 then (bif win t.2.1 0 (wr (t.1 - 1)) then (bif decide (t.2.2 < t.2.1) then 9 else bif decide (t.2.2 > (wr ((wr (t.2.1 + t.1)) - 1))) then 23 else 0) else 2) else 2
theorem s21_eq (t : Int × Int × Int) : s21 t = some (tE t) := by
 unfold s21 tE
 simp only [s51_eq, optE_some]
 cases win t.1 1 100000
 ·rfl
 simp only [Bool.not_true, cond_false, cond_true]
 cases win t.2.1 0 (wr (t.1 - 1))
 ·rfl
 cases decide (t.2.2 < t.2.1) <;> cases decide (t.2.2 > (wr ((wr (t.2.1 + t.1)) - 1))) <;> rfl
theorem s107_eq (t : Int × Int × Int) : s107 t = some (tE t) := by
 unfold s107 tE
 simp only [s117_eq, s145_eq, s106_eq _ (show ([_, _, _] : List Int).length ≤ 1000 by simp), optE_some]
 have e1 : decide (t.2.2 ≥ t.2.1) = !decide (t.2.2 < t.2.1) := by
  by_cases h : t.2.2 < t.2.1
  ·rw [decide_eq_true h, decide_eq_false (by omega)]; rfl
  ·rw [decide_eq_false h, decide_eq_true (by omega)]; rfl
 have e2 : decide (t.2.2 ≤ (wr ((wr (t.2.1 + t.1)) - 1))) = !decide (t.2.2 > (wr ((wr (t.2.1 + t.1)) - 1))) := by
  by_cases h : t.2.2 > (wr ((wr (t.2.1 + t.1)) - 1))
  ·rw [decide_eq_true h, decide_eq_false (by omega)]; rfl
  ·rw [decide_eq_false h, decide_eq_true (by omega)]; rfl
 rw [e1, e2]
 cases win t.1 1 100000
 ·rfl
 cases win t.2.1 0 (wr (t.1 - 1))
 ·rfl
 cases decide (t.2.2 < t.2.1) <;> cases decide (t.2.2 > (wr ((wr (t.2.1 + t.1)) - 1))) <;> rfl
def uW (d : Nat) (w : ByteArray) : Option Int := match numR w.data.toList d with
 | some v => bif decide (v < 0) then none else some v
 | none => none
theorem uw_cases (d : Nat) (hd : d ≤ 18) (w : ByteArray) (hw : w.size ≤ 1000000) :
 (uW d w = none ∧ ∃ v, atoiF w = some (v, true))
 ∨ (∃ v, atoiF w = some (v, false) ∧ itoaF v = some (decS v) ∧ ((uW d w = none ∧ decide ((decS v).data.toList = w.data.toList) = false) ∨ (decide ((decS v).data.toList = w.data.toList) = true ∧ ((uW d w = none ∧ decide (((strL (trimS w.data.toList)).size : Int) > (d : Int)) = true) ∨ (decide (((strL (trimS w.data.toList)).size : Int) > (d : Int)) = false ∧ ((uW d w = none ∧ decide (v < 0) = true) ∨ (uW d w = some v ∧ decide (v < 0) = false))))))) := by
 rcases word_cases w hw with ⟨v, a1, a2, a3, a4⟩ | ⟨v, a1, a4⟩
 ·have a4 := a4 d hd
  refine .inr ⟨v, a1, itoaF_eq a2 a3, ?_⟩
  by_cases hq : Lib.itoa v = w.data.toList
  ·refine .inr ⟨decide_eq_true hq, ?_⟩
   rw [strL_len]
   by_cases ht : (trimS w.data.toList).length ≤ d
   ·refine .inr ⟨decide_eq_false (by omega), ?_⟩
    rw [if_pos ⟨hq, ht⟩] at a4
    unfold uW
    rw [a4]
    by_cases hv : v < 0
    ·exact .inl ⟨by simp only [decide_eq_true hv, cond_true], decide_eq_true hv⟩
    ·exact .inr ⟨by simp only [decide_eq_false hv, cond_false], decide_eq_false hv⟩
   ·refine .inl ⟨?_, decide_eq_true (by omega)⟩
    rw [if_neg (fun e => ht e.2)] at a4
    unfold uW
    rw [a4]
  ·refine .inl ⟨?_, decide_eq_false hq⟩
   rw [if_neg (fun e => hq e.1)] at a4
   unfold uW
   rw [a4]
 ·refine .inl ⟨?_, v, a1⟩
  unfold uW
  rw [a4 d hd]
theorem numS_cases (d : Nat) (w : ByteArray) : (uW d w = none ∧ ((numS w d).2 = false ∨ ((numS w d).2 = true ∧ decide ((numS w d).1 < 0) = true))) ∨ (uW d w = some (numS w d).1 ∧ (numS w d).2 = true ∧ decide ((numS w d).1 < 0) = false) := by
 unfold uW numS
 cases numR w.data.toList d with
 | none => exact .inl ⟨rfl, .inl rfl⟩
 | some v =>
   by_cases hv : v < 0
   ·exact .inl ⟨by simp only [decide_eq_true hv, cond_true], .inr ⟨rfl, decide_eq_true hv⟩⟩
   ·exact .inr ⟨by simp only [decide_eq_false hv, cond_false], rfl, decide_eq_false hv⟩
def w0 (s : ByteArray) (k : Nat) : ByteArray := (wordsOf s).getD k ByteArray.empty
theorem w0_size {s : ByteArray} (k : Nat) (h : k < (wordsOf s).length) : (w0 s k).size ≤ s.size := wordsOf_size (getDW_mem h)
def toneV (t : Int × Int × Int) : (Int × Int × Int) × Int := bif tE t != 0 then ((0, 0, 0), tE t) else (t, 0)
def toneP (s : ByteArray) : (Int × Int × Int) × Int := if (wordsOf s).length = 3 then (match uW 6 (w0 s 0) with
 | none => ((0, 0, 0), 7)
 | some a => match uW 6 (w0 s 1) with
   | none => ((0, 0, 0), 7)
   | some b => match uW 6 (w0 s 2) with
     | none => ((0, 0, 0), 7)
     | some c => toneV (a, b, c)) else ((0, 0, 0), 7)
theorem first7 (e : Int) : firstE [7, e] = 7 := rfl
theorem first0 (e : Int) : firstE [0, e] = e := by
 show (bif (0 : Int) != 0 then 0 else bif e != 0 then e else 0) = e
 by_cases h : e = 0
 ·subst h; rfl
 ·rw [bne_iff_ne.2 h]; rfl
theorem s18_eq (s : ByteArray) (hs : s.size ≤ 1000) : s18 s = some (toneP s) := by
 unfold s18 toneP
 have hsp : splitF (s, ByteArray.mk #[32]) = some (wordsOf s) := splitF_eq s 32 (by omega)
 rw [hsp]
 simp only [optE_some, s107_eq, s106_eq _ (show ([_, _] : List Int).length ≤ 1000 by simp), first7, first0, trimF_eq]
 by_cases h3 : (wordsOf s).length = 3
 case neg =>
  rw [if_neg h3, show ((((wordsOf s).length : Nat) : Int) != 3) = true by rw [bne_iff_ne]; omega]
  rfl
 rw [if_pos h3, show ((((wordsOf s).length : Nat) : Int) != 3) = false by rw [h3]; rfl]
 have hb : ∀ k : Nat, k < 3 → inBounds (k : Int) (wordsOf s).length = true := fun k hk => by rw [inB_cast, h3]; exact decide_eq_true hk
 have hb0 : inBounds 0 (wordsOf s).length = true := hb 0 (by omega)
 have hb1 : inBounds 1 (wordsOf s).length = true := hb 1 (by omega)
 have hb2 : inBounds 2 (wordsOf s).length = true := hb 2 (by omega)
 have e7 : ((7 : Int) != 0) = true := rfl
 have g0 : (wordsOf s).getD 0 ByteArray.empty = w0 s 0 := rfl
 have g1 : (wordsOf s).getD 1 ByteArray.empty = w0 s 1 := rfl
 have g2 : (wordsOf s).getD 2 ByteArray.empty = w0 s 2 := rfl
 simp only [hb0, hb1, hb2, cond_true, cond_false, e7, g0, g1, g2]
 have z0 := w0_size (s := s) 0 (by omega)
 have z1 := w0_size (s := s) 1 (by omega)
 have z2 := w0_size (s := s) 2 (by omega)
 generalize w0 s 0 = x0 at z0 ⊢
 generalize w0 s 1 = x1 at z1 ⊢
 generalize w0 s 2 = x2 at z2 ⊢
 rcases uw_cases 6 (by omega) x0 (by omega) with ⟨h, v, a1⟩ | ⟨v, a1, a2, ⟨h, b⟩ | ⟨b, ⟨h, c⟩ | ⟨c, ⟨h, d⟩ | ⟨h, d⟩⟩⟩⟩
 ·simp only [h, a1, optE_some, cond_true]
 ·simp only [h, a1, a2, optE_some, cond_false, b, Bool.not_false, cond_true]
 ·simp only [h, a1, a2, optE_some, cond_false, b, Bool.not_true, cond_true]
  rw [show decide (((strL (trimS x0.data.toList)).size : Int) > 6) = true from c]; rfl
 ·simp only [h, a1, a2, optE_some, cond_false, b, Bool.not_true, cond_true]
  rw [show decide (((strL (trimS x0.data.toList)).size : Int) > 6) = false from c, d]; rfl
 simp only [h, a1, a2, optE_some, cond_false, b, Bool.not_true, cond_true]
 rw [show decide (((strL (trimS x0.data.toList)).size : Int) > 6) = false from c, d]
 simp only [cond_false]
 clear h a1 a2 b c d
 rcases uw_cases 6 (by omega) x1 (by omega) with ⟨h, u, a1⟩ | ⟨u, a1, a2, ⟨h, b⟩ | ⟨b, ⟨h, c⟩ | ⟨c, ⟨h, d⟩ | ⟨h, d⟩⟩⟩⟩
 ·simp only [h, a1, optE_some, cond_true]
 ·simp only [h, a1, a2, optE_some, cond_false, b, Bool.not_false, cond_true]
 ·simp only [h, a1, a2, optE_some, cond_false, b, Bool.not_true, cond_true]
  rw [show decide (((strL (trimS x1.data.toList)).size : Int) > 6) = true from c]; rfl
 ·simp only [h, a1, a2, optE_some, cond_false, b, Bool.not_true, cond_true]
  rw [show decide (((strL (trimS x1.data.toList)).size : Int) > 6) = false from c, d]; rfl
 simp only [h, a1, a2, optE_some, cond_false, b, Bool.not_true, cond_true]
 rw [show decide (((strL (trimS x1.data.toList)).size : Int) > 6) = false from c, d]
 simp only [cond_false]
 clear h a1 a2 b c d
 rcases uw_cases 6 (by omega) x2 (by omega) with ⟨h, q, a1⟩ | ⟨q, a1, a2, ⟨h, b⟩ | ⟨b, ⟨h, c⟩ | ⟨c, ⟨h, d⟩ | ⟨h, d⟩⟩⟩⟩
 ·simp only [h, a1, optE_some, cond_true]
 ·simp only [h, a1, a2, optE_some, cond_false, b, Bool.not_false, cond_true]
 ·simp only [h, a1, a2, optE_some, cond_false, b, Bool.not_true, cond_true]
  rw [show decide (((strL (trimS x2.data.toList)).size : Int) > 6) = true from c]; rfl
 ·simp only [h, a1, a2, optE_some, cond_false, b, Bool.not_true, cond_true]
  rw [show decide (((strL (trimS x2.data.toList)).size : Int) > 6) = false from c, d]; rfl
 simp only [h, a1, a2, optE_some, cond_false, b, Bool.not_true, cond_true]
 rw [show decide (((strL (trimS x2.data.toList)).size : Int) > 6) = false from c, d]
 simp only [cond_false]
 unfold toneV
 cases tE (v, u, q) != 0 <;> rfl
theorem s19_eq (s : ByteArray) (hs : s.size ≤ 1000) : s19 s = some (toneP s) := by
 unfold s19 toneP
 have hsp : s94 (s, 32) = some (wordsOf s) := s94_eq s 32 (by omega)
 rw [hsp]
 simp only [optE_some]
 by_cases h3 : (wordsOf s).length = 3
 case neg =>
  rw [if_neg h3, show ((((wordsOf s).length : Nat) : Int) != 3) = true by rw [bne_iff_ne]; omega]
  rfl
 rw [if_pos h3, show ((((wordsOf s).length : Nat) : Int) != 3) = false by rw [h3]; rfl]
 have hb : ∀ k : Nat, k < 3 → inBounds (k : Int) (wordsOf s).length = true := fun k hk => by rw [inB_cast, h3]; exact decide_eq_true hk
 have hb0 : inBounds 0 (wordsOf s).length = true := hb 0 (by omega)
 have hb1 : inBounds 1 (wordsOf s).length = true := hb 1 (by omega)
 have hb2 : inBounds 2 (wordsOf s).length = true := hb 2 (by omega)
 have g0 : (wordsOf s).getD 0 ByteArray.empty = w0 s 0 := rfl
 have g1 : (wordsOf s).getD 1 ByteArray.empty = w0 s 1 := rfl
 have g2 : (wordsOf s).getD 2 ByteArray.empty = w0 s 2 := rfl
 simp only [hb0, hb1, hb2, cond_true, cond_false, g0, g1, g2]
 have z0 := w0_size (s := s) 0 (by omega)
 have z1 := w0_size (s := s) 1 (by omega)
 have z2 := w0_size (s := s) 2 (by omega)
 generalize w0 s 0 = x0 at z0 ⊢
 generalize w0 s 1 = x1 at z1 ⊢
 generalize w0 s 2 = x2 at z2 ⊢
 have n0 : s95 (x0, 6) = some (numS x0 6) := s95_eq x0 6 (by omega) (by omega)
 have n1 : s95 (x1, 6) = some (numS x1 6) := s95_eq x1 6 (by omega) (by omega)
 have n2 : s95 (x2, 6) = some (numS x2 6) := s95_eq x2 6 (by omega) (by omega)
 rw [n0, n1, n2]
 simp only [optE_some]
 rcases numS_cases 6 x0 with ⟨h, e | ⟨e, f⟩⟩ | ⟨h, e, f⟩
 ·simp only [h, e, Bool.not_false, cond_true]
 ·simp only [h, e, f, Bool.not_true, cond_false, cond_true]
 simp only [h, e, f, Bool.not_true, cond_false]
 clear h e f
 rcases numS_cases 6 x1 with ⟨h, e | ⟨e, f⟩⟩ | ⟨h, e, f⟩
 ·simp only [h, e, Bool.not_false, cond_true]
 ·simp only [h, e, f, Bool.not_true, cond_false, cond_true]
 simp only [h, e, f, Bool.not_true, cond_false]
 clear h e f
 rcases numS_cases 6 x2 with ⟨h, e | ⟨e, f⟩⟩ | ⟨h, e, f⟩
 ·simp only [h, e, Bool.not_false, cond_true]
 ·simp only [h, e, f, Bool.not_true, cond_false, cond_true]
 simp only [h, e, f, Bool.not_true, cond_false, s21_eq, optE_some]
 unfold toneV
 cases tE ((numS x0 6).1, (numS x1 6).1, (numS x2 6).1) != 0 <;> rfl
theorem s17_eq (t : Int × Int × Int) (h1 : inI t.1) (h2 : inI t.2.1) (h3 : inI t.2.2) : s17 t = some (joinS [t.1, t.2.1, t.2.2]) := by
 unfold s17
 have hj := joinF_nums [t.1, t.2.1, t.2.2] (by simp) (fun x hx => by
  simp only [List.mem_cons, List.not_mem_nil, or_false] at hx
  rcases hx with rfl | rfl | rfl
  ·exact h1
  ·exact h2
  ·exact h3)
 have hj : joinF ([decS t.1, decS t.2.1, decS t.2.2], ByteArray.mk #[32]) = _ := hj
 simp only [itoaF_eq h1.1 h1.2, itoaF_eq h2.1 h2.2, itoaF_eq h3.1 h3.2, optE_some, hj]
theorem s108_eq (l : List Int) (hl : l.length ≤ 1000) (hi : ∀ x ∈ l, inI x) : s108 (ByteArray.mk #[], l) = some (joinS l) := by
 unfold s108
 have hlen : ∀ k, k ≤ l.length → (Lib.join ((l.take k).map Lib.itoa) [32]).length ≤ 21 * k := fun k hk => by
  have := join_len ((l.take k).map Lib.itoa) (fun x hx => by
   obtain ⟨n, hn, rfl⟩ := List.mem_map.1 hx
   have := hi n (List.mem_of_mem_take hn)
   exact itoa_len this.1 this.2)
  rw [List.length_map, List.length_take, Nat.min_eq_left hk] at this
  exact this
 have h1 := loop_for (step := step108_0) (st := fun k => (ByteArray.mk #[], l, strL (Lib.join ((l.take k).map Lib.itoa) [32]), (k : Int))) (n := l.length) (e := joinS l)
  (fun k hk => by
    have hx := hi _ (getD_mem hk)
    have hz : (strL (Lib.join ((l.take k).map Lib.itoa) [32])).size ≤ 21 * k := by rw [strL_len]; exact hlen k (by omega)
    have hd : (decS (l.getD k 0)).size ≤ 20 := by unfold decS; rw [strL_len]; exact itoa_len hx.1 hx.2
    have hsp : (ByteArray.mk #[32]).size = 1 := rfl
    simp only [step108_0, lt_cast, inB_cast, hk, decide_true, cond_true, Int.toNat_natCast, s96_eq hx.1 hx.2, optE_some, wr_succ (show k < 4611686018427387904 by omega), Bool.not_true, cond_false]
    rw [← take_map_succ Lib.itoa l 0 hk]
    by_cases h0 : k = 0
    ·subst h0
     rw [decide_eq_false (show ¬ (((0 : Nat) : Int) > 0) by omega), cond_false, decide_eq_true (by omega), cond_true]
     have : strL (Lib.join ((l.take 0).map Lib.itoa) [32]) ++ decS (l.getD 0 0) = strL (Lib.join ((l.take 0).map Lib.itoa ++ [Lib.itoa (l.getD 0 0)]) [32]) := by
      rw [List.take_zero, List.map_nil, List.nil_append, Lib.join_one, Lib.join_nil]
      exact str_ext (by rw [app_toList]; rfl)
     rw [this]
    ·have hne : (l.take k).map Lib.itoa ≠ [] := by
      intro e
      have := congrArg List.length e
      rw [List.length_map, List.length_take, Nat.min_eq_left (by omega)] at this
      exact h0 this
     rw [decide_eq_true (show ((k : Nat) : Int) > 0 by omega), cond_true, hsp, decide_eq_true (by omega), cond_true]
     have e1 : strL (Lib.join ((l.take k).map Lib.itoa) [32]) ++ ByteArray.mk #[32] = strL (Lib.join ((l.take k).map Lib.itoa) [32] ++ [32]) := strL_app _ [32]
     have hz2 : (strL (Lib.join ((l.take k).map Lib.itoa) [32] ++ [32])).size ≤ 21 * k + 1 := by
      rw [strL_len, List.length_append]
      have := hlen k (by omega)
      simp only [List.length_cons, List.length_nil]; omega
     rw [e1, decide_eq_true (by omega), cond_true, join_snoc _ _ hne]
     rw [show decS (l.getD k 0) = strL (Lib.itoa (l.getD k 0)) from rfl, strL_app]) (by simp only [step108_0, lt_cast, Nat.lt_irrefl, decide_false, cond_false, List.take_length]; rfl) 0 (by omega)
 have h1 : loopVal step108_0 (ByteArray.mk #[], l, ByteArray.mk #[], 0) = _ := h1
 dsimp only
 rw [h1]
 rfl
theorem s20_eq (t : Int × Int × Int) (h1 : inI t.1) (h2 : inI t.2.1) (h3 : inI t.2.2) : s20 t = some (joinS [t.1, t.2.1, t.2.2]) := by
 unfold s20
 rw [s108_eq _ (by simp) (fun x hx => by
  simp only [List.mem_cons, List.not_mem_nil, or_false] at hx
  rcases hx with rfl | rfl | rfl
  ·exact h1
  ·exact h2
  ·exact h3)]
 rfl
theorem uW_own {v : Int} {d : Nat} (hd : 1 ≤ d) (h1 : 0 ≤ v) (h2 : v < (10 ^ d : Nat)) : uW d (decS v) = some v := by
 unfold uW
 rw [decS_list, numR_own (trim_itoa hd (by omega) h2)]
 simp only [decide_eq_false (show ¬ v < 0 by omega), cond_false]
theorem tE_ok {t : Int × Int × Int} (h : tE t = 0) : 1 ≤ t.1 ∧ t.1 ≤ 100000 ∧ 0 ≤ t.2.1 ∧ t.2.1 ≤ t.1 - 1 ∧ t.2.1 ≤ t.2.2 ∧ t.2.2 ≤ t.2.1 + t.1 - 1 := by
 unfold tE at h
 cases h1 : win t.1 1 100000 with
 | false => rw [h1] at h; cases h
 | true =>
 have h1' := win_iff.1 h1
 rw [h1, cond_true, wr_id (n := t.1 - 1) (by omega) (by omega)] at h
 cases h2 : win t.2.1 0 (t.1 - 1) with
 | false => rw [h2] at h; cases h
 | true =>
 have h2' := win_iff.1 h2
 rw [h2, cond_true, wr_id (n := t.2.1 + t.1) (by omega) (by omega), wr_id (by omega) (by omega)] at h
 by_cases h3 : t.2.2 < t.2.1
 ·rw [decide_eq_true h3] at h; cases h
 rw [decide_eq_false h3, cond_false] at h
 by_cases h4 : t.2.2 > t.2.1 + t.1 - 1
 ·rw [decide_eq_true h4] at h; cases h
 omega
theorem tone_back {t : Int × Int × Int} (h : tE t = 0) : toneP (joinS [t.1, t.2.1, t.2.2]) = (t, 0) := by
 have ht := tE_ok h
 unfold toneP w0
 rw [words_join]
 have e : (t.1, t.2.1, t.2.2) = t := rfl
 simp only [List.map_cons, List.map_nil, List.length_cons, List.length_nil, if_true, List.getD_cons_zero, List.getD_cons_succ]
 rw [uW_own (by omega) (by omega) (by omega), uW_own (by omega) (by omega) (by omega), uW_own (by omega) (by omega) (by omega)]
 simp only [toneV, e, h, bne_self_eq_false, cond_false]
theorem tone_true (t : Int × Int × Int) (s : ByteArray) (h1 : inI t.1) (h2 : inI t.2.1) (h3 : inI t.2.2) : s4 (t, s) = some true := by
 unfold s4
 simp only [Bool.not_true, cond_false]
 by_cases hs : (s.size : Int) > 60
 ·rw [decide_eq_true hs]; rfl
 rw [decide_eq_false hs, cond_false, s17_eq t h1 h2 h3, s20_eq t h1 h2 h3, s18_eq s (by omega), s19_eq s (by omega)]
 simp only [optE_some, decide_true, Bool.not_true, cond_false, bne_self_eq_false, beq_self_eq_true, Bool.and_self, s21_eq]
 by_cases ht : tE t = 0
 ·have hsz : (joinS [t.1, t.2.1, t.2.2]).size ≤ 1000 := by
   unfold joinS
   rw [strL_len]
   have := join_len ([t.1, t.2.1, t.2.2].map Lib.itoa) (fun x hx => by
    simp only [List.map_cons, List.map_nil, List.mem_cons, List.not_mem_nil, or_false] at hx
    rcases hx with rfl | rfl | rfl
    ·exact itoa_len h1.1 h1.2
    ·exact itoa_len h2.1 h2.2
    ·exact itoa_len h3.1 h3.2)
   rw [List.length_map] at this
   simp only [List.length_cons, List.length_nil] at this
   omega
  rw [ht, s18_eq _ hsz, tone_back ht]
  simp only [bne_self_eq_false, cond_false, optE_some, beq_self_eq_true, cond_true, Bool.and_self]
 ·rw [bne_iff_ne.2 ht]; rfl
end Go.Proofs.YtdoehknomnhlkaaGreatDoor
