/- What looking for the errors' positions computes. -/
import Derived.Test.YtlngennlccaneaaSv2
import Derived.Test.YtlngennlccaneaaFill
import Derived.Test.YtlngennlccaneaaPet
set_option linter.unusedSimpArgs false
set_option linter.unusedVariables false
set_option maxRecDepth 100000
namespace Go.Proofs.Ytlngennlccaneaa
open Go.Ev
theorem syndL_len (w : Wd) (h : Nat) : (syndL w h).length = 2 * h := by simp [syndL]
theorem syndL_get (w : Wd) {h i : Nat} (hi : i < 2 * h) : (syndL w h).getD i 0 = vI (synd w (i + 1)) := getD_range (fun j => vI (synd w (j + 1))) 0 hi
theorem vI_beq0 (a : G) : (vI a == 0) = decide (a = 0) := by
 by_cases h : a = 0
 ·subst h; rfl
 ·have : vI a ≠ 0 := fun e => h (vI_zero.1 e)
  simp [h, this]
section
variable (w : Wd) {h : Nat} (h3 : h ≤ 3)
include h3
theorem posrow_loop (pool : List (List Int)) (rows : List Nat) {e j : Nat} (hj : j + e < 2 * h) :
 loopVal step39_2 (pool, syndL w h, (e : Int), rows, (j : Int), [], 1) = some (pool, syndL w h, (e : Int), rows, (j : Int), rowL e (posM w e j)) := by
 refine of_loop (step := step39_2) (n := e) (I := fun n x => x = (pool, syndL w h, (e : Int), rows, (j : Int), rowL n (posM w e j), ((n + 1 : Nat) : Int))) (fun n x hn hx => ?_) (fun x hx => ?_) rfl
 ·subst hx
  refine ⟨_, ?_, rfl⟩
  have e1 : wr ((j : Int) + (e : Int)) = ((j + e : Nat) : Int) := by rw [show (j : Int) + (e : Int) = ((j + e : Nat) : Int) by omega, wr_nat (by omega)]
  have e2 : wr (((j + e : Nat) : Int) - ((n + 1 : Nat) : Int)) = ((j + e - (n + 1) : Nat) : Int) := by rw [show ((j + e : Nat) : Int) - ((n + 1 : Nat) : Int) = ((j + e - (n + 1) : Nat) : Int) by omega, wr_nat (by omega)]
  have e3 : rowL n (posM w e j) ++ [vI (synd w (j + e - (n + 1) + 1))] = rowL (n + 1) (posM w e j) := by
   have : synd w (j + e - (n + 1) + 1) = posM w e j n := by
    show _ = if n < e then synd w (j + e - n) else _
    rw [if_pos hn]; congr 1; omega
   rw [this]
   exact range_map_succ (fun k => vI (posM w e j k)) n
  simp only [step39_2, decide_eq_true (by omega : ((n + 1 : Nat) : Int) ≤ (e : Int)), e1, e2, inB (by rw [syndL_len]; omega : j + e - (n + 1) < (syndL w h).length), Int.toNat_natCast, syndL_get w (by omega : j + e - (n + 1) < 2 * h), rowL_len, room_ok (by omega : n + 1 < 10000) (by omega : 8 ≤ 1000), cond_true, e3, wrS (by omega : n + 1 < 1000000)]
 ·subst hx
  refine ⟨_, ?_, rfl⟩
  simp only [step39_2, decide_eq_false (by omega : ¬ ((e + 1 : Nat) : Int) ≤ (e : Int)), cond_false]
theorem poseq_loop {e : Nat} (he : e ≤ 2 * h) :
 ∃ r, loopVal step39_0 ([], syndL w h, (e : Int), [], 0) = some r ∧ ∃ p ids, r = (p, (e : Int), ids) ∧ Rep p ids (2 * h - e) (e + 1) (posM w e) := by
 refine loop_inv (n := 2 * h - e) (I := fun n x => ∃ p ids, x = (p, syndL w h, (e : Int), ids, (n : Int)) ∧ Rep p ids n (e + 1) (posM w e)) (fun n x hn hx => .inl ?_) (fun x hx => ?_) (2 * h - e) 0 (by omega) _ ⟨[], [], rfl, Rep.nil⟩
 ·obtain ⟨p, ids, rfl, hr⟩ := hx
  have e1 : wr ((n : Int) + (e : Int)) = ((n + e : Nat) : Int) := by rw [show (n : Int) + (e : Int) = ((n + e : Nat) : Int) by omega, wr_nat (by omega)]
  have e4 : rowL e (posM w e n) ++ [vI (synd w (n + e + 1))] = rowL (e + 1) (posM w e n) := by
   have : synd w (n + e + 1) = posM w e n e := by
    show _ = if e < e then _ else synd w (n + e + 1)
    rw [if_neg (Nat.lt_irrefl _)]
   rw [this]
   exact range_map_succ (fun k => vI (posM w e n k)) e
  refine ⟨(p ++ [rowL (e + 1) (posM w e n)], syndL w h, (e : Int), ids ++ [p.length], ((n + 1 : Nat) : Int)), ?_, _, _, rfl, (hr.snoc (posM w e n)).congr fun j _ i _ => ?_⟩
  ·simp only [step39_0, e1, syndL_len, decide_eq_true (by omega : ((n + e : Nat) : Int) < ((2 * h : Nat) : Int)), posrow_loop w h3 p ids (by omega : n + e < 2 * h), optE, inB (by omega : n + e < 2 * h), Int.toNat_natCast, syndL_get w (by omega : n + e < 2 * h), rowL_len, hr.len, room_ok (by omega : e + 1 < 10000) (by omega : 8 ≤ 1000), room_ok (by omega : n + 1 < 10000) (by omega : 24 ≤ 1000), cond_true, e4, wrS (by omega : n < 1000000)]
  ·by_cases e' : j = n
   ·rw [if_pos e', e']
   ·rw [if_neg e']
 ·obtain ⟨p, ids, rfl, hr⟩ := hx
  refine ⟨(p, (e : Int), ids), ?_, p, ids, rfl, hr⟩
  have e1 : wr (((2 * h - e : Nat) : Int) + (e : Int)) = ((2 * h : Nat) : Int) := by rw [show ((2 * h - e : Nat) : Int) + (e : Int) = ((2 * h : Nat) : Int) by omega, wr_nat (by omega)]
  simp only [step39_0, e1, syndL_len, decide_eq_false (Int.lt_irrefl _), cond_false]
end
theorem chien_loop (e : Int) {m : Nat} (hm : m < 1000) (x : Nat → G) (out : List Int) (i t63 : Int) (z : G) :
 loopVal step39_6a (e, rowL m x, out, i, vI z, 1, 1, t63, rowL m x, ((rowL m x).length : Int), 0) = some (e, rowL m x, out, i, vI (ga 1 (sumG (List.range m) fun k => gm (x k) (gp z (k + 1)))), t63) := by
 refine of_loop (step := step39_6a) (n := m) (I := fun n y => y = (e, rowL m x, out, i, vI z, vI (ga 1 (sumG (List.range n) fun k => gm (x k) (gp z (k + 1)))), vI (gp z n), t63, rowL m x, ((rowL m x).length : Int), (n : Int))) (fun n y hn hy => ?_) (fun y hy => ?_) (by rw [List.range_zero, sumG_nil, ga_zero]; rfl)
 ·subst hy
  refine ⟨_, ?_, rfl⟩
  have e1 : gm (gp z n) z = gp z (n + 1) := gm_comm _ _
  simp only [step39_6a, rowL_len, decide_eq_true (by omega : (n : Int) < (m : Int)), inB hn, Int.toNat_natCast, rowL_get x hn, prod_vI, optE, cond_true, xor_vI, e1, ga_assoc, ← sumG_succ n (fun k => gm (x k) (gp z (k + 1))), wrS (by omega : n < 1000000)]
 ·subst hy
  refine ⟨_, ?_, rfl⟩
  simp only [step39_6a, rowL_len, decide_eq_false (Int.lt_irrefl _), cond_false]
def chienL (e : Nat) (x : Nat → G) (n : Nat) : List Nat := (List.range n).filter fun i => decide (chien e x i = 0)
theorem look_loop {e : Nat} (he : e < 1000) (x : Nat → G) : loopVal step39_4a ((e : Int), rowL e x, [], 0) = some ((e : Int), intL (chienL e x 15)) := by
 refine of_loop (step := step39_4a) (n := 15) (I := fun n y => y = ((e : Int), rowL e x, intL (chienL e x n), (n : Int))) (fun n y hn hy => ?_) (fun y hy => ?_) rfl
 ·subst hy
  refine ⟨_, ?_, rfl⟩
  have hlen : (intL (chienL e x n)).length ≤ n := by
   rw [intL_len]
   have := List.length_filter_le (fun i => decide (chien e x i = 0)) (List.range n)
   rw [List.length_range] at this
   exact this
  have hs : chienL e x (n + 1) = chienL e x n ++ if chien e x n = 0 then [n] else [] := by
   unfold chienL
   rw [List.range_succ, List.filter_append]
   congr 1
   by_cases h0 : chien e x n = 0
   ·rw [if_pos h0]; simp [h0]
   ·rw [if_neg h0]; simp [h0]
  have hc : vI (ga 1 (sumG (List.range e) fun k => gm (x k) (gp (gi (loc n)) (k + 1)))) = vI (chien e x n) := rfl
  by_cases h0 : chien e x n = 0
  ·rw [hs, if_pos h0]
   have e2 : intL (chienL e x n ++ [n]) = intL (chienL e x n) ++ [(n : Int)] := by simp [intL]
   rw [e2]
   simp only [step39_4a, decide_eq_true (by omega : (n : Int) < 15), loc_vI hn, inv_vI (loc_ne n hn), optE, chien_loop (e : Int) he x, hc, vI_beq0, decide_eq_true h0, room_ok (by omega : (intL (chienL e x n)).length + 1 < 10000) (by omega : 8 ≤ 1000), cond_true, wrS (by omega : n < 1000000)]
  ·rw [hs, if_neg h0, List.append_nil]
   simp only [step39_4a, decide_eq_true (by omega : (n : Int) < 15), loc_vI hn, inv_vI (loc_ne n hn), optE, chien_loop (e : Int) he x, hc, vI_beq0, decide_eq_false h0, cond_true, cond_false, wrS (by omega : n < 1000000)]
 ·subst hy
  exact ⟨_, rfl, rfl⟩
theorem s39_eq (s : List Int) (er : Int) : s39 (s, er) = optE (loopVal step39_0 ([], s, er, [], 0)) (fun e1 =>
 optE (loopVal step41_0a (e1.1, e1.2.2, e1.2.1, e1.2.1, 0, e1.2.1)) (fun e2 =>
  sumE e2 (fun e3 => bif !e3.2.1 then some ([], false) else optE (loopVal step39_4 (e3.2.2, e3.1, [], 0)) (fun e5 => some (e5.2, (e5.2.length : Int) == e5.1)) none) (fun e4 =>
   optE (loopVal step41_8a (e4.1, e4.2.2.1, [], e4.2.1, (e4.2.1.length : Int), 0, e4.2.2.2)) (fun e6 =>
    sumE e6 (fun e7 => bif !e7.2.1 then some ([], false) else optE (loopVal step39_4 (e7.2.2, e7.1, [], 0)) (fun e9 => some (e9.2, (e9.2.length : Int) == e9.1)) none) (fun e8 =>
     optE (loopVal step39_4a (e8.2, e8.1, [], 0)) (fun e10 => some (e10.2, (e10.2.length : Int) == e10.1)) none)) none)) none) none := rfl
theorem pos_law (w : Wd) {h : Nat} (h1 : 1 ≤ h) (h3 : h ≤ 3) {e : Nat} (he : e ≤ h) :
 ∃ r, s39 (syndL w h, (e : Int)) = some r ∧ ((r = ([], false) ∧ ¬ (Triv (2 * h - e) e (posM w e) ∧ ∃ x, SolvesM (2 * h - e) e (posM w e) x)) ∨
  ∃ x, SolvesM (2 * h - e) e (posM w e) x ∧ r = (intL (chienL e x 15), decide ((chienL e x 15).length = e))) := by
 obtain ⟨r1, hr1, p, ids, rfl, hr⟩ := poseq_loop w h3 (show e ≤ 2 * h by omega)
 rw [s39_eq, hr1]
 simp only [optE]
 obtain ⟨e4, he4, hc⟩ := S41_0a hr (by omega) (by omega) (by omega) (e : Int)
 rw [he4]
 rcases hc with ⟨rfl, k, N, hk, hs, hnp⟩ | ⟨p', r', N, rfl, hr', hs⟩
 ·exact ⟨_, rfl, .inl ⟨rfl, fun hT => solve_piv hs hk hT.1 hnp⟩⟩
 ·have hUR := (hs.unit (by omega)).1
  obtain ⟨e5, he5, hc5⟩ := S41_8a hr' hUR (by omega) (e : Int)
  simp only [optE, sumE, hr'.len, he5]
  rcases hc5 with ⟨rfl, j, j1, j2, j3⟩ | ⟨rfl, hz⟩
  ·refine ⟨_, rfl, .inl ⟨rfl, ?_⟩⟩
   rintro ⟨_, x, hx⟩
   exact j3 ((solve_complete hs hx).2 j j1 j2)
  ·simp only []
   rw [look_loop (by omega) (fun i => N i e)]
   refine ⟨_, rfl, .inr ⟨_, solve_sound hs hz, ?_⟩⟩
   rw [intL_len]
   refine Prod.ext rfl ?_
   show (((chienL e (fun i => N i e) 15).length : Int) == (e : Int)) = _
   by_cases hq : (chienL e (fun i => N i e) 15).length = e
   ·rw [decide_eq_true hq, hq]; exact beq_self_eq_true _
   ·rw [decide_eq_false hq]; exact beq_eq_false_iff_ne.2 (by omega)
end Go.Proofs.Ytlngennlccaneaa
