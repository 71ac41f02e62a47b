/- Where the strongest consecutive samples begin: the first place of the greatest energy. -/
import Derived.Test.YtcdpgjlaajdfmaaGs4
import Derived.Test.YtcdpgjlaajdfmaaSearch
set_option linter.unusedSimpArgs false
namespace Go.Proofs.Ytcdpgjlaajdfmaa
open Go.Ev
abbrev GsL := List (Int × Int)
def okS (g : Int × Int) : Bool := win g.1 (-2000) 2000 && win g.2 (-2000) 2000
def smp (x : GsL) : Int := bif decide (x.length ≤ 400) then (bif x.all okS then 0 else 2) else 8
theorem within_z (a b c : Int) : s21 (a, b, c) = some (win a b c) := by
 unfold s21 win; cases h : decide (b ≤ a) <;> simp [h]
theorem Within_z (a b c : Int) : s9 (a, b, c) = some (win a b c) := by
 unfold s9 win; cases h : decide (b ≤ a) <;> simp [h]
theorem unless_z (b : Bool) (e : Int) : s20 (b, e) = some (unl b e) := by unfold s20 unl; cases b <;> rfl
theorem first_z (l : List Int) (hl : l.length ≤ 1000) : s18 l = some (firstE l) := by
 have h := loop_scan (step := step18_0) (st := fun k => (l, (l.length : Int), (k : Int))) (hit := fun k => (fun x => bif x != 0 then some (Sum.inl x : Int ⊕ Unit) else none) (l.getD k 0)) (n := l.length) (e := .inr ())
  (fun k hk => by
    simp only [step18_0, lt_cast, inB_cast, hk, decide_true, cond_true, Int.toNat_natCast, wr_succ (show k < 4611686018427387904 by omega)]
    cases h : l.getD k 0 != 0 <;> simp [h])
  (by simp only [step18_0, lt_cast, Nat.lt_irrefl, decide_false, cond_false]) l.length 0 (by omega)
 rw [scan_list0 (fun x => bif x != 0 then some (Sum.inl x : Int ⊕ Unit) else none) (.inr ()) l 0, scanL_first] at h
 unfold s18
 have h' : loopVal step18_0 (l, (l.length : Int), 0) = _ := h
 simp only [h', optE_some]
 cases hf : firstE l != 0
 ·simp [sumE, cond_false]
  have : firstE l = 0 := by simpa using hf
  exact this.symm
 ·simp [sumE]
theorem part_z (g : Int × Int) : s40 g = some (!(okS g)) := by
 have e : wr (-2000) = -2000 := by decide
 unfold s40 s41 s56 okS
 simp only [within_z, e, optE_some]
 cases win g.1 (-2000) 2000
 ·rfl
 ·simp only [cond_true, optE_some, Bool.true_and]
theorem gauss_z (g : Int × Int) : s26 (g, 2000) = some (bif okS g then 0 else 2) := by
 have e : wr (-2000) = -2000 := by decide
 unfold s26 okS
 simp only [Within_z, e, optE_some]
 cases win g.1 (-2000) 2000
 ·rfl
 ·cases win g.2 (-2000) 2000 <;> rfl
theorem first_bad : ∀ (l : GsL), l.all okS = false → ∃ i, i < l.length ∧ okS (l.getD i (0, 0)) = false ∧ ∀ j, j < i → okS (l.getD j (0, 0)) = true
 | [], h => by cases h
 | g :: l, h => by
   cases hg : okS g with
   | false => exact ⟨0, by simp, by simpa using hg, fun j hj => by omega⟩
   | true =>
     rw [List.all_cons, hg, Bool.true_and] at h
     obtain ⟨i, h1, h2, h3⟩ := first_bad l h
     refine ⟨i + 1, by simpa using h1, by simpa using h2, fun j hj => ?_⟩
     cases j with
     | zero => simpa using hg
     | succ j => simpa using h3 j (by omega)
theorem all_ok {l : GsL} (h : l.all okS = true) {k : Nat} (hk : k < l.length) : okS (l.getD k (0, 0)) = true := by
 rw [List.getD_eq_getElem?_getD, List.getElem?_eq_getElem hk]
 exact List.all_eq_true.1 h _ (List.getElem_mem hk)
theorem samples_p {x : GsL} (hl : x.length ≤ 1000) : s19 x = some (smp x) := by
 unfold s19 smp
 cases hall : x.all okS with
 | true =>
   have h1 := loop_for (step := step55_0) (st := fun k => (x, (x.length : Int), (k : Int))) (n := x.length) (e := Sum.inr ())
    (fun k hk => by
      simp only [step55_0, lt_cast, inB_cast, hk, decide_true, cond_true, Int.toNat_natCast, part_z, all_ok hall hk, Bool.not_true, cond_false, optE_some, wr_succ (show k < 4611686018427387904 by omega)])
    (by simp only [step55_0, lt_cast, Nat.lt_irrefl, decide_false, cond_false]) 0 (by omega)
   rw [show ((0 : Nat) : Int) = 0 from rfl] at h1
   simp only [h1, optE_some, sumE, unless_z]
   rw [first_z _ (by simp)]
   by_cases h : x.length ≤ 400
   ·have h' : ((x.length : Int) ≤ 400) := by omega
    simp [h, h', unl, firstE, optE_some]
   ·have h' : ¬ ((x.length : Int) ≤ 400) := by omega
    simp [h, h', unl, firstE, optE_some]
 | false =>
   obtain ⟨i, hi, hb, hj⟩ := first_bad x hall
   have h1 := loop_for (step := step55_0) (st := fun k => (x, (x.length : Int), (k : Int))) (n := i) (e := Sum.inl (i : Int))
    (fun k hk => by
      simp only [step55_0, lt_cast, inB_cast, show k < x.length by omega, decide_true, cond_true, Int.toNat_natCast, part_z, hj k hk, Bool.not_true, cond_false, optE_some, wr_succ (show k < 4611686018427387904 by omega)])
    (by simp only [step55_0, lt_cast, inB_cast, hi, decide_true, cond_true, Int.toNat_natCast, part_z, hb, Bool.not_false, optE_some]) 0 (by omega)
   rw [show ((0 : Nat) : Int) = 0 from rfl] at h1
   simp only [h1, optE_some, sumE, unless_z]
   rw [first_z _ (by simp)]
   have h0 : (i : Int) ≥ 0 := by omega
   by_cases h : x.length ≤ 400
   ·have h' : ((x.length : Int) ≤ 400) := by omega
    simp [h, h', h0, unl, firstE, optE_some]
   ·have h' : ¬ ((x.length : Int) ≤ 400) := by omega
    simp [h, h', h0, unl, firstE, optE_some]
theorem samples_r {x : GsL} (hl : x.length ≤ 1000) : s8 x = some (smp x) := by
 unfold s8 smp
 by_cases h : x.length ≤ 400
 ·have h' : ¬ ((x.length : Int) > 400) := by omega
  simp only [h, h', decide_true, decide_false, cond_true, cond_false]
  cases hall : x.all okS with
  | true =>
    have h1 := loop_for (step := step8_0) (st := fun k => (x, (k : Int))) (n := x.length) (e := Sum.inr ())
     (fun k hk => by
       simp only [step8_0, lt_cast, inB_cast, hk, decide_true, cond_true, Int.toNat_natCast, gauss_z, all_ok hall hk, bne_self_eq_false, cond_false, optE_some, wr_succ (show k < 4611686018427387904 by omega)])
     (by simp only [step8_0, lt_cast, Nat.lt_irrefl, decide_false, cond_false]) 0 (by omega)
    rw [show ((0 : Nat) : Int) = 0 from rfl] at h1
    simp only [h1, optE_some, sumE, cond_true]
  | false =>
    obtain ⟨i, hi, hb, hj⟩ := first_bad x hall
    have h1 := loop_for (step := step8_0) (st := fun k => (x, (k : Int))) (n := i) (e := Sum.inl (2 : Int))
     (fun k hk => by
       simp only [step8_0, lt_cast, inB_cast, show k < x.length by omega, decide_true, cond_true, Int.toNat_natCast, gauss_z, hj k hk, bne_self_eq_false, cond_false, optE_some, wr_succ (show k < 4611686018427387904 by omega)])
     (by simp only [step8_0, lt_cast, inB_cast, hi, decide_true, cond_true, Int.toNat_natCast, gauss_z, hb, cond_false, optE_some, show ((2 : Int) != 0) = true from rfl]) 0 (by omega)
    rw [show ((0 : Nat) : Int) = 0 from rfl] at h1
    simp only [h1, optE_some, sumE, cond_false]
 ·have h' : ((x.length : Int) > 400) := by omega
  simp only [h, h', decide_true, decide_false, cond_true, cond_false]
def normW (g : Int × Int) : Int := wr (wr (g.1 * g.1) + wr (g.2 * g.2))
def energyW (x : GsL) : Int := x.foldl (fun s g => wr (s + normW g)) 0
theorem energy_p {x : GsL} (hl : x.length ≤ 1000) : s22 x = some (energyW x) := by
 have h1 := loop_for (step := step22_0) (st := fun k => ((x.take k).foldl (fun s g => wr (s + normW g)) 0, x, (x.length : Int), (k : Int))) (n := x.length) (e := energyW x)
  (fun k hk => by
    simp only [step22_0, lt_cast, inB_cast, hk, decide_true, cond_true, Int.toNat_natCast, wr_succ (show k < 4611686018427387904 by omega)]
    rw [← foldl_take_succ (fun s g => wr (s + normW g)) 0 x (0, 0) hk]
    rfl)
  (by simp only [step22_0, lt_cast, Nat.lt_irrefl, decide_false, cond_false, List.take_length, energyW]) 0 (by omega)
 unfold s22
 have h1 : loopVal step22_0 (0, x, (x.length : Int), 0) = _ := h1
 simp only [h1, optE_some]
theorem energy_r {x : GsL} (hl : x.length ≤ 1000) : s27 x = some (energyW x) := by
 have h1 := loop_for (step := step27_0) (st := fun k => (x, (x.take k).foldl (fun s g => wr (s + normW g)) 0, (k : Int))) (n := x.length) (e := energyW x)
  (fun k hk => by
    simp only [step27_0, s44, optE_some, lt_cast, inB_cast, hk, decide_true, cond_true, Int.toNat_natCast, wr_succ (show k < 4611686018427387904 by omega)]
    rw [← foldl_take_succ (fun s g => wr (s + normW g)) 0 x (0, 0) hk]
    rfl)
  (by simp only [step27_0, lt_cast, Nat.lt_irrefl, decide_false, cond_false, List.take_length, energyW]) 0 (by omega)
 unfold s27
 have h1 : loopVal step27_0 (x, 0, 0) = _ := h1
 simp only [h1, optE_some]
theorem energy_in (x : GsL) : inI64 (energyW x) = true := by
 have key : ∀ (l : GsL) (a : Int), inI64 a = true → inI64 (l.foldl (fun s g => wr (s + normW g)) a) = true := by
  intro l
  induction l with
  | nil => exact fun a h => h
  | cons g l ih =>
    intro a _
    refine ih _ ?_
    have := wr_range (a + normW g)
    simp only [inI64, Bool.and_eq_true, decide_eq_true_eq]
    omega
 exact key x 0 (by decide)
section
variable (E : Nat → Int)
def bestN : Nat → Nat
 | 0 => 0
 | k + 1 => if E (bestN k) < E k then k else bestN k
theorem best_spec : ∀ k, (bestN E k < k ∨ (k = 0 ∧ bestN E k = 0)) ∧ (∀ j, j < k → E j ≤ E (bestN E k)) ∧ ∀ j, j < bestN E k → E j < E (bestN E k)
 | 0 => ⟨.inr ⟨rfl, rfl⟩, fun j h => by omega, fun j h => by simp only [bestN] at h; omega⟩
 | k + 1 => by
   obtain ⟨h1, h2, h3⟩ := best_spec k
   by_cases hc : E (bestN E k) < E k
   ·simp only [bestN, hc, if_true]
    refine ⟨.inl (by omega), fun j hj => ?_, fun j hj => ?_⟩
    ·by_cases e : j = k
     ·rw [e]; exact Int.le_refl _
     ·have := h2 j (by omega); omega
    ·have := h2 j hj; omega
   ·simp only [bestN, hc, if_false]
    refine ⟨.inl (by omega), fun j hj => ?_, h3⟩
    by_cases e : j = k
    ·rw [e]; omega
    ·exact h2 j (by omega)
def esN (n : Nat) : List (Int × Int) := (List.range n).map fun i : Nat => ((i : Int), E i)
theorem mapPut_new (n v : Int) : ∀ (l : List (Int × Int)), (∀ p ∈ l, p.1 ≠ n) → mapPut n v l = l ++ [(n, v)]
 | [], _ => rfl
 | (k, u) :: l, h => by
   have h1 : (n == k) = false := by have := h (k, u) (by simp); simpa using fun e : n = k => this e.symm
   simp only [mapPut, h1, cond_false, List.cons_append]
   rw [mapPut_new n v l fun p hp => h p (by simp [hp])]
theorem put_es (k : Nat) : mapPut (k : Int) (E k) (esN E k) = esN E (k + 1) := by
 rw [mapPut_new _ _ _ fun p hp => by
  obtain ⟨i, hi, rfl⟩ := List.mem_map.1 hp
  have := List.mem_range.1 hi
  show (i : Int) ≠ (k : Int)
  omega]
 exact range_map_succ (fun i : Nat => ((i : Int), E i)) k
theorem get_from (i : Nat) (d : Int) : ∀ (m s : Nat), s ≤ i → i < s + m → mapGet (i : Int) d ((List.range' s m).map fun i : Nat => ((i : Int), E i)) = E i
 | 0, s, h1, h2 => by omega
 | m + 1, s, h1, h2 => by
   rw [List.range'_succ, List.map_cons]
   by_cases e : i = s
   ·subst e; simp [mapGet]
   ·have : ((i : Int) == (s : Int)) = false := by simp; omega
    simp only [mapGet, this, cond_false]
    exact get_from i d m (s + 1) (by omega) (by omega)
theorem get_es {i n : Nat} (h : i < n) : mapGet (i : Int) 0 (esN E n) = E i := by
 unfold esN
 rw [List.range_eq_range']
 exact get_from E i 0 n 0 (by omega) (by omega)
theorem max_es {n : Nat} (h : 0 < n) : maxI (List.map (fun x => x.2) (esN E n)) = E (bestN E n) := by
 have e : List.map (fun x : Int × Int => x.2) (esN E n) = (List.range n).map E := by simp [esN, List.map_map, Function.comp_def]
 rw [e]
 obtain ⟨h1, h2, _⟩ := best_spec E n
 obtain ⟨a1, a2⟩ := maxI_spec (l := (List.range n).map E) (by intro e; rw [List.map_eq_nil_iff, List.range_eq_nil] at e; omega)
 obtain ⟨j, hj, e1⟩ := List.mem_map.1 a1
 refine Int.le_antisymm ?_ (a2 _ (List.mem_map.2 ⟨bestN E n, List.mem_range.2 (by omega), rfl⟩))
 rw [← e1]
 exact h2 j (List.mem_range.1 hj)
theorem nums_es {n : Nat} (h : 0 < n) (hn : n ≤ 1000) (hE : ∀ i, inI64 (E i) = true) : mapNums (esN E n) = true := by
 have hl : (esN E n).length = n := by simp [esN]
 simp only [mapNums, hl, Bool.and_eq_true, decide_eq_true_eq, List.all_eq_true]
 refine ⟨h, by omega, fun p hp => ?_⟩
 obtain ⟨i, hi, rfl⟩ := List.mem_map.1 hp
 have := List.mem_range.1 hi
 refine ⟨?_, hE i⟩
 simp only [inI64, Bool.and_eq_true, decide_eq_true_eq]
 omega
end
def winE (x : GsL) (l k : Nat) : Int := energyW ((x.take (k + l)).drop k)
theorem win_len (x : GsL) (l k : Nat) : ((x.take (k + l)).drop k).length ≤ x.length := by rw [List.length_drop, List.length_take]; omega
section
variable {x : GsL} {l : Nat}
theorem strong_p (hx : smp x = 0) (hlen : x.length ≤ 400) (h1 : 1 ≤ l) (hl : l ≤ x.length) : s6 (x, (l : Int)) = some (((bestN (winE x l) (x.length - l + 1) : Nat) : Int), 0) := by
 obtain ⟨b1, b2, b3⟩ := best_spec (winE x l) (x.length - l + 1)
 have hN : wr (wr ((x.length : Int) - (l : Int)) + 1) = ((x.length - l + 1 : Nat) : Int) := by
  rw [wr_id (n := (x.length : Int) - (l : Int)) (by omega) (by omega), wr_id (by omega) (by omega)]; omega
 have g1 := loop_for (step := step6_0) (st := fun k => (x, (l : Int), ((x.length - l + 1 : Nat) : Int), (k : Int), esN (winE x l) k)) (n := x.length - l + 1) (e := esN (winE x l) (x.length - l + 1))
  (fun k hk => by
    have e1 : wr ((k : Int) + (l : Int)) = ((k + l : Nat) : Int) := by rw [wr_id (by omega) (by omega)]; omega
    simp only [step6_0, lt_cast, hk, decide_true, cond_true, e1, Int.toNat_natCast, energy_p (Nat.le_trans (win_len x l k) (show x.length ≤ 1000 by omega)), optE_some, wr_succ (show k < 4611686018427387904 by omega)]
    rw [show (decide ((0 : Int) ≤ (k : Int)) && (decide ((k : Int) ≤ ((k + l : Nat) : Int)) && decide (((k + l : Nat) : Int) ≤ (x.length : Int)))) = true by simp; omega]
    rw [cond_true]
    rw [show energyW ((x.take (k + l)).drop k) = winE x l k from rfl, put_es])
  (by simp only [step6_0, lt_cast, Nat.lt_irrefl, decide_false, cond_false]) 0 (by omega)
 have g1 : loopVal step6_0 (x, (l : Int), ((x.length - l + 1 : Nat) : Int), 0, []) = some (esN (winE x l) (x.length - l + 1)) := g1
 have g2 := loop_for (step := step6_2) (st := fun k => (winE x l (bestN (winE x l) (x.length - l + 1)), (k : Int), esN (winE x l) (x.length - l + 1))) (n := bestN (winE x l) (x.length - l + 1)) (e := ((bestN (winE x l) (x.length - l + 1) : Nat) : Int))
  (fun k hk => by
    have h3 := b3 k hk
    simp only [step6_2, get_es (winE x l) (show k < x.length - l + 1 by omega), wr_succ (show k < 4611686018427387904 by omega)]
    rw [show (winE x l k != winE x l (bestN (winE x l) (x.length - l + 1))) = true by simp; omega, cond_true])
  (by simp only [step6_2, get_es (winE x l) (show bestN (winE x l) (x.length - l + 1) < x.length - l + 1 by omega), bne_self_eq_false, cond_false]) 0 (by omega)
 have g2 : loopVal step6_2 (winE x l (bestN (winE x l) (x.length - l + 1)), 0, esN (winE x l) (x.length - l + 1)) = _ := g2
 have hw : win (l : Int) 1 400 = true := win_iff.2 (by omega)
 unfold s6
 simp only [samples_p (show x.length ≤ 1000 by omega), within_z, unless_z, optE_some, hx, hw, decide_eq_true (show (l : Int) ≤ (x.length : Int) by omega)]
 rw [first_z _ (by simp)]
 simp only [optE_some, show firstE [0, unl true 2, unl true 12] = 0 from rfl, bne_self_eq_false, cond_false, hN, g1, nums_es (winE x l) (show 0 < x.length - l + 1 by omega) (show x.length - l + 1 ≤ 1000 by omega) (fun i => energy_in _), cond_true, max_es (winE x l) (show 0 < x.length - l + 1 by omega), g2]
theorem strong_r (hlen : x.length ≤ 400) (h1 : 1 ≤ l) (hl : l ≤ x.length) : s10 (x, (l : Int)) = some ((bestN (winE x l) (x.length - l + 1) : Nat) : Int) := by
 have g1 := loop_for (step := step10_0) (st := fun k => (x, (l : Int), ((bestN (winE x l) k : Nat) : Int), (k : Int))) (n := x.length - l + 1) (e := ((bestN (winE x l) (x.length - l + 1) : Nat) : Int))
  (fun k hk => by
    obtain ⟨b1, _, _⟩ := best_spec (winE x l) k
    have e1 : wr ((k : Int) + (l : Int)) = ((k + l : Nat) : Int) := by rw [wr_id (by omega) (by omega)]; omega
    have e2 : wr (((bestN (winE x l) k : Nat) : Int) + (l : Int)) = ((bestN (winE x l) k + l : Nat) : Int) := by rw [wr_id (by omega) (by omega)]; omega
    simp only [step10_0, e1, e2, Int.toNat_natCast, energy_r (Nat.le_trans (win_len x l _) (show x.length ≤ 1000 by omega)), optE_some, wr_succ (show k < 4611686018427387904 by omega)]
    rw [decide_eq_true (show ((k + l : Nat) : Int) ≤ (x.length : Int) by omega), cond_true]
    rw [show (decide ((0 : Int) ≤ (k : Int)) && (decide ((k : Int) ≤ ((k + l : Nat) : Int)) && true)) = true by simp; omega, cond_true]
    rw [show (decide ((0 : Int) ≤ ((bestN (winE x l) k : Nat) : Int)) && (decide (((bestN (winE x l) k : Nat) : Int) ≤ ((bestN (winE x l) k + l : Nat) : Int)) && decide (((bestN (winE x l) k + l : Nat) : Int) ≤ (x.length : Int)))) = true by simp; omega, cond_true]
    rw [show energyW ((x.take (k + l)).drop k) = winE x l k from rfl, show energyW ((x.take (bestN (winE x l) k + l)).drop (bestN (winE x l) k)) = winE x l (bestN (winE x l) k) from rfl]
    by_cases hc : winE x l (bestN (winE x l) k) < winE x l k
    ·simp only [bestN, hc, gt_iff_lt, decide_true, cond_true, if_true]
    ·simp only [bestN, hc, gt_iff_lt, decide_false, cond_false, if_false])
  (by
    have e1 : wr (((x.length - l + 1 : Nat) : Int) + (l : Int)) = ((x.length - l + 1 + l : Nat) : Int) := by rw [wr_id (by omega) (by omega)]; omega
    simp only [step10_0, e1]
    rw [decide_eq_false (show ¬ ((x.length - l + 1 + l : Nat) : Int) ≤ (x.length : Int) by omega), cond_false]) 0 (by omega)
 have g1 : loopVal step10_0 (x, (l : Int), 0, 0) = _ := g1
 unfold s10
 simp only [g1, optE_some]
end
theorem strong_e {x : GsL} (L : Int) (hlen : x.length ≤ 404) (he : firstE [smp x, unl (win L 1 400) 2, unl (decide (L ≤ (x.length : Int))) 12] ≠ 0) :
 s6 (x, L) = some (0, firstE [smp x, unl (win L 1 400) 2, unl (decide (L ≤ (x.length : Int))) 12]) := by
 unfold s6
 simp only [samples_p (show x.length ≤ 1000 by omega), within_z, unless_z, optE_some]
 rw [first_z _ (by simp)]
 have : (firstE [smp x, unl (win L 1 400) 2, unl (decide (L ≤ (x.length : Int))) 12] != 0) = true := by simpa using he
 simp only [optE_some, this, cond_true]
theorem strongest_true (x : GsL) (L : Int) : s3 (x, L) = some true := by
 unfold s3
 have hs : s5 x = some (decide (x.length ≤ 60) || (decide (400 < x.length) && decide (x.length ≤ 404))) := by
  unfold s5
  by_cases h1 : x.length ≤ 60
  ·have : (x.length : Int) ≤ 60 := by omega
   simp [h1, this]
  ·have e1 : ¬ (x.length : Int) ≤ 60 := by omega
   by_cases h2 : 400 < x.length
   ·have e2 : (x.length : Int) > 400 := by omega
    have e3 : decide ((x.length : Int) ≤ 404) = decide (x.length ≤ 404) := by by_cases h : x.length ≤ 404 <;> simp [h] <;> omega
    simp [h1, e1, h2, e2, e3]
   ·have e2 : ¬ (x.length : Int) > 400 := by omega
    simp [h1, e1, h2, e2]
 simp only [hs, optE_some, Bool.not_true, cond_false]
 cases hsh : (decide (x.length ≤ 60) || (decide (400 < x.length) && decide (x.length ≤ 404))) with
 | false => rfl
 | true =>
   have hlen : x.length ≤ 404 := by
    simp only [Bool.or_eq_true, Bool.and_eq_true, decide_eq_true_eq] at hsh
    omega
   have hcopy : s7 x = some x := by
    unfold s7
    rw [room_true (by omega) (by omega), cond_true]
   simp only [Bool.not_true, cond_false, hcopy, optE_some, samples_r (show x.length ≤ 1000 by omega), Within_z]
   by_cases hx : smp x = 0
   ·have hlen4 : x.length ≤ 400 := by
     by_cases h : x.length ≤ 400
     ·exact h
     ·simp [smp, h] at hx
    simp only [hx, beq_self_eq_true, bne_self_eq_false, cond_true, cond_false]
    cases hw : win L 1 400 with
    | false =>
      rw [strong_e L hlen (by simp [hx, hw, unl, firstE])]
      simp [hx, hw, unl, firstE, optE_some]
    | true =>
      obtain ⟨w1, w2⟩ := win_iff.1 hw
      by_cases hl : L ≤ (x.length : Int)
      ·obtain ⟨l, rfl⟩ : ∃ l : Nat, L = (l : Int) := ⟨L.toNat, by omega⟩
       rw [strong_p hx hlen4 (by omega) (by omega), strong_r hlen4 (by omega) (by omega)]
       have hg : ¬ ((l : Int) > (x.length : Int)) := by omega
       simp [hg, optE_some]
      ·rw [strong_e L hlen (by simp [hx, hw, hl, unl, firstE])]
       have hg : L > (x.length : Int) := by omega
       simp [hx, hw, hl, hg, unl, firstE, optE_some]
   ·have h0 : (smp x == 0) = false := by simpa using hx
    have h1 : (smp x != 0) = true := by simpa using hx
    have he : firstE [smp x, unl (win L 1 400) 2, unl (decide (L ≤ (x.length : Int))) 12] = smp x := by simp [firstE, h1]
    rw [strong_e L hlen (by rw [he]; exact hx), he]
    simp [h0, h1, optE_some]
end Go.Proofs.Ytcdpgjlaajdfmaa
