/- Chapter 2: streams: what the functions compute. -/
import Derived.Test.YtinkhmfciealkaaGa23
set_option linter.unusedSimpArgs false
set_option linter.unusedVariables false
set_option maxRecDepth 100000
namespace Go.Proofs.Ytinkhmfciealkaa
open Go.Ev

theorem dT {p : Prop} [Decidable p] (h : p) : decide p = true := decide_eq_true h
theorem dF {p : Prop} [Decidable p] (h : ¬ p) : decide p = false := decide_eq_false h
theorem beqT {a b : Int} (h : a = b) : (a == b) = true := by simp [h]
theorem beqF {a b : Int} (h : a ≠ b) : (a == b) = false := by simp [h]
theorem inT {i : Int} {n : Nat} (h : 0 ≤ i) (h2 : i < (n : Int)) : inBounds i n = true := by
  obtain ⟨k, rfl⟩ : ∃ k : Nat, i = (k : Int) := ⟨i.toNat, by omega⟩
  exact inB_cast.trans (decide_eq_true (by omega))
theorem roomT {b n : Nat} (h : n * b ≤ 140737488355328) (h2 : n ≤ 140737488355328) : room b n = true := room_true h h2
theorem succ_cast (k : Nat) : ((k + 1 : Nat) : Int) = (k : Int) + 1 := rfl
syntax "walk" ("[" Lean.Parser.Tactic.simpLemma,* "]")? : tactic
macro_rules
  | `(tactic| walk) => `(tactic| simp (disch := omega) only [wr_id, dT, dF, inT, roomT, beqT, beqF, cond_true, cond_false, Int.toNat_natCast, succ_cast, optE, sumE, bne, Bool.not_true, Bool.not_false, Int.add_sub_cancel])
  | `(tactic| walk [$xs,*]) => `(tactic| simp (disch := omega) only [wr_id, dT, dF, inT, roomT, beqT, beqF, cond_true, cond_false, Int.toNat_natCast, succ_cast, optE, sumE, bne, Bool.not_true, Bool.not_false, Int.add_sub_cancel, $xs,*])

theorem s119_eq {x : List Int} (h : 1 ≤ x.length) (h2 : x.length ≤ 1000000) : s119 x = some (maxL x) := by
  have hl := loop_for (step := step119_0) (st := fun k => (x, maxTo x k, (k : Int) + 1)) (n := x.length - 1) (e := maxL x)
    (fun k hk => by
      have e : (((k : Int) + 1).toNat) = k + 1 := by omega
      simp only [step119_0]
      walk [e, maxTo]) (by
      simp only [step119_0]
      walk [maxL]) 0 (by omega)
  simp only [maxTo, Int.natCast_zero, Int.zero_add] at hl
  simp only [s119]
  walk [hl]
theorem s135_eq {x : List Int} (h : 1 ≤ x.length) (h2 : x.length ≤ 1000000) : s135 x = some (minL x) := by
  have hl := loop_for (step := step135_0) (st := fun k => (x, minTo x k, (k : Int) + 1)) (n := x.length - 1) (e := minL x)
    (fun k hk => by
      have e : (((k : Int) + 1).toNat) = k + 1 := by omega
      simp only [step135_0]
      walk [e, minTo]) (by
      simp only [step135_0]
      walk [minL]) 0 (by omega)
  simp only [minTo, Int.natCast_zero, Int.zero_add] at hl
  simp only [s135]
  walk [hl]
theorem s122_eq {r : List (Int × Pkt) × List Int} (h : 1 ≤ r.2.length) (h2 : r.2.length ≤ 1000000) : s122 r = some (maxL r.2) := by
  simp only [s122, s119_eq h h2, optE]
theorem s121_eq {r : List (Int × Pkt) × List Int} (h : 1 ≤ r.2.length) (h2 : r.2.length ≤ 1000000) : s121 r = some (minL r.2) := by
  simp only [s121, s135_eq h h2, optE]

/-- The first that fails. -/
theorem first_bad {α : Type} {f : α → Bool} {l : List α} (d : α) (h : l.all f = false) : ∃ j, j < l.length ∧ f (l.getD j d) = false ∧ ∀ i, i < j → f (l.getD i d) = true := by
  have key : ∀ n, n ≤ l.length → (∀ i, i < n → f (l.getD i d) = true) ∨ ∃ j, j < n ∧ f (l.getD j d) = false ∧ ∀ i, i < j → f (l.getD i d) = true := by
    intro n
    induction n with
    | zero => intro _; exact .inl (fun i hi => by omega)
    | succ n ih =>
      intro hn
      rcases ih (by omega) with h1 | ⟨j, h1, h2, h3⟩
      · cases hf : f (l.getD n d) with
        | true =>
          refine .inl (fun i hi => ?_)
          by_cases e : i = n
          · rw [e]; exact hf
          · exact h1 i (by omega)
        | false => exact .inr ⟨n, by omega, hf, h1⟩
      · exact .inr ⟨j, by omega, h2, h3⟩
  rcases key l.length (Nat.le_refl _) with h1 | ⟨j, h1, h2, h3⟩
  · rw [all_getD (d := d) |>.2 h1] at h; cases h
  · exact ⟨j, h1, h2, h3⟩

def prevC (l : List Pkt) : Nat → Int
  | 0 => 0
  | k + 1 => cntAt l k
theorem okPkt_c {p : Pkt} (h : okPkt p = true) : 0 ≤ p.1 ∧ p.1 ≤ 1023 := by
  simp only [okPkt, Bool.and_eq_true, win_iff] at h; omega
theorem cntAt_bound' {l : List Pkt} {n : Nat} (h : ∀ i, i < n → okPkt (l.getD i pkt0) = true) : ∀ k, k < n → 0 ≤ cntAt l k ∧ cntAt l k ≤ 2047 + 1024 * k
  | 0, hk => by
    have := okPkt_c (h 0 hk)
    simp only [cntAt]; omega
  | k + 1, hk => by
    have ih := cntAt_bound' h k (by omega)
    have hf := best_facts (c := (l.getD (k + 1) pkt0).1) ih.1
    simp only [cntAt]; omega
theorem open_step {l : List Pkt} {n : Nat} (hl : l.length ≤ 30) (hn : n ≤ l.length) (hok : ∀ i, i < n → okPkt (l.getD i pkt0) = true) (k : Nat) (hk : k < n) :
    step117_0 (clashTo l k, prevC l k, l, (l.length : Int), (k : Int), (esTo l k, cntsTo l k)) = some (.inl (clashTo l (k + 1), prevC l (k + 1), l, (l.length : Int), ((k + 1 : Nat) : Int), (esTo l (k + 1), cntsTo l (k + 1)))) := by
  have hlen := cntsTo_length l k
  have hc := okPkt_c (hok k hk)
  have hb := cntAt_bound' hok k hk
  simp only [step117_0]
  walk [hok k hk, unl]
  rw [← cnts_succ l k]
  cases k with
  | zero =>
    have e : wr ((l.getD 0 pkt0).1 + 1024) = cntAt l 0 := by rw [wr_id (by omega) (by omega)]; rfl
    walk [clashTo, prevC, esTo, mapHas, Bool.false_and, Bool.or_false]
    rfl
  | succ k =>
    have hb' := cntAt_bound' hok k (by omega)
    have e : p88 (prevC l (k + 1), (l.getD (k + 1) pkt0).1) = some (cntAt l (k + 1)) := by
      rw [p88_pos (by rw [inR_spec]; simp only [prevC]; omega)]
      rfl
    walk [e]
    have hcl : clashTo l (k + 1 + 1) = (clashTo l (k + 1) || (mapHas (cntAt l (k + 1)) (esTo l (k + 1)) && !(pktEq (mapGet (cntAt l (k + 1)) pkt0 (esTo l (k + 1))) (l.getD (k + 1) pkt0)))) := rfl
    have hes : esTo l (k + 1 + 1) = bif mapHas (cntAt l (k + 1)) (esTo l (k + 1)) then esTo l (k + 1) else mapPut (cntAt l (k + 1)) (l.getD (k + 1) pkt0) (esTo l (k + 1)) := rfl
    have hpr : prevC l (k + 1 + 1) = cntAt l (k + 1) := rfl
    rw [hcl, hes, hpr]
    cases h1 : clashTo l (k + 1) <;> cases h2 : mapHas (cntAt l (k + 1)) (esTo l (k + 1)) <;>
      simp only [h1, h2, cond_true, cond_false, Bool.not_true, Bool.not_false, Bool.true_and, Bool.false_and, Bool.or_false, Bool.false_or, Bool.true_or] <;> (try walk [h1, h2])
theorem s117_eq (l : List Pkt) : s117 l = some (openR l) := by
  simp only [s117, openR]
  by_cases h0 : l.length = 0
  · walk [h0, unl, firstE]
    rfl
  · by_cases h1 : 30 < l.length
    · walk [unl, firstE, if_neg h0, if_pos h1]
    · rw [if_neg h0, if_neg h1]
      walk [unl, firstE]
      cases ha : l.all okPkt with
      | false =>
        obtain ⟨j, hj, hf, hg⟩ := first_bad pkt0 ha
        have hl := loop_for (step := step117_0) (st := fun k => (clashTo l k, prevC l k, l, (l.length : Int), (k : Int), (esTo l k, cntsTo l k))) (n := j) (e := .inl 2)
          (fun k hk => open_step (by omega) (by omega) hg k hk) (by
            simp only [step117_0]
            walk [hf, unl]) 0 (by omega)
        simp only [clashTo, prevC, esTo, Int.natCast_zero, show cntsTo l 0 = [] from rfl] at hl
        rw [hl]
        simp [optE, sumE]
      | true =>
        have hg := (all_getD (d := pkt0)).1 ha
        have hl := loop_for (step := step117_0) (st := fun k => (clashTo l k, prevC l k, l, (l.length : Int), (k : Int), (esTo l k, cntsTo l k))) (n := l.length) (e := .inr (clashTo l l.length, (esTo l l.length, cntsTo l l.length)))
          (fun k hk => open_step (by omega) (by omega) hg k hk) (by
            simp only [step117_0]
            walk []) 0 (by omega)
        simp only [clashTo, prevC, esTo, Int.natCast_zero, show cntsTo l 0 = [] from rfl] at hl
        have hs := spread (List.all_eq_true.1 ha) (by omega) (by omega)
        have hlen := cntsTo_length l l.length
        rw [hl]
        simp only [optE, sumE]
        rw [s122_eq (by simp only; omega) (by simp only; omega), s121_eq (by simp only; omega) (by simp only; omega)]
        simp only [optE, recOf, pktsE, if_neg h0, if_neg h1, ha, if_true]
        congr 3
        by_cases h4 : 40 ≤ maxL (cntsTo l l.length) - minL (cntsTo l l.length)
        · rw [if_pos h4]
          walk [unl]
        · rw [if_neg h4]
          cases hc : clashTo l l.length <;> walk [unl] <;> rfl
end Go.Proofs.Ytinkhmfciealkaa
