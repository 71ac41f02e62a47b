/- Chapter 2: streams: the reference's stream. -/
import Derived.Test.YtinkhmfciealkaaPure02k
set_option linter.unusedSimpArgs false
set_option linter.unusedVariables false
set_option maxRecDepth 100000
namespace Go.Proofs.Ytinkhmfciealkaa
open Go.Ev

abbrev Eight := (Int × Int) × (Int × Int) × (Int × Int) × (Int × Int) × (Int × Int) × (Int × Int) × (Int × Int) × Int × Int
def zero8 : Eight := ((0, 0), (0, 0), (0, 0), (0, 0), (0, 0), (0, 0), (0, 0), 0, 0)
/-- The samples of the last packet with a counter. -/
def lastTo (l : List Pkt) (n : Int) : Nat → Eight
  | 0 => zero8
  | k + 1 => bif cntAt l k == n then (l.getD k pkt0).2.2 else lastTo l n k
theorem es_keep {l : List Pkt} {c : Int} {k : Nat} (h : mapHas c (esTo l k) = true) : mapGet c pkt0 (esTo l (k + 1)) = mapGet c pkt0 (esTo l k) := by
  simp only [esTo]
  cases hh : mapHas (cntAt l k) (esTo l k)
  · rw [cond_false, mapGet_put]
    by_cases e : c = cntAt l k
    · rw [e, hh] at h; cases h
    · rw [if_neg e]
  · rfl
theorem has_mono {l : List Pkt} {c : Int} {k : Nat} (h : mapHas c (esTo l k) = true) : mapHas c (esTo l (k + 1)) = true := by
  rw [has_mem, decide_eq_true_eq, mem_cnts] at *
  obtain ⟨i, h1, h2⟩ := h
  exact ⟨i, by omega, h2⟩
theorem has_at {l : List Pkt} {i k : Nat} (h : i < k) : mapHas (cntAt l i) (esTo l k) = true := by
  rw [has_mem, decide_eq_true_eq, mem_cnts]
  exact ⟨i, h, rfl⟩
theorem clash_free {l : List Pkt} : ∀ {k : Nat}, clashTo l k = false → ∀ i, i < k → mapGet (cntAt l i) pkt0 (esTo l k) = l.getD i pkt0
  | 0, _, i, hi => by omega
  | k + 1, h, i, hi => by
    simp only [clashTo, Bool.or_eq_false_iff] at h
    by_cases e : i = k
    · subst e
      cases hh : mapHas (cntAt l i) (esTo l i)
      · simp only [esTo, hh, cond_false, mapGet_put, if_pos]
      · rw [es_keep hh]
        have h2 := h.2
        rw [hh] at h2
        simp only [Bool.true_and, Bool.not_eq_false'] at h2
        exact pktEq_iff.1 h2
    · rw [es_keep (has_at (show i < k by omega))]
      exact clash_free h.1 i (by omega)
theorem get_none {l : List Pkt} {c : Int} {k : Nat} (h : c ∉ cntsTo l k) : mapGet c pkt0 (esTo l k) = pkt0 := by
  rw [es_get]
  cases hf : firstIdx l c k with
  | none => rfl
  | some j =>
    obtain ⟨h1, h2, h3⟩ := firstIdx_some hf
    exact absurd (mem_cnts.2 ⟨j, h1, h2⟩) h
theorem last_eq {l : List Pkt} {n : Int} (hc : clashTo l l.length = false) : ∀ k, k ≤ l.length → (n ∉ cntsTo l k ∧ lastTo l n k = zero8) ∨ (n ∈ cntsTo l k ∧ lastTo l n k = (mapGet n pkt0 (esTo l l.length)).2.2)
  | 0, _ => .inl ⟨by simp [cntsTo], rfl⟩
  | k + 1, hk => by
    have hm : n ∈ cntsTo l (k + 1) ↔ n ∈ cntsTo l k ∨ cntAt l k = n := by
      rw [← cnts_succ, List.mem_append, List.mem_singleton]
      exact ⟨fun h => h.imp id Eq.symm, fun h => h.imp id Eq.symm⟩
    simp only [lastTo]
    by_cases e : cntAt l k = n
    · refine .inr ⟨hm.2 (.inr e), ?_⟩
      rw [beqT e, cond_true, ← e, clash_free hc k (by omega)]
    · rw [beqF e, cond_false]
      rcases last_eq hc k (by omega) with ⟨h1, h2⟩ | ⟨h1, h2⟩
      · exact .inl ⟨fun h => (hm.1 h).elim h1 e, h2⟩
      · exact .inr ⟨hm.2 (.inl h1), h2⟩
theorem last_all {l : List Pkt} (hc : clashTo l l.length = false) (n : Int) : lastTo l n l.length = (mapGet n pkt0 (esTo l l.length)).2.2 := by
  rcases last_eq (n := n) hc l.length (Nat.le_refl _) with ⟨h1, h2⟩ | ⟨h1, h2⟩
  · rw [h2, get_none h1]; rfl
  · exact h2
theorem s72_eq {l : List Pkt} (h : pktsE l = 0) : s72 l = some (streamOf l) := by
  obtain ⟨g1, g2, g3, g4, g5⟩ := pktsE_zero h
  obtain ⟨f1, f2, f3, f4, f5⟩ := span_facts h
  have hlen := cntsTo_length l l.length
  have inner : ∀ (n : Int) (a b : Int × List (Int × Int) × List (Int × Int)), loopVal step72_2 (l, cntsTo l l.length, loC l, hiC l, n, 0, a, b, zero8) = some (l, cntsTo l l.length, loC l, hiC l, n, a, b, (mapGet n pkt0 (esTo l l.length)).2.2) := by
    intro n a b
    have hl := loop_for (step := step72_2) (st := fun k => (l, cntsTo l l.length, loC l, hiC l, n, (k : Int), a, b, lastTo l n k)) (n := l.length) (e := (l, cntsTo l l.length, loC l, hiC l, n, a, b, (mapGet n pkt0 (esTo l l.length)).2.2))
      (fun k hk => by
        simp only [step72_2]
        walk []
        simp only [Int.toNat_natCast, cntsTo_get l hk, lastTo]
        cases cntAt l k == n <;> rfl) (by
        simp only [step72_2]
        walk [last_all g5]) 0 (by omega)
    exact hl
  have hl := loop_for (step := step72_0) (st := fun k => (l, cntsTo l l.length, loC l, hiC l, loC l + (k : Int), (0, [], []), (loC l, sampTo l (loC l) k, gapsTo l (loC l) k))) (n := spanC l) (e := ((0, [], []), streamOf l))
    (fun k hk => by
      have hs := sampTo_length l (loC l) k
      have hb := gapsTo_bnd l (loC l) k (by omega)
      have hi := inner (loC l + (k : Int)) (0, [], []) (loC l, sampTo l (loC l) k, gapsTo l (loC l) k)
      unfold zero8 at hi
      have e1 : wr (loC l + (k : Int) - loC l) = (k : Int) := by rw [wr_id (by omega) (by omega)]; omega
      simp only [step72_0, hi, optE, s74_eq (s := cntsTo l l.length) (v := loC l + (k : Int)) (by omega), e1]
      rw [dT (show loC l + (k : Int) ≤ hiC l by omega), cond_true, roomT (by omega) (by omega), cond_true, wr_id (n := loC l + (k : Int) + 1) (by omega) (by omega)]
      have e2 : loC l + (k : Int) + 1 = loC l + ((k + 1 : Nat) : Int) := by omega
      simp only [e2, gapsTo, sampTo]
      cases decide (loC l + (k : Int) ∈ cntsTo l l.length) with
      | true => rfl
      | false =>
        simp only [cond_false]
        exact gap_ref hb (by omega) (t := (k : Int)) (by omega) (by omega) (fun gs => (Sum.inl (l, cntsTo l l.length, loC l, hiC l, loC l + ((k + 1 : Nat) : Int), ((0 : Int), ([] : List (Int × Int)), ([] : List (Int × Int))), (loC l, sampTo l (loC l) k ++ samplesOf (mapGet (loC l + (k : Int)) pkt0 (esTo l l.length)), gs)) : ((List Pkt) × (List Int) × Int × Int × Int × (Int × (List (Int × Int)) × List (Int × Int)) × (Int × (List (Int × Int)) × (List (Int × Int)))) ⊕ ((Int × (List (Int × Int)) × List (Int × Int)) × (Int × (List (Int × Int)) × (List (Int × Int))))))) (by
      simp only [step72_0]
      rw [dF (by omega)]
      rfl) 0 (by omega)
  simp only [Int.natCast_zero, Int.add_zero, sampTo, gapsTo] at hl
  simp only [s72, s73_eq (show l.length ≤ 1000 by omega) g3, s123_eq (x := cntsTo l l.length) (by omega) (by omega), optE]
  rw [show minL (cntsTo l l.length) = loC l from rfl, show maxL (cntsTo l l.length) = hiC l from rfl, hl]
theorem same29_self9 {l : List Int} (h : l.length ≤ 1000000) : same29 (l, l) = some true := by
  unfold same29; rw [if_pos h]; simp
theorem s69_self {a : Int × List (Int × Int) × List (Int × Int)} (h : a.2.1.length ≤ 1000000) (h2 : a.2.2.length ≤ 1000000) : s69 (a, a) = some true := by
  simp only [s69, same60, same125]
  rw [beqT rfl, if_pos h, if_pos h2]
  simp [optE]
theorem stream_small {l : List Pkt} (h : pktsE l = 0) : (streamOf l).2.1.length ≤ 320 ∧ (streamOf l).2.2.length ≤ 40 ∧ (missOf l).length ≤ 40 := by
  obtain ⟨f1, f2, f3, f4, f5⟩ := span_facts h
  have h1 := sampTo_length l (loC l) (spanC l)
  have h2 := (gapsTo_bnd l (loC l) (spanC l) (by omega)).1
  have h3 := missTo_length l (loC l) (spanC l)
  unfold streamOf missOf
  simp only
  omega
theorem law9 : ∀ x, s9 x = some true := by
  intro l
  simp only [s9, s63]
  by_cases h : l.length ≤ 32
  · have hc : s65 l = some l := by
      simp only [s65]
      rw [roomT (by omega) (by omega)]; rfl
    walk [hc, s64_eq, s66_eq, s67_eq, s68_eq]
    by_cases h0 : pktsE l = 0
    · obtain ⟨k1, k2, k3⟩ := stream_small h0
      obtain ⟨g1, g2, g3, g4, g5⟩ := pktsE_zero h0
      simp only [h0, if_true, s70_eq h0, s71_eq h0, s72_eq h0, same29_self9 (show (kindsOf l).length ≤ 1000000 by simp [kindsOf]; omega), same29_self9 (show (missOf l).length ≤ 1000000 by omega), s69_self (show (streamOf l).2.1.length ≤ 1000000 by omega) (show (streamOf l).2.2.length ≤ 1000000 by omega), beq_self_eq_true, cond_true, Bool.not_true, cond_false]
    · have hb : (pktsE l == 0) = false := by simpa using h0
      have hs := s69_self (a := (0, [], [])) (by simp) (by simp)
      simp only [if_neg h0, hb, Bool.not_false, cond_true, beq_self_eq_true, List.length_nil, Int.natCast_zero, hs]
  · walk []
end Go.Proofs.Ytinkhmfciealkaa
