/- Chapter 2: streams: the reference. -/
import Derived.Test.YtinkhmfciealkaaPure02j
set_option linter.unusedSimpArgs false
set_option linter.unusedVariables false
set_option maxRecDepth 100000
namespace Go.Proofs.Ytinkhmfciealkaa
open Go.Ev

theorem s73_eq {l : List Pkt} (h : l.length ≤ 1000) (hok : l.all okPkt = true) : s73 l = some (cntsTo l l.length) := by
  have hok := (all_getD (d := pkt0)).1 hok
  have hl := loop_for (step := step73_0) (st := fun k => (l, cntsTo l k, (k : Int))) (n := l.length) (e := cntsTo l l.length)
    (fun k hk => by
      have hlen := cntsTo_length l k
      have hc := okPkt_c (hok k hk)
      rw [← cnts_succ l k]
      cases k with
      | zero =>
        have e : wr ((l.getD 0 pkt0).1 + 1024) = cntAt l 0 := by rw [wr_id (by omega) (by omega)]; rfl
        simp only [step73_0]
        walk []
        rfl
      | succ k =>
        have hb' := cntAt_bound' hok k (by omega)
        have e : p22 (cntAt l k, (l.getD (k + 1) pkt0).1) = some (cntAt l (k + 1)) := by
          rw [p22_pos (by rw [inR_spec]; simp only []; omega)]
          rfl
        have e2 : ((k : Int) + 1).toNat = k + 1 := by omega
        simp only [step73_0]
        walk [e2]
        simp only [cntsTo_get l (show k < k + 1 by omega), e]
        try walk [roomT]) (by
      simp only [step73_0]
      walk []) 0 (by omega)
  simp only [Int.natCast_zero, show cntsTo l 0 = [] from rfl] at hl
  simp only [s73, hl, optE]
theorem s123_eq {x : List Int} (h : 1 ≤ x.length) (h2 : x.length ≤ 1000000) : s123 x = some (minL x, maxL x) := by
  have hl := loop_for (step := step123_0) (st := fun k => (x, minTo x (k - 1), maxTo x (k - 1), (k : Int))) (n := x.length) (e := (minL x, maxL x))
    (fun k hk => by
      simp only [step123_0]
      walk []
      cases k with
      | zero =>
        have e1 : mn (minTo x 0) (x.getD 0 0) = minTo x 0 := by simp [minTo, mn]
        have e2 : mx (maxTo x 0) (x.getD 0 0) = maxTo x 0 := by simp [maxTo, mx]
        simp only [Nat.zero_sub, Nat.zero_add, Nat.sub_self, e1, e2]
      | succ k => rfl) (by
      simp only [step123_0]
      walk [minL, maxL]) 0 (by omega)
  simp only [Int.natCast_zero, Nat.zero_sub, minTo, maxTo] at hl
  simp only [s123, hl]
  walk []
/-- Where a counter was first. -/
def firstAt (l : List Pkt) (i : Nat) : Nat := (firstIdx l (cntAt l i) i).getD i
theorem firstAt_le (l : List Pkt) (i : Nat) : firstAt l i ≤ i := by
  unfold firstAt
  cases h : firstIdx l (cntAt l i) i with
  | none => exact Nat.le_refl _
  | some j => exact Nat.le_of_lt (firstIdx_some h).1
theorem firstAt_lt {l : List Pkt} {i : Nat} : firstAt l i < i ↔ cntAt l i ∈ cntsTo l i := by
  unfold firstAt
  cases h : firstIdx l (cntAt l i) i with
  | none =>
    simp only [Option.getD_none, Nat.lt_irrefl, false_iff]
    intro hm
    obtain ⟨j, h1, h2⟩ := mem_cnts.1 hm
    exact firstIdx_none h j h1 h2
  | some j =>
    obtain ⟨h1, h2, h3⟩ := firstIdx_some h
    simp only [Option.getD_some, h1, true_iff]
    exact mem_cnts.2 ⟨j, h1, h2⟩
theorem s124_eq {l : List Pkt} {n i : Nat} (hi : i < n) (hn : n ≤ 1000) : s124 (cntsTo l n, (i : Int)) = some (firstAt l i : Int) := by
  have hlen := cntsTo_length l n
  unfold firstAt
  cases h : firstIdx l (cntAt l i) i with
  | none =>
    have hl := loop_for (step := step124_0) (st := fun k => (cntsTo l n, (i : Int), (k : Int))) (n := i) (e := .inr (i : Int))
      (fun k hk => by
        have := firstIdx_none h k hk
        simp only [step124_0]
        walk []
        simp only [Int.toNat_natCast, cntsTo_get l (show k < n by omega), cntsTo_get l hi, beqF this, cond_false]) (by
        simp only [step124_0]
        walk []) 0 (by omega)
    simp only [Int.natCast_zero] at hl
    simp only [s124, hl]
    walk [Option.getD_none]
  | some j =>
    obtain ⟨h1, h2, h3⟩ := firstIdx_some h
    have hl := loop_for (step := step124_0) (st := fun k => (cntsTo l n, (i : Int), (k : Int))) (n := j) (e := .inl (j : Int))
      (fun k hk => by
        have := h3 k hk
        simp only [step124_0]
        walk []
        simp only [Int.toNat_natCast, cntsTo_get l (show k < n by omega), cntsTo_get l hi, beqF this, cond_false]) (by
        simp only [step124_0]
        walk []
        simp only [Int.toNat_natCast, cntsTo_get l (show j < n by omega), cntsTo_get l hi, beqT h2, cond_true]) 0 (by omega)
    simp only [Int.natCast_zero] at hl
    simp only [s124, hl]
    walk [Option.getD_some]
/-- At a packet that comes again: the same one? -/
def okAt (l : List Pkt) (i : Nat) : Bool := pktEq (l.getD (firstAt l i) pkt0) (l.getD i pkt0)
theorem pktEq_self (a : Pkt) : pktEq a a = true := pktEq_iff.2 rfl
theorem get_first {l : List Pkt} {i : Nat} (h : mapHas (cntAt l i) (esTo l i) = true) : mapGet (cntAt l i) pkt0 (esTo l i) = l.getD (firstAt l i) pkt0 := by
  rw [es_get]
  rw [es_has] at h
  unfold firstAt
  cases hf : firstIdx l (cntAt l i) i with
  | none => rw [hf] at h; cases h
  | some j => rfl
theorem clash_ok (l : List Pkt) : ∀ k, clashTo l k = !((List.range k).all (okAt l))
  | 0 => rfl
  | k + 1 => by
    have ih := clash_ok l k
    simp only [clashTo, List.range_succ, List.all_append, List.all_cons, List.all_nil, Bool.and_true, ih, Bool.not_and]
    congr 1
    unfold okAt
    cases h : mapHas (cntAt l k) (esTo l k)
    · have : firstAt l k = k := by
        have h1 := firstAt_le l k
        have h2 : ¬ firstAt l k < k := fun h2 => by
          have h3 := has_mem l (cntAt l k) k
          rw [h, decide_eq_true (firstAt_lt.1 h2)] at h3
          cases h3
        omega
      rw [this, pktEq_self]; rfl
    · rw [get_first h]; rfl
theorem s68_eq (l : List Pkt) : s68 l = some (pktsE l) := by
  simp only [s68, pktsE]
  by_cases h0 : l.length = 0
  · walk [h0]
    rfl
  · by_cases h1 : 30 < l.length
    · walk [if_neg h0, if_pos h1]
    · rw [if_neg h0, if_neg h1]
      walk []
      cases ha : l.all okPkt with
      | false =>
        obtain ⟨j, hj, hf, hg⟩ := first_bad pkt0 ha
        have hl := loop_for (step := step68_0) (st := fun k => (l, (k : Int))) (n := j) (e := .inl 2)
          (fun k hk => by
            have := hg k hk
            simp only [step68_0]
            walk [this, unl]) (by
            simp only [step68_0]
            walk [hf, unl]) 0 (by omega)
        simp only [Int.natCast_zero] at hl
        simp [hl]
      | true =>
        have hg := (all_getD (d := pkt0)).1 ha
        have hl := loop_for (step := step68_0) (st := fun k => (l, (k : Int))) (n := l.length) (e := .inr l)
          (fun k hk => by
            have := hg k hk
            simp only [step68_0]
            walk [this, unl]) (by
            simp only [step68_0]
            walk []) 0 (by omega)
        have hs := spread (List.all_eq_true.1 ha) (by omega) (by omega)
        have hlen := cntsTo_length l l.length
        simp only [Int.natCast_zero] at hl
        rw [hl, if_pos rfl]
        simp only [s73_eq (show l.length ≤ 1000 by omega) ha, s123_eq (x := cntsTo l l.length) (by omega) (by omega)]
        by_cases h4 : 40 ≤ maxL (cntsTo l l.length) - minL (cntsTo l l.length)
        · rw [if_pos h4]
          walk []
        · rw [if_neg h4, clash_ok]
          walk []
          cases hk : (List.range l.length).all (okAt l) with
          | true =>
            have hk' : ∀ i, i < l.length → okAt l i = true := fun i hi => List.all_eq_true.1 hk i (List.mem_range.2 hi)
            have hl := loop_for (step := step68_2) (st := fun k => (l, cntsTo l l.length, (k : Int))) (n := l.length) (e := .inr ())
              (fun k hk => by
                have h5 := firstAt_le l k
                have h6 := hk' k hk
                unfold okAt at h6
                simp only [step68_2, s124_eq hk (show l.length ≤ 1000 by omega)]
                walk [h6]) (by
                simp only [step68_2]
                walk []) 0 (by omega)
            simp only [Int.natCast_zero] at hl
            simp [hl]
          | false =>
            obtain ⟨j, hj, hf, hg⟩ := first_bad 0 hk
            simp only [List.length_range] at hj
            have e : ∀ i, i < l.length → (List.range l.length).getD i 0 = i := fun i hi => by
              rw [List.getD_eq_getElem?_getD, List.getElem?_eq_getElem (by simpa using hi)]; simp
            rw [e j hj] at hf
            have hl := loop_for (step := step68_2) (st := fun k => (l, cntsTo l l.length, (k : Int))) (n := j) (e := .inl 13)
              (fun k hk => by
                have h5 := firstAt_le l k
                have h6 := hg k hk
                rw [e k (by omega)] at h6
                unfold okAt at h6
                simp only [step68_2, s124_eq (show k < l.length by omega) (show l.length ≤ 1000 by omega)]
                walk [h6]) (by
                have h5 := firstAt_le l j
                unfold okAt at hf
                simp only [step68_2, s124_eq hj (show l.length ≤ 1000 by omega)]
                walk [hf]) 0 (by omega)
            simp only [Int.natCast_zero] at hl
            simp [hl]
theorem s70_eq {l : List Pkt} (h : pktsE l = 0) : s70 l = some (kindsOf l) := by
  obtain ⟨g1, g2, g3, g4, g5⟩ := pktsE_zero h
  have hlen := cntsTo_length l l.length
  have inner : ∀ (out : List Int) (i : Nat), i < l.length → loopVal step70_2 (cntsTo l l.length, out, (i : Int), 0, 0) = some (cntsTo l l.length, out, (i : Int), bif (cntsTo l i).any (fun x => decide (x > cntAt l i)) then 1 else 0) := by
    intro out i hi
    have hl := loop_for (step := step70_2) (st := fun k => (cntsTo l l.length, out, (i : Int), (bif (cntsTo l k).any (fun x => decide (x > cntAt l i)) then 1 else 0), (k : Int))) (n := i) (e := (cntsTo l l.length, out, (i : Int), bif (cntsTo l i).any (fun x => decide (x > cntAt l i)) then 1 else 0))
      (fun k hk => by
        rw [← cnts_succ l k, List.any_append]
        simp only [step70_2, List.any_cons, List.any_nil, Bool.or_false]
        walk []
        simp only [Int.toNat_natCast, cntsTo_get l (show k < l.length by omega), cntsTo_get l hi]
        cases (cntsTo l k).any (fun x => decide (x > cntAt l i)) <;> cases decide (cntAt l k > cntAt l i) <;> rfl) (by
        simp only [step70_2]
        walk []) 0 (by omega)
    exact hl
  have hl := loop_for (step := step70_0) (st := fun k => (cntsTo l l.length, (List.range k).map (kindAt l), (k : Int))) (n := l.length) (e := kindsOf l)
    (fun k hk => by
      have e1 : ((List.range k).map (kindAt l)).length = k := by simp
      rw [← range_map_succ (kindAt l) k]
      simp only [step70_0, inner _ k hk]
      walk [s124_eq hk (show l.length ≤ 1000 by omega), Bool.and_true]
      by_cases hf : cntAt l k ∈ cntsTo l k
      · have := firstAt_lt.2 hf
        walk [kindAt, decide_eq_true hf]
      · have h1 := firstAt_le l k
        have h2 : ¬ firstAt l k < k := fun h2 => hf (firstAt_lt.1 h2)
        have h3 : firstAt l k = k := by omega
        rw [h3]
        walk [kindAt, decide_eq_false hf]) (by
      simp only [step70_0]
      walk [kindsOf]) 0 (by omega)
  simp only [Int.natCast_zero, show (List.range 0).map (kindAt l) = [] from rfl] at hl
  simp only [s70, s73_eq (show l.length ≤ 1000 by omega) g3, optE, hl]
theorem s71_eq {l : List Pkt} (h : pktsE l = 0) : s71 l = some (missOf l) := by
  obtain ⟨g1, g2, g3, g4, g5⟩ := pktsE_zero h
  obtain ⟨f1, f2, f3, f4, f5⟩ := span_facts h
  have hlen := cntsTo_length l l.length
  have hl := loop_for (step := step71_0) (st := fun k => (cntsTo l l.length, hiC l, missTo l (loC l) k, loC l + (k : Int))) (n := spanC l) (e := missOf l)
    (fun k hk => by
      have hm := missTo_length l (loC l) k
      simp only [step71_0, s74_eq (s := cntsTo l l.length) (v := loC l + k) (by omega)]
      walk [missTo]
      cases decide (loC l + (k : Int) ∈ cntsTo l l.length) <;> simp only [cond_true, cond_false, Bool.not_true, Bool.not_false, Int.add_assoc]) (by
      simp only [step71_0]
      walk [missOf]) 0 (by omega)
  simp only [Int.natCast_zero, Int.add_zero, missTo] at hl
  simp only [s71, s73_eq (show l.length ≤ 1000 by omega) g3, s123_eq (x := cntsTo l l.length) (by omega) (by omega), optE]
  rw [show minL (cntsTo l l.length) = loC l from rfl, show maxL (cntsTo l l.length) = hiC l from rfl, hl]
end Go.Proofs.Ytinkhmfciealkaa
