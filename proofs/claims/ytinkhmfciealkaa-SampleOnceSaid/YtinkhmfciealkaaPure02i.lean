/- Chapter 2: streams: what the functions compute, continued. -/
import Derived.Test.YtinkhmfciealkaaPure02h
set_option linter.unusedSimpArgs false
set_option linter.unusedVariables false
set_option maxRecDepth 100000
namespace Go.Proofs.Ytinkhmfciealkaa
open Go.Ev

theorem find_or (s : List Int) (v : Int) : (v ∉ s) ∨ ∃ j, j < s.length ∧ s.getD j 0 = v ∧ ∀ i, i < j → s.getD i 0 ≠ v := by
  cases h : s.all (fun x => !(x == v)) with
  | true =>
    refine .inl (fun hm => ?_)
    have := List.all_eq_true.1 h v hm
    simp at this
  | false =>
    obtain ⟨j, h1, h2, h3⟩ := first_bad (0 : Int) h
    exact .inr ⟨j, h1, by simpa using h2, fun i hi => by simpa using h3 i hi⟩
theorem getD_in {s : List Int} {j : Nat} (h : j < s.length) : s.getD j 0 ∈ s := getD_mem h
theorem s134_eq {s : List Int} {v : Int} (h : s.length ≤ 1000000) : (v ∉ s ∧ s134 (s, v) = some (-1)) ∨ ∃ j : Nat, j < s.length ∧ s.getD j 0 = v ∧ (∀ i, i < j → s.getD i 0 ≠ v) ∧ s134 (s, v) = some (j : Int) := by
  rcases find_or s v with hn | ⟨j, h1, h2, h3⟩
  · refine .inl ⟨hn, ?_⟩
    have hl := loop_for (step := step134_0) (st := fun k => (s, v, (s.length : Int), (k : Int))) (n := s.length) (e := .inr ())
      (fun k hk => by
        have hne : v ≠ s.getD k 0 := fun e => hn (e ▸ getD_in hk)
        simp only [step134_0]
        walk []) (by
        simp only [step134_0]
        walk []) 0 (by omega)
    simp only [Int.natCast_zero] at hl
    simp only [s134, hl]
    walk []
  · refine .inr ⟨j, h1, h2, h3, ?_⟩
    have hl := loop_for (step := step134_0) (st := fun k => (s, v, (s.length : Int), (k : Int))) (n := j) (e := .inl (j : Int))
      (fun k hk => by
        have hne : v ≠ s.getD k 0 := fun e => h3 k hk e.symm
        simp only [step134_0]
        walk []) (by
        simp only [step134_0]
        walk []) 0 (by omega)
    simp only [Int.natCast_zero] at hl
    simp only [s134, hl]
    walk []
theorem s118_eq {s : List Int} {v : Int} (h : s.length ≤ 1000000) : s118 (s, v) = some (decide (v ∈ s)) := by
  rcases s134_eq (v := v) h with ⟨hn, he⟩ | ⟨j, h1, h2, h3, he⟩
  · simp only [s118, he, optE]
    simp [hn]
  · simp only [s118, he, optE]
    have : v ∈ s := h2 ▸ getD_in h1
    simp [this]
theorem s74_eq {s : List Int} {v : Int} (h : s.length ≤ 1000000) : s74 (s, v) = some (decide (v ∈ s)) := by
  rcases find_or s v with hn | ⟨j, h1, h2, h3⟩
  · have hl := loop_for (step := step74_0) (st := fun k => (s, v, (k : Int))) (n := s.length) (e := .inr ())
      (fun k hk => by
        have hne : s.getD k 0 ≠ v := fun e => hn (e ▸ getD_in hk)
        simp only [step74_0]
        walk []) (by
        simp only [step74_0]
        walk []) 0 (by omega)
    simp only [Int.natCast_zero] at hl
    simp only [s74, hl]
    walk []
  · have hl := loop_for (step := step74_0) (st := fun k => (s, v, (k : Int))) (n := j) (e := .inl true)
      (fun k hk => by
        have hne : s.getD k 0 ≠ v := h3 k hk
        simp only [step74_0]
        walk []) (by
        simp only [step74_0]
        walk []) 0 (by omega)
    simp only [Int.natCast_zero] at hl
    simp only [s74, hl]
    walk []
    have : v ∈ s := h2 ▸ getD_in h1
    simp [this]

/-! Kinds -/

theorem mem_cnts {l : List Pkt} {v : Int} {k : Nat} : v ∈ cntsTo l k ↔ ∃ i, i < k ∧ cntAt l i = v := by
  simp [cntsTo, List.mem_map]
theorem has_mem (l : List Pkt) (v : Int) (k : Nat) : mapHas v (esTo l k) = decide (v ∈ cntsTo l k) := by
  rw [es_has]
  by_cases h : v ∈ cntsTo l k
  · rw [decide_eq_true h, firstIdx_isSome]; exact mem_cnts.1 h
  · rw [decide_eq_false h]
    cases hf : (firstIdx l v k).isSome
    · rfl
    · exact absurd (mem_cnts.2 (firstIdx_isSome.1 hf)) h
def kindAt (l : List Pkt) (k : Nat) : Int := bif decide (cntAt l k ∈ cntsTo l k) then 2 else bif (cntsTo l k).any (fun x => decide (x > cntAt l k)) then 1 else 0
def kindsOf (l : List Pkt) : List Int := (List.range l.length).map (kindAt l)
theorem max_any {x : List Int} (h : 1 ≤ x.length) (c : Int) : x.any (fun y => decide (y > c)) = decide (maxL x > c) := by
  obtain ⟨h1, j, h2, h3⟩ := maxTo_facts x (x.length - 1)
  by_cases hm : maxL x > c
  · rw [decide_eq_true hm, List.any_eq_true]
    refine ⟨maxL x, ?_, decide_eq_true hm⟩
    unfold maxL; rw [h3]; exact getD_in (by omega)
  · rw [decide_eq_false hm]
    cases ha : x.any (fun y => decide (y > c))
    · rfl
    · obtain ⟨y, hy, hyc⟩ := List.any_eq_true.1 ha
      obtain ⟨i, hi, rfl⟩ := List.mem_iff_getElem.1 hy
      have := h1 i (by omega)
      rw [List.getD_eq_getElem?_getD, List.getElem?_eq_getElem hi] at this
      simp only [Option.getD_some, decide_eq_true_eq] at this hyc
      unfold maxL at hm
      omega
theorem pktsE_zero {l : List Pkt} (h : pktsE l = 0) : 0 < l.length ∧ l.length ≤ 30 ∧ l.all okPkt = true ∧ maxL (cntsTo l l.length) - minL (cntsTo l l.length) < 40 ∧ clashTo l l.length = false := by
  unfold pktsE at h
  split at h
  · omega
  split at h
  · omega
  split at h
  · split at h
    · omega
    split at h
    · omega
    · rename_i h1 h2 h3 h4 h5
      exact ⟨by omega, by omega, h3, by omega, by simpa using h5⟩
  · omega
theorem openR_zero {l : List Pkt} (h : pktsE l = 0) : openR l = (some (recOf l), 0) := by
  obtain ⟨h1, h2, h3, h4, h5⟩ := pktsE_zero h
  unfold openR
  rw [if_neg (by omega), if_neg (by omega), if_pos h3, h]
theorem openR_snd (l : List Pkt) : (openR l).2 = pktsE l := by
  by_cases h0 : l.length = 0
  · simp [openR, pktsE, h0]
  · by_cases h1 : 30 < l.length
    · simp [openR, pktsE, h0, h1]
    · cases h2 : l.all okPkt <;> simp [openR, pktsE, h0, h1, h2]
theorem s64_eq (l : List Pkt) : s64 l = some (if pktsE l = 0 then (kindsOf l, 0) else ([], pktsE l)) := by
  simp only [s64, s117_eq, optE]
  have h2 := openR_snd l
  by_cases h : pktsE l = 0
  · rw [openR_zero h, if_pos h]
    obtain ⟨g1, g2, g3, g4, g5⟩ := pktsE_zero h
    have hl := loop_for (step := step64_0) (st := fun k => (recOf l, (List.range k).map (kindAt l), cntsTo l l.length, (l.length : Int), (k : Int))) (n := l.length) (e := kindsOf l)
      (fun k hk => by
        have hlen := cntsTo_length l l.length
        have e1 : ((List.range k).map (kindAt l)).length = k := by simp
        have e2 : (recOf l).2 = cntsTo l l.length := rfl
        simp only [step64_0]
        rw [e2]
        walk [Bool.and_true]
        simp only [cntsTo_take l (Nat.le_of_lt hk), Int.toNat_natCast, cntsTo_get l hk, s118_eq (s := cntsTo l k) (v := cntAt l k) (by rw [cntsTo_length]; omega), ← range_map_succ (kindAt l) k, optE]
        have hlk := cntsTo_length l k
        cases hm : decide (cntAt l k ∈ cntsTo l k) with
        | true => walk [kindAt, hm]
        | false =>
          by_cases hk0 : k = 0
          · subst hk0
            walk [kindAt, hm]
            rfl
          · rw [s119_eq (by omega) (by omega)]
            walk [kindAt, hm, max_any (show 1 ≤ (cntsTo l k).length by omega)]
            cases decide (maxL (cntsTo l k) > cntAt l k) <;> rfl) (by
        simp only [step64_0]
        walk [kindsOf]) 0 (by omega)
    simp only [Int.natCast_zero, show (List.range 0).map (kindAt l) = [] from rfl] at hl
    simp only [optE, show (recOf l).2 = cntsTo l l.length from rfl, cntsTo_length]
    rw [hl]
    rfl
  · rw [if_neg h]
    have hb : (pktsE l != 0) = true := by simpa using h
    cases ho : (openR l).1 <;> simp only [optE, h2, hb, cond_true]

/-! Missing -/

def missTo (l : List Pkt) (lo : Int) : Nat → List Int
  | 0 => []
  | k + 1 => bif decide (lo + k ∈ cntsTo l l.length) then missTo l lo k else missTo l lo k ++ [lo + k]
theorem missTo_length (l : List Pkt) (lo : Int) : ∀ k, (missTo l lo k).length ≤ k
  | 0 => Nat.le_refl _
  | k + 1 => by
    have := missTo_length l lo k
    simp only [missTo]
    cases decide (lo + (k : Int) ∈ cntsTo l l.length) <;> simp <;> omega
def loC (l : List Pkt) : Int := minL (cntsTo l l.length)
def hiC (l : List Pkt) : Int := maxL (cntsTo l l.length)
def spanC (l : List Pkt) : Nat := (hiC l - loC l + 1).toNat
def missOf (l : List Pkt) : List Int := missTo l (loC l) (spanC l)
theorem span_facts {l : List Pkt} (h : pktsE l = 0) : 0 ≤ loC l ∧ loC l ≤ hiC l ∧ hiC l ≤ 40000 ∧ (spanC l : Int) = hiC l - loC l + 1 ∧ spanC l ≤ 40 := by
  obtain ⟨g1, g2, g3, g4, g5⟩ := pktsE_zero h
  have := spread (List.all_eq_true.1 g3) g1 g2
  unfold spanC loC hiC at *
  omega
theorem s120_eq {l : List Pkt} (h : pktsE l = 0) : s120 (recOf l) = some (missOf l) := by
  obtain ⟨g1, g2, g3, g4, g5⟩ := pktsE_zero h
  obtain ⟨f1, f2, f3, f4, f5⟩ := span_facts h
  have hlen := cntsTo_length l l.length
  have hi : s122 (recOf l) = some (hiC l) := s122_eq (r := recOf l) (by simp only [recOf]; omega) (by simp only [recOf]; omega)
  have lo : s121 (recOf l) = some (loC l) := s121_eq (r := recOf l) (by simp only [recOf]; omega) (by simp only [recOf]; omega)
  have hl := loop_for (step := step120_0) (st := fun k => (recOf l, missTo l (loC l) k, loC l + (k : Int))) (n := spanC l) (e := missOf l)
    (fun k hk => by
      have hm := missTo_length l (loC l) k
      simp only [step120_0, hi]
      walk [missTo, show (recOf l).1 = esTo l l.length from rfl, has_mem]
      cases decide (loC l + (k : Int) ∈ cntsTo l l.length) <;> simp only [cond_true, cond_false, Bool.not_true, Bool.not_false, Int.add_assoc]) (by
      simp only [step120_0, hi]
      walk [missOf]) 0 (by omega)
  simp only [Int.natCast_zero, Int.add_zero, missTo] at hl
  simp only [s120, lo, optE, hl]
theorem s66_eq (l : List Pkt) : s66 l = some (if pktsE l = 0 then (missOf l, 0) else ([], pktsE l)) := by
  simp only [s66, s117_eq, optE]
  have h2 := openR_snd l
  by_cases h : pktsE l = 0
  · rw [openR_zero h, if_pos h]
    simp only [optE, s120_eq h]
    rfl
  · rw [if_neg h]
    have hb : (pktsE l != 0) = true := by simpa using h
    cases ho : (openR l).1 <;> simp only [optE, h2, hb, cond_true]
end Go.Proofs.Ytinkhmfciealkaa
