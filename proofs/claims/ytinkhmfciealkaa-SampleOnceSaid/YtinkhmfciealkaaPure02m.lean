/- Chapter 2: each sample once. -/
import Derived.Test.YtinkhmfciealkaaPure02l
set_option linter.unusedSimpArgs false
set_option linter.unusedVariables false
set_option maxRecDepth 100000
namespace Go.Proofs.Ytinkhmfciealkaa
open Go.Ev

theorem getD_left {α : Type} {a b : List α} {d : α} {i : Nat} (h : i < a.length) : (a ++ b).getD i d = a.getD i d := by
  simp only [List.getD_eq_getElem?_getD, List.getElem?_append_left h]
theorem getD_right {α : Type} {a b : List α} {d : α} {i : Nat} (h : a.length ≤ i) : (a ++ b).getD i d = b.getD (i - a.length) d := by
  simp only [List.getD_eq_getElem?_getD, List.getElem?_append_right h]

/-! How many -/

def freshN (l : List Pkt) : Nat → Nat
  | 0 => 0
  | k + 1 => bif decide (cntAt l k ∈ cntsTo l k) then freshN l k else freshN l k + 1
def awayN (l : List Pkt) (lo : Int) (j : Nat) : Nat → Nat
  | 0 => 0
  | k + 1 => bif decide (lo + k ∈ cntsTo l j) then awayN l lo j k else awayN l lo j k + 1
theorem away_length (l : List Pkt) (lo : Int) : ∀ k, (missTo l lo k).length = awayN l lo l.length k
  | 0 => rfl
  | k + 1 => by
    simp only [missTo, awayN]
    cases decide (lo + (k : Int) ∈ cntsTo l l.length) <;> simp [away_length l lo k]
theorem away_zero (l : List Pkt) (lo : Int) : ∀ k, awayN l lo 0 k = k
  | 0 => rfl
  | k + 1 => by
    have : decide (lo + (k : Int) ∈ cntsTo l 0) = false := by simp [cntsTo]
    simp only [awayN, this, cond_false, away_zero l lo k]
theorem mem_succ {l : List Pkt} {v : Int} {k : Nat} : v ∈ cntsTo l (k + 1) ↔ v ∈ cntsTo l k ∨ v = cntAt l k := by
  rw [← cnts_succ, List.mem_append, List.mem_singleton]
theorem away_succ (l : List Pkt) (lo : Int) (j : Nat) (h : lo ≤ cntAt l j) : ∀ k, awayN l lo j k = awayN l lo (j + 1) k + (if cntAt l j ∉ cntsTo l j ∧ cntAt l j < lo + k then 1 else 0)
  | 0 => by
    simp only [awayN]; rw [if_neg (by omega)]
  | k + 1 => by
    have ih := away_succ l lo j h k
    have hm := mem_succ (l := l) (v := lo + (k : Int)) (k := j)
    simp only [awayN]
    by_cases h1 : cntAt l j ∈ cntsTo l j
    · rw [if_neg (fun hh => hh.1 h1)] at ih ⊢
      by_cases h2 : lo + (k : Int) ∈ cntsTo l j
      · rw [decide_eq_true h2, decide_eq_true (hm.2 (.inl h2))]; exact ih
      · have h3 : lo + (k : Int) ∉ cntsTo l (j + 1) := fun hh => (hm.1 hh).elim h2 (fun e => h2 (e ▸ h1))
        rw [decide_eq_false h2, decide_eq_false h3]; simp only [cond_false]; omega
    · by_cases h4 : lo + (k : Int) = cntAt l j
      · have h2 : lo + (k : Int) ∉ cntsTo l j := fun hh => h1 (h4 ▸ hh)
        rw [decide_eq_false h2, decide_eq_true (hm.2 (.inr h4)), if_pos ⟨h1, by omega⟩]
        rw [if_neg (fun hh => by have := hh.2; omega)] at ih
        simp only [cond_false, cond_true]; omega
      · have e : (cntAt l j ∉ cntsTo l j ∧ cntAt l j < lo + (k : Int)) ↔ (cntAt l j ∉ cntsTo l j ∧ cntAt l j < lo + ((k + 1 : Nat) : Int)) := by
          constructor <;> rintro ⟨a, b⟩ <;> exact ⟨a, by omega⟩
        simp only [← e]
        by_cases h2 : lo + (k : Int) ∈ cntsTo l j
        · rw [decide_eq_true h2, decide_eq_true (hm.2 (.inl h2))]; exact ih
        · have h3 : lo + (k : Int) ∉ cntsTo l (j + 1) := fun hh => (hm.1 hh).elim h2 h4
          rw [decide_eq_false h2, decide_eq_false h3]; simp only [cond_false]; omega
theorem how_many (l : List Pkt) (lo : Int) (K : Nat) (h : ∀ i, i < l.length → lo ≤ cntAt l i ∧ cntAt l i < lo + K) : ∀ j, j ≤ l.length → freshN l j + awayN l lo j K = K
  | 0, _ => by simp only [freshN, away_zero]; omega
  | j + 1, hj => by
    have ih := how_many l lo K h j (by omega)
    have hc := h j (by omega)
    have hs := away_succ l lo j hc.1 K
    simp only [freshN]
    by_cases h1 : cntAt l j ∈ cntsTo l j
    · rw [decide_eq_true h1, cond_true]; rw [if_neg (fun hh => hh.1 h1)] at hs; omega
    · rw [decide_eq_false h1, cond_false]; rw [if_pos ⟨h1, hc.2⟩] at hs; omega
theorem cnt_range {l : List Pkt} (h : pktsE l = 0) : ∀ i, i < l.length → loC l ≤ cntAt l i ∧ cntAt l i < loC l + spanC l := by
  intro i hi
  obtain ⟨f1, f2, f3, f4, f5⟩ := span_facts h
  have hlen := cntsTo_length l l.length
  have h1 := (maxTo_facts (cntsTo l l.length) ((cntsTo l l.length).length - 1)).1 i (by omega)
  have h2 := (minTo_facts (cntsTo l l.length) ((cntsTo l l.length).length - 1)).1 i (by omega)
  rw [cntsTo_get l hi] at h1 h2
  have e1 : hiC l = maxTo (cntsTo l l.length) ((cntsTo l l.length).length - 1) := rfl
  have e2 : loC l = minTo (cntsTo l l.length) ((cntsTo l l.length).length - 1) := rfl
  omega

/-! Where -/

theorem samp_slice (l : List Pkt) (lo : Int) (t : Nat) : ∀ K, t < K → ((sampTo l lo K).take (8 * t + 8)).drop (8 * t) = samplesOf (mapGet (lo + t) pkt0 (esTo l l.length))
  | 0, h => by omega
  | K + 1, h => by
    have hs := sampTo_length l lo K
    simp only [sampTo]
    by_cases e : t = K
    · subst e
      rw [List.take_of_length_le (by simp [hs, samplesOf]), List.drop_left' hs]
    · rw [List.take_append_of_le_length (by omega)]
      exact samp_slice l lo t K (by omega)
theorem samp_get (l : List Pkt) (lo : Int) (t : Nat) : ∀ K, t < 8 * K → (sampTo l lo K).getD t (0, 0) = (samplesOf (mapGet (lo + (t / 8 : Nat)) pkt0 (esTo l l.length))).getD (t % 8) (0, 0)
  | 0, h => by omega
  | K + 1, h => by
    have hs := sampTo_length l lo K
    simp only [sampTo]
    by_cases e : t < 8 * K
    · rw [getD_left (by omega)]
      exact samp_get l lo t K e
    · rw [getD_right (by omega), hs, show t - 8 * K = t % 8 by omega, show t / 8 = K by omega]
theorem samples_zero (i : Nat) : (samplesOf pkt0).getD i (0, 0) = (0, 0) := by
  have e : samplesOf pkt0 = List.replicate 8 (0, 0) := rfl
  rw [e, List.getD_eq_getElem?_getD]
  by_cases h : i < 8
  · rw [List.getElem?_replicate, if_pos h]; rfl
  · rw [List.getElem?_replicate, if_neg h]; rfl
theorem samp_zero {l : List Pkt} {lo : Int} {t K : Nat} (h : t < 8 * K) (hn : lo + (t / 8 : Nat) ∉ cntsTo l l.length) : (sampTo l lo K).getD t (0, 0) = (0, 0) := by
  rw [samp_get l lo t K h, get_none hn, samples_zero]

/-! Gaps -/

def gsum (gs : List (Int × Int)) : Int := gs.foldl (fun s g => s + (g.2 - g.1 + 1)) 0
theorem gsum_snoc (a : List (Int × Int)) (x : Int × Int) : gsum (a ++ [x]) = gsum a + (x.2 - x.1 + 1) := by
  simp [gsum]
def GapsOk (l : List Pkt) (lo : Int) (gs : List (Int × Int)) (K : Nat) : Prop :=
  (∀ g ∈ gs, 0 ≤ g.1 ∧ g.1 ≤ g.2 ∧ g.2 < 8 * K ∧ ∀ t : Nat, g.1 ≤ t → (t : Int) ≤ g.2 → lo + (t / 8 : Nat) ∉ cntsTo l l.length) ∧
  (∀ i, i + 1 < gs.length → (gs.getD i (0, 0)).2 + 1 < (gs.getD (i + 1) (0, 0)).1) ∧ gsum gs = 8 * (missTo l lo K).length
theorem snoc_lt {α : Type} (a : List α) (x d : α) {i : Nat} (h : i < a.length) : (a ++ [x]).getD i d = a.getD i d := getD_left h
theorem gaps_ok (l : List Pkt) (lo : Int) : ∀ K, GapsOk l lo (gapsTo l lo K) K
  | 0 => ⟨fun g hg => (by cases hg), fun i hi => absurd hi (Nat.not_lt_zero _), rfl⟩
  | K + 1 => by
    obtain ⟨h1, h2, h3⟩ := gaps_ok l lo K
    unfold GapsOk
    simp only [gapsTo, missTo]
    by_cases hm : lo + (K : Int) ∈ cntsTo l l.length
    · rw [decide_eq_true hm]
      refine ⟨fun g hg => ?_, h2, h3⟩
      obtain ⟨a1, a2, a3, a4⟩ := h1 g hg
      exact ⟨a1, a2, by omega, a4⟩
    · rw [decide_eq_false hm]
      simp only [cond_false]
      have new : ∀ t : Nat, (K : Int) * 8 ≤ t → (t : Int) ≤ (K + 1) * 8 - 1 → lo + (t / 8 : Nat) ∉ cntsTo l l.length := by
        intro t ht1 ht2
        rw [show t / 8 = K by omega]; exact hm
      rcases nil_or_snoc (gapsTo l lo K) with he | ⟨a, x, he⟩
      · rw [he] at h3 ⊢
        rw [gapStep_nil]
        refine ⟨fun g hg => ?_, fun i hi => by simp at hi, ?_⟩
        · obtain rfl := List.mem_singleton.1 hg
          exact ⟨by simp only; omega, by simp only; omega, by simp only; omega, new⟩
        · have : gsum [] = 0 := rfl
          rw [this] at h3
          have := gsum_snoc [] ((K : Int) * 8, (K + 1) * 8 - 1)
          simp only [List.nil_append, gsum] at this
          simp only [gsum, List.length_append, List.length_singleton, this, List.foldl_nil]
          omega
      · rw [he] at h1 h2 h3 ⊢
        rw [gapStep_snoc]
        have hx := h1 x (by simp)
        rw [gsum_snoc] at h3
        have hlen : (a ++ [x]).length = a.length + 1 := by simp
        split
        · rename_i hj
          refine ⟨fun g hg => ?_, fun i hi => ?_, ?_⟩
          · rcases List.mem_append.1 hg with hg | hg
            · obtain ⟨a1, a2, a3, a4⟩ := h1 g (List.mem_append_left _ hg)
              exact ⟨a1, a2, by omega, a4⟩
            · obtain rfl := List.mem_singleton.1 hg
              refine ⟨hx.1, by simp only; omega, by simp only; omega, fun t ht1 ht2 => ?_⟩
              by_cases hs : (t : Int) ≤ x.2
              · exact hx.2.2.2 t ht1 hs
              · exact new t (by omega) ht2
          · have hi' : i + 1 < a.length + 1 := by simpa using hi
            have h4 := h2 i (by omega)
            by_cases hl : i + 1 < a.length
            · rw [snoc_lt _ _ _ (show i < a.length by omega), snoc_lt _ _ _ hl] at h4 ⊢
              exact h4
            · have e : i + 1 = a.length := by omega
              rw [snoc_lt _ _ _ (show i < a.length by omega), e, snoc_getD] at h4 ⊢
              exact h4
          · rw [gsum_snoc]
            simp only [List.length_append, List.length_singleton]
            omega
        · rename_i hj
          refine ⟨fun g hg => ?_, fun i hi => ?_, ?_⟩
          · rcases List.mem_append.1 hg with hg | hg
            · obtain ⟨a1, a2, a3, a4⟩ := h1 g hg
              exact ⟨a1, a2, by omega, a4⟩
            · obtain rfl := List.mem_singleton.1 hg
              exact ⟨by simp only; omega, by simp only; omega, by simp only; omega, new⟩
          · have hi' : i + 1 < a.length + 1 + 1 := by simpa using hi
            by_cases hl : i + 1 < (a ++ [x]).length
            · rw [snoc_lt _ _ _ (show i < (a ++ [x]).length by omega), snoc_lt _ _ _ hl]
              exact h2 i hl
            · have e : i + 1 = (a ++ [x]).length := by omega
              have e2 : i = a.length := by omega
              rw [snoc_lt _ _ _ (show i < (a ++ [x]).length by omega), e, snoc_getD, e2, snoc_getD]
              simp only
              omega
          · rw [gsum_snoc, gsum_snoc]
            simp only [List.length_append, List.length_singleton]
            omega

/-! Once more -/

theorem min_same {x y : List Int} (hx : x ≠ []) (hy : y ≠ []) (h : ∀ v, v ∈ x ↔ v ∈ y) : minL x = minL y ∧ maxL x = maxL y := by
  have hx' : 0 < x.length := List.length_pos_iff.2 hx
  have hy' : 0 < y.length := List.length_pos_iff.2 hy
  obtain ⟨a1, i, a2, a3⟩ := minTo_facts x (x.length - 1)
  obtain ⟨b1, j, b2, b3⟩ := minTo_facts y (y.length - 1)
  obtain ⟨c1, k, c2, c3⟩ := maxTo_facts x (x.length - 1)
  obtain ⟨d1, m, d2, d3⟩ := maxTo_facts y (y.length - 1)
  have back : ∀ {s : List Int} {v : Int}, v ∈ s → ∃ i, i < s.length ∧ s.getD i 0 = v := by
    intro s v hv
    obtain ⟨i, hi, rfl⟩ := List.mem_iff_getElem.1 hv
    exact ⟨i, hi, by rw [List.getD_eq_getElem?_getD, List.getElem?_eq_getElem hi]; rfl⟩
  obtain ⟨i', p1, p2⟩ := back ((h _).1 (getD_in (show i < x.length by omega)))
  obtain ⟨j', q1, q2⟩ := back ((h _).2 (getD_in (show j < y.length by omega)))
  obtain ⟨k', r1, r2⟩ := back ((h _).1 (getD_in (show k < x.length by omega)))
  obtain ⟨m', s1, s2⟩ := back ((h _).2 (getD_in (show m < y.length by omega)))
  have t1 := b1 i' (by omega)
  have t2 := a1 j' (by omega)
  have t3 := d1 k' (by omega)
  have t4 := c1 m' (by omega)
  unfold minL maxL
  omega
theorem cntAt_app {l m : List Pkt} : ∀ {k : Nat}, k < l.length → cntAt (l ++ m) k = cntAt l k
  | 0, h => by simp only [cntAt, getD_left h]
  | k + 1, h => by simp only [cntAt, getD_left h, cntAt_app (show k < l.length by omega)]
theorem cntsTo_app {l m : List Pkt} {k : Nat} (h : k ≤ l.length) : cntsTo (l ++ m) k = cntsTo l k := by
  unfold cntsTo
  apply List.map_congr_left
  intro i hi
  exact cntAt_app (by have := List.mem_range.1 hi; omega)
theorem esTo_app {l m : List Pkt} : ∀ {k : Nat}, k ≤ l.length → esTo (l ++ m) k = esTo l k
  | 0, _ => rfl
  | k + 1, h => by
    simp only [esTo, esTo_app (show k ≤ l.length by omega), cntAt_app (show k < l.length by omega), getD_left (show k < l.length by omega)]
theorem best_mod {l : List Pkt} (hok : l.all okPkt = true) {k : Nat} (hk : k < l.length) : (cntAt l k - (l.getD k pkt0).1) % 1024 = 0 := by
  have hok := (all_getD (d := pkt0)).1 hok
  cases k with
  | zero => simp only [cntAt]; omega
  | succ k =>
    have hb := cntAt_bound' hok k (by omega)
    exact (best_facts hb.1).2.1
theorem again {l : List Pkt} {j : Nat} (h : pktsE l = 0) (hj : j < l.length) (h2 : pktsE (l ++ [l.getD j pkt0]) = 0) : streamOf (l ++ [l.getD j pkt0]) = streamOf l := by
  obtain ⟨g1, g2, g3, g4, g5⟩ := pktsE_zero h
  obtain ⟨k1, k2, k3, k4, k5⟩ := pktsE_zero h2
  have hlen : (l ++ [l.getD j pkt0]).length = l.length + 1 := by simp
  have r1 := cnt_range h2 j (by omega)
  have r2 := cnt_range h2 l.length (by omega)
  obtain ⟨f1, f2, f3, f4, f5⟩ := span_facts h2
  have m1 := best_mod k3 (show j < (l ++ [l.getD j pkt0]).length by omega)
  have m2 := best_mod k3 (show l.length < (l ++ [l.getD j pkt0]).length by omega)
  rw [snoc_getD] at m2
  rw [snoc_lt _ _ _ hj] at m1
  have e : cntAt (l ++ [l.getD j pkt0]) l.length = cntAt l j := by
    rw [← cntAt_app (m := [l.getD j pkt0]) hj]
    omega
  have hin : cntAt l j ∈ cntsTo l l.length := mem_cnts.2 ⟨j, hj, rfl⟩
  have c1 : cntsTo (l ++ [l.getD j pkt0]) (l ++ [l.getD j pkt0]).length = cntsTo l l.length ++ [cntAt l j] := by
    rw [hlen, ← cnts_succ, cntsTo_app (Nat.le_refl _), e]
  have c2 : ∀ v, v ∈ cntsTo (l ++ [l.getD j pkt0]) (l ++ [l.getD j pkt0]).length ↔ v ∈ cntsTo l l.length := by
    intro v
    rw [c1, List.mem_append, List.mem_singleton]
    exact ⟨fun h => h.elim id (fun e => e ▸ hin), .inl⟩
  have c3 : esTo (l ++ [l.getD j pkt0]) (l ++ [l.getD j pkt0]).length = esTo l l.length := by
    rw [hlen]
    simp only [esTo, e, esTo_app (Nat.le_refl l.length)]
    rw [has_mem, decide_eq_true hin, cond_true]
  have hne : cntsTo l l.length ≠ [] := fun hh => by rw [hh] at hin; cases hin
  have hne2 : cntsTo (l ++ [l.getD j pkt0]) (l ++ [l.getD j pkt0]).length ≠ [] := by rw [c1]; simp
  obtain ⟨s1, s2⟩ := min_same hne2 hne c2
  have d1 : loC (l ++ [l.getD j pkt0]) = loC l := s1
  have d2 : spanC (l ++ [l.getD j pkt0]) = spanC l := by unfold spanC; rw [d1, show hiC (l ++ [l.getD j pkt0]) = hiC l from s2]
  have d3 : ∀ lo k, sampTo (l ++ [l.getD j pkt0]) lo k = sampTo l lo k := by
    intro lo k
    induction k with
    | zero => rfl
    | succ k ih => simp only [sampTo, ih, c3]
  have d4 : ∀ lo k, gapsTo (l ++ [l.getD j pkt0]) lo k = gapsTo l lo k := by
    intro lo k
    induction k with
    | zero => rfl
    | succ k ih =>
      simp only [gapsTo, ih]
      by_cases hh : lo + (k : Int) ∈ cntsTo l l.length
      · rw [decide_eq_true hh, decide_eq_true ((c2 _).2 hh)]
      · rw [decide_eq_false hh, decide_eq_false (fun h => hh ((c2 _).1 h))]
  unfold streamOf
  rw [d1, d2, d3, d4]
end Go.Proofs.Ytinkhmfciealkaa
