import Derived.Test.YtfmfiflpokogiaaDoorSetsRef
set_option linter.unusedSimpArgs false
namespace Go.Proofs.YtfmfiflpokogiaaDoor
open Go.Ev
theorem firstN_some {β : Type} {f : Nat → Option β} : ∀ {m k : Nat} {x : β}, firstN f m k = some x → ∃ j, k ≤ j ∧ j < k + m ∧ f j = some x
 | 0, k, x, h => by cases h
 | m + 1, k, x, h => by
   simp only [firstN] at h
   cases hf : f k with
   | some y => rw [hf] at h; exact ⟨k, by omega, by omega, by rw [hf]; exact h⟩
   | none =>
     rw [hf] at h
     obtain ⟨j, h1, h2, h3⟩ := firstN_some h
     exact ⟨j, by omega, by omega, h3⟩
theorem fst2_none {l : List Msr} (h : fst2 l = none) {a b : Nat} (h1 : a < b) (h2 : b < l.length) : posB [l.getD a ms0, l.getD b ms0] = true := by
 have := firstN_none.1 h a (by omega) (by omega)
 rw [Option.map_eq_none_iff] at this
 have := firstN_none.1 this b (by omega) (by omega)
 unfold bad2 at this
 cases hp : posB [l.getD a ms0, l.getD b ms0] with
 | true => rfl
 | false => rw [hp] at this; cases this
theorem fst3_none {l : List Msr} (h : fst3 l = none) {a b c : Nat} (h1 : a < b) (h2 : b < c) (h3 : c < l.length) : posB [l.getD a ms0, l.getD b ms0, l.getD c ms0] = true := by
 have := firstN_none.1 h a (by omega) (by omega)
 rw [Option.map_eq_none_iff] at this
 have := firstN_none.1 this b (by omega) (by omega)
 rw [Option.map_eq_none_iff] at this
 have := firstN_none.1 this c (by omega) (by omega)
 unfold bad3 at this
 cases hp : posB [l.getD a ms0, l.getD b ms0, l.getD c ms0] with
 | true => rfl
 | false => rw [hp] at this; cases this
theorem fst2_some {l : List Msr} {q : Nat × Nat} (h : fst2 l = some q) : q.1 < q.2 ∧ q.2 < l.length ∧ posB [l.getD q.1 ms0, l.getD q.2 ms0] = false := by
 obtain ⟨a, h1, h2, h3⟩ := firstN_some h
 obtain ⟨b, h4, rfl⟩ := Option.map_eq_some_iff.1 h3
 obtain ⟨c, h5, h6, h7⟩ := firstN_some h4
 unfold bad2 at h7
 cases hp : posB [l.getD a ms0, l.getD c ms0] with
 | true => rw [hp] at h7; cases h7
 | false =>
   rw [hp] at h7
   cases h7
   exact ⟨by simp only; omega, by simp only; omega, hp⟩
theorem fst3_some {l : List Msr} {q : Nat × Nat × Nat} (h : fst3 l = some q) : q.1 < q.2.1 ∧ q.2.1 < q.2.2 ∧ q.2.2 < l.length ∧ posB [l.getD q.1 ms0, l.getD q.2.1 ms0, l.getD q.2.2 ms0] = false := by
 obtain ⟨a, h1, h2, h3⟩ := firstN_some h
 obtain ⟨b, h4, rfl⟩ := Option.map_eq_some_iff.1 h3
 obtain ⟨c, h5, h6, h7⟩ := firstN_some h4
 obtain ⟨d, h8, rfl⟩ := Option.map_eq_some_iff.1 h7
 obtain ⟨e, h9, h10, h11⟩ := firstN_some h8
 unfold bad3 at h11
 cases hp : posB [l.getD a ms0, l.getD c ms0, l.getD e ms0] with
 | true => rw [hp] at h11; cases h11
 | false =>
   rw [hp] at h11
   cases h11
   exact ⟨by simp only; omega, by simp only; omega, by simp only; omega, hp⟩
theorem fst2_short {l : List Msr} (h : l.length ≤ 1) : fst2 l = none := by
 cases e : fst2 l with
 | none => rfl
 | some q => have := fst2_some e; omega
theorem fst3_short {l : List Msr} (h : l.length ≤ 2) : fst3 l = none := by
 cases e : fst3 l with
 | none => rfl
 | some q => have := fst3_some e; omega
theorem fst2_pair {u v : Msr} (h : posB [u, v] = true) : fst2 [u, v] = none := by
 cases e : fst2 [u, v] with
 | none => rfl
 | some q =>
   obtain ⟨h1, h2, h3⟩ := fst2_some e
   simp only [List.length_cons, List.length_nil] at h2
   have e1 : q.1 = 0 := by omega
   have e2 : q.2 = 1 := by omega
   rw [e1, e2] at h3
   exact absurd (h.symm.trans h3) (by decide)
theorem single_ok {m : Msr} (hm : mErr m = 0) : ¬ Contra (hvs [m]) := by
 have hm' : ∀ k ∈ [m], mErr k = 0 := fun k hk => by rw [List.mem_singleton.1 hk]; exact hm
 obtain ⟨k1, ⟨k2, k3, k4, k5⟩, k6, k7, k8⟩ := mErr_ok.1 hm
 refine feas_not (hvs_ok hm') ?_
 by_cases h1 : m.1 = 1
 ·have h7 := k7 h1
  refine ⟨0, m.2.2.2.1, m.2.2.1 - m.2.1, by omega, fun h hh => ?_⟩
  simp only [hvs, List.flatMap_cons, List.flatMap_nil, List.append_nil, List.mem_cons, List.not_mem_nil, or_false, hf, h1, if_true, Bool.false_eq_true, if_false] at hh
  have a := Int.mul_le_mul_of_nonneg_right k8 (show 0 ≤ m.2.2.1 - m.2.1 by omega)
  rcases hh with rfl | rfl
  ·simp only [Int.mul_zero, Int.zero_add]
   rw [Int.mul_comm (m.2.2.1 - m.2.1)]; exact a
  ·simp only [Int.mul_zero, Int.zero_add, Int.neg_mul]
   rw [Int.mul_comm (m.2.2.1 - m.2.1)]; exact Int.le_refl _
 ·refine ⟨m.2.2.2.1, 0, 1, by omega, fun h hh => ?_⟩
  simp only [hvs, List.flatMap_cons, List.flatMap_nil, List.append_nil, List.mem_cons, List.not_mem_nil, or_false, hf, h1, if_true, Bool.false_eq_true, if_false] at hh
  rcases hh with rfl | rfl
  ·simp only [Int.mul_zero, Int.add_zero, Int.one_mul, Int.mul_one]; exact k8
  ·simp only [Int.mul_zero, Int.add_zero, Int.neg_mul, Int.one_mul, Int.mul_one]; exact Int.le_refl _
theorem contra_mono {s t : List Msr} (h : ∀ m ∈ s, m ∈ t) (hc : Contra (hvs s)) : Contra (hvs t) := by
 have hm : ∀ f ∈ hvs s, f ∈ hvs t := fun f hf => by
  obtain ⟨m, hm, hf⟩ := List.mem_flatMap.1 hf
  exact List.mem_flatMap.2 ⟨m, h m hm, hf⟩
 rcases hc with ⟨g, hg, k, hk, hp⟩ | ⟨f, hf, g, hg, k, hk, hp⟩
 ·exact .inl ⟨g, hm g hg, k, hm k hk, hp⟩
 ·exact .inr ⟨f, hm f hf, g, hm g hg, k, hm k hk, hp⟩
theorem contra_three {l : List Msr} (hc : Contra (hvs l)) : ∃ a ∈ l, ∃ b ∈ l, ∃ c ∈ l, Contra (hvs [a, b, c]) := by
 have put : ∀ {s : List Msr} {m : Msr} {f : Hf}, m ∈ s → f ∈ [hf m true, hf m false] → f ∈ hvs s := fun h1 h2 => List.mem_flatMap.2 ⟨_, h1, h2⟩
 rcases hc with ⟨g, hg, k, hk, hp⟩ | ⟨f, hf, g, hg, k, hk, hp⟩
 ·obtain ⟨a, ha, hg⟩ := List.mem_flatMap.1 hg
  obtain ⟨b, hb, hk⟩ := List.mem_flatMap.1 hk
  exact ⟨a, ha, b, hb, b, hb, .inl ⟨g, put (by simp) hg, k, put (m := b) (by simp) hk, hp⟩⟩
 ·obtain ⟨a, ha, hf⟩ := List.mem_flatMap.1 hf
  obtain ⟨b, hb, hg⟩ := List.mem_flatMap.1 hg
  obtain ⟨c, hc, hk⟩ := List.mem_flatMap.1 hk
  exact ⟨a, ha, b, hb, c, hc, .inr ⟨f, put (by simp) hf, g, put (m := b) (by simp) hg, k, put (m := c) (by simp) hk, hp⟩⟩
theorem mem_getD {l : List Msr} {m : Msr} (h : m ∈ l) : ∃ i, i < l.length ∧ l.getD i ms0 = m := by
 obtain ⟨i, hi, e⟩ := List.getElem_of_mem h
 exact ⟨i, hi, by rw [List.getD_eq_getElem?_getD, List.getElem?_eq_getElem hi]; exact e⟩
theorem clash_iff {l : List Msr} (hv : ∀ m ∈ l, mErr m = 0) : Contra (hvs l) ↔ (fst2 l ≠ none ∨ fst3 l ≠ none) := by
 have hp : ∀ s : List Msr, s.length ≤ 100 → (∀ m ∈ s, m ∈ l) → (posB s = true ↔ ¬ Contra (hvs s)) := fun s h1 h2 => (posB_eq h1 (fun m hm => hv m (h2 m hm))).2
 constructor
 ·intro hc
  cases e2 : fst2 l with
  | some q => exact .inl (by simp)
  | none =>
    cases e3 : fst3 l with
    | some q => exact .inr (by simp)
    | none =>
      exfalso
      obtain ⟨a, ha, b, hb, c, hc, hct⟩ := contra_three hc
      obtain ⟨i, hi, rfl⟩ := mem_getD ha
      obtain ⟨j, hj, rfl⟩ := mem_getD hb
      obtain ⟨k, hk, rfl⟩ := mem_getD hc
      have g1 : ∀ x, x < l.length → ¬ Contra (hvs [l.getD x ms0]) := fun x hx => single_ok (hv _ (getD_mem ms0 hx))
      have g2 : ∀ x y, x < y → y < l.length → ¬ Contra (hvs [l.getD x ms0, l.getD y ms0]) := fun x y h1 h2 => (hp _ (by simp) (fun m hm => by
       simp only [List.mem_cons, List.not_mem_nil, or_false] at hm
       rcases hm with rfl | rfl
       ·exact getD_mem ms0 (by omega)
       ·exact getD_mem ms0 (by omega))).1 (fst2_none e2 h1 h2)
      have g3 : ∀ x y z, x < y → y < z → z < l.length → ¬ Contra (hvs [l.getD x ms0, l.getD y ms0, l.getD z ms0]) := fun x y z h1 h2 h3 => (hp _ (by simp) (fun m hm => by
       simp only [List.mem_cons, List.not_mem_nil, or_false] at hm
       rcases hm with rfl | rfl | rfl
       ·exact getD_mem ms0 (by omega)
       ·exact getD_mem ms0 (by omega)
       ·exact getD_mem ms0 (by omega))).1 (fst3_none e3 h1 h2 h3)
      have t1 : ∀ x, x < l.length → (∀ m ∈ [l.getD i ms0, l.getD j ms0, l.getD k ms0], m ∈ [l.getD x ms0]) → False := fun x hx h => g1 x hx (contra_mono h hct)
      have t2 : ∀ x y, x < y → y < l.length → (∀ m ∈ [l.getD i ms0, l.getD j ms0, l.getD k ms0], m ∈ [l.getD x ms0, l.getD y ms0]) → False := fun x y h1 h2 h => g2 x y h1 h2 (contra_mono h hct)
      have t3 : ∀ x y z, x < y → y < z → z < l.length → (∀ m ∈ [l.getD i ms0, l.getD j ms0, l.getD k ms0], m ∈ [l.getD x ms0, l.getD y ms0, l.getD z ms0]) → False := fun x y z h1 h2 h3 h => g3 x y z h1 h2 h3 (contra_mono h hct)
      rcases Nat.lt_trichotomy i j with h | h | h
      ·rcases Nat.lt_trichotomy j k with h' | h' | h'
       ·exact t3 i j k h h' hk (by simp)
       ·subst h'; exact t2 i j h hj (by simp)
       ·rcases Nat.lt_trichotomy i k with h2 | h2 | h2
        ·exact t3 i k j h2 h' hj (by simp)
        ·subst h2; exact t2 i j h hj (by simp)
        ·exact t3 k i j h2 h hj (by simp)
      ·subst h
       rcases Nat.lt_trichotomy i k with h' | h' | h'
       ·exact t2 i k h' hk (by simp)
       ·subst h'; exact t1 i hi (by simp)
       ·exact t2 k i h' hi (by simp)
      ·rcases Nat.lt_trichotomy i k with h' | h' | h'
       ·exact t3 j i k h h' hk (by simp)
       ·subst h'; exact t2 j i h hi (by simp)
       ·rcases Nat.lt_trichotomy j k with h2 | h2 | h2
        ·exact t3 j k i h2 h' hi (by simp)
        ·subst h2; exact t2 j i h hi (by simp)
        ·exact t3 k j i h2 h hi (by simp)
 ·rintro (h | h)
  ·cases e2 : fst2 l with
   | none => exact absurd e2 h
   | some q =>
     obtain ⟨h1, h2, h3⟩ := fst2_some e2
     have hm : ∀ m ∈ [l.getD q.1 ms0, l.getD q.2 ms0], m ∈ l := fun m hm => by
      simp only [List.mem_cons, List.not_mem_nil, or_false] at hm
      rcases hm with rfl | rfl
      ·exact getD_mem ms0 (by omega)
      ·exact getD_mem ms0 (by omega)
     refine contra_mono hm (Classical.byContradiction fun hn => ?_)
     exact absurd (((hp _ (by simp) hm).2 hn).symm.trans h3) (by decide)
  ·cases e3 : fst3 l with
   | none => exact absurd e3 h
   | some q =>
     obtain ⟨h1, h2, h3, h4⟩ := fst3_some e3
     have hm : ∀ m ∈ [l.getD q.1 ms0, l.getD q.2.1 ms0, l.getD q.2.2 ms0], m ∈ l := fun m hm => by
      simp only [List.mem_cons, List.not_mem_nil, or_false] at hm
      rcases hm with rfl | rfl | rfl
      ·exact getD_mem ms0 (by omega)
      ·exact getD_mem ms0 (by omega)
      ·exact getD_mem ms0 (by omega)
     refine contra_mono hm (Classical.byContradiction fun hn => ?_)
     exact absurd (((hp _ (by simp) hm).2 hn).symm.trans h4) (by decide)
theorem mn3 (k n : Nat) (hk : k ≤ 3) : decide ((k : Int) ≤ mn 3 (n : Int)) = decide (k ≤ n) := by
 unfold mn
 by_cases h : k ≤ n
 ·rw [decide_eq_true h]; split <;> exact decide_eq_true (by omega)
 ·rw [decide_eq_false h]; split <;> exact decide_eq_false (by omega)
theorem mn4 (n : Nat) : decide ((4 : Int) ≤ mn 3 (n : Int)) = false := by
 unfold mn
 split <;> exact decide_eq_false (by omega)
theorem cAt_a : step25_2a = step25_2 := rfl
theorem cAt_b : step25_2b = step25_2 := rfl
noncomputable def contrR (l : List Msr) : Option (List Int) := match fst2 l with
 | some q => some [(q.1 : Int), (q.2 : Int)]
 | none => (fst3 l).map fun q => [(q.1 : Int), (q.2.1 : Int), (q.2.2 : Int)]
theorem ref_contr (l : List Msr) (hl : l.length ≤ 100) (hv : ∀ m ∈ l, mErr m = 0) : s25 l = some (match contrR l with | some s => (s, true) | none => ([], false)) := by
 have a1 := sets1 l.length hl l.length 0 [] (by omega) (by simp; omega)
 have a2 := sets2 l.length hl l.length 0 [] (by omega) (by simp; omega)
 have a3 := sets3 l.length hl l.length 0 [] (by omega) (by simp; omega)
 rw [List.nil_append, show ((0 : Nat) : Int) = 0 from rfl] at a1 a2 a3
 have b1 := search_eq hv (all := R1 0 l.length) (In1 (by omega)) (by rw [R1_len]; omega)
 have b2 := search_eq hv (all := R2 l.length 0 l.length) (In2 (by omega)) (by have := R2_len l.length hl l.length 0; omega)
 have b3 := search_eq hv (all := R3 l.length 0 l.length) (In3 (by omega)) (by have := R3_len l.length hl l.length 0; omega)
 have c1 : (R1 0 l.length).find? (badS l) = none := List.find?_eq_none.2 fun s hs => by
  obtain ⟨a, rfl, h1, h2⟩ := R1_mem hs
  have hm := hv _ (getD_mem ms0 (show a < l.length by omega))
  have := (posB_eq (s := [l.getD a ms0]) (by simp) (fun m h => by rw [List.mem_singleton.1 h]; exact hm)).2.2 (single_ok hm)
  unfold badS msAt
  simp only [List.map_cons, List.map_nil, Int.toNat_natCast, this]
  decide
 rw [c1] at b1
 rw [pair_find] at b2
 rw [trip_find] at b3
 unfold s25
 simp only [show ((1 : Int)) = ((1 : Nat) : Int) from rfl, show ((2 : Int)) = ((2 : Nat) : Int) from rfl, mn3 1 _ (by omega), mn3 2 _ (by omega)]
 by_cases h1 : 1 ≤ l.length
 case neg =>
  rw [decide_eq_false h1]
  unfold contrR
  rw [fst2_short (by omega), fst3_short (by omega)]; rfl
 rw [decide_eq_true h1]
 simp only [cond_true, a1, b1, optE_some, sumE_r]
 by_cases h2 : 2 ≤ l.length
 case neg =>
  rw [decide_eq_false h2]
  unfold contrR
  rw [fst2_short (by omega), fst3_short (by omega)]; rfl
 rw [decide_eq_true h2]
 simp only [cond_true, a2, cAt_a, b2, optE_some]
 unfold contrR
 cases fst2 l with
 | some q => rfl
 | none =>
   simp only [Option.map_none, sumE_r, show ((3 : Int)) = ((3 : Nat) : Int) from rfl]
   rw [show ((3 : Nat) : Int) = (3 : Int) from rfl, show decide ((3 : Int) ≤ mn 3 (l.length : Int)) = decide (3 ≤ l.length) from mn3 3 l.length (by omega)]
   by_cases h3 : 3 ≤ l.length
   case neg =>
    rw [decide_eq_false h3, fst3_short (by omega)]; rfl
   rw [decide_eq_true h3]
   simp only [cond_true, a3, cAt_b, b3, optE_some]
   cases fst3 l with
   | some q => rfl
   | none => simp only [Option.map_none, sumE_r, mn4, cond_false]
theorem prog_contr (l : List Msr) (hc : (chkM l).2 = 0) : s22 l = some (match contrR l with | some s => (s, 0) | none => ([], 12)) := by
 rw [contradicting_eq l hc]
 unfold contrR
 cases fst2 l with
 | some q => rfl
 | none => cases fst3 l <;> rfl
theorem prog_bad {l : List Msr} (hc : (chkM l).2 ≠ 0) : s22 l = some ([], (chkM l).2) := by
 unfold s22
 simp only [chk1, optE_some, show ((chkM l).2 != 0) = true by simpa using hc, cond_true]
theorem erase_take {s : List Int} {i k : Nat} (hk : k < s.length) (h : k ≠ i) : (s.take (k + 1)).eraseIdx i = (s.take k).eraseIdx i ++ [s.getD k 0] := by
 rw [← take_succ_getD s 0 hk]
 by_cases h1 : i < k
 ·rw [List.eraseIdx_append_of_lt_length (by simp; omega)]
 ·rw [List.eraseIdx_append_of_length_le (by simp; omega), List.eraseIdx_of_length_le (l := s.take k) (by simp; omega), List.eraseIdx_of_length_le (l := [s.getD k 0]) (by simp; omega)]
theorem erase_at {s : List Int} {k : Nat} (hk : k < s.length) : (s.take (k + 1)).eraseIdx k = (s.take k).eraseIdx k := by
 rw [← take_succ_getD s 0 hk, List.eraseIdx_append_of_length_le (by rw [List.length_take]; omega), List.eraseIdx_of_length_le (l := s.take k) (by rw [List.length_take]; omega)]
 simp [List.length_take, Nat.min_eq_left (Nat.le_of_lt hk)]
theorem less_part {l : List Msr} {s : List Int} (hs : In l.length s) {i : Nat} : loopVal step4_2 (l, s, (i : Int), [], 0) = some (l, s, (i : Int), msAt l (s.eraseIdx i)) := by
 obtain ⟨h1, h2⟩ := hs
 have h := loop_for (step := step4_2) (st := fun k => (l, s, (i : Int), msAt l ((s.take k).eraseIdx i), (k : Int))) (n := s.length) (e := (l, s, (i : Int), msAt l (s.eraseIdx i))) (fun k hk => by
  obtain ⟨q, e, hq⟩ := h2 _ (getD_mem (0 : Int) hk)
  have hlen : (msAt l ((s.take k).eraseIdx i)).length + 1 ≤ 100 := by
   have : ((s.take k).eraseIdx i).length ≤ (s.take k).length := List.length_eraseIdx_le ..
   simp only [msAt, List.length_map]
   simp only [List.length_take] at this
   omega
  by_cases hki : k = i
  ·subst hki
   simp only [step4_2, lt_cast, hk, decide_true, cond_true, bne_self_eq_false, cond_false, wr_succ (show k < 4611686018427387904 by omega), erase_at hk]
  ·simp only [step4_2, lt_cast, inB_cast, hk, decide_true, cond_true, ne_cast, hki, ne_eq, not_false_eq_true, Int.toNat_natCast, e, hq, wr_succ (show k < 4611686018427387904 by omega), room_true (b := 40) (n := (msAt l ((s.take k).eraseIdx i)).length + 1) (by omega) (by omega), erase_take hk hki]
   simp only [msAt, List.map_append, List.map_cons, List.map_nil, e, Int.toNat_natCast]) (by simp only [step4_2, lt_cast, Nat.lt_irrefl, decide_false, cond_false, List.take_length]) 0 (by omega)
 simpa [msAt] using h
theorem less_all {l : List Msr} {s : List Int} (hs : In l.length s) (hn : ∀ i, i < s.length → ∃ x, s22 (msAt l (s.eraseIdx i)) = some (x, 12)) :
 loopVal step4_0 (l, s, 0) = some (.inr ()) := by
 refine loop_for (step := step4_0) (st := fun k => (l, s, (k : Int))) (n := s.length) (fun k hk => ?_) ?_ 0 (by omega)
 ·obtain ⟨x, hx⟩ := hn k hk
  have := hs.1
  simp only [step4_0, lt_cast, hk, decide_true, cond_true, less_part hs, optE_some, hx, bne_self_eq_false, cond_false, wr_succ (show k < 4611686018427387904 by omega)]
 ·simp only [step4_0, lt_cast, Nat.lt_irrefl, decide_false, cond_false]
theorem none_part {p : List Msr} (hl : p.length ≤ 12) (hv : ∀ m ∈ p, mErr m = 0) (h2 : fst2 p = none) (h3 : fst3 p = none) : ∃ x, s22 p = some (x, 12) := by
 refine ⟨[], ?_⟩
 rw [prog_contr p ((chkE_zero mErr (0, 0, 0, 0, 0) 12 p).2 ⟨by omega, hv⟩)]
 unfold contrR
 rw [h2, h3]; rfl
theorem ints_self (s : List Int) (h : s.length ≤ 100) : s26 (s, s) = some true := by
 unfold s26
 have h1 := loop_for (step := step26_0) (st := fun k => (s, s, (k : Int))) (n := s.length) (e := .inr ()) (fun k hk => by
  simp only [step26_0, lt_cast, inB_cast, hk, decide_true, cond_true, Int.toNat_natCast, bne_self_eq_false, cond_false, wr_succ (show k < 4611686018427387904 by omega)]) (by simp only [step26_0, lt_cast, Nat.lt_irrefl, decide_false, cond_false]) 0 (by omega)
 rw [show ((0 : Nat) : Int) = 0 from rfl] at h1
 simp only [bne_self_eq_false, cond_false, h1, optE_some, sumE_r]
theorem contr_true (l : List Msr) : s4 l = some true := by
 unfold s4
 obtain ⟨b, hb, hl⟩ := few_le l
 simp only [hb, Bool.not_true, cond_false, optE_some]
 cases b with
 | false => rfl
 | true =>
   have hl := hl rfl
   simp only [optE_some, Bool.not_true, cond_false, copyM l (by omega), mErrs_eq]
   by_cases hm : (chkM l).2 = 0
   case neg =>
    rw [prog_bad hm]
    simp [optE_some, show ((chkM l).2 != 0) = true by simpa using hm]
   have hv := ((chkE_zero mErr (0, 0, 0, 0, 0) 12 l).1 hm).2
   have hn := ((chkE_zero mErr (0, 0, 0, 0, 0) 12 l).1 hm).1
   obtain ⟨y, y1, _, y3⟩ := enclosed_eq l (by omega) hv (dir_time (t := 0) (by omega))
   have e2 : s24 (l, 0) = some y := by rw [distIn_good hm (by decide), y1]; rfl
   have hcl := clash_iff hv
   rw [prog_contr l hm]
   simp only [hm, optE_some, bne_self_eq_false, cond_false, e2, ref_contr l (by omega) hv]
   cases h2 : fst2 l with
   | some q =>
     obtain ⟨q1, q2, q3⟩ := fst2_some h2
     have hy : y.2 = 13 := y3.2 (hcl.2 (.inl (by rw [h2]; simp)))
     have hc : contrR l = some [(q.1 : Int), (q.2 : Int)] := by unfold contrR; rw [h2]
     have hin : In l.length [(q.1 : Int), (q.2 : Int)] := ⟨by simp, fun j hj => by
      simp only [List.mem_cons, List.not_mem_nil, or_false] at hj
      rcases hj with rfl | rfl
      ·exact ⟨q.1, rfl, by omega⟩
      ·exact ⟨q.2, rfl, by omega⟩⟩
     have hall := less_all hin (fun i hi => by
      have hlen : (msAt l ([(q.1 : Int), (q.2 : Int)].eraseIdx i)).length = 1 := by
       rw [msAt, List.length_map, List.length_eraseIdx_of_lt hi]; rfl
      refine none_part (by omega) (fun m hm => ?_) (fst2_short (by omega)) (fst3_short (by omega))
      obtain ⟨j, hj, rfl⟩ := List.mem_map.1 hm
      obtain ⟨z, rfl, hz⟩ := hin.2 j (List.mem_of_mem_eraseIdx hj)
      rw [Int.toNat_natCast]
      exact hv _ (getD_mem ms0 hz))
     simp only [hc, bne_self_eq_false, Bool.not_true, cond_false, ints_self _ (show [(q.1 : Int), (q.2 : Int)].length ≤ 100 by simp), optE_some, hy, hall, sumE_r]
     rfl
   | none =>
     cases h3 : fst3 l with
     | some q =>
       obtain ⟨q1, q2, q3, q4⟩ := fst3_some h3
       have hy : y.2 = 13 := y3.2 (hcl.2 (.inr (by rw [h3]; simp)))
       have hc : contrR l = some [(q.1 : Int), (q.2.1 : Int), (q.2.2 : Int)] := by unfold contrR; rw [h2, h3]; rfl
       have hin : In l.length [(q.1 : Int), (q.2.1 : Int), (q.2.2 : Int)] := ⟨by simp, fun j hj => by
        simp only [List.mem_cons, List.not_mem_nil, or_false] at hj
        rcases hj with rfl | rfl | rfl
        ·exact ⟨q.1, rfl, by omega⟩
        ·exact ⟨q.2.1, rfl, by omega⟩
        ·exact ⟨q.2.2, rfl, by omega⟩⟩
       have hall := less_all hin (fun i hi => by
        have hvp : ∀ m ∈ msAt l ([(q.1 : Int), (q.2.1 : Int), (q.2.2 : Int)].eraseIdx i), mErr m = 0 := fun m hm => by
         obtain ⟨j, hj, rfl⟩ := List.mem_map.1 hm
         obtain ⟨z, rfl, hz⟩ := hin.2 j (List.mem_of_mem_eraseIdx hj)
         rw [Int.toNat_natCast]
         exact hv _ (getD_mem ms0 hz)
        have hlen : (msAt l ([(q.1 : Int), (q.2.1 : Int), (q.2.2 : Int)].eraseIdx i)).length = 2 := by
         rw [msAt, List.length_map, List.length_eraseIdx_of_lt hi]; rfl
        refine none_part (by omega) hvp ?_ (fst3_short (by omega))
        have hi3 : i = 0 ∨ i = 1 ∨ i = 2 := by simp only [List.length_cons, List.length_nil] at hi; omega
        rcases hi3 with rfl | rfl | rfl
        ·exact fst2_pair (fst2_none h2 q2 q3)
        ·exact fst2_pair (fst2_none h2 (show q.1 < q.2.2 by omega) q3)
        ·exact fst2_pair (fst2_none h2 q1 (by omega)))
       simp only [hc, bne_self_eq_false, Bool.not_true, cond_false, ints_self _ (show [(q.1 : Int), (q.2.1 : Int), (q.2.2 : Int)].length ≤ 100 by simp), optE_some, hy, hall, sumE_r]
       rfl
     | none =>
       have hy : y.2 ≠ 13 := fun h => by
        rcases hcl.1 (y3.1 h) with h | h
        ·exact h h2
        ·exact h h3
       have hc : contrR l = none := by unfold contrR; rw [h2, h3]; rfl
       simp only [hc, Bool.not_false, cond_true]
       simp [show (y.2 != 13) = true by simpa using hy]
end Go.Proofs.YtfmfiflpokogiaaDoor
