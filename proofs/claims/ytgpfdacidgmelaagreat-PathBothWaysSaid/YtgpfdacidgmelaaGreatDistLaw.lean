/- Chapter 1: PathDistances. -/
import Derived.Test.YtgpfdacidgmelaaGreatErrs
import Derived.Test.YtgpfdacidgmelaaGreatRefGap
set_option linter.unusedSimpArgs false
namespace Go.Proofs.YtgpfdacidgmelaaGreat
open Go.Ev

def bothE (a b : Tr) : Int := bif (trkE a).2 != 0 then (trkE a).2 else (trkE b).2
def timesE (time : Int) (a b : Tr) : Int := bif tErr time a != 0 then tErr time a else tErr time b
theorem bothE_zero {a b : Tr} (h : bothE a b = 0) : (trkE a).2 = 0 ∧ (trkE b).2 = 0 := by
  refine both_zero.1 ?_
  unfold bothE at h
  rw [h]; rfl
theorem timesE_zero {t : Int} {a b : Tr} (h : timesE t a b = 0) : tErr t a = 0 ∧ tErr t b = 0 := by
  refine both_zero.1 ?_
  unfold timesE at h
  rw [h]; rfl
theorem trackErr2 (a b : Tr) : s61 [a, b] = some (bothE a b) := by
  rw [s61_eq _ (by simp)]
  simp only [List.map_cons, List.map_nil, firstE_two]; rfl
theorem timeErr2 {a b : Tr} (Va : Valid a) (Vb : Valid b) (t : Int) : s62 (t, [a, b]) = some (timesE t a b) := by
  rw [s62_eq _ _ (by simp) (fun p hp => by rcases List.mem_cons.1 hp with rfl | hp; exact Va; rcases List.mem_cons.1 hp with rfl | hp; exact Vb; cases hp)]
  simp only [List.map_cons, List.map_nil, firstE_two]; rfl
theorem ne_false {x : Int} (h : x = 0) : (x != 0) = false := by rw [h]; rfl
theorem ne_true {x : Int} (h : x ≠ 0) : (x != 0) = true := by simpa using h
theorem eq_false' {x : Int} (h : x ≠ 0) : (x == 0) = false := by simpa using h
theorem eq_true' {x : Int} (h : x = 0) : (x == 0) = true := by rw [h]; rfl

/-- The distance of two valid tracks at a time of both: by both the same. -/
theorem dist_same {a b : Tr} (h : bothE a b = 0) {t : Int} (ht : timesE t a b = 0) : ∃ r, s13 (a, b, t) = some (r, 0) ∧ s18 (a, b, t) = some r ∧ ((0 ≤ r.1 ∧ r.1 < 8000000) ∧ (0 ≤ r.2 ∧ r.2 ≤ 8000000)) ∧ ∃ g, s63 (a, t, b, t) = some g ∧ s64 g = some r := by
  obtain ⟨ha, hb⟩ := bothE_zero h
  obtain ⟨ta, tb⟩ := timesE_zero ht
  have Va := valid_of ha
  have Vb := valid_of hb
  obtain ⟨p, p1, p2, pk, _⟩ := at_ok Va (time := t) (win_iff.1 (unl_zero (by omega) ta))
  obtain ⟨q, q1, q2, qk, _⟩ := at_ok Vb (time := t) (win_iff.1 (unl_zero (by omega) tb))
  obtain ⟨r, r1, r2, r3⟩ := dist_ok ha hb ta tb p1 q1 pk qk
  obtain ⟨r', k1, k2, k3⟩ := ref_dist p2 q2 pk qk Va.doubt Vb.doubt
  obtain ⟨g, d1, d2, d3⟩ := s64_eq (gap_ok pk qk (e := a.2 + b.2) (by have := Va.doubt; have := Vb.doubt; omega))
  have hd := (dens pk qk).1
  have e : r' = r := Prod.ext (k2.uniq hd r2) (k3.uniq hd r3)
  have e2 : g = r := Prod.ext (d2.uniq hd r2) (d3.uniq hd r3)
  subst e
  subst e2
  exact ⟨_, r1, k1, ⟨⟨r2.1, r2.2.1⟩, r3.1, r3.2.1⟩, _, s63_eq p1 q1 pk qk Va.doubt Vb.doubt, d1⟩
theorem dist_both {a b : Tr} (h : bothE a b ≠ 0) (t : Int) : s13 (a, b, t) = some ((0, 0), bothE a b) := by
  unfold s13
  simp only [trackErr2, optE_some, ne_true h, cond_true]
theorem dist_times {a b : Tr} (h : bothE a b = 0) {t : Int} (ht : timesE t a b ≠ 0) : s13 (a, b, t) = some ((0, 0), timesE t a b) := by
  obtain ⟨ha, hb⟩ := bothE_zero h
  unfold s13
  simp only [trackErr2, optE_some, ne_false h, cond_false, timeErr2 (valid_of ha) (valid_of hb), ne_true ht, cond_true]

theorem change_both {a b : Tr} (h : bothE a b ≠ 0) (t : Int × Int) : s15 (a, b, t) = some ((0, 0), bothE a b) := by
  unfold s15
  simp only [trackErr2, optE_some, ne_true h, cond_true]
theorem firstE_three (x y z : Int) : firstE [x, y, z] = bif x != 0 then x else bif y != 0 then y else z := by
  have := firstE_two y z
  rw [← this]
  rfl
theorem change_err {a b : Tr} (h : bothE a b = 0) {t : Int × Int} {e : Int} (he : firstE [timesE t.1 a b, timesE t.2 a b, unl (decide (t.1 ≤ t.2)) 9] = e) (h0 : e ≠ 0) : s15 (a, b, t) = some ((0, 0), e) := by
  obtain ⟨ha, hb⟩ := bothE_zero h
  unfold s15
  simp only [trackErr2, optE_some, ne_false h, cond_false, timeErr2 (valid_of ha) (valid_of hb), s66_eq]
  rw [s65_eq _ (by simp), he]
  simp only [optE_some, ne_true h0, cond_true]
theorem change_ok {a b : Tr} (h : bothE a b = 0) {t : Int × Int} (t1 : timesE t.1 a b = 0) (t2 : timesE t.2 a b = 0) (ht : t.1 ≤ t.2) : ∃ r, s15 (a, b, t) = some (r, 0) ∧ s19 (a, b, t) = some r := by
  obtain ⟨ha, hb⟩ := bothE_zero h
  obtain ⟨d, d1, d2, _, g, g1, g2⟩ := dist_same h t1
  obtain ⟨e, e1, e2, _, g', g3, g4⟩ := dist_same h t2
  refine ⟨(wr (e.1 - d.2), wr (e.2 - d.1)), ?_, ?_⟩
  · unfold s15
    simp only [trackErr2, optE_some, ne_false h, cond_false, timeErr2 (valid_of ha) (valid_of hb), s66_eq]
    rw [s65_eq _ (by simp), t1, t2, decide_eq_true ht]
    simp only [optE_some, show (firstE [0, 0, unl true 9] != 0) = false from rfl, cond_false, g1, g2, g3, g4]
  · unfold s19
    simp only [d2, e2, optE_some]

theorem few_copy {a : Tr} (h : a.1.length ≤ 14) : s14 a = some a := copy_ok (by omega)

theorem distances_true (x : Tr × Tr × Int × Int) : s3 x = some true := by
  obtain ⟨a, b, t⟩ := x
  unfold s3
  simp only [Bool.not_true, cond_false, s12_eq, optE_some]
  by_cases fa : a.1.length ≤ 14
  case neg => rw [decide_eq_false fa]; rfl
  by_cases fb : b.1.length ≤ 14
  case neg => rw [decide_eq_false fb, Bool.and_false]; rfl
  rw [decide_eq_true fa, decide_eq_true fb]
  have hbe := s16_eq a b
  rw [show (bif (trkE a).2 != 0 then (trkE a).2 else (trkE b).2) = bothE a b from rfl] at hbe
  simp only [Bool.and_self, Bool.not_true, cond_false, few_copy fa, few_copy fb, optE_some, hbe]
  by_cases h : bothE a b = 0
  case neg =>
    simp only [dist_both h, change_both h, optE_some, eq_false' h, ne_true h, cond_false, cond_true, beq_self_eq_true]
    rfl
  have Va := valid_of (bothE_zero h).1
  have Vb := valid_of (bothE_zero h).2
  have ht : ∀ t, s17 (a, b, t) = some (timesE t a b) := fun t => s17_eq Va Vb t
  simp only [h, show ((0 : Int) == 0) = true from rfl, show ((0 : Int) != 0) = false from rfl, cond_true, cond_false, ht, optE_some]
  by_cases h1 : timesE t.1 a b = 0
  case neg =>
    have hc := change_err h (t := t) (e := timesE t.1 a b) (by rw [firstE_three, ne_true h1]; rfl) h1
    simp only [dist_times h h1, hc, optE_some, ne_true h1, cond_true, beq_self_eq_true]
    rfl
  obtain ⟨r, r1, r2, _⟩ := dist_same h h1
  simp only [h1, r1, r2, optE_some, show ((0 : Int) != 0) = false from rfl, cond_false, beq_self_eq_true, Bool.and_self, Bool.not_true]
  by_cases h2 : timesE t.2 a b = 0
  case neg =>
    have hc := change_err h (t := t) (e := timesE t.2 a b) (by rw [firstE_three, ne_false h1, ne_true h2]; rfl) h2
    simp only [hc, optE_some, eq_false' h2, ne_true h2, cond_true, cond_false, beq_self_eq_true]
    rfl
  simp only [h2, show ((0 : Int) != 0) = false from rfl, show ((0 : Int) == 0) = true from rfl, cond_false, cond_true]
  by_cases h3 : t.1 ≤ t.2
  case neg =>
    have hc := change_err h (t := t) (e := 9) (by rw [firstE_three, ne_false h1, ne_false h2, decide_eq_false h3]; rfl) (by omega)
    rw [decide_eq_true (show t.1 > t.2 by omega)]
    simp only [hc, optE_some, cond_true, beq_self_eq_true]
    rfl
  obtain ⟨c, c1, c2⟩ := change_ok h h1 h2 h3
  rw [decide_eq_false (show ¬ t.1 > t.2 by omega)]
  simp only [c1, c2, optE_some, cond_true, cond_false, beq_self_eq_true, Bool.and_self]
end Go.Proofs.YtgpfdacidgmelaaGreat
