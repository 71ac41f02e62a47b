/- SampleOnce: its specification is true. -/
import Derived.Test.YtinkhmfciealkaaPure02m
set_option linter.unusedSimpArgs false
set_option linter.unusedVariables false
set_option maxRecDepth 100000
namespace Go.Proofs.Ytinkhmfciealkaa
open Go.Ev

theorem loop10a (l : List Pkt) (a1 : Int) (m : List Int) (z : Int × List (Int × Int) × List (Int × Int)) (h : l.length ≤ 1000) : loopVal step10_0 (l, a1, m, kindsOf l, 0, 0, z) = some (l, a1, m, (freshN l l.length : Int), z) := by
  have hk : (kindsOf l).length = l.length := by simp [kindsOf]
  have fr : ∀ k, freshN l k ≤ k := by
    intro k
    induction k with
    | zero => exact Nat.le_refl _
    | succ k ih => simp only [freshN]; cases decide (cntAt l k ∈ cntsTo l k) <;> simp <;> omega
  exact loop_for (step := step10_0) (st := fun k => (l, a1, m, kindsOf l, (freshN l k : Int), (k : Int), z)) (n := l.length) (e := (l, a1, m, (freshN l l.length : Int), z))
    (fun k hk' => by
      have hf := fr k
      have e : (kindsOf l).getD k 0 = kindAt l k := range_getD _ _ hk'
      simp only [step10_0]
      walk [e, kindAt, freshN]
      cases decide (cntAt l k ∈ cntsTo l k)
      · cases (cntsTo l k).any (fun x => decide (x > cntAt l k)) <;> rfl
      · rfl) (by
      simp only [step10_0]
      walk []) 0 (by omega)
theorem loop10b {l : List Pkt} (a1 : Int) (m : List Int) (h : pktsE l = 0) : loopVal step10_2 (l, a1, m, cntsTo l l.length, 0, streamOf l) = some (.inr (l, a1, m, streamOf l)) := by
  obtain ⟨g1, g2, g3, g4, g5⟩ := pktsE_zero h
  obtain ⟨f1, f2, f3, f4, f5⟩ := span_facts h
  have hlen := cntsTo_length l l.length
  have hs := sampTo_length l (loC l) (spanC l)
  have e1 : (streamOf l).1 = loC l := rfl
  have e2 : (streamOf l).2.1 = sampTo l (loC l) (spanC l) := rfl
  exact loop_for (step := step10_2) (st := fun k => (l, a1, m, cntsTo l l.length, (k : Int), streamOf l)) (n := l.length) (e := .inr (l, a1, m, streamOf l))
    (fun k hk => by
      obtain ⟨c1, c2⟩ := cnt_range h k hk
      have w1 : win (loC l) 0 1000000000 = true := win_iff.2 ⟨by omega, by omega⟩
      have w2 : win ((cntAt l k - loC l) * 8) 0 (((sampTo l (loC l) (spanC l)).length : Int) - 8) = true := win_iff.2 ⟨by omega, by omega⟩
      have hsl := samp_slice l (loC l) (cntAt l k - loC l).toNat (spanC l) (by omega)
      rw [show loC l + ((cntAt l k - loC l).toNat : Int) = cntAt l k by omega, clash_free g5 k hk] at hsl
      have t1 : ((cntAt l k - loC l) * 8).toNat = 8 * (cntAt l k - loC l).toNat := by omega
      have t2 : ((cntAt l k - loC l) * 8 + 8).toNat = 8 * (cntAt l k - loC l).toNat + 8 := by omega
      simp only [step10_2, e1, e2, Int.toNat_natCast, cntsTo_get l hk]
      rw [wr_id (n := cntAt l k - loC l) (by omega) (by omega), wr_id (n := (cntAt l k - loC l) * 8) (by omega) (by omega), wr_id (n := (cntAt l k - loC l) * 8 + 8) (by omega) (by omega), wr_id (n := ((sampTo l (loC l) (spanC l)).length : Int) - 8) (by omega) (by omega),
        w1, w2, t1, t2, hsl]
      have hq : same60 (samplesOf (l.getD k pkt0), samplesOf (l.getD k pkt0)) = some true := by
        unfold same60
        rw [if_pos (show (samplesOf (l.getD k pkt0)).length ≤ 1000000 by simp [samplesOf])]; simp
      unfold samplesOf at hq ⊢
      walk [hq, Bool.and_true]) (by
      simp only [step10_2]
      walk []) 0 (by omega)
theorem loop10c {l : List Pkt} (a1 : Int) (h : pktsE l = 0) (s i : Int) (hs0 : 0 ≤ s) (hs1 : s ≤ 1000000) (g : Int × Int) (hg : g ∈ gapsTo l (loC l) (spanC l)) :
    loopVal step10_6 (l, a1, missOf l, s, i, g.1, streamOf l, g) = some (.inr (l, a1, missOf l, s + (g.2 - g.1 + 1), i, streamOf l)) := by
  obtain ⟨f1, f2, f3, f4, f5⟩ := span_facts h
  have hs := sampTo_length l (loC l) (spanC l)
  obtain ⟨q1, q2, q3⟩ := gaps_ok l (loC l) (spanC l)
  obtain ⟨b1, b2, b3, b4⟩ := q1 g hg
  have e1 : (streamOf l).1 = loC l := rfl
  have e2 : (streamOf l).2.1 = sampTo l (loC l) (spanC l) := rfl
  have hm : (missOf l).length ≤ 40 := Nat.le_trans (missTo_length l (loC l) (spanC l)) f5
  have hl := loop_for (step := step10_6) (st := fun k => (l, a1, missOf l, s + (k : Int), i, g.1 + (k : Int), streamOf l, g)) (n := (g.2 - g.1 + 1).toNat) (e := .inr (l, a1, missOf l, s + (g.2 - g.1 + 1), i, streamOf l))
    (fun k hk => by
      have hb := b4 (g.1 + k).toNat (by omega) (by omega)
      have hz := samp_zero (lo := loC l) (t := (g.1 + k).toNat) (K := spanC l) (by omega) hb
      have t1 : wr (Int.tdiv (g.1 + (k : Int)) 8) = (((g.1 + (k : Int)).toNat / 8 : Nat) : Int) := by
        rw [tdiv_of (show (0 : Int) < 8 by omega), if_neg (by omega), wr_id (by omega) (by omega)]
        omega
      have hin : loC l + (((g.1 + (k : Int)).toNat / 8 : Nat) : Int) ∈ missOf l := missTo_mem.2 ⟨by omega, by omega, hb⟩
      simp only [step10_6, e1, e2, hz, t1]
      rw [wr_id (n := loC l + (((g.1 + (k : Int)).toNat / 8 : Nat) : Int)) (by omega) (by omega), s74_eq (by omega), decide_eq_true hin]
      rw [dT (show g.1 + (k : Int) ≤ g.2 by omega), inT (by omega) (by omega)]
      walk [Bool.and_true, beq_self_eq_true, Int.add_assoc]) (by
      simp only [step10_6]
      rw [dF (by omega)]
      simp only [cond_false]
      congr 3
      rw [show s + (((g.2 - g.1 + 1).toNat : Nat) : Int) = s + (g.2 - g.1 + 1) by omega]) 0 (by omega)
  simpa using hl
theorem gsum_bound {gs : List (Int × Int)} {b : Int} (h : ∀ g ∈ gs, 0 ≤ g.1 ∧ g.1 ≤ g.2 ∧ g.2 ≤ b) : 0 ≤ gsum gs ∧ gsum gs ≤ gs.length * (b + 1) := by
  have key : ∀ (gs : List (Int × Int)) (s : Int), (∀ g ∈ gs, 0 ≤ g.1 ∧ g.1 ≤ g.2 ∧ g.2 ≤ b) → s ≤ gs.foldl (fun s g => s + (g.2 - g.1 + 1)) s ∧ gs.foldl (fun s g => s + (g.2 - g.1 + 1)) s ≤ s + gs.length * (b + 1) := by
    intro gs
    induction gs with
    | nil => intro s _; simp
    | cons g gs ih =>
      intro s hh
      have h1 := hh g (List.mem_cons_self ..)
      have h2 := ih (s + (g.2 - g.1 + 1)) (fun g hg => hh g (List.mem_cons_of_mem _ hg))
      simp only [List.foldl_cons, List.length_cons, Int.natCast_add, Int.add_mul]
      omega
  have := key gs 0 h
  unfold gsum; omega
theorem loop10d {l : List Pkt} (a1 : Int) (h : pktsE l = 0) : loopVal step10_4 (l, a1, missOf l, 0, 0, streamOf l) = some (.inr (l, a1, missOf l, 8 * ((missOf l).length : Int), streamOf l)) := by
  obtain ⟨f1, f2, f3, f4, f5⟩ := span_facts h
  have hs := sampTo_length l (loC l) (spanC l)
  obtain ⟨q1, q2, q3⟩ := gaps_ok l (loC l) (spanC l)
  obtain ⟨r1, r2⟩ := gapsTo_bnd l (loC l) (spanC l) (by omega)
  have e2 : (streamOf l).2.1 = sampTo l (loC l) (spanC l) := rfl
  have e3 : (streamOf l).2.2 = gapsTo l (loC l) (spanC l) := rfl
  have hl := loop_for (step := step10_4) (st := fun k => (l, a1, missOf l, gsum ((gapsTo l (loC l) (spanC l)).take k), (k : Int), streamOf l)) (n := (gapsTo l (loC l) (spanC l)).length) (e := .inr (l, a1, missOf l, 8 * ((missOf l).length : Int), streamOf l))
    (fun k hk => by
      have hg : (gapsTo l (loC l) (spanC l)).getD k (0, 0) ∈ gapsTo l (loC l) (spanC l) := getD_mem hk
      obtain ⟨b1, b2, b3, b4⟩ := q1 _ hg
      obtain ⟨s1, s2⟩ := gsum_bound (gs := (gapsTo l (loC l) (spanC l)).take k) (b := 1000) (fun g hg => r2 g (List.mem_of_mem_take hg))
      rw [List.length_take] at s2
      have s3 : (((min k (gapsTo l (loC l) (spanC l)).length : Nat) : Int)) ≤ 40 := by omega
      have hc := loop10c a1 h (gsum ((gapsTo l (loC l) (spanC l)).take k)) (k : Int) s1 (by omega) _ hg
      have e4 : gsum ((gapsTo l (loC l) (spanC l)).take (k + 1)) = gsum ((gapsTo l (loC l) (spanC l)).take k) + (((gapsTo l (loC l) (spanC l)).getD k (0, 0)).2 - ((gapsTo l (loC l) (spanC l)).getD k (0, 0)).1 + 1) := by
        rw [← take_succ_getD _ (0, 0) hk, gsum_snoc]
      have w1 : win ((gapsTo l (loC l) (spanC l)).getD k (0, 0)).1 0 ((gapsTo l (loC l) (spanC l)).getD k (0, 0)).2 = true := win_iff.2 ⟨b1, b2⟩
      simp only [step10_4, e2, e3, Int.toNat_natCast, w1, hc]
      rw [e4]
      cases k with
      | zero => walk []
      | succ k =>
        have hq := q2 k hk
        have hk2 : (gapsTo l (loC l) (spanC l)).getD k (0, 0) ∈ gapsTo l (loC l) (spanC l) := getD_mem (by omega)
        have hr := r2 _ hk2
        have t1 : wr (((k + 1 : Nat) : Int) - 1) = (k : Int) := by rw [wr_id (by omega) (by omega)]; omega
        simp only [t1, Int.toNat_natCast]
        rw [wr_id (n := ((gapsTo l (loC l) (spanC l)).getD k (0, 0)).2 + 1) (by omega) (by omega)]
        walk []) (by
      simp only [step10_4, e3]
      walk [List.take_length, q3, missOf]) 0 (by omega)
  exact hl
theorem law10 : ∀ x, s10 x = some true := by
  rintro ⟨l, a1⟩
  simp only [s10]
  by_cases hlen : l.length ≤ 20
  · have hc : s65 l = some l := by
      simp only [s65]
      rw [roomT (by omega) (by omega)]; rfl
    walk [hc, s64_eq, s66_eq, s67_eq, s68_eq]
    by_cases h0 : pktsE l = 0
    · obtain ⟨k1, k2, k3⟩ := stream_small h0
      obtain ⟨g1, g2, g3, g4, g5⟩ := pktsE_zero h0
      obtain ⟨f1, f2, f3, f4, f5⟩ := span_facts h0
      have hk : (kindsOf l).length = l.length := by simp [kindsOf]
      have hmany := how_many l (loC l) (spanC l) (cnt_range h0) l.length (Nat.le_refl _)
      have haway := away_length l (loC l) (spanC l)
      have hsl : (streamOf l).2.1.length = 8 * (freshN l l.length + (missOf l).length) := by
        have := sampTo_length l (loC l) (spanC l)
        unfold streamOf missOf; simp only; omega
      have hm : a1 % (l.length : Int) = a1 % (l.length : Int) := rfl
      have m1 := Int.emod_nonneg a1 (show (l.length : Int) ≠ 0 by omega)
      have m2 := Int.emod_lt_of_pos a1 (show (0 : Int) < (l.length : Int) by omega)
      have mm : mod75 (a1, (l.length : Int)) = some (a1 % (l.length : Int)) := if_pos ⟨by simp only; omega, by simp only; omega⟩
      simp only [h0, if_true, beq_self_eq_true, Bool.not_true, cond_false, hk]
      rw [dF (show ¬ ((streamOf l).2.1.length : Int) > 320 by omega), dF (show ¬ ((missOf l).length : Int) > 40 by omega)]
      simp only [cond_false, loop10a l a1 (missOf l) (streamOf l) (by omega), s73_eq (show l.length ≤ 1000 by omega) g3, loop10b a1 (missOf l) h0, loop10d a1 h0, hc, mm]
      rw [wr_id (n := (freshN l l.length : Int) + ((missOf l).length : Int)) (by omega) (by omega), wr_id (n := 8 * ((freshN l l.length : Int) + ((missOf l).length : Int))) (by omega) (by omega), wr_id (n := 8 * ((missOf l).length : Int)) (by omega) (by omega),
        beqT (show ((streamOf l).2.1.length : Int) = 8 * ((freshN l l.length : Int) + ((missOf l).length : Int)) by omega), beqT (a := 8 * ((missOf l).length : Int)) rfl, inT m1 m2, roomT (by omega) (by omega)]
      simp only [Bool.not_true, cond_false, cond_true]
      by_cases h1 : pktsE (l ++ [l.getD (a1 % (l.length : Int)).toNat pkt0]) = 0
      · have ha := again h0 (show (a1 % (l.length : Int)).toNat < l.length by omega) h1
        simp only [h1, if_true, ha, beq_self_eq_true, Bool.not_true, cond_false, cond_true, s69_self (show (streamOf l).2.1.length ≤ 1000000 by omega) (show (streamOf l).2.2.length ≤ 1000000 by omega)]
      · have hb : (pktsE (l ++ [l.getD (a1 % (l.length : Int)).toNat pkt0]) == 0) = false := by simpa using h1
        simp only [hb, Bool.not_false, cond_true]
    · have hb : (pktsE l == 0) = false := by simpa using h0
      simp only [hb, Bool.not_false, cond_true]
  · walk []
end Go.Proofs.Ytinkhmfciealkaa
