/- SampleLinear: its specification is true. -/
import Derived.Test.YtinkhmfciealkaaGa15
import Derived.Test.YtinkhmfciealkaaPure02e
set_option linter.unusedSimpArgs false
set_option maxRecDepth 100000
namespace Go.Proofs.Ytinkhmfciealkaa
open Go.Ev

theorem same60_self13 {l : List (Int × Int)} (h : l.length ≤ 1000000) : same60 (l, l) = some true := by
  unfold same60; rw [if_pos h]; simp
theorem gauss_small {b : Int × Int} (h : -1000 ≤ b.1 ∧ b.1 ≤ 1000 ∧ -1000 ≤ b.2 ∧ b.2 ≤ 1000) : gErr 1000 b = 0 := by
  unfold gErr
  rw [(okG_iff (by omega)).2 h]; rfl
theorem bin_small {f : List Int × Int} (hf : filtE f = 0) (q : Int) : -1000 ≤ (binL rotB q (f.1.map fun c => (c, 0))).1 ∧ (binL rotB q (f.1.map fun c => (c, 0))).1 ≤ 1000 ∧ -1000 ≤ (binL rotB q (f.1.map fun c => (c, 0))).2 ∧ (binL rotB q (f.1.map fun c => (c, 0))).2 ≤ 1000 := by
  obtain ⟨h1, h2, h3, h4⟩ := filtE_zero.1 hf
  have hb := bin_bound rotB rotB_cases q (f.1.map fun c => (c, 0)) (m := 100) (fun g hg => by
    obtain ⟨c, hc, rfl⟩ := List.mem_map.1 hg
    have := h3 c hc
    exact ⟨this.1, this.2, by show (-100 : Int) ≤ 0; omega, by show (0 : Int) ≤ 100; omega⟩) _ (Nat.le_refl _)
  rw [List.length_map] at hb
  unfold binL
  rw [List.length_map]
  omega

theorem loop13 {f g : List Int × Int} {c : List Int × Int} (x a : List (Int × Int)) (hf : filtE f = 0) (hg : filtE g = 0) (hc : filtE c = 0) (he : ∀ q, binL rotB q (c.1.map fun c => (c, 0)) = cmul (binL rotB q (f.1.map fun c => (c, 0))) (binL rotB q (g.1.map fun c => (c, 0)))) :
    loopVal step13_0 (x, a, 0, f, g, c) = some (.inr (x, a, g, c)) := by
  have hf1 := filtE_zero.1 hf
  have hg1 := filtE_zero.1 hg
  have hc1 := filtE_zero.1 hc
  have resp : ∀ (h : List Int × Int) (k : Nat), filtE h = 0 → k < 4 → p35 (h, (k : Int)) = some (binL rotB k (h.1.map fun c => (c, 0)), 0) := fun h k hh hk => by
    have hh1 := filtE_zero.1 hh
    have : p35 (h, (k : Int)) = some (orE (firstE [filtE h, unl (win (k : Int) 0 3) 2]) (0, 0) (binL rotB k (h.1.map fun c => (c, 0)))) := p35_pos (x := (h, (k : Int))) (by show h.1.length ≤ _; omega)
    rw [this, hh, win_iff.2 (show (0 : Int) ≤ k ∧ (k : Int) ≤ 3 by omega)]; rfl
  have h1 := loop_for (step := step13_0) (st := fun k => (x, a, (k : Int), f, g, c)) (n := 4) (e := .inr (x, a, g, c))
    (fun k hk => by
      have e1 : p34 f = some f := p34_pos (by omega)
      have e2 : p34 g = some g := p34_pos (by omega)
      have e3 : p34 c = some c := p34_pos (by omega)
      have b1 := bin_small hf k
      have b2 := bin_small hg k
      have hp : gmulW (binL rotB k (f.1.map fun c => (c, 0))) (binL rotB k (g.1.map fun c => (c, 0))) = binL rotB k (c.1.map fun c => (c, 0)) := by
        rw [he]
        generalize binL rotB k (f.1.map fun c => (c, 0)) = u at b1 ⊢
        generalize binL rotB k (g.1.map fun c => (c, 0)) = v at b2 ⊢
        have m1 := abs_mul b1.1 b1.2.1 b2.1 b2.2.1
        have m2 := abs_mul b1.2.2.1 b1.2.2.2 b2.2.2.1 b2.2.2.2
        have m3 := abs_mul b1.1 b1.2.1 b2.2.2.1 b2.2.2.2
        have m4 := abs_mul b1.2.2.1 b1.2.2.2 b2.1 b2.2.1
        unfold gmulW cmul
        rw [wr_id (n := u.1 * v.1) (by omega) (by omega), wr_id (n := u.2 * v.2) (by omega) (by omega), wr_id (n := u.1 * v.2) (by omega) (by omega), wr_id (n := u.2 * v.1) (by omega) (by omega), wr_id (by omega) (by omega), wr_id (by omega) (by omega)]
      simp only [step13_0]
      rw [decide_eq_true (show (k : Int) < 4 by omega), cond_true]
      simp only [e1, e2, e3, optE, resp f k hf hk, resp g k hg hk, resp c k hc hk, gauss_small b1, gauss_small b2, hp, bne_self_eq_false, cond_false, beq_self_eq_true, Bool.and_self, Bool.not_true, wr_succ (show k < 4611686018427387904 by omega)]) (by simp [step13_0]) 0 (by omega)
  exact h1

theorem law13 : ∀ x, s13 x = some true := by
  rintro ⟨⟨f, df⟩, ⟨g, dg⟩, x⟩
  simp only [s13, Bool.not_true, cond_false]
  by_cases h30 : 30 < x.length
  · rw [decide_eq_true (show ((x.length : Nat) : Int) > 30 by omega)]; rfl
  rw [decide_eq_false (show ¬ ((x.length : Nat) : Int) > 30 by omega)]
  by_cases hf : filtE (f, 1) = 0
  case neg => have h1 : (filtE (f, 1) != 0) = true := by simpa using hf
              simp [h1]
  by_cases hg : filtE (g, 1) = 0
  case neg => have h1 : (filtE (g, 1) != 0) = true := by simpa using hg
              simp [hf, h1]
  by_cases hx : smpE x = 0
  case neg => have h1 : (smpE x != 0) = true := by simpa using hx
              simp [hf, hg, h1]
  obtain ⟨f1, f2, f3, _⟩ := filtE_zero.1 hf
  obtain ⟨g1, g2, g3, _⟩ := filtE_zero.1 hg
  dsimp only at f1 f2 f3 g1 g2 g3
  have hx' := smpE_zero.1 hx
  have cf : p34 (f, 1) = some (f, 1) := p34_pos (by show f.length ≤ _; omega)
  have cg : p34 (g, 1) = some (g, 1) := p34_pos (by show g.length ≤ _; omega)
  have copy : ∀ y : List (Int × Int), y.length ≤ 1000000 → p45 y = some y := fun y hy => p45_pos hy
  have filt : ∀ (h : List Int × Int) (y : List (Int × Int)), filtE h = 0 → smpE y = 0 → p57 (h, y) = some (filtL h y, 0) := fun h y hh hy => by
    have hh1 := filtE_zero.1 hh
    have hy1 := smpE_zero.1 hy
    have : p57 (h, y) = some (orE (firstE [filtE h, smpE y]) [] (filtL h y)) := p57_pos (x := (h, y)) ⟨by show h.1.length ≤ _; omega, by show y.length ≤ _; omega⟩
    rw [this, hh, hy]; rfl
  have hlen : ∀ (h : List Int × Int) (y : List (Int × Int)), (filtL h y).length = y.length := fun h y => by simp [filtL]
  have hl0 : smpE ((0, 0) :: x) = 0 := smpE_zero.2 ⟨by rw [List.length_cons]; omega, fun g hg => by
    rcases List.mem_cons.1 hg with rfl | hg
    · rfl
    · exact hx'.2 g hg⟩
  have hlate := filt_late f x
  have hcom : compF (f, 1) (g, 1) = compF (g, 1) (f, 1) := by
    unfold compF
    rw [prod_comm f3 g3 ⟨by show 1 ≤ f.length; omega, f2⟩ ⟨by show 1 ≤ g.length; omega, g2⟩]
  have hcr : compR (f, 1) (g, 1) = compR (g, 1) (f, 1) := by
    unfold compR
    rw [hf, hg, hcom]
  have h33a : p33 ((f, 1), (g, 1)) = some (compR (f, 1) (g, 1)) := p33_pos (x := ((f, 1), (g, 1))) ⟨by show f.length ≤ _; omega, by show g.length ≤ _; omega⟩
  have h33b : p33 ((g, 1), (f, 1)) = some (compR (f, 1) (g, 1)) := by rw [hcr]; exact p33_pos (x := ((g, 1), (f, 1))) ⟨by show g.length ≤ _; omega, by show f.length ≤ _; omega⟩
  have hw1 : wr ((x.length : Int) + 1) = ((x.length + 1 : Nat) : Int) := by rw [wr_id (by omega) (by omega)]; rfl
  have hcl : (compF (f, 1) (g, 1)).1.length ≤ 1000000 := by show (prodW f g).length ≤ _; rw [prodW_length]; omega
  have hself : ∀ c : List Int × Int, c.1.length ≤ 1000000 → p37 (c, c) = some true := fun c hc => by
    have := p37_pos (x := (c, c)) hc
    rw [this]; simp
  simp only [hf, hg, hx, bne_self_eq_false, cond_false, cf, cg, optE, copy x (by omega), filt _ _ hf hx, room_true (show (1 + x.length) * 16 ≤ 140737488355328 by omega) (by omega), cond_true, List.singleton_append, filt _ _ hf hl0, hlen, List.length_cons, hw1,
    show inBounds 0 (x.length + 1) = true by simp [inBounds], hlate, List.getD_cons_zero, beq_self_eq_true, Bool.and_self, Bool.not_true, show decide ((1 : Int) ≤ ((x.length + 1 : Nat) : Int)) = true from decide_eq_true (by omega), List.drop_succ_cons, List.drop_zero,
    same60_self13 (l := filtL (f, 1) x) (by rw [hlen]; omega), h33a, h33b]
  by_cases hc : filtE (compF (f, 1) (g, 1)) = 0
  · have hR : compR (f, 1) (g, 1) = (compF (f, 1) (g, 1), 0) := by unfold compR; rw [hf, hg, hc]; rfl
    have hbin : ∀ q, binL rotB q ((compF (f, 1) (g, 1)).1.map fun c => (c, 0)) = cmul (binL rotB q (((f, 1) : List Int × Int).1.map fun c => (c, 0))) (binL rotB q (((g, 1) : List Int × Int).1.map fun c => (c, 0))) := fun q => bin_prod f3 g3 ⟨by show 1 ≤ f.length; omega, f2⟩ ⟨by show 1 ≤ g.length; omega, g2⟩ q
    have hl := loop13 x (filtL (f, 1) x) hf hg hc hbin
    have hcc : p34 (compF (f, 1) (g, 1)) = some (compF (f, 1) (g, 1)) := p34_pos hcl
    simp only [hR, hself _ hcl, Bool.not_true, cond_false, bne_self_eq_false, hc, hl, optE, sumE, hcc, copy x (by omega), filt _ _ hc hx]
    by_cases ha : smpE (filtL (f, 1) x) = 0
    · have htw : filtL (compF (f, 1) (g, 1)) x = filtL (g, 1) (filtL (f, 1) x) := by
        have hd : compF (f, 1) (g, 1) = (prodW f g, 1) := by unfold compF; rfl
        rw [hd]
        apply List.ext_getElem
        · simp [hlen]
        · intro n h1 h2
          rw [hlen] at h1
          simp only [filtL, List.getElem_map, List.getElem_range]
          rw [filt_one, filt_one]
          refine out_prod f3 g3 ⟨by omega, f2⟩ ⟨by omega, g2⟩ x _ n fun j hj => ?_
          rw [range_getD _ _ (by omega), filt_one]
      simp only [ha, bne_self_eq_false, cond_false, cg, copy (filtL (f, 1) x) (by rw [hlen]; omega), filt _ _ hg ha, optE, beq_self_eq_true, cond_true, htw, same60_self13 (l := filtL (g, 1) (filtL (f, 1) x)) (by rw [hlen, hlen]; omega)]
    · have h1 : (smpE (filtL (f, 1) x) != 0) = true := by simpa using ha
      simp only [h1, cond_true]
  · have hc' : (filtE (compF (f, 1) (g, 1)) != 0) = true := by simpa using hc
    have hR : compR (f, 1) (g, 1) = (([], 0), 8) := by unfold compR; rw [hf, hg]; simp [firstE, hc']
    simp only [hR, hself ([], 0) (by simp), Bool.not_true, cond_false]
    rfl
end Go.Proofs.Ytinkhmfciealkaa
