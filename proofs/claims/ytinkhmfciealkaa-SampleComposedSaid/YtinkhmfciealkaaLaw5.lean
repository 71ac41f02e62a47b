/- SampleComposed: its specification is true. -/
import Derived.Test.YtinkhmfciealkaaGa8
set_option linter.unusedSimpArgs false
set_option maxRecDepth 100000
namespace Go.Proofs.Ytinkhmfciealkaa
open Go.Ev

theorem gt_cast {n m : Nat} : decide ((n : Int) > (m : Int)) = decide (m < n) := lt_cast m n

theorem law5 : ∀ x, s5 x = some true := by
  rintro ⟨f, g, q⟩
  simp only [s5, Bool.not_true, cond_false]
  by_cases hf10 : 10 < f.1.length
  · rw [decide_eq_true (show ((f.1.length : Nat) : Int) > 10 by omega)]; rfl
  rw [decide_eq_false (show ¬ ((f.1.length : Nat) : Int) > 10 by omega)]
  by_cases hg10 : 10 < g.1.length
  · rw [decide_eq_true (show ((g.1.length : Nat) : Int) > 10 by omega)]; rfl
  rw [decide_eq_false (show ¬ ((g.1.length : Nat) : Int) > 10 by omega)]
  have hcf : p34 f = some f := p34_pos (by omega)
  have hcg : p34 g = some g := p34_pos (by omega)
  have h33 : p33 (f, g) = some (compR f g) := p33_pos (x := (f, g)) ⟨by show f.1.length ≤ _; omega, by show g.1.length ≤ _; omega⟩
  have h35 : p35 (f, q) = some (orE (firstE [filtE f, unl (win q 0 3) 2]) (0, 0) (binL rotB q (f.1.map fun c => (c, 0)))) := p35_pos (x := (f, q)) (by show f.1.length ≤ _; omega)
  have hnil : p37 (([], 0), ([], 0)) = some true := p37_pos (x := (([], 0), ([], 0))) (by simp)
  simp only [cond_false, hcf, hcg, h33, h35, optE]
  by_cases hf : filtE f = 0
  · have hf1 : (filtE f != 0) = false := by simp [hf]
    by_cases hg : filtE g = 0
    · have h40 : p40 (f, g) = some (compF f g) := p40_pos (x := (f, g)) ⟨hf, hg⟩
      have hself : p37 (compF f g, compF f g) = some true := by
        have := p37_pos (x := (compF f g, compF f g)) (by show (prodW f.1 g.1).length ≤ _; rw [prodW_length]; omega)
        rw [this]; simp
      cases hq : win q 0 3
      · by_cases hc : filtE (compF f g) = 0
        · simp [hf, hg, hq, hc, compR, orE, firstE, unl, h40, optE, hself, hnil]
        · have hc' : (filtE (compF f g) != 0) = true := by simpa using hc
          simp [hf, hg, hq, hc, hc', compR, orE, firstE, unl, h40, optE, hself, hnil]
      · have h39 : p39 (f, q) = some (binL rotB q (f.1.map fun c => (c, 0))) := p39_pos (x := (f, q)) ⟨hf, hq⟩
        by_cases hc : filtE (compF f g) = 0
        · simp [hf, hg, hq, hc, compR, orE, firstE, unl, h40, optE, hself, hnil, h39]
        · have hc' : (filtE (compF f g) != 0) = true := by simpa using hc
          simp [hf, hg, hq, hc, hc', compR, orE, firstE, unl, h40, optE, hself, hnil, h39]
    · have hg1 : (filtE g != 0) = true := by simpa using hg
      have hg2 : (filtE g == 0) = false := by simpa using hg
      cases hq : win q 0 3
      · simp [hf, hg, hg1, hg2, hq, compR, orE, firstE, unl, optE, hnil]
      · have h39 : p39 (f, q) = some (binL rotB q (f.1.map fun c => (c, 0))) := p39_pos (x := (f, q)) ⟨hf, hq⟩
        simp [hf, hg, hg1, hg2, hq, compR, orE, firstE, unl, optE, hnil, h39]
  · have hf1 : (filtE f != 0) = true := by simpa using hf
    simp [hf, hf1, compR, orE, firstE, optE, hnil]
end Go.Proofs.Ytinkhmfciealkaa
