/- SampleBins: its specification is true. -/
import Derived.Test.YtinkhmfciealkaaGa10
set_option linter.unusedSimpArgs false
set_option maxRecDepth 100000
namespace Go.Proofs.Ytinkhmfciealkaa
open Go.Ev

theorem shortB_le' {x : List (Int × Int)} (h : shortB x = true) : x.length ≤ 404 := by
  simp only [shortB, Bool.or_eq_true, Bool.and_eq_true, decide_eq_true_eq] at h
  omega

theorem law7 : ∀ x, s7 x = some true := by
  rintro ⟨x, q, s⟩
  simp only [s7, Bool.not_true, cond_false]
  cases hs : shortB x
  case false => rfl
  have hs' := shortB_le' hs
  have hl : x.length ≤ 1000000 := by omega
  have h45 : p45 x = some x := p45_pos hl
  have h48 : p48 (x, q) = some (orE (firstE [smpE x, unl (win q 0 3) 2]) (0, 0) (binL rotB q x)) := p48_pos (x := (x, q)) hl
  have h51 : p51 x = some (orE (smpE x) ((0, 0), (0, 0), (0, 0), 0, 0) (binsL x)) := p51_pos hl
  simp only [Bool.not_true, cond_false, h45, h48, h51, optE]
  -- the second half
  by_cases hx : smpE x = 0
  · have hx1 := smp_sig hx
    have h55 : p55 x = some (binsL x) := p55_pos hx
    cases hf : okFour s
    · cases hq : win q 0 3
      · simp [hf, hx, hq, orE, unl, firstE, restR, h55, optE]
      · have h56 : p56 (x, q) = some (binL rotB q x) := p56_pos (x := (x, q)) ⟨hx1.1, hx1.2, hq⟩
        simp [hf, hx, hq, orE, unl, firstE, restR, h55, h56, optE]
    · have h54 : p54 s = some (restR s) := by
        have := p54_pos (x := s) hf
        rw [this, restR, hf]; rfl
      cases hq : win q 0 3
      · simp [hf, hx, hq, orE, unl, firstE, h54, h55, optE]
      · have h56 : p56 (x, q) = some (binL rotB q x) := p56_pos (x := (x, q)) ⟨hx1.1, hx1.2, hq⟩
        simp [hf, hx, hq, orE, unl, firstE, h54, h55, h56, optE]
  · have hx1 : (smpE x != 0) = true := by simpa using hx
    cases hf : okFour s
    · simp [hf, hx, hx1, orE, unl, firstE, restR, optE]
    · have h54 : p54 s = some (restR s) := by
        have := p54_pos (x := s) hf
        rw [this, restR, hf]; rfl
      simp [hf, hx, hx1, orE, unl, firstE, h54, optE]
end Go.Proofs.Ytinkhmfciealkaa
