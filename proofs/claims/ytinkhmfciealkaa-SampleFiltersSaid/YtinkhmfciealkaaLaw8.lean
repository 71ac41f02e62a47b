/- SampleFilters: its specification is true. -/
import Derived.Test.YtinkhmfciealkaaGa12
set_option linter.unusedSimpArgs false
set_option maxRecDepth 100000
namespace Go.Proofs.Ytinkhmfciealkaa
open Go.Ev

theorem shortB_le8 {x : List (Int × Int)} (h : shortB x = true) : x.length ≤ 404 := by
  simp only [shortB, Bool.or_eq_true, Bool.and_eq_true, decide_eq_true_eq] at h
  omega
theorem same60_self8 {l : List (Int × Int)} (h : l.length ≤ 1000000) : same60 (l, l) = some true := by
  unfold same60; rw [if_pos h]; simp

theorem law8 : ∀ x, s8 x = some true := by
  rintro ⟨f, x, b⟩
  simp only [s8, Bool.not_true, cond_false]
  cases hs : shortB x
  case false => rfl
  have hs' := shortB_le8 hs
  have hl : x.length ≤ 1000000 := by omega
  simp only [Bool.not_true, cond_false]
  by_cases hf10 : 10 < f.1.length
  · rw [decide_eq_true (show ((f.1.length : Nat) : Int) > 10 by omega)]; rfl
  rw [decide_eq_false (show ¬ ((f.1.length : Nat) : Int) > 10 by omega)]
  have hfl : f.1.length ≤ 1000000 := by omega
  have h34 : p34 f = some f := p34_pos hfl
  have h45 : p45 x = some x := p45_pos hl
  have h59 : p59 f = some (filtE f) := p59_pos hfl
  have h57 : p57 (f, x) = some (orE (firstE [filtE f, smpE x]) [] (filtL f x)) := p57_pos (x := (f, x)) ⟨hfl, hl⟩
  have h58 : p58 (f, x, b) = some (orE (firstE [filtE f, smpE x, unl (win b 1 400) 2]) [] (decim f x b.toNat)) := p58_pos (x := (f, x, b)) ⟨hfl, hl⟩
  simp only [cond_false, h34, h45, h57, h58, h59, optE]
  by_cases hf : filtE f = 0
  · by_cases hx : smpE x = 0
    · have h61 : p61 (f, x) = some (filtL f x) := p61_pos (x := (f, x)) ⟨hf, hx⟩
      have g1 := same60_self8 (l := filtL f x) (by simp [filtL]; omega)
      cases hb : win b 1 400
      · simp [hf, hx, hb, orE, firstE, unl, h61, g1, optE]
      · have hb' := win_iff.1 hb
        have h62 : p62 (f, x, b) = some (decim f x b.toNat) := p62_pos (x := (f, x, b)) ⟨⟨hf, hx⟩, hb⟩
        have g2 := same60_self8 (l := decim f x b.toNat) (by have := decim_length f x b.toNat; omega)
        simp [hf, hx, hb, orE, firstE, unl, h61, h62, g1, g2, optE]
    · have hx1 : (smpE x != 0) = true := by simpa using hx
      simp [hf, hx, hx1, orE, firstE, optE]
  · have hf1 : (filtE f != 0) = true := by simpa using hf
    have hf2 : (filtE f == 0) = false := by simpa using hf
    simp [hf, hf1, hf2, orE, firstE, optE]
end Go.Proofs.Ytinkhmfciealkaa
