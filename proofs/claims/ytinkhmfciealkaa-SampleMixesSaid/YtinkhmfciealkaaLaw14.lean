/- SampleMixes: its specification is true. -/
import Derived.Test.YtinkhmfciealkaaGa5
set_option linter.unusedSimpArgs false
set_option maxRecDepth 100000
namespace Go.Proofs.Ytinkhmfciealkaa
open Go.Ev

theorem rot_neg (t : Int) : rotF (-1 * t) = rotB t := by
  have h : t % 4 = 0 ∨ t % 4 = 1 ∨ t % 4 = 2 ∨ t % 4 = 3 := by omega
  unfold rotF rotB
  rcases h with h | h | h | h
  · rw [h, show (-1 * t) % 4 = 0 by omega]; rfl
  · rw [h, show (-1 * t) % 4 = 3 by omega]; rfl
  · rw [h, show (-1 * t) % 4 = 2 by omega]; rfl
  · rw [h, show (-1 * t) % 4 = 1 by omega]; rfl
theorem mixL_congr {r r' : Int → Int × Int} (h : ∀ t, r t = r' t) (p : Int × Int × Int) (x : List (Int × Int)) : mixL r p x = mixL r' p x := by
  rw [show r = r' from funext h]
theorem mixL_length (r : Int → Int × Int) (p : Int × Int × Int) (x : List (Int × Int)) : (mixL r p x).length = x.length := by simp [mixL]
theorem same29_self {l : List Int} (h : l.length ≤ 1000000) : same29 (l, l) = some true := by
  unfold same29; rw [if_pos h]; simp
theorem same60_self {l : List (Int × Int)} (h : l.length ≤ 1000000) : same60 (l, l) = some true := by
  unfold same60; rw [if_pos h]; simp
theorem shortB_le {x : List (Int × Int)} (h : shortB x = true) : x.length ≤ 404 := by
  simp only [shortB, Bool.or_eq_true, Bool.and_eq_true, decide_eq_true_eq] at h
  omega

theorem law14 : ∀ x, s14 x = some true := by
  rintro ⟨p, x⟩
  simp only [s14, Bool.not_true, cond_false]
  cases hs : shortB x
  case false => rfl
  have hs' := shortB_le hs
  have hl : x.length ≤ 1000000 := by omega
  have h45 : p45 x = some x := p45_pos hl
  have h44 : p44 (p, x) = some (orE (firstE [progE p, smpE x]) [] (mixL rotB p x)) := p44_pos (x := (p, x)) hl
  have h78 : p78 (p, x) = some (orE (firstE [progE p, smpE x]) [] (mixL rotF p x)) := p78_pos (x := (p, x)) hl
  have h81 : p81 x = some (orE (smpE x) [] (satOf x)) := p81_pos hl
  have h79 : p79 x = some (orE (smpE x) 0 (energyW x)) := p79_pos hl
  simp only [Bool.not_true, cond_false, h45, h44, h78, h81, h79, optE]
  by_cases hx : smpE x = 0
  · have h82 : p82 x = some (satOf x) := p82_pos hx
    have h83 : p83 x = some (energyW x) := p83_pos hl
    have h84a : p84 (p, x, -1) = some (mixL rotB p x) := by rw [← mixL_congr rot_neg]; exact p84_pos (x := (p, x, -1)) ⟨hx, .inr rfl⟩
    have h84b : p84 (p, x, 1) = some (mixL rotF p x) := by rw [← mixL_congr (r := fun t => rotF (1 * t)) (fun t => by rw [Int.one_mul])]; exact p84_pos (x := (p, x, 1)) ⟨hx, .inl rfl⟩
    have g1 := same29_self (l := satOf x) (by have := satTo_length x x.length; unfold satOf; omega)
    have g2 := same60_self (l := mixL rotB p x) (by rw [mixL_length]; omega)
    have g3 := same60_self (l := mixL rotF p x) (by rw [mixL_length]; omega)
    by_cases hp : progE p = 0
    · simp [hx, hp, orE, firstE, optE, h82, h83, h84a, h84b, g1, g2, g3]
    · have hp' : (progE p != 0) = true := by simpa using hp
      have hp2 : (progE p == 0) = false := by simpa using hp
      simp [hx, hp', hp2, orE, firstE, optE, h82, h83, h84a, h84b, g1, g2, g3]
  · have hx' : (smpE x != 0) = true := by simpa using hx
    have hx2 : (smpE x == 0) = false := by simpa using hx
    by_cases hp : progE p = 0
    · simp [hx', hx2, hp, orE, firstE, optE]
    · have hp' : (progE p != 0) = true := by simpa using hp
      have hp2 : (progE p == 0) = false := by simpa using hp
      simp [hx', hx2, hp', hp2, orE, firstE, optE]
end Go.Proofs.Ytinkhmfciealkaa
