/- SampleEnergies: its specification is true. -/
import Derived.Test.YtinkhmfciealkaaGa16
import Derived.Test.YtinkhmfciealkaaPure02d
set_option linter.unusedSimpArgs false
set_option maxRecDepth 100000
namespace Go.Proofs.Ytinkhmfciealkaa
open Go.Ev

theorem law15 : ∀ x, s15 x = some true := by
  rintro ⟨s, x, q⟩
  simp only [s15, Bool.not_true, cond_false]
  have e4 : [s.1, s.2.1, s.2.2.1, s.2.2.2] = fourL s := rfl
  rw [e4]
  by_cases h60 : 60 < x.length
  · rw [decide_eq_true (show ((x.length : Nat) : Int) > 60 by omega)]; rfl
  rw [decide_eq_false (show ¬ ((x.length : Nat) : Int) > 60 by omega)]
  by_cases hs : smpE (fourL s) = 0
  case neg => have h1 : (smpE (fourL s) != 0) = true := by simpa using hs
              simp [h1]
  by_cases hx : smpE x = 0
  case neg => have hx1 : (smpE x != 0) = true := by simpa using hx
              simp [hs, hx1]
  cases hq : win q 0 3
  · simp [hs, hx, unl]
  have hq' := win_iff.1 hq
  have hl4 : (fourL s).length = 4 := rfl
  have hx' := smpE_zero.1 hx
  have c1 : p45 (fourL s) = some (fourL s) := p45_pos (by omega)
  have c2 : p45 x = some x := p45_pos (by omega)
  have h51 : p51 (fourL s) = some (binsL (fourL s), 0) := by
    have : p51 (fourL s) = some (orE (smpE (fourL s)) ((0, 0), (0, 0), (0, 0), 0, 0) (binsL (fourL s))) := p51_pos (by omega)
    rw [this, hs]; rfl
  have h79 : p79 (fourL s) = some (energyW (fourL s), 0) := by
    have : p79 (fourL s) = some (orE (smpE (fourL s)) 0 (energyW (fourL s))) := p79_pos (by omega)
    rw [this, hs]; rfl
  obtain ⟨hok, hres⟩ := restored hs
  have hen := energies hs
  rw [Int.zero_add] at hen
  have hp : progE (0, q * 1024, 0) = 0 := progE_zero.2 ⟨by dsimp only; omega, by dsimp only; omega, by dsimp only; omega⟩
  have hw : wr (q * 1024) = q * 1024 := wr_id (by omega) (by omega)
  have h44 : p44 ((0, q * 1024, 0), x) = some (mixL rotB (0, q * 1024, 0) x, 0) := by
    have : p44 ((0, q * 1024, 0), x) = some (orE (firstE [progE (0, q * 1024, 0), smpE x]) [] (mixL rotB (0, q * 1024, 0) x)) := p44_pos (x := ((0, q * 1024, 0), x)) (by show x.length ≤ _; omega)
    rw [this, hp, hx]; rfl
  have h48 : p48 (x, q) = some (binL rotB q x, 0) := by
    have : p48 (x, q) = some (orE (firstE [smpE x, unl (win q 0 3) 2]) (0, 0) (binL rotB q x)) := p48_pos (x := (x, q)) (by show x.length ≤ _; omega)
    rw [this, hx, hq]; rfl
  have hm0 := mixL_okG rotB_cases (p := (0, q * 1024, 0)) hx
  have h48b : p48 (mixL rotB (0, q * 1024, 0) x, 0) = some (binL rotB 0 (mixL rotB (0, q * 1024, 0) x), 0) := by
    have : p48 (mixL rotB (0, q * 1024, 0) x, 0) = some (orE (firstE [smpE (mixL rotB (0, q * 1024, 0) x), unl (win 0 0 3) 2]) (0, 0) (binL rotB 0 (mixL rotB (0, q * 1024, 0) x))) := p48_pos (x := (mixL rotB (0, q * 1024, 0) x, 0)) (by show (mixL rotB (0, q * 1024, 0) x).length ≤ _; rw [mixL_length]; omega)
    rw [this, hm0]; rfl
  have hb := bin_quarter hq' (x := x) (by omega)
  simp [hs, hx, hq, unl, optE, c1, c2, h51, h79, hok, hres, hen, hw, h44, h48, hm0, h48b, hb]
end Go.Proofs.Ytinkhmfciealkaa
