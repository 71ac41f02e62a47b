/- SamplePrograms: its specification is true. -/
import Derived.Test.YtinkhmfciealkaaGa2
set_option linter.unusedSimpArgs false
set_option maxRecDepth 100000
namespace Go.Proofs.Ytinkhmfciealkaa
open Go.Ev

theorem loop4 (p q : Int × Int × Int) (c a1 x1 x2 x3 : Int) (l : List Int) (e d : Int) (h0 : 0 ≤ c) (h1 : c ≤ 400) :
    loopVal step4_0 (a1, c, x1, x2, x3, l, e, d, [], 0, p, q) = some (a1, x1, x2, x3, l, e, d, turnsOf p c, p, q) := by
  have h := loop_for (step := step4_0) (st := fun k => (a1, c, x1, x2, x3, l, e, d, (List.range k).map (fun j : Nat => turnOf p j), (k : Int), p, q)) (n := c.toNat) (e := (a1, x1, x2, x3, l, e, d, turnsOf p c, p, q))
    (fun k hk => by
      simp only [step4_0]
      rw [decide_eq_true (by omega), room_true (by simp; omega) (by simp; omega), wr_succ (by omega)]
      simp only [cond_true, range_map_succ (fun j : Nat => turnOf p j)]) (by simp only [step4_0, turnsOf]; rw [decide_eq_false (by omega)]; rfl) 0 (by omega)
  simpa using h

theorem law4 : ∀ x, s4 x = some true := by
  rintro ⟨p, i, c⟩
  simp only [s4, Bool.not_true, cond_false, bne_self_eq_false]
  cases h61 : win c 61 400
  case true => rfl
  by_cases hp : progE p = 0
  · cases hc : win c 0 400
    · cases hi : win i 0 1000000 <;> simp [hp, hc, hi, orE, firstE, unl]
    · have hw := win_iff.1 hc
      have hs : same29 (turnsOf p c, turnsOf p c) = some true := by
        unfold same29
        rw [if_pos (by simp only [turnsOf, List.length_map, List.length_range]; omega)]
        simp
      cases hi : win i 0 1000000
      · simp [hp, hc, hi, orE, firstE, unl, loop4 p _ c _ _ _ _ _ _ _ hw.1 hw.2, optE, hs]
      · simp [hp, hc, hi, orE, firstE, unl, loop4 p _ c _ _ _ _ _ _ _ hw.1 hw.2, optE, hs]
  · have hp' : (progE p != 0) = true := by simpa using hp
    have hp2 : (progE p == 0) = false := by simpa using hp
    cases hi : win i 0 1000000 <;> simp [hp, hp', hp2, hi, orE, firstE, unl]
end Go.Proofs.Ytinkhmfciealkaa
