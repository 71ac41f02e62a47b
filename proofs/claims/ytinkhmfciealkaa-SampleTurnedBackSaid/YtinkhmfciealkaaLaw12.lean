/- SampleTurnedBack: its specification is true. -/
import Derived.Test.YtinkhmfciealkaaGa14
set_option linter.unusedSimpArgs false
set_option maxRecDepth 100000
namespace Go.Proofs.Ytinkhmfciealkaa
open Go.Ev

theorem same60_self12 {l : List (Int × Int)} (h : l.length ≤ 1000000) : same60 (l, l) = some true := by
  unfold same60; rw [if_pos h]; simp

theorem law12 : ∀ x, s12 x = some true := by
  rintro ⟨p, x, c⟩
  simp only [s12, Bool.not_true, cond_false]
  by_cases h60 : 60 < x.length
  · rw [decide_eq_true (show ((x.length : Nat) : Int) > 60 by omega)]; rfl
  rw [decide_eq_false (show ¬ ((x.length : Nat) : Int) > 60 by omega)]
  by_cases hp : progE p = 0
  case neg => have hp1 : (progE p != 0) = true := by simpa using hp
              simp [hp1]
  by_cases hx : smpE x = 0
  case neg => have hx1 : (smpE x != 0) = true := by simpa using hx
              simp [hp, hx1]
  have mixed : ∀ (q : Int × Int × Int) (y : List (Int × Int)), progE q = 0 → smpE y = 0 → p44 (q, y) = some (mixL rotB q y, 0) ∧ p78 (q, y) = some (mixL rotF q y, 0) := by
    intro q y hq hy
    have hy' := smpE_zero.1 hy
    constructor
    · have : p44 (q, y) = some (orE (firstE [progE q, smpE y]) [] (mixL rotB q y)) := p44_pos (x := (q, y)) (by show y.length ≤ _; omega)
      rw [this, hq, hy]; rfl
    · have : p78 (q, y) = some (orE (firstE [progE q, smpE y]) [] (mixL rotF q y)) := p78_pos (x := (q, y)) (by show y.length ≤ _; omega)
      rw [this, hq, hy]; rfl
  have copy : ∀ y : List (Int × Int), y.length ≤ 1000000 → p45 y = some y := fun y hy => p45_pos hy
  have hmod : mod75 (c, wr ((x.length : Int) + 1)) = some (c % ((x.length : Int) + 1)) := by
    unfold mod75
    rw [wr_id (by omega) (by omega), if_pos ⟨by show 0 < (x.length : Int) + 1; omega, by show (x.length : Int) + 1 < _; omega⟩]
  have hn0 : 0 ≤ c % ((x.length : Int) + 1) := Int.emod_nonneg _ (by omega)
  have hn1 : c % ((x.length : Int) + 1) < (x.length : Int) + 1 := Int.emod_lt_of_pos _ (by omega)
  generalize hn : c % ((x.length : Int) + 1) = n at hn0 hn1 hmod
  have hm0 := mixL_okG rotB_cases (p := p) hx
  have hu0 := mixL_okG rotF_cases (p := p) hx
  have hlm := mixL_length rotB p x
  have hlu := mixL_length rotF p x
  have hxs := smpE_zero.1 hx
  have ht0 : smpE (x.take n.toNat) = 0 := smpE_zero.2 ⟨by rw [List.length_take]; omega, fun g hg => hxs.2 g (List.mem_of_mem_take hg)⟩
  have hd0 : smpE (x.drop n.toNat) = 0 := smpE_zero.2 ⟨by rw [List.length_drop]; omega, fun g hg => hxs.2 g (List.mem_of_mem_drop hg)⟩
  have hw : win n 0 1000000 = true := win_iff.2 ⟨hn0, by omega⟩
  have hlat : orE (firstE [progE p, unl (win n 0 1000000) 2]) (0, 0, 0) (laterOf p n) = (laterOf p n, 0) := by rw [hp, hw]; rfl
  have hlp : progE (laterOf p n) = 0 := later_ok hp hn0 (by omega)
  have hb1 : mixL rotF p (mixL rotB p x) = x := mixL_back (fun g t => (cmul_back g t).1) p x
  have hb2 : mixL rotB p (mixL rotF p x) = x := mixL_back (fun g t => (cmul_back g t).2) p x
  have hparts : mixL rotB p (x.take n.toNat) ++ mixL rotB (laterOf p n) (x.drop n.toNat) = mixL rotB p x := by
    have := mix_parts (r := rotB) hp x n.toNat (by omega) (by omega)
    rwa [show ((n.toNat : Nat) : Int) = n by omega] at this
  have e1 : p79 x = some (energyW x, 0) := by
    have : p79 x = some (orE (smpE x) 0 (energyW x)) := p79_pos (by omega)
    rw [this, hx]; rfl
  have e2 : p79 (mixL rotB p x) = some (energyW x, 0) := by
    have : p79 (mixL rotB p x) = some (orE (smpE (mixL rotB p x)) 0 (energyW (mixL rotB p x))) := p79_pos (by omega)
    rw [this, hm0, energy_mix rotB_cases hx]; rfl
  have hroom : room 16 ((mixL rotB p (x.take n.toNat)).length + (mixL rotB (laterOf p n) (x.drop n.toNat)).length) = true := by
    rw [mixL_length, mixL_length, List.length_take, List.length_drop]
    exact room_true (by omega) (by omega)
  have lt : (mixL rotB p (x.take n.toNat)).length ≤ 1000000 := by rw [mixL_length, List.length_take]; omega
  simp only [hp, hx, bne_self_eq_false, cond_false, hmod, optE, copy x (by omega), (mixed p x hp hx).1, (mixed p x hp hx).2, hlm, hm0, copy (mixL rotB p x) (by omega), (mixed p _ hp hm0).2, hu0, hb1, same60_self12 (l := x) (by omega), Bool.not_true,
    copy (mixL rotF p x) (by omega), (mixed p _ hp hu0).1, hb2, show orE (firstE [0, unl (win n 0 1000000) 2]) (0, 0, 0) (laterOf p n) = (laterOf p n, 0) by rw [hw]; rfl, hlp,
    decide_eq_true hn0, decide_eq_true (show n ≤ (x.length : Int) by omega), Bool.and_self, cond_true, copy (x.take n.toNat) (by rw [List.length_take]; omega), (mixed p _ hp ht0).1,
    copy (x.drop n.toNat) (by rw [List.length_drop]; omega), (mixed _ _ hlp hd0).1, e1, e2, beq_self_eq_true, copy _ lt, hroom, hparts, same60_self12 (l := mixL rotB p x) (by omega)]
end Go.Proofs.Ytinkhmfciealkaa
