/- What the program computes: motions that are checked, and the minimum rate. -/
import Derived.Test.YthabingkfmlbbaaPoint
set_option linter.unusedSimpArgs false
set_option linter.unusedVariables false
set_option maxRecDepth 100000
namespace Go.Proofs.Ythabingkfmlbbaa
open Go.Ev
abbrev AccD (d : Dr) (ts ps : List Int) (p : Int) : Prop := Acc d.1 d.2.1.1 d.2.1.2 d.2.2.2 ts ps p
abbrev dr (d : Dr) (r : Int) : Dr := (d.1, d.2.1, d.2.2.1, r)
theorem DOk.rate {d : Dr} (hd : DOk d) {r : Int} (h1 : 0 ≤ r) (h2 : r ≤ 40000) : DOk (dr d r) := ⟨hd.t1, hd.t2, hd.l1, hd.l2, hd.l3, hd.a1, hd.a2, h1, h2⟩
def Feas (d : Dr) (ts : List Int) (r : Int) : Prop := ∃ qs, AccD (dr d r) ts qs d.2.2.1
theorem Feas.mono {d : Dr} {ts : List Int} {r r' : Int} (h : r ≤ r') (hf : Feas d ts r) : Feas d ts r' := by
 obtain ⟨qs, hq⟩ := hf
 exact ⟨qs, acc_mono h hq⟩
theorem feas_v {d : Dr} (hd : DOk d) {ts : List Int} (hts : ts.length ≤ 40) : VpD d ts d.2.2.1 < NEV ↔ Feas d ts d.2.2.2 :=
 feas_iff (by have := hd.t1; omega) (by have := hd.l1; have := hd.l3; omega) (by omega) hd.a1 hd.a2
section
variable {d : Dr} (hd : DOk d) {ts : List Int} (hA : AllT d ts) (hts : ts.length ≤ 40)
include hd hA hts
theorem rate_loop {m : Nat} (hm : m ≤ 40001) (hf : ∀ k : Nat, k < 40001 → (m ≤ k ↔ Feas d ts k)) : ∀ (n i j : Nat) (r : Int), j - i = n → i ≤ m → m ≤ j → j ≤ 40001 → loopVal step32_0a ((i : Int), (j : Int), dr d r, ts) = some (m : Int) := by
 intro n
 induction n using Nat.strongRecOn with
 | _ n ih =>
   intro i j r hn hi hj hb
   by_cases hij : i < j
   ·obtain ⟨c, hc⟩ : ∃ c, (i + j) / 2 = c := ⟨_, rfl⟩
    have hmid := half_mid (i := i) (j := j) (by omega)
    rw [hc] at hmid
    have hd' : DOk (dr d (c : Int)) := hd.rate (by omega) (by omega)
    have hT : TOk (dr d (c : Int)) ts := TOk.of hd' hA
    have g1 := stages_z hd' hT hts
    have g2 := motion_z hd' hts
    have g3 := VpD_lim hd' ts (by omega) hd'.a1 hd'.a2
    have g4 := feas_v hd' hts
    have g5 := hf c (by omega)
    by_cases hg : m ≤ c
    ·have hv : VpD (dr d (c : Int)) ts d.2.2.1 < 576460752303423488 := g3.2 (g4.2 (g5.1 hg))
     have hs : step32_0a ((i : Int), (j : Int), dr d r, ts) = some (.inl ((i : Int), ((c : Nat) : Int), dr d (c : Int), ts)) := by
      simp only [step32_0a, lt_cast, dT hij, cond_true, hmid, g1, optE_some, g2, dT hv, Bool.not_true, cond_false]
     rw [loopVal_next hs]
     exact ih (c - i) (by omega) i c _ rfl hi hg (by omega)
    ·have hv : ¬ VpD (dr d (c : Int)) ts d.2.2.1 < 576460752303423488 := fun h => hg (g5.2 (g4.1 (g3.1 h)))
     have hs : step32_0a ((i : Int), (j : Int), dr d r, ts) = some (.inl (((c + 1 : Nat) : Int), (j : Int), dr d (c : Int), ts)) := by
      simp only [step32_0a, lt_cast, dT hij, cond_true, hmid, g1, optE_some, g2, dF hv, Bool.not_false, wr_succ (show c < 4611686018427387904 by omega)]
     rw [loopVal_next hs]
     exact ih (j - (c + 1)) (by omega) (c + 1) j _ rfl (by omega) hj hb
   ·have : i = m := by omega
    subst this
    have : j = i := by omega
    subst this
    refine loopVal_last ?_
    simp only [step32_0a, lt_cast, Nat.lt_irrefl, decide_false, cond_false]
theorem MinimumRate_z (he : s28 (d, ts) = some 0) : ∃ m : Nat, m ≤ 40001 ∧ (∀ k : Nat, k < 40001 → (m ≤ k ↔ Feas d ts k)) ∧ s10 (d, ts) = some (bif decide ((m : Int) > 40000) then (0, 12) else ((m : Int), 0)) := by
 classical
 obtain ⟨m, h1, h2, h3⟩ := least_nat (fun k => decide (Feas d ts (k : Int))) 40001
 have key : ∀ k : Nat, k < 40001 → (m ≤ k ↔ Feas d ts k) := fun k hk => by
  constructor
  ·intro hmk
   rcases h3 with h3 | h3
   ·omega
   ·exact (of_decide_eq_true h3 : Feas d ts m).mono (by omega)
  ·intro hx
   by_cases hmk : m ≤ k
   ·exact hmk
   ·exact absurd hx (of_decide_eq_false (h2 k (by omega)))
 refine ⟨m, h1, key, ?_⟩
 have hl := rate_loop hd hA hts h1 key 40001 0 40001 d.2.2.2 rfl (by omega) h1 (Nat.le_refl _)
 have hl : loopVal step32_0a (0, 40001, d, ts) = some (m : Int) := hl
 have hz : ((0 : Int) != 0) = false := rfl
 simp only [s10, he, optE_some, hz, cond_false, hl]
 cases decide ((m : Int) > 40000) <;> rfl
end
end Go.Proofs.Ythabingkfmlbbaa
