/- What the program computes: motions that are checked, and the minimum rate. -/
import Derived.Test.YthabingkfmlbbaaGreatPoint
set_option linter.unusedSimpArgs false
set_option linter.unusedVariables false
set_option maxRecDepth 100000
namespace Go.Proofs.YthabingkfmlbbaaGreat
open Go.Ev
abbrev AccD (d : Dr) (ts ps : List Int) (p : Int) : Prop := Acc d.1 d.2.1.1 d.2.1.2 d.2.2.2 ts ps p
theorem ptg_spec {d : Dr} (hd : DOk d) {ts ps : List Int} (hT : TOk d ts) (hl : ps.length = ts.length) (hs : ps.length ≤ 1000) : ∀ (m i : Nat) (now tr : Int), i + m = ps.length → d.2.1.1 ≤ now → now ≤ d.2.1.2 → 0 ≤ tr → tr ≤ 40000 * (i : Int) →
 (∃ e, e ≠ 0 ∧ ptg d ts ps m i now tr = .inl (0, e) ∧ ¬ AccD d (ts.drop i) (ps.drop i) now) ∨ (ptg d ts ps m i now tr = .inr (tr + trv (ps.drop i) now) ∧ AccD d (ts.drop i) (ps.drop i) now) := by
 intro m
 have hl1 := hd.l1; have hl3 := hd.l3; have ht1 := hd.t1; have ht2 := hd.t2
 induction m with
 | zero =>
   intro i now tr hi h1 h2 h3 h4
   right
   rw [List.drop_eq_nil_of_le (show ts.length ≤ i by omega), List.drop_eq_nil_of_le (show ps.length ≤ i by omega)]
   exact ⟨by simp only [ptg, trv, Int.add_zero], trivial⟩
 | succ m ih =>
   intro i now tr hi h1 h2 h3 h4
   obtain ⟨t, ht⟩ : ∃ t, ts.getD i 0 = t := ⟨_, rfl⟩
   obtain ⟨p, hp⟩ : ∃ p, ps.getD i 0 = p := ⟨_, rfl⟩
   have d1 := getD_drop ts 0 (show i < ts.length by omega)
   have d2 := getD_drop ps 0 (show i < ps.length by omega)
   have htb := hT _ (ix_mem (show i < ts.length by omega))
   rw [ht] at d1 htb
   rw [hp] at d2
   rw [d1, d2]
   unfold ptg
   rw [ht, hp]
   by_cases hw : win p d.2.1.1 d.2.1.2 = true
   ·have hb := win_iff.1 hw
    have w1 : wr (p - t) = p - t := wr_id (by omega) (by omega)
    have w2 : wr (p - now) = p - now := wr_id (by omega) (by omega)
    have w3 : wr (now - p) = now - p := wr_id (by omega) (by omega)
    have hdn := dist_nonneg now p
    have hdb : dist now p ≤ 40000 := by unfold dist; split <;> omega
    simp only [hw, Bool.not_true, cond_false, w1, w2, w3, mx_dist]
    by_cases hm : (p - t) % d.1 = 0
    ·have hm' : ((p - t) % d.1 != 0) = false := by rw [hm]; rfl
     simp only [hm', cond_false]
     have hmem : p ∈ posD d t := (posL_mem (show 0 < d.1 by omega)).2 ⟨hb.1, hb.2, hm⟩
     by_cases hr : dist now p ≤ d.2.2.2
     ·simp only [dF (show ¬ dist now p > d.2.2.2 by omega), cond_false, wr_id (n := tr + dist now p) (by omega) (by omega)]
      rcases ih (i + 1) p (tr + dist now p) (by omega) hb.1 hb.2 (by omega) (by rw [Int.natCast_add, Int.mul_add]; omega) with ⟨e, he, g1, g2⟩ | ⟨g1, g2⟩
      ·exact .inl ⟨e, he, g1, fun h => g2 h.2.2⟩
      ·refine .inr ⟨?_, hmem, hr, g2⟩
       rw [g1]; simp only [trv, Int.add_assoc]
     ·simp only [dT (show dist now p > d.2.2.2 by omega), cond_true]
      exact .inl ⟨24, by omega, rfl, fun h => hr h.2.1⟩
    ·have hm' : ((p - t) % d.1 != 0) = true := bne_iff_ne.2 hm
     simp only [hm', cond_true]
     exact .inl ⟨13, by omega, rfl, fun h => hm (pos_b hd h.1).2.2⟩
   ·have hw' : win p d.2.1.1 d.2.1.2 = false := by simpa using hw
    simp only [hw', Bool.not_false, cond_true]
    exact .inl ⟨23, by omega, rfl, fun h => hw (win_iff.2 ⟨(pos_b hd h.1).1, (pos_b hd h.1).2.1⟩)⟩
theorem ptgE_spec {d : Dr} (hd : DOk d) {ts ps : List Int} (hT : TOk d ts) (hs : ps.length ≤ 1000) :
 (∃ e, e ≠ 0 ∧ ptgE d ts ps = (0, e) ∧ ¬ AccD d ts ps d.2.2.1) ∨ (ptgE d ts ps = (trv ps d.2.2.1, 0) ∧ AccD d ts ps d.2.2.1) := by
 unfold ptgE
 by_cases hl : ps.length = ts.length
 ·have h3 : ((ps.length : Int) != (ts.length : Int)) = false := by rw [hl]; simp
  rw [h3, cond_false]
  rcases ptg_spec hd hT hl hs ps.length 0 d.2.2.1 0 (by omega) hd.a1 hd.a2 (by omega) (by omega) with ⟨e, he, g1, g2⟩ | ⟨g1, g2⟩
  ·exact .inl ⟨e, he, by rw [g1]; rfl, g2⟩
  ·refine .inr ⟨?_, g2⟩
   rw [g1, Int.zero_add]; rfl
 ·have h3 : ((ps.length : Int) != (ts.length : Int)) = true := bne_iff_ne.2 (by omega)
  rw [h3, cond_true]
  exact .inl ⟨10, by omega, rfl, fun h => hl (Acc.len _ _ _ _ h)⟩
abbrev dr (d : Dr) (r : Int) : Dr := (d.1, d.2.1, d.2.2.1, r)
theorem DOk.rate {d : Dr} (hd : DOk d) {r : Int} (h1 : 0 ≤ r) (h2 : r ≤ 40000) : DOk (dr d r) := ⟨hd.t1, hd.t2, hd.l1, hd.l2, hd.l3, hd.a1, hd.a2, h1, h2⟩
def Feas (d : Dr) (ts : List Int) (r : Int) : Prop := ∃ qs, AccD (dr d r) ts qs d.2.2.1
theorem Feas.mono {d : Dr} {ts : List Int} {r r' : Int} (h : r ≤ r') (hf : Feas d ts r) : Feas d ts r' := by
 obtain ⟨qs, hq⟩ := hf
 exact ⟨qs, acc_mono h hq⟩
theorem feas_v {d : Dr} (hd : DOk d) {ts : List Int} (hts : ts.length ≤ 40) : VpD d ts d.2.2.1 < NEV ↔ Feas d ts d.2.2.2 :=
 feas_iff (by have := hd.t1; omega) (by have := hd.l1; have := hd.l3; omega) (by omega) hd.a1 hd.a2
section
variable {d : Dr} (hd : DOk d) {ts : List Int} (hA : AllT d ts) (hts : ts.length ≤ 40)
include hd hA hts
theorem rate_loop {m : Nat} (hm : m ≤ 40001) (hf : ∀ k : Nat, k < 40001 → (m ≤ k ↔ Feas d ts k)) : ∀ (n i j : Nat) (r : Int), j - i = n → i ≤ m → m ≤ j → j ≤ 40001 → loopVal step44_0a ((i : Int), (j : Int), dr d r, ts) = some (m : Int) := by
 intro n
 induction n using Nat.strongRecOn with
 | _ n ih =>
   intro i j r hn hi hj hb
   by_cases hij : i < j
   ·obtain ⟨c, hc⟩ : ∃ c, (i + j) / 2 = c := ⟨_, rfl⟩
    have hmid := half_mid (i := i) (j := j) (by omega)
    rw [hc] at hmid
    have hd' : DOk (dr d (c : Int)) := hd.rate (by omega) (by omega)
    have hT : TOk (dr d (c : Int)) ts := TOk.of hd' hA
    have g1 := stages_z hd' hT hts
    have g2 := motion_z hd' hts
    have g3 := VpD_lim hd' ts (by omega) hd'.a1 hd'.a2
    have g4 := feas_v hd' hts
    have g5 := hf c (by omega)
    by_cases hg : m ≤ c
    ·have hv : VpD (dr d (c : Int)) ts d.2.2.1 < 576460752303423488 := g3.2 (g4.2 (g5.1 hg))
     have hs : step44_0a ((i : Int), (j : Int), dr d r, ts) = some (.inl ((i : Int), ((c : Nat) : Int), dr d (c : Int), ts)) := by
      simp only [step44_0a, lt_cast, dT hij, cond_true, hmid, g1, optE_some, g2, dT hv, Bool.not_true, cond_false]
     rw [loopVal_next hs]
     exact ih (c - i) (by omega) i c _ rfl hi hg (by omega)
    ·have hv : ¬ VpD (dr d (c : Int)) ts d.2.2.1 < 576460752303423488 := fun h => hg (g5.2 (g4.1 (g3.1 h)))
     have hs : step44_0a ((i : Int), (j : Int), dr d r, ts) = some (.inl (((c + 1 : Nat) : Int), (j : Int), dr d (c : Int), ts)) := by
      simp only [step44_0a, lt_cast, dT hij, cond_true, hmid, g1, optE_some, g2, dF hv, Bool.not_false, wr_succ (show c < 4611686018427387904 by omega)]
     rw [loopVal_next hs]
     exact ih (j - (c + 1)) (by omega) (c + 1) j _ rfl (by omega) hj hb
   ·have : i = m := by omega
    subst this
    have : j = i := by omega
    subst this
    refine loopVal_last ?_
    simp only [step44_0a, lt_cast, Nat.lt_irrefl, decide_false, cond_false]
theorem MinimumRate_z (he : s40 (d, ts) = some 0) : ∃ m : Nat, m ≤ 40001 ∧ (∀ k : Nat, k < 40001 → (m ≤ k ↔ Feas d ts k)) ∧ s18 (d, ts) = some (bif decide ((m : Int) > 40000) then (0, 12) else ((m : Int), 0)) := by
 classical
 obtain ⟨m, h1, h2, h3⟩ := least_nat (fun k => decide (Feas d ts (k : Int))) 40001
 have key : ∀ k : Nat, k < 40001 → (m ≤ k ↔ Feas d ts k) := fun k hk => by
  constructor
  ·intro hmk
   rcases h3 with h3 | h3
   ·omega
   ·exact (of_decide_eq_true h3 : Feas d ts m).mono (by omega)
  ·intro hx
   by_cases hmk : m ≤ k
   ·exact hmk
   ·exact absurd hx (of_decide_eq_false (h2 k (by omega)))
 refine ⟨m, h1, key, ?_⟩
 have hl := rate_loop hd hA hts h1 key 40001 0 40001 d.2.2.2 rfl (by omega) h1 (Nat.le_refl _)
 have hl : loopVal step44_0a (0, 40001, d, ts) = some (m : Int) := hl
 have hz : ((0 : Int) != 0) = false := rfl
 simp only [s18, he, optE_some, hz, cond_false, hl]
 cases decide ((m : Int) > 40000) <;> rfl
end
end Go.Proofs.YthabingkfmlbbaaGreat
