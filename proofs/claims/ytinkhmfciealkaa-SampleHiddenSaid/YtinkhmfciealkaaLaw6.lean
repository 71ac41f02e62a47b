/- SampleHidden: its specification is true. -/
import Derived.Test.YtinkhmfciealkaaGa13
set_option linter.unusedSimpArgs false
set_option maxRecDepth 100000
namespace Go.Proofs.Ytinkhmfciealkaa
open Go.Ev

theorem loop6 (a n : Int) (x : List (Int × Int)) (hx : x.length ≤ 1000000) : loopVal step6_0 (a, n, x, 0) = some (.inl true) ∨
    (loopVal step6_0 (a, n, x, 0) = some (.inr (n, x)) ∧ ∀ g ∈ x, sizeW g.2 ≤ g.1 ∧ wr (a * a) ≤ normW g) := by
  have h1 := loop_scan (step := step6_0) (st := fun k => (a, n, x, (k : Int))) (n := x.length) (hit := fun k => (fun g : Int × Int => bif decide (g.1 < sizeW g.2) || decide (normW g < wr (a * a)) then some (Sum.inl true) else none) (x.getD k (0, 0))) (e := Sum.inr (n, x))
    (fun k hk => by
      simp only [step6_0, lt_cast, inB_cast, hk, decide_true, cond_true, Int.toNat_natCast, wr_succ (show k < 4611686018427387904 by omega), pair_eta]
      cases decide ((x.getD k (0, 0)).1 < sizeW (x.getD k (0, 0)).2) <;> cases decide (normW (x.getD k (0, 0)) < wr (a * a)) <;> rfl) (by simp [step6_0]) x.length 0 (by omega)
  rw [show ((0 : Nat) : Int) = 0 from rfl, scan_list0 (fun g : Int × Int => bif decide (g.1 < sizeW g.2) || decide (normW g < wr (a * a)) then some (Sum.inl true) else none) (Sum.inr (n, x)) x (0, 0),
    scanL_const (b := Sum.inl true) (fun g _ => by cases decide (g.1 < sizeW g.2) || decide (normW g < wr (a * a)) <;> simp)] at h1
  split at h1
  · rename_i hall
    refine .inr ⟨h1, fun g hg => ?_⟩
    have := List.all_eq_true.1 hall g hg
    cases h3 : decide (g.1 < sizeW g.2) <;> cases h4 : decide (normW g < wr (a * a)) <;> rw [h3, h4] at this <;> simp at this
    simp only [decide_eq_false_iff_not] at h3 h4
    omega
  · exact .inl h1

theorem law6 : ∀ x, s6 x = some true := by
  rintro ⟨p, x, a⟩
  simp only [s6, Bool.not_true, cond_false]
  cases ha : win a 0 2000
  · simp [minR, ha]
  have ha' := win_iff.1 ha
  by_cases hl : 400 < x.length
  · have hw : win (x.length : Int) 0 400 = false := by
      rw [Bool.eq_false_iff]; intro e; have := win_iff.1 e; omega
    rw [decide_eq_true (show ((x.length : Nat) : Int) > 400 by omega)]
    simp [minR, ha, hw]
  rw [decide_eq_false (show ¬ ((x.length : Nat) : Int) > 400 by omega)]
  have hw : win (x.length : Int) 0 400 = true := win_iff.2 ⟨by omega, by omega⟩
  have hm : minR a (x.length : Int) = (minV a (x.length : Int), 0) := by simp [minR, ha, hw]
  have h42 := minRef_eq (a := a) (c := (x.length : Int)) ha' ⟨by omega, by omega⟩
  simp only [hm, Bool.not_true, cond_false, bne_self_eq_false]
  have hr : s42 (a, (x.length : Int)) = some (minV a (x.length : Int)) := by rw [← h42]; rfl
  simp only [hr, optE, bne_self_eq_false, cond_false]
  by_cases h60 : 60 < x.length
  · rw [decide_eq_true (show ((x.length : Nat) : Int) > 60 by omega)]; rfl
  rw [decide_eq_false (show ¬ ((x.length : Nat) : Int) > 60 by omega)]
  by_cases hp : progE p = 0
  case neg => have hp1 : (progE p != 0) = true := by simpa using hp
              simp [hp1]
  by_cases hx : smpE x = 0
  case neg => have hx1 : (smpE x != 0) = true := by simpa using hx
              simp [hp, hx1]
  have hx' := smpE_zero.1 hx
  have h45 : p45 x = some x := p45_pos (by omega)
  have h44 : p44 (p, x) = some (mixL rotB p x, 0) := by
    have : p44 (p, x) = some (orE (firstE [progE p, smpE x]) [] (mixL rotB p x)) := p44_pos (x := (p, x)) (by show x.length ≤ _; omega)
    rw [this, hp, hx]; rfl
  have hm0 := mixL_okG rotB_cases (p := p) hx
  have hlen := mixL_length rotB p x
  simp only [hp, hx, bne_self_eq_false, cond_false, h45, h44, optE, hm0, hlen]
  have hm' := smpE_zero.1 hm0
  rcases loop6 a (minV a (x.length : Int)) (mixL rotB p x) (by omega) with h | ⟨h, hall⟩
  · simp [h, sumE]
  · have h48 : p48 (mixL rotB p x, 0) = some (binL rotB 0 (mixL rotB p x), 0) := by
      have : p48 (mixL rotB p x, 0) = some (orE (firstE [smpE (mixL rotB p x), unl (win 0 0 3) 2]) (0, 0) (binL rotB 0 (mixL rotB p x))) := p48_pos (x := (mixL rotB p x, 0)) (by show (mixL rotB p x).length ≤ _; omega)
      rw [this, hm0]; rfl
    simp only [h, sumE, h48, optE, beq_self_eq_true, cond_true]
    generalize mixL rotB p x = m at hm' hall hlen
    have hb := bin_bound rotB rotB_cases 0 m (fun g hg => okG_le (hm'.2 g hg) (by omega)) m.length (Nat.le_refl _)
    have hbin : binL rotB 0 m = sumTo m m.length := binTo_zero m m.length
    have hb2 : -120000 ≤ (binL rotB 0 m).1 ∧ (binL rotB 0 m).1 ≤ 120000 ∧ -120000 ≤ (binL rotB 0 m).2 ∧ (binL rotB 0 m).2 ≤ 120000 := by
      unfold binL; omega
    have hg : gErr 120000 (binL rotB 0 m) = 0 := by
      unfold gErr
      rw [(okG_iff (by omega)).2 hb2]; rfl
    obtain ⟨hn, hn1, hn2, _⟩ := normW_eq (m := 120000) (by omega) hb2
    have haa : 0 ≤ a * a ∧ a * a ≤ 4000000 := by
      have h1 : a * a ≤ 2000 * 2000 := Int.mul_le_mul ha'.2 ha'.2 ha'.1 (by omega)
      exact ⟨Int.mul_nonneg ha'.1 ha'.1, by omega⟩
    have hid := hidden (x := m) ha'.1 (fun g hg => by
      obtain ⟨h1, h2⟩ := hall g hg
      have ho := okG_le (hm'.2 g hg) (by omega)
      obtain ⟨hv, hv1, hv2, _⟩ := normW_eq (m := 2000) (by omega) ho
      rw [wr_id (n := a * a) (by omega) (by omega), hv] at h2
      have hsz : sizeW g.2 = if 0 ≤ g.2 then g.2 else -g.2 := by
        unfold sizeW mx
        rw [wr_id (n := -g.2) (by omega) (by omega)]
        split <;> split <;> omega
      rw [hsz] at h1
      have h0 : 0 ≤ g.1 := by split at h1 <;> omega
      have hsq : g.2 * g.2 ≤ g.1 * g.1 := by
        split at h1
        · exact sq_le_of_le (by omega) h1
        · have := sq_le_of_le (a := -g.2) (by omega) h1
          rwa [Int.neg_mul_neg] at this
      exact ⟨h0, by omega⟩) m.length (Nat.le_refl _)
    rw [hg, beq_self_eq_true, cond_true, decide_eq_true]
    rw [ge_iff_le, minV_eq ha' ⟨by omega, by omega⟩, hn, hbin]
    rw [hbin] at hn1 hn2
    have e : ((x.length : Nat) : Int) * ((x.length : Nat) : Int) * a * a = ((m.length : Nat) : Int) * ((m.length : Nat) : Int) * (a * a) := by
      rw [hlen, Int.mul_assoc]
    rw [e]
    omega
end Go.Proofs.Ytinkhmfciealkaa
