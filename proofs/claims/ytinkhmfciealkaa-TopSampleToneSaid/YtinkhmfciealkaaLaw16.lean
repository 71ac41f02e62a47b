/- TopSampleTone: its specification is true. -/
import Derived.Test.YtinkhmfciealkaaGa17
import Derived.Test.YtinkhmfciealkaaPure02f
set_option linter.unusedSimpArgs false
set_option maxRecDepth 100000
namespace Go.Proofs.Ytinkhmfciealkaa
open Go.Ev

theorem loop16 (A : Int × Int) (q F : Int) (hF : 3 ≤ F ∧ F ≤ 15) : loopVal step16_0 (q, F, [], 0, A) = some (q, F, List.replicate (4 * F.toNat) A, A) := by
  have hw : wr (4 * F) = ((4 * F.toNat : Nat) : Int) := by rw [wr_id (by omega) (by omega)]; omega
  have h1 := loop_for (step := step16_0) (st := fun k => (q, F, List.replicate k A, (k : Int), A)) (n := 4 * F.toNat) (e := (q, F, List.replicate (4 * F.toNat) A, A))
    (fun k hk => by
      simp only [step16_0, hw, lt_cast, hk, decide_true, cond_true, wr_succ (show k < 4611686018427387904 by omega)]
      rw [room_true (by simp; omega) (by simp; omega), cond_true, List.replicate_succ']) (by simp [step16_0, hw]) 0 (by omega)
  exact h1

theorem loop16b (r : Int × Int) (x y : List (Int × Int)) (hl : y.length = x.length) (hx : x.length ≤ 1000) (h : ∀ k, 3 ≤ k → k < x.length → y.getD k (0, 0) = gmulW r (x.getD k (0, 0))) (h3 : 3 ≤ x.length) : loopVal step16_4 (x, y, 3, r) = some (.inr ()) := by
  have h1 := loop_for (step := step16_4) (st := fun k => (x, y, (k + 3 : Nat), r)) (n := x.length - 3) (e := .inr ())
    (fun k hk => by
      have hk1 : k + 3 < x.length := by omega
      have hk2 : k + 3 < y.length := by omega
      simp only [step16_4, lt_cast, inB_cast, hk1, hk2, decide_true, cond_true, Int.toNat_natCast, wr_succ (show k + 3 < 4611686018427387904 by omega), h (k + 3) (by omega) hk1, pair_eq, cond_false]) (by
        have : ¬ x.length - 3 + 3 < y.length := by omega
        simp only [step16_4, lt_cast, this, decide_false, cond_false]) 0 (by omega)
  exact h1

theorem law16 : ∀ x, s16 x = some true := by
  rintro ⟨A, q, F⟩
  simp only [s16, Bool.not_true, cond_false]
  cases hA : okG 2000 A
  · simp [gErr, hA]
  have hA' := okG_le hA (by omega)
  cases hq : win q 0 3
  · simp [gErr, hA, unl]
  have hq' := win_iff.1 hq
  cases hF : win F 3 15
  · simp [gErr, hA, unl]
  have hF' := win_iff.1 hF
  have hlp := loop16 A q F hF'
  have hwq : wr (q * 1024) = q * 1024 := wr_id (by omega) (by omega)
  have hwF : wr (4 * F) = 4 * F := wr_id (by omega) (by omega)
  have hnF : ((F.toNat : Nat) : Int) = F := by omega
  have hs : smpE (List.replicate (4 * F.toNat) A) = 0 := smpE_zero.2 ⟨by simp; omega, fun g hg => by rw [List.eq_of_mem_replicate hg]; exact hA⟩
  have hp : progE (0, q * 1024, 0) = 0 := progE_zero.2 ⟨by dsimp only; omega, by dsimp only; omega, by dsimp only; omega⟩
  have h78 : p78 ((0, q * 1024, 0), List.replicate (4 * F.toNat) A) = some (tone A q (4 * F.toNat), 0) := by
    have : p78 ((0, q * 1024, 0), List.replicate (4 * F.toNat) A) = some (orE (firstE [progE (0, q * 1024, 0), smpE (List.replicate (4 * F.toNat) A)]) [] (mixL rotF (0, q * 1024, 0) (List.replicate (4 * F.toNat) A))) := p78_pos (x := ((0, q * 1024, 0), List.replicate (4 * F.toNat) A)) (by simp; omega)
    rw [this, hp, hs]; rfl
  have hts : smpE (tone A q (4 * F.toNat)) = 0 := mixL_okG rotF_cases hs
  have htl := tone_length A q (4 * F.toNat)
  have htl' : ((tone A q (4 * F.toNat)).length : Int) = 4 * F := by rw [htl]; omega
  have h45 : p45 (tone A q (4 * F.toNat)) = some (tone A q (4 * F.toNat)) := p45_pos (by omega)
  have h51 : p51 (tone A q (4 * F.toNat)) = some (binsL (tone A q (4 * F.toNat)), 0) := by
    have : p51 (tone A q (4 * F.toNat)) = some (orE (smpE (tone A q (4 * F.toNat))) ((0, 0), (0, 0), (0, 0), 0, 0) (binsL (tone A q (4 * F.toNat)))) := p51_pos (by omega)
    rw [this, hts]; rfl
  have hbins : ∀ k : Int, 0 ≤ k ∧ k ≤ 3 → binL rotB k (tone A q (4 * F.toNat)) = if k = q then (4 * F * A.1, 4 * F * A.2) else (0, 0) := fun k hk => by
    have := tone_bins (A := A) hq' hk (n := F.toNat) (by omega)
    rwa [hnF] at this
  have hbL : binsL (tone A q (4 * F.toNat)) = (if 0 = q then (4 * F * A.1, 4 * F * A.2) else (0, 0), if 1 = q then (4 * F * A.1, 4 * F * A.2) else (0, 0), if 2 = q then (4 * F * A.1, 4 * F * A.2) else (0, 0), if 3 = q then (4 * F * A.1, 4 * F * A.2) else (0, 0)) := by
    unfold binsL
    rw [hbins 0 (by omega), hbins 1 (by omega), hbins 2 (by omega), hbins 3 (by omega)]
  have hm1 := abs_mul (a := 4 * F) (m := 60) (show -60 ≤ 4 * F by omega) (by omega) hA'.1 hA'.2.1
  have hm2 := abs_mul (a := 4 * F) (m := 60) (show -60 ≤ 4 * F by omega) (by omega) hA'.2.2.1 hA'.2.2.2
  have hwa : wr (4 * F * A.1) = 4 * F * A.1 := wr_id (by omega) (by omega)
  have hwb : wr (4 * F * A.2) = 4 * F * A.2 := wr_id (by omega) (by omega)
  have hfil : filtE ([3, -1, 2, 5], 1) = 0 := by decide
  have h34 : p34 ([3, -1, 2, 5], 1) = some ([3, -1, 2, 5], 1) := p34_pos (by decide)
  have h35 : p35 (([3, -1, 2, 5], 1), q) = some (binL rotB q [(3, 0), (-1, 0), (2, 0), (5, 0)], 0) := by
    have : p35 (([3, -1, 2, 5], 1), q) = some (orE (firstE [filtE ([3, -1, 2, 5], 1), unl (win q 0 3) 2]) (0, 0) (binL rotB q (([3, -1, 2, 5] : List Int).map fun c => (c, 0)))) := p35_pos (x := (([3, -1, 2, 5], 1), q)) (by show 4 ≤ 1000000; omega)
    rw [this, hfil, hq]; rfl
  have h57 : p57 (([3, -1, 2, 5], 1), tone A q (4 * F.toNat)) = some (filtL ([3, -1, 2, 5], 1) (tone A q (4 * F.toNat)), 0) := by
    have : p57 (([3, -1, 2, 5], 1), tone A q (4 * F.toNat)) = some (orE (firstE [filtE ([3, -1, 2, 5], 1), smpE (tone A q (4 * F.toNat))]) [] (filtL ([3, -1, 2, 5], 1) (tone A q (4 * F.toNat)))) := p57_pos (x := (([3, -1, 2, 5], 1), tone A q (4 * F.toNat))) ⟨by show 4 ≤ 1000000; omega, by show (tone A q (4 * F.toNat)).length ≤ _; omega⟩
    rw [this, hfil, hts]; rfl
  have hfl : (filtL ([3, -1, 2, 5], 1) (tone A q (4 * F.toNat))).length = (tone A q (4 * F.toNat)).length := by simp [filtL]
  have hr : -100 ≤ (binL rotB q [(3, 0), (-1, 0), (2, 0), (5, 0)]).1 ∧ (binL rotB q [(3, 0), (-1, 0), (2, 0), (5, 0)]).1 ≤ 100 ∧ -100 ≤ (binL rotB q [(3, 0), (-1, 0), (2, 0), (5, 0)]).2 ∧ (binL rotB q [(3, 0), (-1, 0), (2, 0), (5, 0)]).2 ≤ 100 := by
    have hc : q = 0 ∨ q = 1 ∨ q = 2 ∨ q = 3 := by omega
    rcases hc with rfl | rfl | rfl | rfl <;> decide
  have hg100 : gErr 100 (binL rotB q [(3, 0), (-1, 0), (2, 0), (5, 0)]) = 0 := by
    unfold gErr
    rw [(okG_iff (by omega)).2 hr]; rfl
  have hts' := smpE_zero.1 hts
  have hl2 := loop16b (binL rotB q [(3, 0), (-1, 0), (2, 0), (5, 0)]) (tone A q (4 * F.toNat)) (filtL ([3, -1, 2, 5], 1) (tone A q (4 * F.toNat))) hfl (by omega) (fun k h3 hk => by
    have hx := okG_le (hts'.2 _ (getD_mem (d := (0, 0)) hk)) (by omega)
    have hfk : (filtL ([3, -1, 2, 5], 1) (tone A q (4 * F.toNat))).getD k (0, 0) = filtAt ([3, -1, 2, 5], 1) (tone A q (4 * F.toNat)) k := range_getD _ _ hk
    rw [hfk, filt_one]
    show outTo [3, -1, 2, 5] (tone A q (4 * F.toNat)) k 4 = _
    rw [tone_filter hq' (by omega) (by omega) h3]
    generalize (tone A q (4 * F.toNat)).getD k (0, 0) = v at hx ⊢
    generalize binL rotB q [(3, 0), (-1, 0), (2, 0), (5, 0)] = u at hr ⊢
    have m1 := abs_mul hr.1 hr.2.1 hx.1 hx.2.1
    have m2 := abs_mul hr.2.2.1 hr.2.2.2 hx.2.2.1 hx.2.2.2
    have m3 := abs_mul hr.1 hr.2.1 hx.2.2.1 hx.2.2.2
    have m4 := abs_mul hr.2.2.1 hr.2.2.2 hx.1 hx.2.1
    unfold gmulW cmul
    rw [wr_id (n := u.1 * v.1) (by omega) (by omega), wr_id (n := u.2 * v.2) (by omega) (by omega), wr_id (n := u.1 * v.2) (by omega) (by omega), wr_id (n := u.2 * v.1) (by omega) (by omega), wr_id (by omega) (by omega), wr_id (by omega) (by omega)]) (by omega)
  have hgA : gErr 2000 A = 0 := by unfold gErr; rw [hA]; rfl
  have hu : unl true 2 = 0 := rfl
  simp only [hgA, hu, bne_self_eq_false, cond_false, Bool.not_true, hlp, optE, hwq, h78, htl', hwF, hts, h45, h51, hbL, hwa, hwb, h34, h35, h57, hfl, hl2, hg100, sumE]
  clear hlp hwq hs hp h78 hts htl htl' h45 h51 hbins hbL h35 h57 hfl hr hg100 hts' hl2
  have hc : q = 0 ∨ q = 1 ∨ q = 2 ∨ q = 3 := by omega
  rcases hc with rfl | rfl | rfl | rfl <;> simp
end Go.Proofs.Ytinkhmfciealkaa
