/- The statement TopSampleNoneLost holds of what the program computes. -/
import Derived.Test.YtcdpgjlaajdfmaaGreatDoorNoneB
set_option linter.unusedSimpArgs false
set_option linter.unusedVariables false
set_option maxRecDepth 100000
namespace Go.Proofs.YtcdpgjlaajdfmaaGreatDoor
open Go.Ev
instance (S : GsL) (k : Int) : Decidable (Part S k) := inferInstanceAs (Decidable (_ ∧ _))
theorem cut_step {X : Int} {S : GsL} {ks : List Int} (p : Int × Int × Int) (f : List Int × Int) (hX : 0 ≤ X ∧ X ≤ 1023) (hS : S.length ≤ 96) (hok : ∀ g ∈ S, okS g = true) (h8 : S.length % 8 = 0) (h30 : ks.length ≤ 30) {i : Nat} (hi : i < ks.length) (hp : Part S (ks.getD i 0)) :
 step4_0 (((S.length / 8 : Nat) : Int), (ks.take i).map (pkOf X S), (i : Int), (X, S, ks), p, f) = some (.inl (((S.length / 8 : Nat) : Int), (ks.take (i + 1)).map (pkOf X S), ((i + 1 : Nat) : Int), (X, S, ks), p, f)) := by
 have hsnoc := take_map_succ (pkOf X S) ks 0 hi
 have hlen : ((ks.take i).map (pkOf X S)).length = i := by rw [List.length_map, List.length_take]; omega
 have hroom : room 144 (i + 1) = true := room_true (by omega) (by omega)
 have hE := pk_ok (X := X) hS hok hp
 generalize hk : ks.getD i 0 = k at *
 have hpp := hp
 obtain ⟨q1, q2⟩ := hp
 have hw : win k 0 (wr (((S.length / 8 : Nat) : Int) - 1)) = true := by rw [wr_id (by omega) (by omega)]; exact win_iff.2 (by omega)
 have hm : s16 (X + k, 1024) = some ((X + k) % 1024) := mod_z (by omega) (by omega)
 have hf : s6 ((X + k) % 1024, 1 + k, S.getD (k * 8 + 0).toNat (0, 0), S.getD (k * 8 + 1).toNat (0, 0), S.getD (k * 8 + 2).toNat (0, 0), S.getD (k * 8 + 3).toNat (0, 0), S.getD (k * 8 + 4).toNat (0, 0), S.getD (k * 8 + 5).toNat (0, 0), S.getD (k * 8 + 6).toNat (0, 0), (S.getD (k * 8 + 7).toNat (0, 0)).1, (S.getD (k * 8 + 7).toNat (0, 0)).2) = some (joinS (nums (pkOf X S k))) := s6_eq (pkOf X S k) (inP_of hE)
 have hws : wr ((i : Int) + 1) = ((i + 1 : Nat) : Int) := wr_succ (by omega)
 rw [← hsnoc]
 simp only [step4_0, lt_cast, inB_cast, decide_eq_true hi, cond_true, Int.toNat_natCast, hk, Within_z, hw, Bool.not_true, cond_false, optE_some]
 rw [wr_id (n := X + k) (by omega) (by omega), wr_id (n := k * 8) (by omega) (by omega), wr_id (n := 1 + k) (by omega) (by omega), wr_id (n := k * 8 + 0) (by omega) (by omega), wr_id (n := k * 8 + 1) (by omega) (by omega), wr_id (n := k * 8 + 2) (by omega) (by omega), wr_id (n := k * 8 + 3) (by omega) (by omega), wr_id (n := k * 8 + 4) (by omega) (by omega), wr_id (n := k * 8 + 5) (by omega) (by omega), wr_id (n := k * 8 + 6) (by omega) (by omega), wr_id (n := k * 8 + 7) (by omega) (by omega)]
 rw [inT (i := k * 8 + 0) (n := S.length) (by omega) (by omega), inT (i := k * 8 + 1) (n := S.length) (by omega) (by omega), inT (i := k * 8 + 2) (n := S.length) (by omega) (by omega), inT (i := k * 8 + 3) (n := S.length) (by omega) (by omega), inT (i := k * 8 + 4) (n := S.length) (by omega) (by omega), inT (i := k * 8 + 5) (n := S.length) (by omega) (by omega), inT (i := k * 8 + 6) (n := S.length) (by omega) (by omega), inT (i := k * 8 + 7) (n := S.length) (by omega) (by omega)]
 simp only [cond_true, hm, optE_some, hf, parse_z hE, bne_self_eq_false, cond_false]
 simp only [pkOf, smpAt, beq_self_eq_true, Bool.and_self, Bool.not_true, cond_false, hlen, hroom, cond_true, hws]
theorem ends_loop {X : Int} {S : GsL} {ks : List Int} (R : Route X S ks) (p : Int × Int × Int) (f : List Int × Int) (s : Int × GsL × GsL) :
 loopVal step4_4 (ks.getD 0 0, ks.getD 0 0, 0, (X, S, ks), p, f, s) = some (loK ks, hiK ks, (X, S, ks), p, f, s) := by
 have h0 := R.h0
 have h30 := R.h30
 have hl := loop_for (step := step4_4) (st := fun k => (minTo ks (k - 1), maxTo ks (k - 1), (k : Int), (X, S, ks), p, f, s)) (n := ks.length) (e := (loK ks, hiK ks, (X, S, ks), p, f, s))
  (fun k hk => by
    simp only [step4_4, lt_cast, inB_cast, decide_eq_true hk, cond_true, Int.toNat_natCast, wr_succ (show k < 4611686018427387904 by omega), Nat.add_sub_cancel]
    cases k with
    | zero =>
      have e1 : mn (ks.getD 0 0) (ks.getD 0 0) = ks.getD 0 0 := by unfold mn; split <;> rfl
      have e2 : mx (ks.getD 0 0) (ks.getD 0 0) = ks.getD 0 0 := by unfold mx; split <;> rfl
      simp only [Nat.zero_sub, minTo, maxTo, e1, e2]
    | succ k => simp only [Nat.add_sub_cancel, minTo, maxTo]) (by
    simp only [step4_4, lt_cast, Nat.lt_irrefl, decide_false, cond_false, loK, hiK]) 0 (by omega)
 exact hl
theorem in_loop (lo hi n : Int) (x0 : Int × GsL × List Int) (p : Int × Int × Int) (f : List Int × Int) (s : Int × GsL × GsL) (h : s.2.2.length ≤ 1000) :
 loopVal step4_8 (lo, hi, n, false, 0, x0, p, f, s) = some (lo, hi, n, inGap s.2.2 n, x0, p, f, s) := by
 have hl := loop_for (step := step4_8) (st := fun k => (lo, hi, n, inGap (s.2.2.take k) n, (k : Int), x0, p, f, s)) (n := s.2.2.length) (e := (lo, hi, n, inGap s.2.2 n, x0, p, f, s))
  (fun k hk => by
    have hs : inGap (s.2.2.take (k + 1)) n = (inGap (s.2.2.take k) n || win n (s.2.2.getD k (0, 0)).1 (s.2.2.getD k (0, 0)).2) := by
     rw [← take_succ_getD _ (0, 0) hk]; simp [inGap]
    rw [hs]
    simp only [step4_8, lt_cast, inB_cast, decide_eq_true hk, cond_true, Int.toNat_natCast, wr_succ (show k < 4611686018427387904 by omega), Within_z, optE_some]
    cases inGap (s.2.2.take k) n <;> simp only [cond_true, cond_false, Bool.true_or, Bool.false_or]) (by
    simp only [step4_8, lt_cast, Nat.lt_irrefl, decide_false, cond_false, List.take_length]) 0 (by omega)
 exact hl
theorem has_z {l : List Int} {n : Int} (hl : l.length ≤ 1000) : s19 (l, n) = some (decide (n ∈ l)) := by
 unfold s19
 cases hd : l.all (fun y => !(y == n)) with
 | true =>
   have hn : ∀ k, k < l.length → (l.getD k 0 == n) = false := fun k hk => by
    have := List.all_eq_true.1 hd _ (getDm (d := 0) hk)
    simpa using this
   have hm : n ∉ l := fun hm => by
    have := List.all_eq_true.1 hd n hm
    simp at this
   have h1 := loop_for (step := step19_0) (st := fun k => (l, n, (k : Int))) (n := l.length) (e := Sum.inr ())
    (fun k hk => by
      simp only [step19_0, lt_cast, inB_cast, decide_eq_true hk, cond_true, Int.toNat_natCast, hn k hk, cond_false, wr_succ (show k < 4611686018427387904 by omega)]) (by
      simp only [step19_0, lt_cast, Nat.lt_irrefl, decide_false, cond_false]) 0 (by omega)
   have h1 : loopVal step19_0 (l, n, 0) = _ := h1
   rw [decide_eq_false hm]
   simp only [h1, optE_some, sumE]
 | false =>
   obtain ⟨j, hj, hb, hb2⟩ := first_bad (0 : Int) hd
   have hm : n ∈ l := by
    have e : l.getD j 0 = n := by simpa using hb
    rw [← e]; exact getDm hj
   have h1 := loop_for (step := step19_0) (st := fun k => (l, n, (k : Int))) (n := j) (e := Sum.inl true)
    (fun k hk => by
      have := hb2 k hk
      have e : (l.getD k 0 == n) = false := by simpa using this
      simp only [step19_0, lt_cast, inB_cast, decide_eq_true (show k < l.length by omega), cond_true, Int.toNat_natCast, e, cond_false, wr_succ (show k < 4611686018427387904 by omega)]) (by
      have e : (l.getD j 0 == n) = true := by simpa using hb
      simp only [step19_0, lt_cast, inB_cast, decide_eq_true hj, cond_true, Int.toNat_natCast, e]) 0 (by omega)
   have h1 : loopVal step19_0 (l, n, 0) = _ := h1
   rw [decide_eq_true hm]
   simp only [h1, optE_some, sumE]
theorem gaps_b {X : Int} {S : GsL} {ks : List Int} (R : Route X S ks) : spanK ks ≤ 12 ∧ (spanK ks : Int) = hiK ks - loK ks + 1 ∧ (gapsT (loK ks) ks (spanK ks)).length ≤ 12 := by
 obtain ⟨e1, e2, e3, e4⟩ := ends_b R
 have h : (spanK ks : Int) = hiK ks - loK ks + 1 := by unfold spanK; omega
 have h2 := (gapsT_bnd (loK ks) ks (spanK ks) (by omega)).1
 exact ⟨by omega, h, by omega⟩
theorem places {X : Int} {S : GsL} {ks : List Int} (R : Route X S ks) (p : Int × Int × Int) (f : List Int × Int) :
 loopVal step4_6 (loK ks, hiK ks, 0, (X, S, ks), p, f, strOf X S ks) = some (.inr (loK ks, hiK ks, (X, S, ks), p, f, strOf X S ks)) := by
 obtain ⟨e1, e2, e3, e4, e5, e6⟩ := ends_b R
 obtain ⟨g1, g2, g3⟩ := gaps_b R
 have h30 := R.h30
 have hS := R.hS
 have hs : (strOf X S ks).2.1.length = 8 * spanK ks := sampT_length X S ks (loK ks) (spanK ks)
 unfold Part at e4 e5
 have hl := loop_for (step := step4_6) (st := fun k => (loK ks, hiK ks, (k : Int), (X, S, ks), p, f, strOf X S ks)) (n := 8 * spanK ks) (e := Sum.inr (loK ks, hiK ks, (X, S, ks), p, f, strOf X S ks))
  (fun k hk => by
    have hin := gapsT_in (loK ks) ks k (spanK ks) (by omega)
    rw [decide_eq_true (show k / 8 < spanK ks by omega), Bool.true_and] at hin
    have hin' : inGap (strOf X S ks).2.2 (k : Int) = !decide (loK ks + ((k / 8 : Nat) : Int) ∈ ks) := hin
    have w1 : wr (Int.tdiv (k : Int) 8) = ((k / 8 : Nat) : Int) := by rw [Int.tdiv_eq_ediv_of_nonneg (by omega), wr_id (by omega) (by omega)]; rfl
    have w2 : wr (loK ks + ((k / 8 : Nat) : Int)) = loK ks + ((k / 8 : Nat) : Int) := wr_id (by omega) (by omega)
    have w3 : wr (loK ks * 8) = loK ks * 8 := wr_id (by omega) (by omega)
    have w4 : wr (loK ks * 8 + (k : Int)) = ((8 * (loK ks).toNat + k : Nat) : Int) := by rw [wr_id (by omega) (by omega)]; omega
    simp only [step4_6, hs, lt_cast, decide_eq_true hk, cond_true, in_loop _ _ _ _ _ _ _ (show (strOf X S ks).2.2.length ≤ 1000 from Nat.le_trans g3 (by omega)), optE_some, w1, w2, w3, w4, has_z (show ks.length ≤ 1000 by omega), hin', inB_cast, Int.toNat_natCast, wr_succ (show k < 4611686018427387904 by omega)]
    by_cases hm : loK ks + ((k / 8 : Nat) : Int) ∈ ks
    ·have hg : (strOf X S ks).2.1.getD k (0, 0) = S.getD (8 * (loK ks).toNat + k) (0, 0) := sampT_get e1 _ (by omega) hm
     simp only [decide_eq_true hm, Bool.not_true, cond_true, cond_false, show (false == true) = false from rfl, decide_eq_true (show 8 * (loK ks).toNat + k < S.length by omega), hg, beq_self_eq_true, Bool.and_self]
    ·simp only [decide_eq_false hm, Bool.not_false, cond_false, show (true == false) = false from rfl]) (by
    simp only [step4_6, hs, lt_cast, Nat.lt_irrefl, decide_false, cond_false]) 0 (by omega)
 exact hl
theorem whole {X : Int} {S : GsL} {ks : List Int} (R : Route X S ks) (hg : (gapsT (loK ks) ks (spanK ks)).length = 0) : sampT X S ks (loK ks) (spanK ks) = (S.take ((hiK ks + 1) * 8).toNat).drop (loK ks * 8).toNat := by
 obtain ⟨e1, e2, e3, e4, e5, e6⟩ := ends_b R
 obtain ⟨g1, g2, g3⟩ := gaps_b R
 unfold Part at e4 e5
 have hs : (sampT X S ks (loK ks) (spanK ks)).length = 8 * spanK ks := sampT_length X S ks (loK ks) (spanK ks)
 have hnil := List.eq_nil_of_length_eq_zero hg
 refine eq_getD (0, 0) ?_ fun k hk => ?_
 ·rw [hs, List.length_drop, List.length_take]; omega
 ·rw [hs] at hk
  have hin := gapsT_in (loK ks) ks k (spanK ks) (by omega)
  rw [hnil, decide_eq_true (show k / 8 < spanK ks by omega), Bool.true_and] at hin
  have hm : loK ks + ((k / 8 : Nat) : Int) ∈ ks := by
   by_cases hm : loK ks + ((k / 8 : Nat) : Int) ∈ ks
   ·exact hm
   ·rw [decide_eq_false hm] at hin; cases hin
  rw [sampT_get e1 _ (by omega) hm, List.getD_eq_getElem?_getD, List.getD_eq_getElem?_getD, List.getElem?_drop, List.getElem?_take]
  rw [if_pos (by omega)]
  congr 2
  omega
theorem lost_true (x0 : Int × GsL × List Int) (p : Int × Int × Int) (f : List Int × Int) : s4 (x0, p, f) = some true := by
 obtain ⟨X, S, ks⟩ := x0
 unfold s4
 simp only [Bool.not_true, cond_false, Within_z, optE_some]
 cases hX : win X 0 1023 with
 | false => rfl
 | true =>
 have hX := win_iff.1 hX
 simp only [Bool.not_true, cond_false]
 by_cases hS : (S.length : Int) > 96
 ·rw [decide_eq_true hS]; rfl
 rw [decide_eq_false hS, cond_false, Int.tmod_eq_emod_of_nonneg (by omega)]
 by_cases h8 : (S.length : Int) % 8 = 0
 case neg => rw [bne_iff_ne.2 h8]; rfl
 rw [h8, bne_self_eq_false, cond_false]
 by_cases h0 : (ks.length : Int) = 0
 ·rw [beqT h0]; rfl
 rw [beqF h0, cond_false]
 by_cases h30 : (ks.length : Int) > 30
 ·rw [decide_eq_true h30]; rfl
 rw [decide_eq_false h30, cond_false, samples_r (by omega), prog_r, filter_r]
 simp only [optE_some]
 by_cases hs : smp S = 0
 case neg => rw [bne_iff_ne.2 hs]; rfl
 by_cases hp : progE p = 0
 case neg => rw [hs, bne_iff_ne.2 hp]; rfl
 by_cases hf : fltE f = 0
 case neg => rw [hs, hp, bne_iff_ne.2 hf]; rfl
 have hok := (smp_zero hs).2
 have hS' : S.length ≤ 96 := by omega
 have h8' : S.length % 8 = 0 := by omega
 have h30' : ks.length ≤ 30 := by omega
 have hcount : wr (Int.tdiv (S.length : Int) 8) = ((S.length / 8 : Nat) : Int) := by rw [Int.tdiv_eq_ediv_of_nonneg (by omega), wr_id (by omega) (by omega)]; rfl
 simp only [hs, hp, hf, bne_self_eq_false, cond_false, hcount]
 cases hall : ks.all (fun k => decide (Part S k)) with
 | false =>
   obtain ⟨j, hj, hb, hb2⟩ := first_bad (0 : Int) hall
   have hb := of_decide_eq_false hb
   have h1 := loop_for (step := step4_0) (st := fun k => (((S.length / 8 : Nat) : Int), (ks.take k).map (pkOf X S), (k : Int), (X, S, ks), p, f)) (n := j) (e := Sum.inl true)
    (fun k hk => cut_step p f hX hS' hok h8' h30' (by omega) (of_decide_eq_true (hb2 k hk))) (by
    have hw : win (ks.getD j 0) 0 (wr (((S.length / 8 : Nat) : Int) - 1)) = false := by
     rw [wr_id (by omega) (by omega)]
     cases hw : win (ks.getD j 0) 0 (((S.length / 8 : Nat) : Int) - 1)
     ·rfl
     ·have := win_iff.1 hw
      exact absurd (show Part S (ks.getD j 0) by unfold Part; omega) hb
    simp only [step4_0, lt_cast, inB_cast, decide_eq_true hj, cond_true, Int.toNat_natCast, Within_z, hw, Bool.not_false, optE_some]) 0 (by omega)
   have h1 : loopVal step4_0 (((S.length / 8 : Nat) : Int), [], 0, (X, S, ks), p, f) = _ := h1
   simp only [h1, optE_some, sumE]
 | true =>
   have hparts : ∀ k ∈ ks, Part S k := fun k hk => of_decide_eq_true (List.all_eq_true.1 hall k hk)
   have R : Route X S ks := ⟨hX, hS', hok, hparts, by omega, h30'⟩
   have h1 := loop_for (step := step4_0) (st := fun k => (((S.length / 8 : Nat) : Int), (ks.take k).map (pkOf X S), (k : Int), (X, S, ks), p, f)) (n := ks.length) (e := Sum.inr (ks.map (pkOf X S), (X, S, ks), p, f))
    (fun k hk => cut_step p f hX hS' hok h8' h30' hk (hparts _ (getDm hk))) (by
    simp only [step4_0, lt_cast, Nat.lt_irrefl, decide_false, cond_false, List.take_length]) 0 (by omega)
   have h1 : loopVal step4_0 (((S.length / 8 : Nat) : Int), [], 0, (X, S, ks), p, f) = _ := h1
   have hcp : s18 (ks.map (pkOf X S)) = some (ks.map (pkOf X S)) := by
    unfold s18
    rw [room_true (by rw [List.length_map]; omega) (by rw [List.length_map]; omega)]; rfl
   obtain ⟨b1, b2, b3⟩ := base_b R
   obtain ⟨e1, e2, e3, e4, e5, e6⟩ := ends_b R
   obtain ⟨g1, g2, g3⟩ := gaps_b R
   unfold Part at e4 e5
   have hlen : ((strOf X S ks).2.1.length : Int) = (spanK ks : Int) * 8 := by
    have : (strOf X S ks).2.1.length = 8 * spanK ks := sampT_length X S ks (loK ks) (spanK ks)
    omega
   have hfirst : (strOf X S ks).1 = baseC X ks + loK ks := rfl
   have w1 : wr (hiK ks - loK ks) = hiK ks - loK ks := wr_id (by omega) (by omega)
   have w2 : wr (hiK ks - loK ks + 1) = (spanK ks : Int) := by rw [wr_id (by omega) (by omega)]; omega
   have w3 : wr ((spanK ks : Int) * 8) = (spanK ks : Int) * 8 := wr_id (by omega) (by omega)
   have w4 : wr (baseC X ks + loK ks - X) = baseC X ks + loK ks - X := wr_id (by omega) (by omega)
   have w5 : wr (baseC X ks + loK ks - X - loK ks) = baseC X ks - X := by rw [wr_id (by omega) (by omega)]; omega
   have hm0 : s16 (baseC X ks - X, 1024) = some 0 := by
    rw [mod_z (by omega) (by omega)]
    congr 1
    omega
   have h0' : inBounds 0 ks.length = true := inT (by omega) (by omega)
   simp only [h1, optE_some, sumE, hcp, asm_z R, bne_self_eq_false, cond_false, h0', cond_true, ends_loop R, hlen, w1, w2, w3, hfirst, w4, w5, hm0, places R]
   by_cases hg : (gapsT (loK ks) ks (spanK ks)).length = 0
   case neg =>
    rw [decide_eq_true (show ((strOf X S ks).2.2.length : Int) > 0 by show ((gapsT (loK ks) ks (spanK ks)).length : Int) > 0; omega)]
    rfl
   rw [decide_eq_false (show ¬ ((strOf X S ks).2.2.length : Int) > 0 by show ¬ ((gapsT (loK ks) ks (spanK ks)).length : Int) > 0; omega)]
   have hsent := whole R hg
   have u1 : wr (loK ks * 8) = loK ks * 8 := wr_id (by omega) (by omega)
   have u2 : wr (hiK ks + 1) = hiK ks + 1 := wr_id (by omega) (by omega)
   have u3 : wr ((hiK ks + 1) * 8) = (hiK ks + 1) * 8 := wr_id (by omega) (by omega)
   have hsm : (strOf X S ks).2.1 = (S.take ((hiK ks + 1) * 8).toNat).drop (loK ks * 8).toNat := hsent
   have sl : ((S.take ((hiK ks + 1) * 8).toNat).drop (loK ks * 8).toNat).length ≤ 96 := by rw [List.length_drop, List.length_take]; omega
   have sok : ∀ g ∈ (S.take ((hiK ks + 1) * 8).toNat).drop (loK ks * 8).toNat, okS g = true := fun g hg => hok g (List.mem_of_mem_take (List.mem_of_mem_drop hg))
   simp only [cond_false, u1, u2, u3, hsm, decide_eq_true (show 0 ≤ loK ks * 8 by omega), decide_eq_true (show loK ks * 8 ≤ (hiK ks + 1) * 8 by omega), decide_eq_true (show (hiK ks + 1) * 8 ≤ (S.length : Int) by omega), Bool.and_self, cond_true]
   generalize (S.take ((hiK ks + 1) * 8).toNat).drop (loK ks * 8).toNat = T at sl sok ⊢
   have hcg : s21 T = some T := by
    unfold s21
    rw [room_true (by omega) (by omega)]; rfl
   have hcf : s23 f = some f := by
    have hl := (fltE_zero hf).2.1
    unfold s23 s54
    rw [room_true (by omega) (by omega)]; rfl
   have mlen := mixL_len p T
   have mok := mixL_ok (p := p) sok
   simp only [hcg, optE_some, mix_p hp sok (show T.length ≤ 400 by omega), bne_self_eq_false, cond_false, mlen, samples_r (show (mixL p T).length ≤ 1000 by omega), smp_ok0 (show (mixL p T).length ≤ 400 by omega) mok, hcf, filt_p hf mok (show (mixL p T).length ≤ 400 by omega), beq_self_eq_true, cond_true, mix_r sok (show T.length ≤ 400 by omega), filt_r hf mok (show (mixL p T).length ≤ 400 by omega), same_z (x := filtL f (mixL p T)) (show (filtL f (mixL p T)).length ≤ 1000 by simp [filtL]; omega)]
end Go.Proofs.YtcdpgjlaajdfmaaGreatDoor
