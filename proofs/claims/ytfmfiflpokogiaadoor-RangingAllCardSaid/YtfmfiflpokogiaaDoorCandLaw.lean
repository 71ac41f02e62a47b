import Derived.Test.YtfmfiflpokogiaaDoorCands
set_option linter.unusedSimpArgs false
namespace Go.Proofs.YtfmfiflpokogiaaDoor
open Go.Ev
noncomputable def limE (lim : Int × Int) : Int := bif !(win lim.1 0 1000000000) then 2 else bif !(win lim.2 0 1000000000) then 2 else bif decide (lim.1 > lim.2) then 9 else bif decide (wr (lim.2 - lim.1) ≥ 100000) then 8 else 0
theorem limErr_eq (lim : Int × Int) : s63 lim = some (limE lim) := by
 unfold s63 limE
 cases win lim.1 0 1000000000 <;> cases win lim.2 0 1000000000 <;> cases decide (lim.1 > lim.2) <;> cases decide (wr (lim.2 - lim.1) ≥ 100000) <;> rfl
noncomputable def tonE (l : List Tn) (lim : Int × Int) : Int := bif (chkT l).2 != 0 then (chkT l).2 else limE lim
theorem tonesErr_eq (l : List Tn) (lim : Int × Int) : s39 (l, lim) = some (tonE l lim) := by
 unfold s39 tonE
 simp only [chkT2, optE_some, limErr_eq]
 cases (chkT l).2 != 0 <;> rfl
theorem first_in {c : Int} {lim : Int × Int} (h : win lim.1 0 1000000000 = true) :
 firstE [c, unl (win lim.2 0 1000000000) 2, unl (decide (lim.1 ≤ lim.2)) 9, unl (decide (wr (lim.2 - lim.1) < 100000)) 8] = bif c != 0 then c else limE lim := by
 unfold limE
 rw [h, dec_gt lim.1, dec_ge (wr (lim.2 - lim.1))]
 simp only [firstE, unl]
 cases c != 0 <;> cases win lim.2 0 1000000000 <;> cases decide (lim.1 ≤ lim.2) <;> cases decide (wr (lim.2 - lim.1) < 100000) <;> rfl
theorem first_out {c x y : Int} {lim : Int × Int} (h : win lim.1 0 1000000000 = false) : firstE [c, unl false 2, x, y] = bif c != 0 then c else limE lim := by
 unfold limE
 rw [h]
 simp only [firstE, unl]
 cases c != 0 <;> rfl
theorem limE_zero {lim : Int × Int} (h : limE lim = 0) : 0 ≤ lim.1 ∧ lim.1 ≤ lim.2 ∧ lim.2 ≤ 1000000000 ∧ lim.2 - lim.1 < 100000 := by
 unfold limE at h
 cases h1 : win lim.1 0 1000000000 with
 | false => rw [h1] at h; cases h
 | true =>
   cases h2 : win lim.2 0 1000000000 with
   | false => rw [h1, h2] at h; cases h
   | true =>
     have g1 := win_iff.1 h1
     have g2 := win_iff.1 h2
     by_cases h3 : lim.1 > lim.2
     ·rw [h1, h2, decide_eq_true h3] at h; cases h
     ·by_cases h4 : wr (lim.2 - lim.1) ≥ 100000
      ·rw [h1, h2, decide_eq_false h3, decide_eq_true h4] at h; cases h
      ·rw [wr_id (by omega) (by omega)] at h4
       omega
theorem tonE_zero {l : List Tn} {lim : Int × Int} (h : tonE l lim = 0) : l.length ≤ 8 ∧ (∀ t ∈ l, tErr t = 0) ∧ (0 ≤ lim.1 ∧ lim.1 ≤ lim.2 ∧ lim.2 ≤ 1000000000 ∧ lim.2 - lim.1 < 100000) := by
 unfold tonE at h
 by_cases hc : (chkT l).2 = 0
 ·rw [hc] at h
  obtain ⟨h1, h2⟩ := (chkE_zero tErr (0, 0, 0) 8 l).1 hc
  exact ⟨by omega, h2, limE_zero h⟩
 ·rw [show ((chkT l).2 != 0) = true by simpa using hc] at h
  exact absurd h hc
def cnt (lim : Int × Int) : Nat := (lim.2 + 1 - lim.1).toNat
def cands (l : List Tn) (lim : Int × Int) : List (Int × Int) := candF l (cnt lim) lim.1 []
def occs (l : List Tn) (lim : Int × Int) : List Bool := occF l (cnt lim) lim.1 (List.replicate 256 false)
theorem inEnd (n : Int) : s121 n = some (win n 0 1000000000) := rfl
theorem cand_bad {l : List Tn} {lim : Int × Int} (h : tonE l lim ≠ 0) : s36 (l, lim) = some ([], tonE l lim) ∧ s38 (l, lim) = some ((0, 0), tonE l lim) := by
 have hb : (tonE l lim != 0) = true := by simpa using h
 unfold s36 s38
 simp only [chkT1, inEnd, optE_some]
 cases h1 : win lim.1 0 1000000000 with
 | true =>
   simp only [cond_true, first_in h1]
   show (bif tonE l lim != 0 then (bif tonE l lim != 0 then some (([] : List (Int × Int)), tonE l lim) else none) else _) = _ ∧ (bif tonE l lim != 0 then (bif tonE l lim != 0 then some (((0 : Int), (0 : Int)), tonE l lim) else none) else _) = _
   rw [hb]
   exact ⟨rfl, rfl⟩
 | false =>
   simp only [cond_false, first_out h1]
   show (bif tonE l lim != 0 then (bif tonE l lim != 0 then some (([] : List (Int × Int)), tonE l lim) else none) else _) = _ ∧ (bif tonE l lim != 0 then (bif tonE l lim != 0 then some (((0 : Int), (0 : Int)), tonE l lim) else none) else _) = _
   rw [hb]
   exact ⟨rfl, rfl⟩
theorem sweep_eq {l : List Tn} {lim : Int × Int} (h : tonE l lim = 0) : loopVal step87_0 (l, lim.1, lim, ([], List.replicate 256 false)) = some (cands l lim, occs l lim) := by
 obtain ⟨h1, h2, h3, h4, h5, h6⟩ := tonE_zero h
 exact sweep_loop h1 h2 lim.1 lim.2 h3 h5 (cnt lim) lim.1 [] _ (by omega) (by unfold cnt; omega) (by unfold cnt; simp; omega) (by simp) List.length_replicate
theorem sweep_eqR {l : List Tn} {lim : Int × Int} (h : tonE l lim = 0) (z : Int × Int) : loopVal step87_0a (l, lim.1, lim, ([], List.replicate 256 false), z) = some ((cands l lim, occs l lim), z) := by
 obtain ⟨h1, h2, h3, h4, h5, h6⟩ := tonE_zero h
 exact sweep_loopR h1 h2 lim.1 lim.2 z h3 h5 (cnt lim) lim.1 [] _ (by omega) (by unfold cnt; omega) (by unfold cnt; simp; omega) (by simp) List.length_replicate
noncomputable def resE (rs : List (Int × Int)) : (Int × Int) × Int := if rs.length = 0 then ((0, 0), 12) else if rs.length = 1 then (rs.getD 0 (0, 0), 0) else ((0, 0), 22)
theorem cand_good {l : List Tn} {lim : Int × Int} (h : tonE l lim = 0) : s36 (l, lim) = some (bif decide (((cands l lim).length : Int) > 50) then ([], 8) else (cands l lim, 0)) := by
 have hw : win lim.1 0 1000000000 = true := by obtain ⟨_, _, h3, h4, h5, _⟩ := tonE_zero h; exact win_iff.2 (by omega)
 have he : (bif (chkT l).2 != 0 then (chkT l).2 else limE lim) = 0 := h
 unfold s36
 simp only [chkT1, inEnd, optE_some, hw, cond_true, first_in hw, he, bne_self_eq_false, cond_false, sweep_eq h]
 cases decide (((cands l lim).length : Int) > 50) <;> rfl
theorem res_good {l : List Tn} {lim : Int × Int} (h : tonE l lim = 0) : s38 (l, lim) = some (resE (cands l lim)) := by
 have hw : win lim.1 0 1000000000 = true := by obtain ⟨_, _, h3, h4, h5, _⟩ := tonE_zero h; exact win_iff.2 (by omega)
 have he : (bif (chkT l).2 != 0 then (chkT l).2 else limE lim) = 0 := h
 unfold s38
 simp only [chkT1, inEnd, optE_some, hw, cond_true, first_in hw, he, bne_self_eq_false, cond_false, sweep_eqR h]
 unfold resE
 by_cases h0 : (cands l lim).length = 0
 ·rw [if_pos h0, h0]; rfl
 ·rw [if_neg h0]
  by_cases h1 : (cands l lim).length = 1
  ·rw [if_pos h1, h1]; rfl
  ·rw [if_neg h1, decide_eq_true (show ((cands l lim).length : Int) > 0 by omega), decide_eq_false (show ¬ ((cands l lim).length : Int) < 2 by omega)]; rfl
theorem refCand_eq {l : List Tn} {lim : Int × Int} (h : tonE l lim = 0) : s40 (l, lim) = some (cands l lim) := by
 obtain ⟨h1, h2, h3, h4, h5, h6⟩ := tonE_zero h
 unfold s40
 dsimp only
 rw [cand_ref h1 h2 lim.1 lim.2 h3 h5 (cnt lim) lim.1 [] (by omega) (by unfold cnt; omega) (by unfold cnt; simp; omega) (by simp)]
 rfl
theorem cand_len (l : List Tn) : ∀ (m : Nat) (d : Int) (rs : List (Int × Int)), (candF l m d rs).length ≤ rs.length + m
 | 0, d, rs => by simp [candF]
 | m + 1, d, rs => by
   have h := cand_len l m (d + 1) (if fitL l d = true then addR rs d else rs)
   have h2 := add_len rs d
   unfold candF
   split at h
   ·rename_i hf; rw [if_pos hf]; omega
   ·rename_i hf; rw [if_neg hf]; omega
theorem cands_len {l : List Tn} {lim : Int × Int} (h : tonE l lim = 0) : (cands l lim).length ≤ 100001 := by
 have h1 := cand_len l (cnt lim) lim.1 []
 obtain ⟨_, _, h3⟩ := tonE_zero h
 have h2 : cnt lim ≤ 100000 := by unfold cnt; omega
 simp only [List.length_nil] at h1
 unfold cands
 omega
theorem ranges_self (x : List (Int × Int)) (h : x.length ≤ 1000000) : s41 (x, x) = some true := by
 unfold s41
 have h1 := loop_for (step := step41_0) (st := fun k => (x, x, (k : Int))) (n := x.length) (e := .inr ()) (fun k hk => by
  simp only [step41_0, lt_cast, inB_cast, hk, decide_true, cond_true, Int.toNat_natCast, pair_eq, cond_false, wr_succ (show k < 4611686018427387904 by omega)]) (by simp only [step41_0, lt_cast, Nat.lt_irrefl, decide_false, cond_false]) 0 (by omega)
 rw [show ((0 : Nat) : Int) = 0 from rfl] at h1
 simp only [bne_self_eq_false, cond_false, h1, optE_some, sumE_r]
theorem span_eq (lim : Int × Int) (n : Int) : ∃ b, s35 (lim, n) = some b ∧ (b = true → limE lim = 0 → wr (lim.2 - lim.1) < n) := by
 unfold s35
 simp only [limErr_eq, optE_some]
 by_cases h : limE lim = 0
 ·rw [h]
  refine ⟨_, rfl, fun hb _ => of_decide_eq_true hb⟩
 ·rw [show (limE lim != 0) = true by simpa using h]
  exact ⟨true, rfl, fun _ h' => absurd h' h⟩
theorem cands_true (y : List Tn × (Int × Int)) : s7 y = some true := by
 obtain ⟨l, lim⟩ := y
 unfold s7
 by_cases h0 : (l.length : Int) > 10
 ·simp only [Bool.not_true, cond_false, decide_eq_true h0, cond_true]
 simp only [Bool.not_true, cond_false, decide_eq_false h0]
 obtain ⟨b, hb, _⟩ := span_eq lim 600
 simp only [hb, optE_some]
 cases b with
 | false => rfl
 | true =>
   simp only [Bool.not_true, cond_false, copyT l (by omega), optE_some, tonesErr_eq]
   by_cases he : tonE l lim = 0
   case neg =>
    obtain ⟨h1, h2⟩ := cand_bad he
    simp [h1, h2, optE_some, show (tonE l lim != 0) = true by simpa using he]
   have hlen := cands_len he
   simp only [cand_good he, res_good he, optE_some, he, bne_self_eq_false, cond_false, refCand_eq he]
   generalize cands l lim = rs at hlen
   have hr := ranges_self rs (by omega)
   unfold resE
   by_cases c1 : (rs.length : Int) > 50
   ·rw [decide_eq_true c1, if_neg (by omega), if_neg (by omega), decide_eq_false (show ¬ (rs.length : Int) ≤ 50 by omega), show ((rs.length : Int) == 0) = false from beq_eq_false_iff_ne.2 (by omega), show ((rs.length : Int) == 1) = false from beq_eq_false_iff_ne.2 (by omega)]
    rfl
   ·rw [decide_eq_false c1, decide_eq_true (show (rs.length : Int) ≤ 50 by omega)]
    simp only [cond_false, cond_true, bne_self_eq_false, hr, optE_some, Bool.not_true]
    by_cases c2 : rs.length = 0
    ·rw [if_pos c2, c2]; rfl
    ·rw [if_neg c2, show ((rs.length : Int) == 0) = false from beq_eq_false_iff_ne.2 (by omega)]
     by_cases c3 : rs.length = 1
     ·rw [if_pos c3, show ((rs.length : Int) == 1) = true from beq_iff_eq.2 (by omega), show inBounds 0 rs.length = true by rw [c3]; rfl]
      simp
     ·rw [if_neg c3, show ((rs.length : Int) == 1) = false from beq_eq_false_iff_ne.2 (by omega)]; rfl
end Go.Proofs.YtfmfiflpokogiaaDoor
