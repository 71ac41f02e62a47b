/- RangingCandidates: its law holds. -/
import Derived.Test.YtdoehknomnhlkaaDoorCands
set_option linter.unusedSimpArgs false
namespace Go.Proofs.YtdoehknomnhlkaaDoor
open Go.Ev
noncomputable def limE (lim : Int × Int) : Int := bif !(win lim.1 0 1000000000) then 2 else bif !(win lim.2 0 1000000000) then 2 else bif decide (lim.1 > lim.2) then 9 else bif decide (wr (lim.2 - lim.1) ≥ 100000) then 8 else 0
theorem limErr_eq (lim : Int × Int) : s15 lim = some (limE lim) := by
 unfold s15 limE
 cases win lim.1 0 1000000000 <;> cases win lim.2 0 1000000000 <;> cases decide (lim.1 > lim.2) <;> cases decide (wr (lim.2 - lim.1) ≥ 100000) <;> rfl
noncomputable def tonE (l : List Tn) (lim : Int × Int) : Int := bif (chkT l).2 != 0 then (chkT l).2 else limE lim
theorem tonesErr_eq (l : List Tn) (lim : Int × Int) : s9 (l, lim) = some (tonE l lim) := by
 unfold s9 tonE
 simp only [chkT2, optE_some, limErr_eq]
 cases (chkT l).2 != 0 <;> rfl
theorem first_in {c : Int} {lim : Int × Int} (h : win lim.1 0 1000000000 = true) :
 firstE [c, unl (win lim.2 0 1000000000) 2, unl (decide (lim.1 ≤ lim.2)) 9, unl (decide (wr (lim.2 - lim.1) < 100000)) 8] = bif c != 0 then c else limE lim := by
 unfold limE
 rw [h, dec_gt lim.1, dec_ge (wr (lim.2 - lim.1))]
 simp only [firstE, unl]
 cases c != 0 <;> cases win lim.2 0 1000000000 <;> cases decide (lim.1 ≤ lim.2) <;> cases decide (wr (lim.2 - lim.1) < 100000) <;> rfl
theorem first_out {c x y : Int} {lim : Int × Int} (h : win lim.1 0 1000000000 = false) : firstE [c, unl false 2, x, y] = bif c != 0 then c else limE lim := by
 unfold limE
 rw [h]
 simp only [firstE, unl]
 cases c != 0 <;> rfl
theorem limE_zero {lim : Int × Int} (h : limE lim = 0) : 0 ≤ lim.1 ∧ lim.1 ≤ lim.2 ∧ lim.2 ≤ 1000000000 ∧ lim.2 - lim.1 < 100000 := by
 unfold limE at h
 cases h1 : win lim.1 0 1000000000 with
 | false => rw [h1] at h; cases h
 | true =>
   cases h2 : win lim.2 0 1000000000 with
   | false => rw [h1, h2] at h; cases h
   | true =>
     have g1 := win_iff.1 h1
     have g2 := win_iff.1 h2
     by_cases h3 : lim.1 > lim.2
     ·rw [h1, h2, decide_eq_true h3] at h; cases h
     ·by_cases h4 : wr (lim.2 - lim.1) ≥ 100000
      ·rw [h1, h2, decide_eq_false h3, decide_eq_true h4] at h; cases h
      ·rw [wr_id (by omega) (by omega)] at h4
       omega
theorem tonE_zero {l : List Tn} {lim : Int × Int} (h : tonE l lim = 0) : l.length ≤ 8 ∧ (∀ t ∈ l, tErr t = 0) ∧ (0 ≤ lim.1 ∧ lim.1 ≤ lim.2 ∧ lim.2 ≤ 1000000000 ∧ lim.2 - lim.1 < 100000) := by
 unfold tonE at h
 by_cases hc : (chkT l).2 = 0
 ·rw [hc] at h
  obtain ⟨h1, h2⟩ := (chkE_zero tErr (0, 0, 0) 8 l).1 hc
  exact ⟨by omega, h2, limE_zero h⟩
 ·rw [show ((chkT l).2 != 0) = true by simpa using hc] at h
  exact absurd h hc
def cnt (lim : Int × Int) : Nat := (lim.2 + 1 - lim.1).toNat
def cands (l : List Tn) (lim : Int × Int) : List (Int × Int) := candF l (cnt lim) lim.1 []
def occs (l : List Tn) (lim : Int × Int) : List Bool := occF l (cnt lim) lim.1 (List.replicate 256 false)
theorem inEnd (n : Int) : s41 n = some (win n 0 1000000000) := rfl
theorem cand_bad {l : List Tn} {lim : Int × Int} (h : tonE l lim ≠ 0) : s19 (l, lim) = some ([], tonE l lim) ∧ s12 (l, lim) = some ((0, 0), tonE l lim) := by
 have hb : (tonE l lim != 0) = true := by simpa using h
 unfold s19 s12
 simp only [chkT1, inEnd, optE_some]
 cases h1 : win lim.1 0 1000000000 with
 | true =>
   simp only [cond_true, first_in h1]
   show (bif tonE l lim != 0 then (bif tonE l lim != 0 then some (([] : List (Int × Int)), tonE l lim) else none) else _) = _ ∧ (bif tonE l lim != 0 then (bif tonE l lim != 0 then some (((0 : Int), (0 : Int)), tonE l lim) else none) else _) = _
   rw [hb]
   exact ⟨rfl, rfl⟩
 | false =>
   simp only [cond_false, first_out h1]
   show (bif tonE l lim != 0 then (bif tonE l lim != 0 then some (([] : List (Int × Int)), tonE l lim) else none) else _) = _ ∧ (bif tonE l lim != 0 then (bif tonE l lim != 0 then some (((0 : Int), (0 : Int)), tonE l lim) else none) else _) = _
   rw [hb]
   exact ⟨rfl, rfl⟩
theorem sweep_eq {l : List Tn} {lim : Int × Int} (h : tonE l lim = 0) : loopVal step26_0 (l, lim.1, lim, ([], List.replicate 256 false)) = some (cands l lim, occs l lim) := by
 obtain ⟨h1, h2, h3, h4, h5, h6⟩ := tonE_zero h
 exact sweep_loop h1 h2 lim.1 lim.2 h3 h5 (cnt lim) lim.1 [] _ (by omega) (by unfold cnt; omega) (by unfold cnt; simp; omega) (by simp) List.length_replicate
theorem sweep_eqR {l : List Tn} {lim : Int × Int} (h : tonE l lim = 0) (z : Int × Int) : loopVal step26_0a (l, lim.1, lim, ([], List.replicate 256 false), z) = some ((cands l lim, occs l lim), z) := by
 obtain ⟨h1, h2, h3, h4, h5, h6⟩ := tonE_zero h
 exact sweep_loopR h1 h2 lim.1 lim.2 z h3 h5 (cnt lim) lim.1 [] _ (by omega) (by unfold cnt; omega) (by unfold cnt; simp; omega) (by simp) List.length_replicate
noncomputable def resE (rs : List (Int × Int)) : (Int × Int) × Int := if rs.length = 0 then ((0, 0), 12) else if rs.length = 1 then (rs.getD 0 (0, 0), 0) else ((0, 0), 22)
theorem cand_good {l : List Tn} {lim : Int × Int} (h : tonE l lim = 0) : s19 (l, lim) = some (bif decide (((cands l lim).length : Int) > 50) then ([], 8) else (cands l lim, 0)) := by
 have hw : win lim.1 0 1000000000 = true := by obtain ⟨_, _, h3, h4, h5, _⟩ := tonE_zero h; exact win_iff.2 (by omega)
 have he : (bif (chkT l).2 != 0 then (chkT l).2 else limE lim) = 0 := h
 unfold s19
 simp only [chkT1, inEnd, optE_some, hw, cond_true, first_in hw, he, bne_self_eq_false, cond_false, sweep_eq h]
 cases decide (((cands l lim).length : Int) > 50) <;> rfl
theorem res_good {l : List Tn} {lim : Int × Int} (h : tonE l lim = 0) : s12 (l, lim) = some (resE (cands l lim)) := by
 have hw : win lim.1 0 1000000000 = true := by obtain ⟨_, _, h3, h4, h5, _⟩ := tonE_zero h; exact win_iff.2 (by omega)
 have he : (bif (chkT l).2 != 0 then (chkT l).2 else limE lim) = 0 := h
 unfold s12
 simp only [chkT1, inEnd, optE_some, hw, cond_true, first_in hw, he, bne_self_eq_false, cond_false, sweep_eqR h]
 unfold resE
 by_cases h0 : (cands l lim).length = 0
 ·rw [if_pos h0, h0]; rfl
 ·rw [if_neg h0]
  by_cases h1 : (cands l lim).length = 1
  ·rw [if_pos h1, h1]; rfl
  ·rw [if_neg h1, decide_eq_true (show ((cands l lim).length : Int) > 0 by omega), decide_eq_false (show ¬ ((cands l lim).length : Int) < 2 by omega)]; rfl
theorem cand_len (l : List Tn) : ∀ (m : Nat) (d : Int) (rs : List (Int × Int)), (candF l m d rs).length ≤ rs.length + m
 | 0, d, rs => by simp [candF]
 | m + 1, d, rs => by
   have h := cand_len l m (d + 1) (if fitL l d = true then addR rs d else rs)
   have h2 := add_len rs d
   unfold candF
   split at h
   ·rename_i hf; rw [if_pos hf]; omega
   ·rename_i hf; rw [if_neg hf]; omega
theorem cands_len {l : List Tn} {lim : Int × Int} (h : tonE l lim = 0) : (cands l lim).length ≤ 100001 := by
 have h1 := cand_len l (cnt lim) lim.1 []
 obtain ⟨_, _, h3⟩ := tonE_zero h
 have h2 : cnt lim ≤ 100000 := by unfold cnt; omega
 simp only [List.length_nil] at h1
 unfold cands
 omega
theorem span_eq (lim : Int × Int) (n : Int) : ∃ b, s6 (lim, n) = some b ∧ (b = true → limE lim = 0 → wr (lim.2 - lim.1) < n) := by
 unfold s6
 simp only [limErr_eq, optE_some]
 by_cases h : limE lim = 0
 ·rw [h]
  refine ⟨_, rfl, fun hb _ => of_decide_eq_true hb⟩
 ·rw [show (limE lim != 0) = true by simpa using h]
  exact ⟨true, rfl, fun _ h' => absurd h' h⟩
theorem sweep_eqB {l : List Tn} {lim : Int × Int} (h : tonE l lim = 0) (l' : List Tn) (z : List Int) (z' : Int) : loopVal step26_0b (l, lim.1, l', lim, ([], List.replicate 256 false), z, z') = some (l', (cands l lim, occs l lim), z, z') := by
 obtain ⟨h1, h2, h3, h4, h5, h6⟩ := tonE_zero h
 exact sweep_loopB h1 h2 l' lim.1 lim.2 z z' h3 h5 (cnt lim) lim.1 [] _ (by omega) (by unfold cnt; omega) (by unfold cnt; simp; omega) (by simp) List.length_replicate
end Go.Proofs.YtdoehknomnhlkaaDoor
