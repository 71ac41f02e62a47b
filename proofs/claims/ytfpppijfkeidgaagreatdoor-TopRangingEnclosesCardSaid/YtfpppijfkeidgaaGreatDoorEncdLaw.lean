/- RangingEnclosed: what is possible is enclosed. -/
import Derived.Test.YtfpppijfkeidgaaGreatDoorSets
import Derived.Test.YtfpppijfkeidgaaGreatDoorProofsLaw
import Derived.Test.YtfpppijfkeidgaaGreatDoorSound
set_option linter.unusedSimpArgs false
namespace Go.Proofs.YtfpppijfkeidgaaGreatDoor
open Go.Ev
theorem dn_pos {x : Fr × Fr} (hx : lnE x = 0) : (1 ≤ x.1.2 ∧ x.1.2 ≤ 1000) ∧ (1 ≤ x.2.2 ∧ x.2.2 ≤ 1000) ∧ (1 ≤ dn x ∧ dn x ≤ 1000000) ∧ (-100000 ≤ x.1.1 ∧ x.1.1 ≤ 100000) ∧ (-100000 ≤ x.2.1 ∧ x.2.1 ≤ 100000) := by
 obtain ⟨h1, h2⟩ := lnE_ok hx
 obtain ⟨_, h3, h4⟩ := ptE_ok h1
 obtain ⟨_, h5, h6⟩ := ptE_ok h2
 have d1 := mulB (a := x.1.2) (b := x.2.2) (A := 1000) (B := 1000) (by omega) (by omega)
 have d2 := Int.mul_le_mul h4.1 h6.1 (by omega) (by omega)
 unfold dn
 omega
theorem feas_sat {x : Fr × Fr} {l : List Msr} (hx : lnE x = 0) (hs : Sat x l) : Feas (hvs l) := by
 refine ⟨x.1.1 * x.2.2, x.2.1 * x.1.2, dn x, by have := dn_pos hx; omega, fun h hh => ?_⟩
 unfold hvs at hh
 obtain ⟨m, hm, hh⟩ := List.mem_flatMap.1 hh
 simp only [List.mem_cons, List.not_mem_nil, or_false] at hh
 rcases hh with rfl | rfl
 ·exact hf_sat hs hm true
 ·exact hf_sat hs hm false
def qOf (c : Cd) : Fr := lowF c.2.2 c.2.1
theorem cd_ok {l : List Msr} (hv' : ∀ m ∈ l, mErr m = 0) {f : Vc} (hf : Dir f) {c : Cd} (hc : some c ∈ candL f (rwsF 0 l)) : CdOk c := by
 have hR := rws_ok hv' 0
 have hRw : ∀ r ∈ rwsF 0 l, RwOk r := fun r hr => rwOk_of (hR r hr)
 obtain ⟨i, hi, h | ⟨j, hj, h⟩⟩ := cand_mem.1 hc
 ·exact oneC_ok (hRw _ (getD_mem rw0 hi)) c h
 ·exact pairC_ok hf.1 (hRw _ (getD_mem rw0 (show j < (rwsF 0 l).length by omega))) (hRw _ (getD_mem rw0 hi)) c h
theorem q_ok {l : List Msr} (hv' : ∀ m ∈ l, mErr m = 0) {f : Vc} (hf : Dir f) {c : Cd} (hc : some c ∈ candL f (rwsF 0 l)) : FOk (qOf c) ∧ isLow (qOf c) = true ∧ (qOf c).1 * c.2.1 = c.2.2 * (qOf c).2 := by
 have h1 := cd_ok hv' hf hc
 have h2 := cand_pos hc
 obtain ⟨h3, h4⟩ := h1
 exact ⟨lowF_ok (by omega) (by omega), isLow_lowF h2 (by omega), lowF_cross _ _⟩
theorem bound_line {l : List Msr} (hv' : ∀ m ∈ l, mErr m = 0) {x : Fr × Fr} (hs : Sat x l) {f : Vc} (hf : Dir f) {c : Cd} (hc : some c ∈ candL f (rwsF 0 l)) : lhs x f.1 f.2 * (qOf c).2 ≤ (qOf c).1 * dn x := by
 obtain ⟨t1, _⟩ := cand_tl hv' hf hc
 have h := tl_sat hs c.1 (0, 0, 0) _ (by unfold lhs; simp) t1
 obtain ⟨⟨_, o2⟩, _, o3⟩ := q_ok hv' hf hc
 have hp := cand_pos hc
 have e1 : lhs x (c.2.1 * f.1) (c.2.1 * f.2) = c.2.1 * lhs x f.1 f.2 := by unfold lhs; grind
 simp only at h
 rw [e1] at h
 have h2 := Int.mul_le_mul_of_nonneg_right h (show 0 ≤ (qOf c).2 by omega)
 generalize lhs x f.1 f.2 = L at *
 have e2 : c.2.2 * dn x * (qOf c).2 = ((qOf c).1 * dn x) * c.2.1 := by
  rw [Int.mul_right_comm, ← o3, Int.mul_right_comm]
 have e3 : c.2.1 * L * (qOf c).2 = (L * (qOf c).2) * c.2.1 := by grind
 rw [e2, e3] at h2
 exact Int.le_of_mul_le_mul_right h2 hp
theorem no_sets {x : Fr × Fr} (hx : lnE x = 0) {l : List Msr} (hv' : ∀ m ∈ l, mErr m = 0) (hs : Sat x l) : fst2 l = none ∧ fst3 l = none := by
 have key : ∀ s : List Msr, s.length ≤ 100 → (∀ m ∈ s, m ∈ l) → posB s = true := fun s h1 h2 =>
  (posB_eq h1 (fun m hm => hv' m (h2 m hm))).2.2 (feas_not (hvs_ok (fun m hm => hv' m (h2 m hm))) (feas_sat hx (fun m hm => hs m (h2 m hm))))
 constructor
 ·refine firstN_none.2 fun a h1 h2 => ?_
  have : nx2 l a = none := firstN_none.2 fun j h3 h4 => by
   unfold bad2
   rw [key _ (by simp) (fun m hm => by
    simp only [List.mem_cons, List.not_mem_nil, or_false] at hm
    rcases hm with rfl | rfl
    ·exact getD_mem ms0 (by omega)
    ·exact getD_mem ms0 (by omega))]
   rfl
  rw [this]; rfl
 ·refine firstN_none.2 fun a h1 h2 => ?_
  have : md3 l a = none := firstN_none.2 fun b h3 h4 => by
   have : nx3 l a b = none := firstN_none.2 fun j h5 h6 => by
    unfold bad3
    rw [key _ (by simp) (fun m hm => by
     simp only [List.mem_cons, List.not_mem_nil, or_false] at hm
     rcases hm with rfl | rfl | rfl
     ·exact getD_mem ms0 (by omega)
     ·exact getD_mem ms0 (by omega)
     ·exact getD_mem ms0 (by omega))]
    rfl
   rw [this]; rfl
  rw [this]; rfl
theorem cmp_le {a b : Int} (h : a ≤ b) : decide (cmpI a b > 0) = false ∧ decide (cmpI a b ≤ 0) = true := by
 unfold cmpI
 split
 ·exact ⟨rfl, rfl⟩
 ·split
  ·exact ⟨rfl, rfl⟩
  ·omega
theorem comp_le {n d m k : Int} (hn : -200100000000 ≤ n ∧ n ≤ 200100000000) (hd : 1 ≤ d ∧ d ≤ 1000000) (hm : -200100000000 ≤ m ∧ m ≤ 200100000000) (hk : 1 ≤ k ∧ k ≤ 1000000) (h : n * k ≤ m * d) :
 ∃ r, s46 (n, d, m, k) = some r ∧ decide (r > 0) = false ∧ decide (r ≤ 0) = true :=
 ⟨_, compare_eq (by omega) (by omega) (by omega) (by omega), cmp_le h⟩
end Go.Proofs.YtfpppijfkeidgaaGreatDoor
