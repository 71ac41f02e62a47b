/- RangingProofs: a proof that is found is accepted, and a tighter one is not. -/
import Derived.Test.YtfpppijfkeidgaaGreatDoorEnclLaw
set_option linter.unusedSimpArgs false
namespace Go.Proofs.YtfpppijfkeidgaaGreatDoor
open Go.Ev
theorem isLow_of {n d : Int} (hd : 0 < d) (h2 : d < 4611686018427387904) (h : Nat.gcd n.natAbs d.natAbs = 1) : isLow (n, d) = true := by
 unfold isLow
 simp only [eu_size hd h2, h, decide_eq_true hd]
 rfl
theorem isLow_lowF {n d : Int} (hd : 0 < d) (h2 : d < 4611686018427387904) : isLow (lowF n d) = true := by
 have hl : 1 ≤ d / ((Nat.gcd n.natAbs d.natAbs : Nat) : Int) ∧ d / ((Nat.gcd n.natAbs d.natAbs : Nat) : Int) ≤ d := lowF_den (n := n) hd
 refine isLow_of (by omega) (by omega) ?_
 have hg : 0 < Nat.gcd n.natAbs d.natAbs := Nat.gcd_pos_of_pos_right _ (by omega)
 have e : ∀ a : Int, ((Nat.gcd n.natAbs d.natAbs : Nat) : Int) ∣ a → (a / ((Nat.gcd n.natAbs d.natAbs : Nat) : Int)).natAbs = a.natAbs / Nat.gcd n.natAbs d.natAbs := fun a ha => by
  rw [Int.natAbs_ediv_of_dvd ha, Int.natAbs_natCast]
 rw [e _ (gcd_dvd_l n d), e _ (gcd_dvd_r n d)]
 exact Nat.gcd_div_gcd_div_gcd_of_pos_right (by omega)
theorem isLow_neg {f : Fr} (h : isLow f = true) (h2 : f.2 < 4611686018427387904) : isLow (-f.1, f.2) = true :=
 isLow_of (isLow_pos h) h2 (by rw [Int.natAbs_neg]; exact isLow_gcd h h2)
theorem row_of : ∀ (l : List Msr) (i : Nat) (r : Rw), r ∈ rwsF i l → ∃ (j : Nat) (up : Bool), j < l.length ∧ r = rwOf (l.getD j (0, 0, 0, 0, 0)) ((i + j : Nat) : Int) up
 | [], _, _, h => by cases h
 | m :: l, i, r, h => by
   simp only [rwsF, List.mem_cons] at h
   rcases h with h | h | h
   ·exact ⟨0, true, by simp, h⟩
   ·exact ⟨0, false, by simp, h⟩
   ·obtain ⟨j, up, hj, e⟩ := row_of l (i + 1) r h
    exact ⟨j + 1, up, by simpa using hj, by rw [e, show i + 1 + j = i + (j + 1) by omega]; rfl⟩
def smR (s : Int × Int × Int) (w : Int) (r : Rw) : Int × Int × Int := (s.1 + w * r.1.1, s.2.1 + w * r.1.2, s.2.2 + w * r.2.1)
theorem tl_cons {l : List Msr} {r : Rw} (hr : r ∈ rwsF 0 l) {w : Int} (hw : 1 ≤ w ∧ w ≤ 100000000) (T : List Tm) (s : Int × Int × Int) : tl l ((r.2.2.1, r.2.2.2, w) :: T) s = tl l T (smR s w r) := by
 obtain ⟨j, up, hj, rfl⟩ := row_of l 0 r hr
 have h1 : tE l.length (((rwOf (l.getD j (0, 0, 0, 0, 0)) ((0 + j : Nat) : Int) up).2.2.1, (rwOf (l.getD j (0, 0, 0, 0, 0)) ((0 + j : Nat) : Int) up).2.2.2, w) : Tm) = 0 := by
  unfold tE rwOf
  rw [show win ((0 + j : Nat) : Int) 0 ((l.length : Int) - 1) = true from win_iff.2 (by omega), show win w 1 100000000 = true from win_iff.2 (by omega)]
  rfl
 rw [tl, h1]
 show tl l T _ = _
 congr 1
 unfold acc smR rwOf
 simp
theorem tl_nil (l : List Msr) (s : Int × Int × Int) : tl l [] s = .inr s := rfl
theorem tl_addT {l : List Msr} {r : Rw} (hr : r ∈ rwsF 0 l) {w : Int} (hw : 0 ≤ w ∧ w ≤ 100000000) : ∀ (c : Cd) (s s' : Int × Int × Int), tl l c.1 s = .inr s' → tl l (addT r w c).1 s = .inr (smR s' w r) := by
 intro c s s' h
 unfold addT
 split
 ·simp only
  obtain ⟨T, c2⟩ := c
  simp only at h ⊢
  induction T generalizing s with
  | nil => cases h; rw [List.nil_append, tl_cons hr (by omega)]; rfl
  | cons t T ih =>
    rw [tl] at h
    rw [List.cons_append, tl]
    cases hb : tE l.length t != 0 with
    | true => rw [hb] at h; cases h
    | false => rw [hb] at h; exact ih _ h
 ·have : w = 0 := by omega
  subst this
  rw [h]
  unfold smR
  simp
theorem addT_len (r : Rw) (w : Int) (c : Cd) : (addT r w c).1.length ≤ c.1.length + 1 := by
 unfold addT
 split <;> simp
theorem cand_tl {l : List Msr} (hv' : ∀ m ∈ l, mErr m = 0) {f : Vc} (hf : Dir f) {c : Cd} (hc : some c ∈ candL f (rwsF 0 l)) : tl l c.1 (0, 0, 0) = .inr (c.2.1 * f.1, c.2.1 * f.2, c.2.2) ∧ c.1.length ≤ 2 := by
 have hR := rws_ok hv' 0
 have hRw : ∀ r ∈ rwsF 0 l, RwOk r := fun r hr => rwOk_of (hR r hr)
 obtain ⟨i, hi, h | ⟨j, hj, h⟩⟩ := cand_mem.1 hc
 ·have hm := getD_mem rw0 hi
  unfold oneC at h
  split at h
  ·rename_i ha
   obtain rfl := Option.some.inj h
   obtain ⟨a1, a2⟩ := alg_pos ha
   obtain ⟨_, b1, b2⟩ := alg_exact hf a1 a2
   refine ⟨?_, by simp⟩
   simp only
   rw [tl_cons hm (by omega), tl_nil]
   unfold smR
   simp only [Int.zero_add, Int.one_mul, ← b1, ← b2]
  ·cases h
 ·have hmi := getD_mem rw0 hi
  have hmj := getD_mem (l := rwsF 0 l) (k := j) rw0 (by omega)
  obtain ⟨D, P, Q, hn, hD, hP, hQ, hcc, e1, e2⟩ := pairC_some h
  obtain ⟨_, _, c1⟩ := crs_facts (hRw _ hmj).1 (hRw _ hmi).1
  obtain ⟨_, _, c2⟩ := crs_facts hf.1 (hRw _ hmi).1
  obtain ⟨_, _, c3⟩ := crs_facts (hRw _ hmj).1 hf.1
  obtain ⟨n1, n2, n3⟩ := nrm_facts c1 c2 c3
  rw [hn] at n1 n2 n3
  simp only at n1 n2 n3
  have t1 := tl_addT hmj (w := P) (by omega) (([], D, 0) : Cd) (0, 0, 0) _ rfl
  have t2 := tl_addT hmi (w := Q) (by omega) _ _ _ t1
  have l1 := addT_len ((rwsF 0 l).getD j rw0) P (([], D, 0) : Cd)
  have l2 := addT_len ((rwsF 0 l).getD i rw0) Q (addT ((rwsF 0 l).getD j rw0) P (([], D, 0) : Cd))
  simp only [List.length_nil] at l1
  refine ⟨?_, by rw [hcc]; omega⟩
  rw [e1, e2, show c.1 = (addT ((rwsF 0 l).getD i rw0) Q (addT ((rwsF 0 l).getD j rw0) P ([], D, 0))).1 by rw [hcc], t2]
  generalize (rwsF 0 l).getD i rw0 = r at *
  generalize (rwsF 0 l).getD j rw0 = s at *
  have x : P * s.1.1 + Q * r.1.1 = D * f.1 ∧ P * s.1.2 + Q * r.1.2 = D * f.2 := by
   have hn' := hn
   unfold nrm at hn'
   split at hn'
   ·injection hn' with k1 k2
    injection k2 with k2 k3
    unfold crs at k1 k2 k3
    subst k1 k2 k3
    constructor <;> grind
   ·injection hn' with k1 k2
    injection k2 with k2 k3
    unfold crs at k1 k2 k3
    subst k1 k2 k3
    constructor <;> grind
  unfold smR
  simp only [Int.zero_add, x.1, x.2]
def asF (q : Int × Bool) : Vc := (sg q.2, sg q.2 * q.1)
theorem dir_asked {q : Int × Bool} (h : 0 ≤ q.1 ∧ q.1 ≤ 1000) : Dir (asF q) := by
 unfold asF sg Dir VOk
 cases q.2 <;> simp <;> omega
theorem sg_sq (b : Bool) : sg b * sg b = 1 := by cases b <;> rfl
theorem clE_zero {q : Int × Bool} {x : Fr} {T : List Tm} {S : Int} (ht : 0 ≤ q.1 ∧ q.1 ≤ 1000) (hx : isLow x = true) (h1 : -1000000000 ≤ x.1 ∧ x.1 ≤ 1000000000) (h2 : x.2 ≤ 1000000000) (hS : 1 ≤ S ∧ S ≤ 100000000) (hT : T.length ≤ 6) : clE (q, x, T, S) = 0 := by
 have e : frE x 1000000000 1000000000 = 0 := by
  unfold frE
  rw [hx, show wr (-1000000000) = -1000000000 from rfl, win_iff.2 h1, decide_eq_true h2]
  rfl
 unfold clE
 simp only [e, win_iff.2 ht, win_iff.2 hS, decide_eq_true (show (T.length : Int) ≤ 6 by omega)]
 rfl
section
variable {l : List Msr} (hv' : ∀ m ∈ l, mErr m = 0) {q : Int × Bool} (ht : 0 ≤ q.1 ∧ q.1 ≤ 1000) {c : Cd} (hc : some c ∈ candL (asF q) (rwsF 0 l)) {x : Fr} (hx : FOk x) (hlow : isLow x = true) (hcr : c.2.2 * x.2 = x.1 * c.2.1)
include hv' ht hc
theorem cl_val {y : Fr} (hy : isLow y = true) (h1 : -1000000000 ≤ y.1 ∧ y.1 ≤ 1000000000) (h2 : y.2 ≤ 1000000000) : clV l (q, y, c.1, c.2.1) = unl (!decide (c.2.2 * y.2 > sg q.2 * y.1 * c.2.1)) 19 := by
 have hR := rws_ok hv' 0
 have hRw : ∀ r ∈ rwsF 0 l, RwOk r := fun r hr => rwOk_of (hR r hr)
 have hf := dir_asked ht
 have hp := cand_pos hc
 have hok : CdOk c := by
  obtain ⟨i, hi, h | ⟨j, hj, h⟩⟩ := cand_mem.1 hc
  ·exact oneC_ok (hRw _ (getD_mem rw0 hi)) c h
  ·exact pairC_ok hf.1 (hRw _ (getD_mem rw0 (show j < (rwsF 0 l).length by omega))) (hRw _ (getD_mem rw0 hi)) c h
 obtain ⟨t1, t2⟩ := cand_tl hv' hf hc
 have hz : clE (q, y, c.1, c.2.1) = 0 := clE_zero ht hy h1 h2 (by have := hok.1; omega) (by omega)
 unfold clV
 rw [hz, if_neg (fun h => h rfl)]
 simp only [t1]
 unfold okP asF
 simp only [show c.2.1 * sg q.2 = sg q.2 * c.2.1 from Int.mul_comm _ _, show c.2.1 * (sg q.2 * q.1) = sg q.2 * c.2.1 * q.1 by grind, beq_self_eq_true, Bool.true_and]
include hx hlow hcr
theorem cl_own : clV l (q, (sg q.2 * x.1, x.2), c.1, c.2.1) = 0 := by
 obtain ⟨a1, a2⟩ := hx
 have hlow' : isLow (sg q.2 * x.1, x.2) = true := by
  cases hq : q.2 with
  | true => rw [show sg true * x.1 = x.1 from Int.one_mul _]; exact hlow
  | false => rw [show sg false * x.1 = -x.1 by unfold sg; simp]; exact isLow_neg hlow (by omega)
 have hb : -400000000 ≤ sg q.2 * x.1 ∧ sg q.2 * x.1 ≤ 400000000 := by unfold sg; cases q.2 <;> simp <;> omega
 rw [cl_val hv' ht hc hlow' (by simp only; omega) (by simp only; omega)]
 simp only
 rw [show sg q.2 * (sg q.2 * x.1) = x.1 by rw [← Int.mul_assoc, sg_sq, Int.one_mul], hcr, decide_eq_false (by omega)]
 rfl
end
end Go.Proofs.YtfpppijfkeidgaaGreatDoor
