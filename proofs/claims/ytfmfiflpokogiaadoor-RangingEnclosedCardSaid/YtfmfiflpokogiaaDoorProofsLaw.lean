import Derived.Test.YtfmfiflpokogiaaDoorEnclLaw
set_option linter.unusedSimpArgs false
namespace Go.Proofs.YtfmfiflpokogiaaDoor
open Go.Ev
theorem isLow_of {n d : Int} (hd : 0 < d) (h2 : d < 4611686018427387904) (h : Nat.gcd n.natAbs d.natAbs = 1) : isLow (n, d) = true := by
 unfold isLow
 simp only [eu_size hd h2, h, decide_eq_true hd]
 rfl
theorem isLow_lowF {n d : Int} (hd : 0 < d) (h2 : d < 4611686018427387904) : isLow (lowF n d) = true := by
 have hl : 1 ≤ d / ((Nat.gcd n.natAbs d.natAbs : Nat) : Int) ∧ d / ((Nat.gcd n.natAbs d.natAbs : Nat) : Int) ≤ d := lowF_den (n := n) hd
 refine isLow_of (by omega) (by omega) ?_
 have hg : 0 < Nat.gcd n.natAbs d.natAbs := Nat.gcd_pos_of_pos_right _ (by omega)
 have e : ∀ a : Int, ((Nat.gcd n.natAbs d.natAbs : Nat) : Int) ∣ a → (a / ((Nat.gcd n.natAbs d.natAbs : Nat) : Int)).natAbs = a.natAbs / Nat.gcd n.natAbs d.natAbs := fun a ha => by
  rw [Int.natAbs_ediv_of_dvd ha, Int.natAbs_natCast]
 rw [e _ (gcd_dvd_l n d), e _ (gcd_dvd_r n d)]
 exact Nat.gcd_div_gcd_div_gcd_of_pos_right (by omega)
theorem isLow_neg {f : Fr} (h : isLow f = true) (h2 : f.2 < 4611686018427387904) : isLow (-f.1, f.2) = true :=
 isLow_of (isLow_pos h) h2 (by rw [Int.natAbs_neg]; exact isLow_gcd h h2)
theorem row_of : ∀ (l : List Msr) (i : Nat) (r : Rw), r ∈ rwsF i l → ∃ (j : Nat) (up : Bool), j < l.length ∧ r = rwOf (l.getD j (0, 0, 0, 0, 0)) ((i + j : Nat) : Int) up
 | [], _, _, h => by cases h
 | m :: l, i, r, h => by
   simp only [rwsF, List.mem_cons] at h
   rcases h with h | h | h
   ·exact ⟨0, true, by simp, h⟩
   ·exact ⟨0, false, by simp, h⟩
   ·obtain ⟨j, up, hj, e⟩ := row_of l (i + 1) r h
    exact ⟨j + 1, up, by simpa using hj, by rw [e, show i + 1 + j = i + (j + 1) by omega]; rfl⟩
def smR (s : Int × Int × Int) (w : Int) (r : Rw) : Int × Int × Int := (s.1 + w * r.1.1, s.2.1 + w * r.1.2, s.2.2 + w * r.2.1)
theorem tl_cons {l : List Msr} {r : Rw} (hr : r ∈ rwsF 0 l) {w : Int} (hw : 1 ≤ w ∧ w ≤ 100000000) (T : List Tm) (s : Int × Int × Int) : tl l ((r.2.2.1, r.2.2.2, w) :: T) s = tl l T (smR s w r) := by
 obtain ⟨j, up, hj, rfl⟩ := row_of l 0 r hr
 have h1 : tE l.length (((rwOf (l.getD j (0, 0, 0, 0, 0)) ((0 + j : Nat) : Int) up).2.2.1, (rwOf (l.getD j (0, 0, 0, 0, 0)) ((0 + j : Nat) : Int) up).2.2.2, w) : Tm) = 0 := by
  unfold tE rwOf
  rw [show win ((0 + j : Nat) : Int) 0 ((l.length : Int) - 1) = true from win_iff.2 (by omega), show win w 1 100000000 = true from win_iff.2 (by omega)]
  rfl
 rw [tl, h1]
 show tl l T _ = _
 congr 1
 unfold acc smR rwOf
 simp
theorem tl_nil (l : List Msr) (s : Int × Int × Int) : tl l [] s = .inr s := rfl
theorem tl_addT {l : List Msr} {r : Rw} (hr : r ∈ rwsF 0 l) {w : Int} (hw : 0 ≤ w ∧ w ≤ 100000000) : ∀ (c : Cd) (s s' : Int × Int × Int), tl l c.1 s = .inr s' → tl l (addT r w c).1 s = .inr (smR s' w r) := by
 intro c s s' h
 unfold addT
 split
 ·simp only
  obtain ⟨T, c2⟩ := c
  simp only at h ⊢
  induction T generalizing s with
  | nil => cases h; rw [List.nil_append, tl_cons hr (by omega)]; rfl
  | cons t T ih =>
    rw [tl] at h
    rw [List.cons_append, tl]
    cases hb : tE l.length t != 0 with
    | true => rw [hb] at h; cases h
    | false => rw [hb] at h; exact ih _ h
 ·have : w = 0 := by omega
  subst this
  rw [h]
  unfold smR
  simp
theorem addT_len (r : Rw) (w : Int) (c : Cd) : (addT r w c).1.length ≤ c.1.length + 1 := by
 unfold addT
 split <;> simp
theorem cand_tl {l : List Msr} (hv' : ∀ m ∈ l, mErr m = 0) {f : Vc} (hf : Dir f) {c : Cd} (hc : some c ∈ candL f (rwsF 0 l)) : tl l c.1 (0, 0, 0) = .inr (c.2.1 * f.1, c.2.1 * f.2, c.2.2) ∧ c.1.length ≤ 2 := by
 have hR := rws_ok hv' 0
 have hRw : ∀ r ∈ rwsF 0 l, RwOk r := fun r hr => rwOk_of (hR r hr)
 obtain ⟨i, hi, h | ⟨j, hj, h⟩⟩ := cand_mem.1 hc
 ·have hm := getD_mem rw0 hi
  unfold oneC at h
  split at h
  ·rename_i ha
   obtain rfl := Option.some.inj h
   obtain ⟨a1, a2⟩ := alg_pos ha
   obtain ⟨_, b1, b2⟩ := alg_exact hf a1 a2
   refine ⟨?_, by simp⟩
   simp only
   rw [tl_cons hm (by omega), tl_nil]
   unfold smR
   simp only [Int.zero_add, Int.one_mul, ← b1, ← b2]
  ·cases h
 ·have hmi := getD_mem rw0 hi
  have hmj := getD_mem (l := rwsF 0 l) (k := j) rw0 (by omega)
  obtain ⟨D, P, Q, hn, hD, hP, hQ, hcc, e1, e2⟩ := pairC_some h
  obtain ⟨_, _, c1⟩ := crs_facts (hRw _ hmj).1 (hRw _ hmi).1
  obtain ⟨_, _, c2⟩ := crs_facts hf.1 (hRw _ hmi).1
  obtain ⟨_, _, c3⟩ := crs_facts (hRw _ hmj).1 hf.1
  obtain ⟨n1, n2, n3⟩ := nrm_facts c1 c2 c3
  rw [hn] at n1 n2 n3
  simp only at n1 n2 n3
  have t1 := tl_addT hmj (w := P) (by omega) (([], D, 0) : Cd) (0, 0, 0) _ rfl
  have t2 := tl_addT hmi (w := Q) (by omega) _ _ _ t1
  have l1 := addT_len ((rwsF 0 l).getD j rw0) P (([], D, 0) : Cd)
  have l2 := addT_len ((rwsF 0 l).getD i rw0) Q (addT ((rwsF 0 l).getD j rw0) P (([], D, 0) : Cd))
  simp only [List.length_nil] at l1
  refine ⟨?_, by rw [hcc]; omega⟩
  rw [e1, e2, show c.1 = (addT ((rwsF 0 l).getD i rw0) Q (addT ((rwsF 0 l).getD j rw0) P ([], D, 0))).1 by rw [hcc], t2]
  generalize (rwsF 0 l).getD i rw0 = r at *
  generalize (rwsF 0 l).getD j rw0 = s at *
  have x : P * s.1.1 + Q * r.1.1 = D * f.1 ∧ P * s.1.2 + Q * r.1.2 = D * f.2 := by
   have hn' := hn
   unfold nrm at hn'
   split at hn'
   ·injection hn' with k1 k2
    injection k2 with k2 k3
    unfold crs at k1 k2 k3
    subst k1 k2 k3
    constructor <;> grind
   ·injection hn' with k1 k2
    injection k2 with k2 k3
    unfold crs at k1 k2 k3
    subst k1 k2 k3
    constructor <;> grind
  unfold smR
  simp only [Int.zero_add, x.1, x.2]
def asF (q : Int × Bool) : Vc := (sg q.2, sg q.2 * q.1)
theorem dir_asked {q : Int × Bool} (h : 0 ≤ q.1 ∧ q.1 ≤ 1000) : Dir (asF q) := by
 unfold asF sg Dir VOk
 cases q.2 <;> simp <;> omega
theorem find_both (l : List Msr) (hl : l.length ≤ 12) (hc : (chkM l).2 = 0) (hv' : ∀ m ∈ l, mErr m = 0) (q : Int × Bool) (ht : 0 ≤ q.1 ∧ q.1 ≤ 1000) :
 (∃ e : Int, s68 (l, q) = some (([], 0), e) ∧ s69 (l, q) = some ((0, 0), e) ∧ e ≠ 0) ∨
 ∃ c x, s68 (l, q) = some ((c.1, c.2.1), 0) ∧ s69 (l, q) = some ((sg q.2 * x.1, x.2), 0) ∧ some c ∈ candL (asF q) (rwsF 0 l) ∧ FOk x ∧ isLow x = true ∧ c.2.2 * x.2 = x.1 * c.2.1 := by
 have hR := rws_ok hv' 0
 have hRw : ∀ r ∈ rwsF 0 l, RwOk r := fun r hr => rwOk_of (hR r hr)
 have hlen : (rwsF 0 l).length ≤ 1000 := by rw [rwsF_len]; omega
 have hH := hvs_ok hv'
 have hHl : (hvs l).length ≤ 1000 := by rw [hvs_len]; omega
 obtain ⟨b1, e1, k1⟩ := possible_eq l (by omega) hv'
 obtain ⟨b2, e2, k2⟩ := contradict_eq hH hHl
 have hf := dir_asked ht
 obtain ⟨s2, q2, _, g2⟩ := best_eq hf.1 hRw hlen
 have m2 := most_eq hH hHl hf.d
 have hopen : s105 l = some (rwsF 0 l, 0) := by rw [open_eq l (by omega), if_pos hc]
 have hwin : win q.1 0 1000 = true := win_iff.2 (by omega)
 have hE : firstE [(0 : Int), unl true 2] = 0 := rfl
 have hmost : (bif !q.2 then s111 (hvs l, -1, wr (-1 * q.1)) else s111 (hvs l, 1, wr (1 * q.1))) = s111 (hvs l, (asF q).1, (asF q).2) := by
  unfold asF sg
  cases q.2
  ·simp only [Bool.not_false, cond_true, Bool.false_eq_true, if_false, wr_id (n := -1 * q.1) (by omega) (by omega)]
  ·simp only [Bool.not_true, cond_false, if_true, wr_id (n := 1 * q.1) (by omega) (by omega)]
 have hfind : s68 (l, q) = bif !b1 then some (([], 0), 13) else bif !(encC s2).2 then some (([], 0), 22) else some (((encC s2).1.1, (encC s2).1.2.1), 0) := by
  unfold s68
  have ha : s106 q = some (asF q) := asked_eq ht
  simp only [hopen, optE_some, hwin, hE, bne_self_eq_false, cond_false, e1, ha, g2]
 have hext : s69 (l, q) = bif b2 then some ((0, 0), 13) else bif !(encM ((mcL (tOf (asF q)) (hvs l)).foldl tkF none)).1 then some ((0, 0), 22) else some ((sg q.2 * (encM ((mcL (tOf (asF q)) (hvs l)).foldl tkF none)).2.1, (encM ((mcL (tOf (asF q)) (hvs l)).foldl tkF none)).2.2), 0) := by
  have m3 := m2.2
  have fok := m2.1
  rw [← hmost] at m3
  unfold s69
  simp only [halves_eq l (by omega) hv', e2, optE_some]
  have hbd : -400000000 ≤ (encM ((mcL (tOf (asF q)) (hvs l)).foldl tkF none)).2.1 ∧ (encM ((mcL (tOf (asF q)) (hvs l)).foldl tkF none)).2.1 ≤ 400000000 := by
   have fok' : ∀ f, (mcL (tOf (asF q)) (hvs l)).foldl tkF none = some f → FOk f := fok
   cases hz : (mcL (tOf (asF q)) (hvs l)).foldl tkF none with
   | none => exact ⟨by decide, by decide⟩
   | some f => exact (fok' f hz).1
  have m4 : (bif !q.2 then s111 (hvs l, -1, wr (-1 * q.1)) else s111 (hvs l, 1, wr (1 * q.1))) = some ((encM ((mcL (tOf (asF q)) (hvs l)).foldl tkF none)).2, (encM ((mcL (tOf (asF q)) (hvs l)).foldl tkF none)).1) := m3
  generalize encM ((mcL (tOf (asF q)) (hvs l)).foldl tkF none) = z at *
  cases b2
  ·cases hb : q.2 with
   | false =>
     rw [hb] at m4
     simp only [Bool.not_false, cond_true] at m4
     simp only [cond_false, Bool.not_false, cond_true, m4, optE_some, sg, Bool.false_eq_true, if_false]
     rw [wr_id (n := -1 * z.2.1) (by omega) (by omega)]
   | true =>
     rw [hb] at m4
     simp only [Bool.not_true, cond_false] at m4
     simp only [cond_false, Bool.not_true, m4, optE_some, sg, if_true]
     rw [wr_id (n := 1 * z.2.1) (by omega) (by omega)]
  ·rfl
 have hb : b1 = !b2 := by
  cases b2 with
  | true =>
    cases b1 with
    | true => exact absurd (k2.1 rfl) (k1.1 rfl)
    | false => rfl
  | false =>
    cases b1 with
    | true => rfl
    | false =>
      have : ¬ Contra (hvs l) := fun h => by have := k2.2 h; cases this
      have := k1.2 this
      cases this
 rw [hfind, hext, hb]
 cases b2 with
 | true => exact .inl ⟨13, rfl, rfl, by decide⟩
 | false =>
   have x2 := best_most hf hR
   rw [rws_hvs] at x2
   simp only [Bool.not_false, Bool.not_true, cond_false]
   rcases x2 with ⟨y1, y2⟩ | ⟨c, x, y1, y2, _, y3, y4⟩
   ·rw [q2, y1, y2]
    exact .inl ⟨22, rfl, rfl, by decide⟩
   ·rw [q2, y1, y3]
    refine .inr ⟨c, x, rfl, rfl, y2, m2.1 x y3, ?_, ?_⟩
    ·have hp := cand_pos y2
     have hok : CdOk c := by
      obtain ⟨i, hi, h | ⟨j, hj, h⟩⟩ := cand_mem.1 y2
      ·exact oneC_ok (hRw _ (getD_mem rw0 hi)) c h
      ·exact pairC_ok hf.1 (hRw _ (getD_mem rw0 (show j < (rwsF 0 l).length by omega))) (hRw _ (getD_mem rw0 hi)) c h
     rw [← y4]
     exact isLow_lowF hp (by have := hok.1; omega)
    ·rw [← y4]; exact (lowF_cross _ _).symm
theorem sg_sq (b : Bool) : sg b * sg b = 1 := by cases b <;> rfl
theorem clE_zero {q : Int × Bool} {x : Fr} {T : List Tm} {S : Int} (ht : 0 ≤ q.1 ∧ q.1 ≤ 1000) (hx : isLow x = true) (h1 : -1000000000 ≤ x.1 ∧ x.1 ≤ 1000000000) (h2 : x.2 ≤ 1000000000) (hS : 1 ≤ S ∧ S ≤ 100000000) (hT : T.length ≤ 6) : clE (q, x, T, S) = 0 := by
 have e : frE x 1000000000 1000000000 = 0 := by
  unfold frE
  rw [hx, show wr (-1000000000) = -1000000000 from rfl, win_iff.2 h1, decide_eq_true h2]
  rfl
 unfold clE
 simp only [e, win_iff.2 ht, win_iff.2 hS, decide_eq_true (show (T.length : Int) ≤ 6 by omega)]
 rfl
section
variable {l : List Msr} (hv' : ∀ m ∈ l, mErr m = 0) {q : Int × Bool} (ht : 0 ≤ q.1 ∧ q.1 ≤ 1000) {c : Cd} (hc : some c ∈ candL (asF q) (rwsF 0 l)) {x : Fr} (hx : FOk x) (hlow : isLow x = true) (hcr : c.2.2 * x.2 = x.1 * c.2.1)
include hv' ht hc
theorem cl_val {y : Fr} (hy : isLow y = true) (h1 : -1000000000 ≤ y.1 ∧ y.1 ≤ 1000000000) (h2 : y.2 ≤ 1000000000) : clV l (q, y, c.1, c.2.1) = unl (!decide (c.2.2 * y.2 > sg q.2 * y.1 * c.2.1)) 19 := by
 have hR := rws_ok hv' 0
 have hRw : ∀ r ∈ rwsF 0 l, RwOk r := fun r hr => rwOk_of (hR r hr)
 have hf := dir_asked ht
 have hp := cand_pos hc
 have hok : CdOk c := by
  obtain ⟨i, hi, h | ⟨j, hj, h⟩⟩ := cand_mem.1 hc
  ·exact oneC_ok (hRw _ (getD_mem rw0 hi)) c h
  ·exact pairC_ok hf.1 (hRw _ (getD_mem rw0 (show j < (rwsF 0 l).length by omega))) (hRw _ (getD_mem rw0 hi)) c h
 obtain ⟨t1, t2⟩ := cand_tl hv' hf hc
 have hz : clE (q, y, c.1, c.2.1) = 0 := clE_zero ht hy h1 h2 (by have := hok.1; omega) (by omega)
 unfold clV
 rw [hz, if_neg (fun h => h rfl)]
 simp only [t1]
 unfold okP asF
 simp only [show c.2.1 * sg q.2 = sg q.2 * c.2.1 from Int.mul_comm _ _, show c.2.1 * (sg q.2 * q.1) = sg q.2 * c.2.1 * q.1 by grind, beq_self_eq_true, Bool.true_and]
include hx hlow hcr
theorem cl_own : clV l (q, (sg q.2 * x.1, x.2), c.1, c.2.1) = 0 := by
 obtain ⟨a1, a2⟩ := hx
 have hlow' : isLow (sg q.2 * x.1, x.2) = true := by
  cases hq : q.2 with
  | true => rw [show sg true * x.1 = x.1 from Int.one_mul _]; exact hlow
  | false => rw [show sg false * x.1 = -x.1 by unfold sg; simp]; exact isLow_neg hlow (by omega)
 have hb : -400000000 ≤ sg q.2 * x.1 ∧ sg q.2 * x.1 ≤ 400000000 := by unfold sg; cases q.2 <;> simp <;> omega
 rw [cl_val hv' ht hc hlow' (by simp only; omega) (by simp only; omega)]
 simp only
 rw [show sg q.2 * (sg q.2 * x.1) = x.1 by rw [← Int.mul_assoc, sg_sq, Int.one_mul], hcr, decide_eq_false (by omega)]
 rfl
omit hlow in
theorem cl_tight : clV l (q, lowF (sg q.2 * x.1 - sg q.2) x.2, c.1, c.2.1) = 19 := by
 obtain ⟨a1, a2⟩ := hx
 have hb : -400000000 ≤ sg q.2 * x.1 ∧ sg q.2 * x.1 ≤ 400000000 := by unfold sg; cases q.2 <;> simp <;> omega
 have hs : -1 ≤ sg q.2 ∧ sg q.2 ≤ 1 := by unfold sg; cases q.2 <;> simp
 have hd := lowF_den (n := sg q.2 * x.1 - sg q.2) (d := x.2) (by omega)
 have hcross := lowF_cross (sg q.2 * x.1 - sg q.2) x.2
 have hnum : -1000000000 ≤ (lowF (sg q.2 * x.1 - sg q.2) x.2).1 ∧ (lowF (sg q.2 * x.1 - sg q.2) x.2).1 ≤ 1000000000 := by
  have := div_size (a := sg q.2 * x.1 - sg q.2) (gcd_pos (a := sg q.2 * x.1 - sg q.2) (show 0 < x.2 by omega))
  show _ ≤ (sg q.2 * x.1 - sg q.2) / _ ∧ (sg q.2 * x.1 - sg q.2) / _ ≤ _
  omega
 have hlow' := isLow_lowF (n := sg q.2 * x.1 - sg q.2) (d := x.2) (by omega) (by omega)
 rw [cl_val hv' ht hc hlow' hnum (by omega)]
 have hp := cand_pos hc
 generalize lowF (sg q.2 * x.1 - sg q.2) x.2 = y at *
 have key : sg q.2 * y.1 * c.2.1 < c.2.2 * y.2 := by
  have e1 : sg q.2 * y.1 * x.2 = (x.1 - 1) * y.2 := by
   have : sg q.2 * (y.1 * x.2) = sg q.2 * ((sg q.2 * x.1 - sg q.2) * y.2) := by rw [hcross]
   have e : sg q.2 * ((sg q.2 * x.1 - sg q.2) * y.2) = (sg q.2 * sg q.2) * ((x.1 - 1) * y.2) := by grind
   rw [e, sg_sq, Int.one_mul] at this
   rw [Int.mul_assoc, this]
  have e2 : (c.2.2 * y.2) * x.2 - (sg q.2 * y.1 * c.2.1) * x.2 = y.2 * c.2.1 := by
   have f1 : (c.2.2 * y.2) * x.2 = x.1 * c.2.1 * y.2 := by rw [Int.mul_right_comm, hcr]
   have f2 : (sg q.2 * y.1 * c.2.1) * x.2 = (x.1 - 1) * y.2 * c.2.1 := by rw [Int.mul_right_comm, e1]
   rw [f1, f2]; grind
  have e3 : 0 < y.2 * c.2.1 := Int.mul_pos (by omega) hp
  exact Int.lt_of_mul_lt_mul_right (a := x.2) (by omega) (by omega)
 rw [decide_eq_true key]
 rfl
end
theorem copyCl (c : Cl) (h : c.2.2.1.length ≤ 1000) : s66 c = some c := copyC c (by omega)
theorem proofs_true (y : List Msr × (Int × Bool)) : s16 y = some true := by
 obtain ⟨l, q⟩ := y
 unfold s16
 obtain ⟨b, hb, hl⟩ := few_le l
 simp only [hb, Bool.not_true, cond_false, optE_some]
 cases b with
 | false => rfl
 | true =>
   have hl := hl rfl
   simp only [optE_some, Bool.not_true, cond_false, copyM l (by omega), mErrs_eq]
   by_cases hm : (chkM l).2 = 0
   ·have hv := (chkE_zero mErr (0, 0, 0, 0, 0) 12 l).1 hm
    have htm : s29 q.1 = some (bif win q.1 0 1000 then 0 else 2) := by
     unfold s29
     cases win q.1 0 1000 <;> rfl
    simp only [hm, beq_self_eq_true, cond_true, htm, optE_some]
    cases hw : win q.1 0 1000 with
    | false =>
      have hfind : s68 (l, q) = some (([], 0), 2) := by
       unfold s68
       simp only [open_eq l (by omega), if_pos hm, optE_some, hw]
       rfl
      rw [hfind]
      rfl
    | true =>
      have ht : 0 ≤ q.1 ∧ q.1 ≤ 1000 := win_iff.1 hw
      rcases find_both l (by omega) hm hv.2 q ht with ⟨e, f1, f2, f3⟩ | ⟨c, x, f1, f2, f3, f4, f5, f6⟩
      ·rw [f1, f2]
       simp only [optE_some, cond_true, beq_self_eq_true, show (e != 0) = true by simpa using f3]
       rfl
      ·have hcl : c.1.length ≤ 2 := (cand_tl hv.2 (dir_asked ht) f3).2
       have own := cl_own hv.2 ht f3 f4 f5 f6
       have tight := cl_tight hv.2 ht f3 f4 f6
       have hx := f4
       obtain ⟨a1, a2⟩ := hx
       have hbd : -400000000 ≤ sg q.2 * x.1 ∧ sg q.2 * x.1 ≤ 400000000 := by unfold sg; cases q.2 <;> simp <;> omega
       have hfit : s50 (sg q.2 * x.1, x.2) = some true := by
        unfold s50
        simp only [win_iff.2 (show -1000000000 ≤ sg q.2 * x.1 ∧ sg q.2 * x.1 ≤ 1000000000 by omega), win_iff.2 (show 1 ≤ x.2 ∧ x.2 ≤ 1000000000 by omega), cond_true]
       have hchk : ∀ y, s65 (l, (q, y, c.1, c.2.1)) = some (clV l (q, y, c.1, c.2.1)) := fun y => by
        rw [check_eq l _ (by omega), if_neg (fun h => h hm)]
       rw [f1, f2]
       simp only [optE_some, bne_self_eq_false, cond_false, decide_eq_false (show ¬ (c.1.length : Int) > 2 by omega), hfit, Bool.not_true, claimErr_eq l (q, (sg q.2 * x.1, x.2), c.1, c.2.1) (by omega) hv.2 (by simp only; omega), own, copyCl (q, (sg q.2 * x.1, x.2), c.1, c.2.1) (by simp only; omega), hchk]
       cases hq : q.2 with
       | true =>
         rw [hq] at tight hbd
         rw [show sg true = 1 from rfl] at tight hbd ⊢
         have hw1 : wr (1 * x.1 + -1) = 1 * x.1 - 1 := by rw [wr_id (by omega) (by omega)]; omega
         simp only [cond_true, hw1, lowest2 (n := 1 * x.1 - 1) (d := x.2) (by omega) (by omega) (by omega) (by omega), optE_some, hchk, tight]
         rfl
       | false =>
         rw [hq] at tight hbd
         rw [show sg false = -1 from rfl] at tight hbd ⊢
         have hw1 : wr (-1 * x.1 + 1) = -1 * x.1 - -1 := by rw [wr_id (by omega) (by omega)]; omega
         simp only [cond_false, hw1, lowest2 (n := -1 * x.1 - -1) (d := x.2) (by omega) (by omega) (by omega) (by omega), optE_some, hchk, tight]
         rfl
   ·have hfind : s68 (l, q) = some (([], 0), (chkM l).2) := by
     have hne : ((chkM l).2 != 0) = true := by simpa using hm
     have : firstE [(chkM l).2, unl (win q.1 0 1000) 2] = (chkM l).2 := by simp only [firstE, hne, cond_true]
     unfold s68
     simp only [open_eq l (by omega), if_neg hm, optE_some, this, hne, cond_true]
    rw [hfind]
    simp only [optE_some, show ((chkM l).2 == 0) = false by simpa using hm, show ((chkM l).2 != 0) = true by simpa using hm, cond_true, cond_false, beq_self_eq_true]
    rfl
end Go.Proofs.YtfmfiflpokogiaaDoor
