import Derived.Test.YtfmfiflpokogiaaDoorSets
import Derived.Test.YtfmfiflpokogiaaDoorProofsLaw
import Derived.Test.YtfmfiflpokogiaaDoorSound
set_option linter.unusedSimpArgs false
namespace Go.Proofs.YtfmfiflpokogiaaDoor
open Go.Ev
theorem dn_pos {x : Fr × Fr} (hx : lnE x = 0) : (1 ≤ x.1.2 ∧ x.1.2 ≤ 1000) ∧ (1 ≤ x.2.2 ∧ x.2.2 ≤ 1000) ∧ (1 ≤ dn x ∧ dn x ≤ 1000000) ∧ (-100000 ≤ x.1.1 ∧ x.1.1 ≤ 100000) ∧ (-100000 ≤ x.2.1 ∧ x.2.1 ≤ 100000) := by
 obtain ⟨h1, h2⟩ := lnE_ok hx
 obtain ⟨_, h3, h4⟩ := ptE_ok h1
 obtain ⟨_, h5, h6⟩ := ptE_ok h2
 have d1 := mulB (a := x.1.2) (b := x.2.2) (A := 1000) (B := 1000) (by omega) (by omega)
 have d2 := Int.mul_le_mul h4.1 h6.1 (by omega) (by omega)
 unfold dn
 omega
theorem feas_sat {x : Fr × Fr} {l : List Msr} (hx : lnE x = 0) (hs : Sat x l) : Feas (hvs l) := by
 refine ⟨x.1.1 * x.2.2, x.2.1 * x.1.2, dn x, by have := dn_pos hx; omega, fun h hh => ?_⟩
 unfold hvs at hh
 obtain ⟨m, hm, hh⟩ := List.mem_flatMap.1 hh
 simp only [List.mem_cons, List.not_mem_nil, or_false] at hh
 rcases hh with rfl | rfl
 ·exact hf_sat hs hm true
 ·exact hf_sat hs hm false
def Least (l : List Msr) (f : Vc) (c : Cd) : Prop := some c ∈ candL f (rwsF 0 l) ∧ ∀ d, some d ∈ candL f (rwsF 0 l) → c.2.2 * d.2.1 ≤ d.2.2 * c.2.1
def qOf (c : Cd) : Fr := lowF c.2.2 c.2.1
theorem cd_ok {l : List Msr} (hv' : ∀ m ∈ l, mErr m = 0) {f : Vc} (hf : Dir f) {c : Cd} (hc : some c ∈ candL f (rwsF 0 l)) : CdOk c := by
 have hR := rws_ok hv' 0
 have hRw : ∀ r ∈ rwsF 0 l, RwOk r := fun r hr => rwOk_of (hR r hr)
 obtain ⟨i, hi, h | ⟨j, hj, h⟩⟩ := cand_mem.1 hc
 ·exact oneC_ok (hRw _ (getD_mem rw0 hi)) c h
 ·exact pairC_ok hf.1 (hRw _ (getD_mem rw0 (show j < (rwsF 0 l).length by omega))) (hRw _ (getD_mem rw0 hi)) c h
theorem q_ok {l : List Msr} (hv' : ∀ m ∈ l, mErr m = 0) {f : Vc} (hf : Dir f) {c : Cd} (hc : some c ∈ candL f (rwsF 0 l)) : FOk (qOf c) ∧ isLow (qOf c) = true ∧ (qOf c).1 * c.2.1 = c.2.2 * (qOf c).2 := by
 have h1 := cd_ok hv' hf hc
 have h2 := cand_pos hc
 obtain ⟨h3, h4⟩ := h1
 exact ⟨lowF_ok (by omega) (by omega), isLow_lowF h2 (by omega), lowF_cross _ _⟩
def EncR (l : List Msr) (f : Vc) (y : (Fr × Int × Int) × Int) : Prop :=
 (y.2 = 22 ∧ ((∀ c, some c ∉ candL f (rwsF 0 l)) ∨ ∀ c, some c ∉ candL (-f.1, -f.2) (rwsF 0 l))) ∨
 (y.2 = 0 ∧ ∃ c1 c2, Least l (-f.1, -f.2) c1 ∧ Least l f c2 ∧ y.1 = ((-(qOf c1).1, (qOf c1).2), qOf c2))
theorem enc_full (l : List Msr) (hl : l.length ≤ 100) (hv' : ∀ m ∈ l, mErr m = 0) {x : Fr × Fr} (hx : lnE x = 0) (hs : Sat x l) {f : Vc} (hf : Dir f) : ∃ y, s81 (l, f) = some y ∧ EncR l f y := by
 have hR := rws_ok hv' 0
 have hRw : ∀ r ∈ rwsF 0 l, RwOk r := fun r hr => rwOk_of (hR r hr)
 have hlen : (rwsF 0 l).length ≤ 1000 := by rw [rwsF_len]; omega
 obtain ⟨b1, e1, k1⟩ := possible_eq l hl hv'
 have hb1 : b1 = true := k1.2 (feas_not (hvs_ok hv') (feas_sat hx hs))
 subst hb1
 have hfo := opp_dir hf
 obtain ⟨s1, q1, _, g1⟩ := best_eq hfo.1 hRw hlen
 obtain ⟨s2, q2, _, g2⟩ := best_eq hf.1 hRw hlen
 have hop : s117 f = some (-f.1, -f.2) := opp_eq f (by have := hf.1.1; omega) (by have := hf.1.2; omega)
 have fr : ∀ c : Cd, CdOk c → 0 < c.2.1 → s119 (((c.1, c.2.1), c.2.2)) = some (qOf c) := fun c hc hp => by
  unfold s119
  obtain ⟨h1, h2⟩ := hc
  simp only [lowest1 (n := c.2.2) (d := c.2.1) hp (by omega) (by omega) (by omega), optE_some]
  rfl
 unfold s81
 simp only [e1, optE_some, rows_eq l (by omega) hv', hop, g1, g2, Bool.not_true, cond_false]
 rcases best_min (-f.1, -f.2) (rwsF 0 l) with ⟨z1, z2⟩ | ⟨c1, z1, z2, z3⟩
 ·rw [q1, z1]
  exact ⟨_, rfl, .inl ⟨rfl, .inr z2⟩⟩
 ·rcases best_min f (rwsF 0 l) with ⟨y1, y2⟩ | ⟨c2, y1, y2, y3⟩
  ·rw [q1, z1, q2, y1]
   exact ⟨_, rfl, .inl ⟨rfl, .inl y2⟩⟩
  ·rw [q1, z1, q2, y1]
   have o1 := q_ok hv' hfo z2
   have w1 : wr (-(qOf c1).1) = -(qOf c1).1 := wr_id (by have := o1.1.1; omega) (by have := o1.1.1; omega)
   simp only [encC, Bool.not_true, cond_false, fr c1 (cd_ok hv' hfo z2) (cand_pos z2), fr c2 (cd_ok hv' hf y2) (cand_pos y2), optE_some, w1]
   exact ⟨_, rfl, .inr ⟨rfl, c1, c2, ⟨z2, z3⟩, ⟨y2, y3⟩, rfl⟩⟩
theorem bound_line {l : List Msr} (hv' : ∀ m ∈ l, mErr m = 0) {x : Fr × Fr} (hs : Sat x l) {f : Vc} (hf : Dir f) {c : Cd} (hc : some c ∈ candL f (rwsF 0 l)) : lhs x f.1 f.2 * (qOf c).2 ≤ (qOf c).1 * dn x := by
 obtain ⟨t1, _⟩ := cand_tl hv' hf hc
 have h := tl_sat hs c.1 (0, 0, 0) _ (by unfold lhs; simp) t1
 obtain ⟨⟨_, o2⟩, _, o3⟩ := q_ok hv' hf hc
 have hp := cand_pos hc
 have e1 : lhs x (c.2.1 * f.1) (c.2.1 * f.2) = c.2.1 * lhs x f.1 f.2 := by unfold lhs; grind
 simp only at h
 rw [e1] at h
 have h2 := Int.mul_le_mul_of_nonneg_right h (show 0 ≤ (qOf c).2 by omega)
 generalize lhs x f.1 f.2 = L at *
 have e2 : c.2.2 * dn x * (qOf c).2 = ((qOf c).1 * dn x) * c.2.1 := by
  rw [Int.mul_right_comm, ← o3, Int.mul_right_comm]
 have e3 : c.2.1 * L * (qOf c).2 = (L * (qOf c).2) * c.2.1 := by grind
 rw [e2, e3] at h2
 exact Int.le_of_mul_le_mul_right h2 hp
theorem sub_cand {m : Msr} {l : List Msr} (hv' : ∀ k ∈ m :: l, mErr k = 0) {f : Vc} (hf : Dir f) {c : Cd} (hc : some c ∈ candL f (rwsF 0 l)) : ∃ d, some d ∈ candL f (rwsF 0 (m :: l)) ∧ c.2.2 * d.2.1 = d.2.2 * c.2.1 := by
 have hvl : ∀ k ∈ l, mErr k = 0 := fun k hk => hv' k (List.mem_cons_of_mem _ hk)
 obtain ⟨q, hq, e⟩ := match1 hf (rws_ok hvl 0) hc
 have hq2 : some q ∈ mcL (tOf f) ((rwsF 0 (m :: l)).map hv) := by
  obtain ⟨i, j, hi, hj, h⟩ := mcL_mem.1 hq
  have gi : ∀ i, i < (rwsF 0 l).length → hv ((rwsF 0 (m :: l)).getD (i + 2) rw0) = hv ((rwsF 0 l).getD i rw0) := fun i hi => by
   rw [← map_getD (show i + 2 < (rwsF 0 (m :: l)).length by rw [rwsF_len] at *; simp; omega), ← map_getD hi, rws_hvs, rws_hvs]
   rfl
  refine mcL_mem.2 ⟨i + 2, j + 2, by rw [rwsF_len] at *; simp; omega, by rw [rwsF_len] at *; simp; omega, ?_⟩
  rw [gi i hi, gi j hj]
  have : (i + 2 == j + 2) = (i == j) := by
   by_cases h : i = j
   ·subst h; simp
   ·rw [show (i == j) = false by simpa using h, show (i + 2 == j + 2) = false by simpa using h]
  rw [this]; exact h
 obtain ⟨⟨d, hd, e'⟩, _, hqp⟩ := match2 hf (rws_ok hv' 0) hq2
 refine ⟨d, hd, ?_⟩
 have a1 : (c.2.2 * d.2.1) * q.2 = (d.2.2 * c.2.1) * q.2 := by
  rw [Int.mul_right_comm, e, Int.mul_right_comm d.2.2, e']; grind
 exact Int.eq_of_mul_eq_mul_right (by omega) a1
theorem least_le {m : Msr} {l : List Msr} (hv' : ∀ k ∈ m :: l, mErr k = 0) {f : Vc} (hf : Dir f) {c c' : Cd} (h : Least (m :: l) f c) (h' : Least l f c') : (qOf c).1 * (qOf c').2 ≤ (qOf c').1 * (qOf c).2 := by
 have hvl : ∀ k ∈ l, mErr k = 0 := fun k hk => hv' k (List.mem_cons_of_mem _ hk)
 obtain ⟨d, hd, e⟩ := sub_cand hv' hf h'.1
 have h1 := h.2 d hd
 have p := cand_pos h.1
 have p' := cand_pos h'.1
 have pd := cand_pos hd
 obtain ⟨⟨_, o2⟩, _, o3⟩ := q_ok hv' hf h.1
 obtain ⟨⟨_, o2'⟩, _, o3'⟩ := q_ok hvl hf h'.1
 have k1 : (c.2.2 * c'.2.1) * d.2.1 ≤ (c'.2.2 * c.2.1) * d.2.1 := by
  have a := Int.mul_le_mul_of_nonneg_right h1 (show 0 ≤ c'.2.1 by omega)
  have e1 : (c'.2.2 * c.2.1) * d.2.1 = d.2.2 * c.2.1 * c'.2.1 := by rw [Int.mul_right_comm, e]; grind
  have e2 : (c.2.2 * c'.2.1) * d.2.1 = c.2.2 * d.2.1 * c'.2.1 := Int.mul_right_comm _ _ _
  rw [e1, e2]; exact a
 have k2 := Int.le_of_mul_le_mul_right k1 pd
 generalize qOf c = q at *
 generalize qOf c' = q' at *
 have k3 : (q.1 * q'.2) * (c.2.1 * c'.2.1) ≤ (q'.1 * q.2) * (c.2.1 * c'.2.1) := by
  have e1 : (q.1 * q'.2) * (c.2.1 * c'.2.1) = (c.2.2 * c'.2.1) * (q.2 * q'.2) := by
   have : (q.1 * q'.2) * (c.2.1 * c'.2.1) = (q.1 * c.2.1) * (q'.2 * c'.2.1) := by grind
   rw [this, o3]; grind
  have e2 : (q'.1 * q.2) * (c.2.1 * c'.2.1) = (c'.2.2 * c.2.1) * (q.2 * q'.2) := by
   have : (q'.1 * q.2) * (c.2.1 * c'.2.1) = (q'.1 * c'.2.1) * (q.2 * c.2.1) := by grind
   rw [this, o3']; grind
  rw [e1, e2]
  exact Int.mul_le_mul_of_nonneg_right k2 (Int.mul_nonneg (by omega) (by omega))
 exact Int.le_of_mul_le_mul_right k3 (Int.mul_pos p p')
theorem no_sets {x : Fr × Fr} (hx : lnE x = 0) {l : List Msr} (hv' : ∀ m ∈ l, mErr m = 0) (hs : Sat x l) : fst2 l = none ∧ fst3 l = none := by
 have key : ∀ s : List Msr, s.length ≤ 100 → (∀ m ∈ s, m ∈ l) → posB s = true := fun s h1 h2 =>
  (posB_eq h1 (fun m hm => hv' m (h2 m hm))).2.2 (feas_not (hvs_ok (fun m hm => hv' m (h2 m hm))) (feas_sat hx (fun m hm => hs m (h2 m hm))))
 constructor
 ·refine firstN_none.2 fun a h1 h2 => ?_
  have : nx2 l a = none := firstN_none.2 fun j h3 h4 => by
   unfold bad2
   rw [key _ (by simp) (fun m hm => by
    simp only [List.mem_cons, List.not_mem_nil, or_false] at hm
    rcases hm with rfl | rfl
    ·exact getD_mem ms0 (by omega)
    ·exact getD_mem ms0 (by omega))]
   rfl
  rw [this]; rfl
 ·refine firstN_none.2 fun a h1 h2 => ?_
  have : md3 l a = none := firstN_none.2 fun b h3 h4 => by
   have : nx3 l a b = none := firstN_none.2 fun j h5 h6 => by
    unfold bad3
    rw [key _ (by simp) (fun m hm => by
     simp only [List.mem_cons, List.not_mem_nil, or_false] at hm
     rcases hm with rfl | rfl | rfl
     ·exact getD_mem ms0 (by omega)
     ·exact getD_mem ms0 (by omega)
     ·exact getD_mem ms0 (by omega))]
    rfl
   rw [this]; rfl
  rw [this]; rfl
theorem cmp_le {a b : Int} (h : a ≤ b) : decide (cmpI a b > 0) = false ∧ decide (cmpI a b ≤ 0) = true := by
 unfold cmpI
 split
 ·exact ⟨rfl, rfl⟩
 ·split
  ·exact ⟨rfl, rfl⟩
  ·omega
theorem comp_le {n d m k : Int} (hn : -200100000000 ≤ n ∧ n ≤ 200100000000) (hd : 1 ≤ d ∧ d ≤ 1000000) (hm : -200100000000 ≤ m ∧ m ≤ 200100000000) (hk : 1 ≤ k ∧ k ≤ 1000000) (h : n * k ≤ m * d) :
 ∃ r, s34 (n, d, m, k) = some r ∧ decide (r > 0) = false ∧ decide (r ≤ 0) = true :=
 ⟨_, compare_eq (by omega) (by omega) (by omega) (by omega), cmp_le h⟩
theorem encd_true (y : List Msr × (Fr × Fr) × Int) : s6 y = some true := by
 obtain ⟨l, x, t⟩ := y
 unfold s6
 simp only [Bool.not_true, cond_false]
 by_cases hl0 : (l.length : Int) = 0
 ·rw [show ((l.length : Int) == 0) = true by simpa using hl0]; rfl
 rw [show ((l.length : Int) == 0) = false by simpa using hl0, cond_false]
 by_cases hl6 : (l.length : Int) > 6
 ·rw [decide_eq_true hl6]; rfl
 rw [decide_eq_false hl6, cond_false]
 obtain ⟨m, l, rfl⟩ : ∃ m l', l = m :: l' := by
  cases l with
  | nil => exact absurd rfl hl0
  | cons m l => exact ⟨m, l, rfl⟩
 have hlen : l.length ≤ 5 := by simp only [List.length_cons] at hl6; omega
 have hlen1 : (m :: l).length ≤ 6 := by simp only [List.length_cons]; omega
 simp only [mErrs_eq, optE_some]
 by_cases hc : (chkM (m :: l)).2 = 0
 case neg => rw [show ((chkM (m :: l)).2 != 0) = true by simpa using hc]; rfl
 have hv := ((chkE_zero mErr (0, 0, 0, 0, 0) 12 (m :: l)).1 hc).2
 have hvl : ∀ k ∈ l, mErr k = 0 := fun k hk => hv k (List.mem_cons_of_mem _ hk)
 have hcl : (chkM l).2 = 0 := (chkE_zero mErr (0, 0, 0, 0, 0) 12 l).2 ⟨by omega, hvl⟩
 simp only [hc, bne_self_eq_false, cond_false, lineErr_eq, optE_some]
 by_cases hx : lnE x = 0
 case neg => rw [show (lnE x != 0) = true by simpa using hx]; rfl
 have htm : s29 t = some (bif win t 0 1000 then 0 else 2) := by
  unfold s29
  cases win t 0 1000 <;> rfl
 simp only [hx, bne_self_eq_false, cond_false, htm, optE_some]
 cases hw : win t 0 1000 with
 | false => rfl
 | true =>
 have ht : 0 ≤ t ∧ t ≤ 1000 := win_iff.1 hw
 obtain ⟨b, hb, hsat⟩ := holds_eq (m :: l) x (by omega) hx hv
 simp only [cond_true, bne_self_eq_false, cond_false, hb, optE_some]
 cases b with
 | false => rfl
 | true =>
 have hs := hsat.1 rfl
 have hsl : Sat x l := fun k hk => hs k (List.mem_cons_of_mem _ hk)
 have D1 := dir_time ht
 have D2 := dir_speed
 obtain ⟨y1, a1, r1⟩ := enc_full (m :: l) (by omega) hv hx hs D1
 obtain ⟨y2, a2, r2⟩ := enc_full (m :: l) (by omega) hv hx hs D2
 obtain ⟨y3, a3, r3⟩ := enc_full l (by omega) hvl hx hsl D1
 have d1 : s24 (m :: l, t) = some y1 := by rw [distIn_good hc hw, a1]; rfl
 have d2 : s27 (m :: l) = some y2 := by rw [speedOf_good hc, a2]; rfl
 have d3 : s24 (l, t) = some y3 := by rw [distIn_good hcl hw, a3]; rfl
 have d4 : s22 (m :: l) = some ([], 12) := by
  obtain ⟨n1, n2⟩ := no_sets hx hv hs
  rw [contradicting_eq _ hc, n1, n2]
 have c1 := copyM (m :: l) (by omega)
 have c2 : s19 ((m :: l).drop 1) = some l := copyM l (by omega)
 obtain ⟨p1, p2, p3, p4, p5⟩ := dn_pos hx
 have hsp : -100000000 ≤ x.2.1 * x.1.2 ∧ x.2.1 * x.1.2 ≤ 100000000 := by
  have := mulB (a := x.2.1) (b := x.1.2) (A := 100000) (B := 1000) (by omega) (by omega); omega
 have hst : -100000000 ≤ x.1.1 * x.2.2 ∧ x.1.1 * x.2.2 ≤ 100000000 := by
  have := mulB (a := x.1.1) (b := x.2.2) (A := 100000) (B := 1000) (by omega) (by omega); omega
 have htx : -100000000 ≤ t * x.2.1 ∧ t * x.2.1 ≤ 100000000 := by
  have := mulB (a := t) (b := x.2.1) (A := 1000) (B := 100000) (by omega) (by omega); omega
 have htx2 : -100000000000 ≤ t * x.2.1 * x.1.2 ∧ t * x.2.1 * x.1.2 ≤ 100000000000 := by
  have := mulB (a := t * x.2.1) (b := x.1.2) (A := 100000000) (B := 1000) (by omega) (by omega); omega
 have w1 : wr (wr (x.1.1 * x.2.2) + wr (wr (t * x.2.1) * x.1.2)) = lhs x 1 t := by
  rw [wr_id (n := t * x.2.1) (by omega) (by omega), wr_id (n := t * x.2.1 * x.1.2) (by omega) (by omega), wr_id (n := x.1.1 * x.2.2) (by omega) (by omega), wr_id (by omega) (by omega)]
  unfold lhs; grind
 have w2 : wr (x.1.2 * x.2.2) = dn x := wr_id (by unfold dn at p3; omega) (by unfold dn at p3; omega)
 have hL : -200100000000 ≤ lhs x 1 t ∧ lhs x 1 t ≤ 200100000000 := by
  have : lhs x 1 t = x.1.1 * x.2.2 + t * x.2.1 * x.1.2 := by unfold lhs; grind
  rw [this]; omega
 have neg1 : ∀ (q : Fr) (L d : Int), (-L) * q.2 ≤ q.1 * d → (-q.1) * d ≤ L * q.2 := fun q L d h => by
  rw [Int.neg_mul] at h ⊢; omega
 have lneg : ∀ a b : Int, lhs x (-a) (-b) = -lhs x a b := fun a b => by unfold lhs; grind
 have fin : (bif y2.2 != 0 then some true else optE (s33 y2.1.1) (fun r21 => bif r21 then optE (s33 y2.1.2) (fun r22 => bif r22 then optE (s34 (y2.1.1.1, y2.1.1.2, x.2.1, x.2.2)) (fun r23 => bif decide (r23 ≤ 0) then optE (s34 (x.2.1, x.2.2, y2.1.2.1, y2.1.2.2)) (fun r24 => some (decide (r24 ≤ 0))) none else some false) none else some false) none else some false) none) = some true := by
  rcases r2 with ⟨z, _⟩ | ⟨z, k1, k2, g1, g2, g3⟩
  ·rw [z]; rfl
  ·obtain ⟨o1, o2, _⟩ := q_ok hv (opp_dir D2) g1.1
   obtain ⟨o3, o4, _⟩ := q_ok hv D2 g2.1
   have b1 := bound_line hv hs (opp_dir D2) g1.1
   have b2 := bound_line hv hs D2 g2.1
   simp only at b1 b2
   rw [lneg] at b1
   have e : lhs x 0 1 = x.2.1 * x.1.2 := by unfold lhs; grind
   rw [e] at b1 b2
   obtain ⟨u1, u2⟩ := o1
   obtain ⟨u3, u4⟩ := o3
   have b1 := neg1 _ _ _ b1
   have v1 : (-(qOf k1).1) * x.2.2 ≤ x.2.1 * (qOf k1).2 := by
    refine Int.le_of_mul_le_mul_right (a := x.1.2) ?_ (by omega)
    have e1 : -(qOf k1).1 * x.2.2 * x.1.2 = -(qOf k1).1 * dn x := by unfold dn; grind
    have e2 : x.2.1 * (qOf k1).2 * x.1.2 = x.2.1 * x.1.2 * (qOf k1).2 := Int.mul_right_comm _ _ _
    rw [e1, e2]; exact b1
   have v2 : x.2.1 * (qOf k2).2 ≤ (qOf k2).1 * x.2.2 := by
    refine Int.le_of_mul_le_mul_right (a := x.1.2) ?_ (by omega)
    have e1 : (qOf k2).1 * x.2.2 * x.1.2 = (qOf k2).1 * dn x := by unfold dn; grind
    have e2 : x.2.1 * (qOf k2).2 * x.1.2 = x.2.1 * x.1.2 * (qOf k2).2 := Int.mul_right_comm _ _ _
    rw [e1, e2]; exact b2
   obtain ⟨n1, f1, _, f2⟩ := comp_le (n := -(qOf k1).1) (d := (qOf k1).2) (m := x.2.1) (k := x.2.2) (by omega) (by omega) (by omega) (by omega) v1
   obtain ⟨n2, f3, _, f4⟩ := comp_le (n := x.2.1) (d := x.2.2) (m := (qOf k2).1) (k := (qOf k2).2) (by omega) (by omega) (by omega) (by omega) v2
   have i1 := isLow_neg o2 (by omega)
   rw [z, g3]
   simp only [bne_self_eq_false, cond_false, isLowest_eq, i1, o4, optE_some, cond_true, f1, f2, f3, f4]
 simp only [Bool.not_true, cond_false, c1, c2, d1, d2, d3, d4, optE_some, bne_self_eq_false, decide_eq_true (show 1 ≤ ((m :: l).length : Int) by simp only [List.length_cons]; omega), cond_true, w1, w2]
 have h2 : y2.2 = 0 ∨ y2.2 = 22 := by rcases r2 with ⟨z, _⟩ | ⟨z, _⟩ <;> simp [z]
 have h2' : ∀ (α : Type) (k : Unit → Option α) (z : Option α), (bif y2.2 != 0 then (bif y2.2 != 22 then z else k ()) else k ()) = k () := fun α k z => by rcases h2 with h | h <;> rw [h] <;> rfl
 rcases r1 with ⟨z1, n1⟩ | ⟨z1, k1, k2, g1, g2, g3⟩
 ·-- one is open
  have h3 : y3.2 = 22 := by
   rcases r3 with ⟨z, _⟩ | ⟨_, j1, j2, q1, q2, _⟩
   ·exact z
   ·exfalso
    obtain ⟨c, hc1, _⟩ := sub_cand hv D1 q2.1
    obtain ⟨c', hc2, _⟩ := sub_cand hv (opp_dir D1) q1.1
    rcases n1 with n | n
    ·exact n c hc1
    ·exact n c' hc2
  rw [z1, h3]
  rcases h2 with h | h
  ·rw [h] at fin ⊢; exact fin
  ·rw [h] at fin ⊢; exact fin
 ·obtain ⟨o1, o2, _⟩ := q_ok hv (opp_dir D1) g1.1
  obtain ⟨o3, o4, _⟩ := q_ok hv D1 g2.1
  have b1 := bound_line hv hs (opp_dir D1) g1.1
  have b2 := bound_line hv hs D1 g2.1
  simp only at b1 b2
  rw [lneg] at b1
  have b1 := neg1 _ _ _ b1
  obtain ⟨u1, u2⟩ := o1
  obtain ⟨u3, u4⟩ := o3
  obtain ⟨n1, f1, f2, _⟩ := comp_le (n := -(qOf k1).1) (d := (qOf k1).2) (m := lhs x 1 t) (k := dn x) (by omega) (by omega) (by omega) (by omega) b1
  obtain ⟨n2, f3, f4, _⟩ := comp_le (n := lhs x 1 t) (d := dn x) (m := (qOf k2).1) (k := (qOf k2).2) (by omega) (by omega) (by omega) (by omega) b2
  have i1 := isLow_neg o2 (by omega)
  simp only [isLowest_eq, optE_some] at fin
  rw [z1, g3]
  simp only [bne_self_eq_false, cond_false, beq_self_eq_true, cond_true, isLowest_eq, i1, o4, optE_some, Bool.not_true, f1, f2, f3, f4]
  rcases r3 with ⟨z, _⟩ | ⟨z, j1, j2, q1, q2, q3⟩
  ·rw [z]
   rcases h2 with h | h
   ·rw [h] at fin ⊢; exact fin
   ·rw [h] at fin ⊢; exact fin
  ·obtain ⟨o5, o6, _⟩ := q_ok hvl (opp_dir D1) q1.1
   obtain ⟨o7, o8, _⟩ := q_ok hvl D1 q2.1
   obtain ⟨u5, u6⟩ := o5
   obtain ⟨u7, u8⟩ := o7
   have l1 := least_le hv (opp_dir D1) g1 q1
   have l2 := least_le hv D1 g2 q2
   obtain ⟨n3, f5, f6, _⟩ := comp_le (n := -(qOf j1).1) (d := (qOf j1).2) (m := -(qOf k1).1) (k := (qOf k1).2) (by omega) (by omega) (by omega) (by omega) (by rw [Int.neg_mul, Int.neg_mul]; omega)
   obtain ⟨n4, f7, f8, _⟩ := comp_le (n := (qOf k2).1) (d := (qOf k2).2) (m := (qOf j2).1) (k := (qOf j2).2) (by omega) (by omega) (by omega) (by omega) l2
   have i2 := isLow_neg o6 (by omega)
   rw [z, q3]
   simp only [beq_self_eq_true, cond_true, bne_self_eq_false, isLowest_eq, i2, o8, optE_some, Bool.not_true, cond_false, f5, f6, f7, f8]
   rcases h2 with h | h
   ·rw [h] at fin ⊢; exact fin
   ·rw [h] at fin ⊢; exact fin
end Go.Proofs.YtfmfiflpokogiaaDoor
