import Derived.Test.YtfmfiflpokogiaaDoorEnclose
set_option linter.unusedSimpArgs false
namespace Go.Proofs.YtfmfiflpokogiaaDoor
open Go.Ev
def Dir (f : Vc) : Prop := VOk f ∧ (f.1 = 1 ∨ f.1 = -1 ∨ (f.1 = 0 ∧ (f.2 = 1 ∨ f.2 = -1)))
def tOf (f : Vc) : Hf := (f.1, f.2, 0)
theorem Dir.d {f : Vc} (h : Dir f) : DOk (tOf f) := h.1
theorem alg_exact {v f : Vc} (hf : Dir f) (h1 : crs v f = 0) (h2 : 0 < v.1 * f.1 + v.2 * f.2) : 0 < alg v f ∧ v.1 = alg v f * f.1 ∧ v.2 = alg v f * f.2 := by
 have ha : alg v f = if f.1 ≠ 0 then Int.tdiv v.1 f.1 else Int.tdiv v.2 f.2 := by
  unfold alg
  rw [if_neg (by intro h; rcases h with h | h; exact h h1; omega)]
 have sq : 0 ≤ f.2 * f.2 := by rcases Int.le_total 0 f.2 with h | h; exact Int.mul_nonneg h h; exact Int.mul_nonneg_of_nonpos_of_nonpos h h
 unfold crs at h1
 rw [ha]
 rcases hf.2 with h | h | ⟨h, h'⟩
 ·rw [if_pos (by omega), h, Int.tdiv_one]
  rw [h] at h1 h2
  have e : v.2 = v.1 * f.2 := by omega
  have e2 : v.1 * 1 + v.2 * f.2 = v.1 * (1 + f.2 * f.2) := by rw [e]; grind
  rw [e2] at h2
  refine ⟨?_, by omega, e⟩
  rcases Int.lt_or_le 0 v.1 with h3 | h3
  ·exact h3
  ·have := Int.mul_nonneg_of_nonpos_of_nonpos h3 (show -(1 + f.2 * f.2) ≤ 0 by omega)
   rw [Int.mul_neg] at this; omega
 ·rw [if_pos (by omega), h, Int.tdiv_neg, Int.tdiv_one]
  rw [h] at h1 h2
  have e : v.2 = -v.1 * f.2 := by rw [Int.neg_mul]; omega
  have e2 : v.1 * -1 + v.2 * f.2 = -v.1 * (1 + f.2 * f.2) := by rw [e]; grind
  rw [e2] at h2
  refine ⟨?_, by omega, e⟩
  rcases Int.lt_or_le 0 (-v.1) with h3 | h3
  ·exact h3
  ·have := Int.mul_nonneg_of_nonpos_of_nonpos h3 (show -(1 + f.2 * f.2) ≤ 0 by omega)
   rw [Int.mul_neg] at this; omega
 ·rw [if_neg (by simpa using h)]
  rw [h] at h1 h2
  rcases h' with h' | h' <;> rw [h'] at h1 h2 ⊢
  ·rw [Int.tdiv_one, h]; omega
  ·rw [Int.tdiv_neg, Int.tdiv_one, h]; omega
theorem alg_pos {v f : Vc} (h : alg v f > 0) : crs v f = 0 ∧ 0 < v.1 * f.1 + v.2 * f.2 := by
 unfold alg at h
 split at h
 ·omega
 ·rename_i hc
  simp only [not_or, ne_eq, Classical.not_not] at hc
  exact ⟨hc.1, by omega⟩
theorem ab_mul {k n : Int} (hk : 0 < k) : ab (k * n) = k * ab n := by
 have q1 := ab_of n
 have q2 := ab_of (k * n)
 rcases Int.lt_or_le n 0 with h | h
 ·have := Int.mul_neg_of_pos_of_neg hk h
  have e : k * ab n = -(k * n) := by rw [show ab n = -n by omega, Int.mul_neg]
  omega
 ·have := Int.mul_nonneg (show 0 ≤ k by omega) h
  rw [show ab n = n by omega]; omega
theorem dt_crs (s r : Rw) (f : Vc) : dt (hv s) (hv r) = crs s.1 r.1 ∧ dt (tOf f) (hv r) = crs f r.1 ∧ dt (hv s) (tOf f) = crs s.1 f := by
 refine ⟨?_, ?_, ?_⟩ <;> · unfold dt crs hv; simp only [tOf]; grind
theorem map_getD {R : List Rw} {i : Nat} (h : i < R.length) : (R.map hv).getD i hf0 = hv (R.getD i rw0) := by
 rw [List.getD_eq_getElem?_getD, List.getD_eq_getElem?_getD, List.getElem?_map, List.getElem?_eq_getElem h]
 rfl
theorem mcL_mem {t : Hf} {R : List Rw} {q : Fr} : some q ∈ mcL t (R.map hv) ↔ ∃ i j, i < R.length ∧ j < R.length ∧ mc t (hv (R.getD i rw0)) (hv (R.getD j rw0)) (i == j) = some q := by
 unfold mcL
 simp only [List.mem_flatMap, List.mem_map, List.mem_range'_1, List.length_map, Nat.zero_le, true_and, Nat.zero_add]
 constructor
 ·rintro ⟨i, hi, j, hj, h⟩
  rw [map_getD hi, map_getD hj] at h
  exact ⟨i, j, hi, hj, h⟩
 ·rintro ⟨i, j, hi, hj, h⟩
  exact ⟨i, hi, j, hj, by rw [map_getD hi, map_getD hj]; exact h⟩
theorem nrm_swap {d p q D P Q : Int} (h : nrm d p q = (D, P, Q)) (hD : 0 < D) : nrm (-d) (-q) (-p) = (D, Q, P) := by
 unfold nrm at h ⊢
 split at h
 ·rename_i hd
  injection h with a b; injection b with b c
  rw [if_neg (by omega), ← a, ← b, ← c]
 ·rename_i hd
  injection h with a b; injection b with b c
  rw [if_pos (by omega), ← a, ← b, ← c]
  simp
theorem nrm_zero (p q : Int) : nrm 0 p q = (0, p, q) := if_neg (by omega)
theorem dt_self (g : Hf) : dt g g = 0 := by unfold dt; grind
section
variable {f : Vc} (hf : Dir f) {R : List Rw} (hR : RHOk R)
include hf hR
theorem match1 {c : Cd} (h : some c ∈ candL f R) : ∃ q, some q ∈ mcL (tOf f) (R.map hv) ∧ c.2.2 * q.2 = q.1 * c.2.1 := by
 obtain ⟨i, hi, h | ⟨j, hj, h⟩⟩ := cand_mem.1 h
 ·have hm := hR _ (getD_mem rw0 hi)
  obtain ⟨r, hr⟩ : ∃ r : Rw, R.getD i rw0 = r := ⟨_, rfl⟩
  rw [hr] at h hm
  unfold oneC at h
  split at h
  ·rename_i ha
   obtain rfl := Option.some.inj h
   obtain ⟨a1, a2⟩ := alg_pos ha
   obtain ⟨b1, b2, b3⟩ := alg_exact hf a1 a2
   obtain ⟨e1, e2, e3⟩ := dt_crs r r f
   refine ⟨lowF ((ab f.1 + ab f.2) * r.2.1) (ab r.1.1 + ab r.1.2), mcL_mem.2 ⟨i, i, hi, hi, ?_⟩, ?_⟩
   ·rw [hr]
    unfold mc
    rw [dt_self, nrm_zero, if_pos rfl, if_pos ⟨by simp, by rw [e3]; exact a1, by simpa [hv, tOf] using a2⟩]
    rfl
   ·have hpos : 0 < ab f.1 + ab f.2 := by
     have q1 := ab_of f.1; have q2 := ab_of f.2
     rcases hf.2 with h | h | ⟨_, h | h⟩ <;> omega
    have hk : ab r.1.1 + ab r.1.2 = alg r.1 f * (ab f.1 + ab f.2) := by
     conv => lhs; rw [b2, b3]
     rw [ab_mul b1, ab_mul b1, Int.mul_add]
    have hcr := lowF_cross ((ab f.1 + ab f.2) * r.2.1) (ab r.1.1 + ab r.1.2)
    generalize lowF ((ab f.1 + ab f.2) * r.2.1) (ab r.1.1 + ab r.1.2) = q at hcr ⊢
    rw [hk] at hcr
    simp only
    have : (r.2.1 * q.2) * (ab f.1 + ab f.2) = (q.1 * alg r.1 f) * (ab f.1 + ab f.2) := by grind
    exact Int.eq_of_mul_eq_mul_right (by omega) this
  ·cases h
 ·obtain ⟨D, P, Q, hn, h1, h2, h3, _, e1, e2⟩ := pairC_some h
  obtain ⟨k1, k2, k3⟩ := dt_crs (R.getD j rw0) (R.getD i rw0) f
  refine ⟨lowF (P * (R.getD j rw0).2.1 + Q * (R.getD i rw0).2.1) D, mcL_mem.2 ⟨j, i, by omega, hi, ?_⟩, ?_⟩
  ·unfold mc
   rw [k1, k2, k3, hn, if_neg (by simp only; omega), if_neg (by simp only; omega)]
   rfl
  ·rw [e1, e2]
   exact (lowF_cross _ _).symm
theorem match2 {q : Fr} (h : some q ∈ mcL (tOf f) (R.map hv)) : (∃ c, some c ∈ candL f R ∧ c.2.2 * q.2 = q.1 * c.2.1) ∧ lowF q.1 q.2 = q ∧ 0 < q.2 := by
 obtain ⟨i, j, hi, hj, h⟩ := mcL_mem.1 h
 have low : ∀ n d : Int, 0 < d → lowF (lowF n d).1 (lowF n d).2 = lowF n d ∧ 0 < (lowF n d).2 := fun n d hd => by
  have p := lowF_den (n := n) hd
  refine ⟨lowF_eq (by omega) hd ?_, by omega⟩
  exact lowF_cross n d
 have mi := hR _ (getD_mem rw0 hi)
 have mj := hR _ (getD_mem rw0 hj)
 obtain ⟨k1, k2, k3⟩ := dt_crs (R.getD i rw0) (R.getD j rw0) f
 unfold mc at h
 rw [k1, k2, k3] at h
 have hnn : 0 ≤ (nrm (crs (R.getD i rw0).1 (R.getD j rw0).1) (crs f (R.getD j rw0).1) (crs (R.getD i rw0).1 f)).1 := by unfold nrm; split <;> simp only <;> omega
 obtain ⟨⟨D, P, Q⟩, hn⟩ : ∃ t, nrm (crs (R.getD i rw0).1 (R.getD j rw0).1) (crs f (R.getD j rw0).1) (crs (R.getD i rw0).1 f) = t := ⟨_, rfl⟩
 rw [hn] at h hnn
 simp only at h hnn
 split at h
 ·split at h
  ·rename_i hc
   obtain ⟨c1, c2, c3⟩ := hc
   obtain rfl := Option.some.inj h
   obtain ⟨r, hr⟩ : ∃ r : Rw, R.getD i rw0 = r := ⟨_, rfl⟩
   rw [hr] at mi c2 c3 ⊢
   obtain ⟨b1, b2, b3⟩ := alg_exact hf c2 (by simpa [hv, tOf] using c3)
   have hpos : 0 < ab r.1.1 + ab r.1.2 := by
    have m1 := mi.1
    simp only [hv] at m1
    have q1 := ab_of r.1.1; have q2 := ab_of r.1.2
    rcases m1 with h | h | ⟨_, h⟩ <;> omega
   have hlow := low ((ab (tOf f).1 + ab (tOf f).2.1) * (hv r).2.2) (ab (hv r).1 + ab (hv r).2.1) hpos
   refine ⟨⟨([(r.2.2.1, r.2.2.2, 1)], alg r.1 f, r.2.1), cand_mem.2 ⟨i, hi, .inl ?_⟩, ?_⟩, hlow⟩
   ·unfold oneC
    rw [hr, if_pos b1]
   ·have hfp : 0 < ab f.1 + ab f.2 := by
     have q1 := ab_of f.1; have q2 := ab_of f.2
     rcases hf.2 with h | h | ⟨_, h | h⟩ <;> omega
    have hk : ab r.1.1 + ab r.1.2 = alg r.1 f * (ab f.1 + ab f.2) := by
     conv => lhs; rw [b2, b3]
     rw [ab_mul b1, ab_mul b1, Int.mul_add]
    have hcr := lowF_cross ((ab f.1 + ab f.2) * r.2.1) (ab r.1.1 + ab r.1.2)
    show r.2.1 * (lowF ((ab f.1 + ab f.2) * r.2.1) (ab r.1.1 + ab r.1.2)).2 = (lowF ((ab f.1 + ab f.2) * r.2.1) (ab r.1.1 + ab r.1.2)).1 * alg r.1 f
    generalize lowF ((ab f.1 + ab f.2) * r.2.1) (ab r.1.1 + ab r.1.2) = q at hcr ⊢
    rw [hk] at hcr
    have : (r.2.1 * q.2) * (ab f.1 + ab f.2) = (q.1 * alg r.1 f) * (ab f.1 + ab f.2) := by grind
    exact Int.eq_of_mul_eq_mul_right (by omega) this
  ·cases h
 ·rename_i hD
  split at h
  ·cases h
  ·rename_i hPQ
   simp only [not_or, Int.not_lt] at hPQ
   obtain rfl := Option.some.inj h
   have hDp : 0 < D := by omega
   have hlow := low (P * (hv (R.getD i rw0)).2.2 + Q * (hv (R.getD j rw0)).2.2) D hDp
   refine ⟨?_, hlow⟩
   rcases Nat.lt_trichotomy i j with hij | hij | hij
   ·obtain ⟨c, g1, g2, g3⟩ := pairC_of hn hDp hPQ.1 hPQ.2
    refine ⟨c, cand_mem.2 ⟨j, hj, .inr ⟨i, hij, g1⟩⟩, ?_⟩
    rw [g2, g3]
    exact (lowF_cross _ _).symm
   ·subst hij
    exfalso
    have : crs (R.getD i rw0).1 (R.getD i rw0).1 = 0 := by unfold crs; grind
    rw [this, nrm_zero] at hn
    injection hn with a _
    omega
   ·have hs := nrm_swap hn hDp
    have e1 : -crs (R.getD i rw0).1 (R.getD j rw0).1 = crs (R.getD j rw0).1 (R.getD i rw0).1 := by unfold crs; omega
    have e2 : -crs (R.getD i rw0).1 f = crs f (R.getD i rw0).1 := by unfold crs; omega
    have e3 : -crs f (R.getD j rw0).1 = crs (R.getD j rw0).1 f := by unfold crs; omega
    rw [e1, e2, e3] at hs
    obtain ⟨c, g1, g2, g3⟩ := pairC_of hs hDp hPQ.2 hPQ.1
    refine ⟨c, cand_mem.2 ⟨i, hi, .inr ⟨j, hij, g1⟩⟩, ?_⟩
    rw [g2, g3, show Q * (R.getD j rw0).2.1 + P * (R.getD i rw0).2.1 = P * (R.getD i rw0).2.1 + Q * (R.getD j rw0).2.1 by omega]
    exact (lowF_cross _ _).symm
theorem best_most : (bestF f R R.length 0 none = none ∧ (mcL (tOf f) (R.map hv)).foldl tkF none = none) ∨
 ∃ c q, bestF f R R.length 0 none = some c ∧ some c ∈ candL f R ∧ (∀ d, some d ∈ candL f R → c.2.2 * d.2.1 ≤ d.2.2 * c.2.1) ∧ (mcL (tOf f) (R.map hv)).foldl tkF none = some q ∧ lowF c.2.2 c.2.1 = q := by
 have hm := tk_spec (fun f : Fr => f.1) (fun f => f.2) (mcL (tOf f) (R.map hv)) none (fun q hq => (match2 hf hR hq).2.2) (fun c h => by cases h)
 rcases best_min f R with ⟨h1, h2⟩ | ⟨c, h1, h2, h3⟩
 ·left
  refine ⟨h1, ?_⟩
  rcases hm with ⟨g1, _⟩ | ⟨q, _, g2, _⟩
  ·exact g1
  ·have hq := g2.elim (fun h => by cases h) id
   obtain ⟨⟨c, hc, _⟩, _⟩ := match2 hf hR hq
   exact absurd hc (h2 c)
 ·right
  rcases hm with ⟨_, _, g3⟩ | ⟨q, g1, g2, _, g4⟩
  ·obtain ⟨q, hq, _⟩ := match1 hf hR h2
   exact absurd hq (g3 q)
  ·have hq := g2.elim (fun h => by cases h) id
   refine ⟨c, q, h1, h2, h3, g1, ?_⟩
   obtain ⟨⟨c', hc', e'⟩, hl, hqp⟩ := match2 hf hR hq
   obtain ⟨q', hq', e⟩ := match1 hf hR h2
   obtain ⟨_, _, hqp'⟩ := match2 hf hR hq'
   have l1 := h3 c' hc'
   have l2 : q.1 * q'.2 ≤ q'.1 * q.2 := g4 q' hq'
   have p1 := cand_pos h2
   have p2 := cand_pos hc'
   rw [← hl]
   refine lowF_eq p1 hqp ?_
   have a1 := Int.mul_le_mul_of_nonneg_right l1 (show 0 ≤ q.2 by omega)
   have a2 := Int.mul_le_mul_of_nonneg_right l2 (show 0 ≤ c.2.1 by omega)
   have b1 : (c.2.2 * q.2) * c'.2.1 ≤ (q.1 * c.2.1) * c'.2.1 := by grind
   have b2 : (q.1 * c.2.1) * q'.2 ≤ (c.2.2 * q.2) * q'.2 := by
    have x1 : (q.1 * c.2.1) * q'.2 = q.1 * q'.2 * c.2.1 := Int.mul_right_comm _ _ _
    have x2 : (c.2.2 * q.2) * q'.2 = q'.1 * q.2 * c.2.1 := by rw [Int.mul_right_comm, e, Int.mul_right_comm]
    rw [x1, x2]; exact a2
   have b3 := Int.le_of_mul_le_mul_right b1 p2
   have b4 := Int.le_of_mul_le_mul_right b2 hqp'
   omega
end
theorem opp_dir {f : Vc} (h : Dir f) : Dir (-f.1, -f.2) := by
 refine ⟨opp_ok h.1, ?_⟩
 simp only
 rcases h.2 with h | h | ⟨h, h'⟩
 ·right; left; omega
 ·left; omega
 ·right; right; omega
theorem enclosed_eq (l : List Msr) (hl : l.length ≤ 100) (hv' : ∀ m ∈ l, mErr m = 0) {f : Vc} (hf : Dir f) : ∃ y, s81 (l, f) = some y ∧ s84 (l, f.1, f.2) = some y ∧ (y.2 = 13 ↔ Contra (hvs l)) := by
 have hR := rws_ok hv' 0
 have hRw : ∀ r ∈ rwsF 0 l, RwOk r := fun r hr => rwOk_of (hR r hr)
 have hlen : (rwsF 0 l).length ≤ 1000 := by rw [rwsF_len]; omega
 have hH := hvs_ok hv'
 have hHl : (hvs l).length ≤ 1000 := by rw [hvs_len]; omega
 obtain ⟨b1, e1, k1⟩ := possible_eq l hl hv'
 obtain ⟨b2, e2, k2⟩ := contradict_eq hH hHl
 have hfo := opp_dir hf
 obtain ⟨s1, q1, _, g1⟩ := best_eq hfo.1 hRw hlen
 obtain ⟨s2, q2, _, g2⟩ := best_eq hf.1 hRw hlen
 have m1 := most_eq hH hHl hfo.d
 have m2 := most_eq hH hHl hf.d
 have hop : s117 f = some (-f.1, -f.2) := opp_eq f (by have := hf.1.1; omega) (by have := hf.1.2; omega)
 have w1 : wr (-f.1) = -f.1 := by have := hf.1.1; exact wr_id (by omega) (by omega)
 have w2 : wr (-f.2) = -f.2 := by have := hf.1.2; exact wr_id (by omega) (by omega)
 unfold s81 s84
 simp only [e1, halves_eq l (by omega) hv', e2, optE_some, rows_eq l (by omega) hv', hop, g1, g2, w1, w2, m1.2, m2.2]
 have hb : b1 = !b2 := by
  cases b2 with
  | true =>
    cases b1 with
    | true => exact absurd (k2.1 rfl) (k1.1 rfl)
    | false => rfl
  | false =>
    cases b1 with
    | true => rfl
    | false =>
      have : ¬ Contra (hvs l) := fun h => by have := k2.2 h; cases this
      have := k1.2 this
      cases this
 rw [hb]
 cases b2 with
 | true => exact ⟨_, rfl, rfl, fun _ => k2.1 rfl, fun _ => rfl⟩
 | false =>
   have hno : ¬ Contra (hvs l) := fun h => by have := k2.2 h; cases this
   simp only [Bool.not_false, Bool.not_true, cond_false]
   have x1 := best_most hfo hR
   have x2 := best_most hf hR
   rw [rws_hvs] at x1 x2
   rw [show ((-f.1, -f.2, (0 : Int)) : Hf) = tOf (-f.1, -f.2) from rfl, show ((f.1, f.2, (0 : Int)) : Hf) = tOf f from rfl]
   have fr : ∀ c : Cd, CdOk c → 0 < c.2.1 → s119 (((c.1, c.2.1), c.2.2)) = some (lowF c.2.2 c.2.1) := fun c hc hp => by
    unfold s119
    obtain ⟨h1, h2⟩ := hc
    simp only [lowest1 (n := c.2.2) (d := c.2.1) hp (by omega) (by omega) (by omega), optE_some]
   have cok : ∀ {g : Vc}, Dir g → ∀ c, some c ∈ candL g (rwsF 0 l) → CdOk c := fun {g} hg c hc => by
    obtain ⟨i, hi, h | ⟨j, hj, h⟩⟩ := cand_mem.1 hc
    ·exact oneC_ok (hRw _ (getD_mem rw0 hi)) c h
    ·exact pairC_ok hg.1 (hRw _ (getD_mem rw0 (show j < (rwsF 0 l).length by omega))) (hRw _ (getD_mem rw0 hi)) c h
   rcases x1 with ⟨z1, z2⟩ | ⟨c1, p1, z1, z2, _, z3, z4⟩
   ·rw [q1, z1, z2]
    exact ⟨_, rfl, rfl, (fun h => by cases h), fun h => absurd h hno⟩
   ·rw [q1, z1, z3]
    rcases x2 with ⟨y1, y2⟩ | ⟨c2, p2, y1, y2, _, y3, y4⟩
    ·rw [q2, y1, y2]
     exact ⟨_, rfl, rfl, (fun h => by cases h), fun h => absurd h hno⟩
    ·rw [q2, y1, y3]
     simp only [encC, encM, Bool.not_true, cond_false, fr c1 (cok hfo c1 z2) (cand_pos z2), fr c2 (cok hf c2 y2) (cand_pos y2), optE_some, z4, y4]
     exact ⟨_, rfl, rfl, (fun h => by cases h), fun h => absurd h hno⟩
end Go.Proofs.YtfmfiflpokogiaaDoor
