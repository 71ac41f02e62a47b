/- Chapter 1: the squares of distances by the reference. -/
import Derived.Test.YtgpfdacidgmelaaGreatGap
import Derived.Test.YtgpfdacidgmelaaGreatWideBase
set_option linter.unusedSimpArgs false
namespace Go.Proofs.YtgpfdacidgmelaaGreat
open Go.Ev

theorem s78_eq {n : Int} (h1 : -9223372036854775807 ≤ n) (h2 : n ≤ 9223372036854775807) : ∃ w, s78 n = some w ∧ IsW w (n * n) 7 := by
  obtain ⟨w, g1, g2⟩ := s108_eq h1 h2
  obtain ⟨v, g3, g4⟩ := s113_eq g2 g2 (by omega)
  exact ⟨v, by unfold s78; simp only [g1, g3, optE_some], g4⟩

theorem ref_comp {x y d e : Int} (hd : 1 ≤ d) (he : 1 ≤ e) (hd2 : d ≤ 10000) (he2 : e ≤ 10000) (hx : -(1000000 * d) ≤ x ∧ x ≤ 1000000 * d) (hy : -(1000000 * e) ≤ y ∧ y ≤ 1000000 * e) :
    wr (wr (y * d) + wr (x * wr (-e))) = y * d - x * e := by
  have h1 := Int.mul_le_mul_of_nonneg_right hx.2 (show 0 ≤ e by omega)
  have h2 := Int.mul_le_mul_of_nonneg_right hx.1 (show 0 ≤ e by omega)
  have h3 := Int.mul_le_mul_of_nonneg_right hy.2 (show 0 ≤ d by omega)
  have h4 := Int.mul_le_mul_of_nonneg_right hy.1 (show 0 ≤ d by omega)
  have e1 : 1000000 * d * e = 1000000 * (d * e) := by grind
  have e2 : 1000000 * e * d = 1000000 * (d * e) := by grind
  have e3 : -(1000000 * d) * e = -(1000000 * (d * e)) := by grind
  have e4 : -(1000000 * e) * d = -(1000000 * (d * e)) := by grind
  have := prod_bound (p := d) (q := e) (m := 10000) (by omega) hd2 (by omega) he2
  have e5 : x * -e = -(x * e) := Int.mul_neg x e
  rw [wr_id (n := -e) (by omega) (by omega), e5, wr_id (n := y * d) (by omega) (by omega), wr_id (n := -(x * e)) (by omega) (by omega), wr_id (by omega) (by omega)]
  omega

theorem s84_eq {a b : Tr} {s r : Int} {p q : Pt} (h1 : s91 (a, s) = some p) (h2 : s91 (b, r) = some q) (hp : PtOk p) (hq : PtOk q) (e : Int) : s84 (a, b, s, r) = some (gap p q e).1 := by
  obtain ⟨p1, p2⟩ := hp.den
  obtain ⟨q1, q2⟩ := hq.den
  have hd := dens hp hq
  unfold s84 s121 s120
  simp only [h1, h2, optE_some, ref_comp p1 q1 p2 q2 hp.x hq.x, ref_comp p1 q1 p2 q2 hp.y hq.y, ref_comp p1 q1 p2 q2 hp.z hq.z]
  rw [wr_id (n := p.2 * q.2) (by omega) (by omega)]
  rfl

theorem parts_ok {g : Gp} (G : GpOk g) {x : Int} (hx : comp g x) : mx x (wr (-x)) = sz x ∧ (∃ w, s78 (mx 0 (wr (sz x - g.2 * g.1.2))) = some w ∧ IsW w (near1 g x) 7) ∧ (∃ w, s78 (wr (sz x + g.2 * g.1.2)) = some w ∧ IsW w (far1 g x) 7) := by
  obtain ⟨d1, d2⟩ := G.den
  obtain ⟨b1, b2⟩ := G.by'
  obtain ⟨x1, x2⟩ := hx
  obtain ⟨z1, z2, _⟩ := sz_spec x
  have m1 : 0 ≤ mx 0 (sz x - g.2 * g.1.2) := by unfold mx; split <;> omega
  have m2 : mx 0 (sz x - g.2 * g.1.2) ≤ 2002000 * g.1.2 := by unfold mx; split <;> omega
  refine ⟨by rw [wr_id (by omega) (by omega)]; rfl, ?_, ?_⟩
  · rw [wr_id (n := sz x - g.2 * g.1.2) (by omega) (by omega)]
    exact s78_eq (by omega) (by omega)
  · rw [wr_id (n := sz x + g.2 * g.1.2) (by omega) (by omega)]
    exact s78_eq (by omega) (by omega)

theorem squares_step {g : Gp} (G : GpOk g) {x : Int} (hx : comp g x) (t15 : List Int) (i : Nat) (hi : i < 3) (hl : t15.length = 3) (hxi : t15.getD i 0 = x) {k : Nat} (hk : 7 ≤ k) (hk2 : k ≤ 100) {t13 t14 : Int × List Int} {m n : Int} (h1 : IsW t13 m k) (h2 : IsW t14 n k) (t8 t9 : Int × List Int) (t11 : (Int × Int × Int) × Int) :
    ∃ u v, step69_0 (g.2 * g.1.2, t15, (i : Int), t8, t9, t11, t13, t14) = some (.inl (g.2 * g.1.2, t15, ((i + 1 : Nat) : Int), t8, t9, t11, u, v)) ∧ IsW u (m + near1 g x) (k + 1) ∧ IsW v (n + far1 g x) (k + 1) := by
  obtain ⟨p1, ⟨w, p2, p3⟩, ⟨w', p4, p5⟩⟩ := parts_ok G hx
  obtain ⟨u, q1, q2⟩ := s109_eq h1 (p3.more hk) (by omega)
  obtain ⟨v, q3, q4⟩ := s109_eq h2 (p5.more hk) (by omega)
  refine ⟨u, v, ?_, q2, q4⟩
  have e1 : wr ((i : Int) + 1) = ((i + 1 : Nat) : Int) := wr_succ (by omega)
  simp only [step69_0, s93]
  rw [decide_eq_true (show (i : Int) < 3 by omega), cond_true, inb_nat (show i < t15.length by omega), cond_true, Int.toNat_natCast, hxi, p1]
  simp only [optE_some, p2, q1, p4, q3, e1]

theorem s69_eq {a b : Tr} {s r : Int} {p q : Pt} (h1 : s91 (a, s) = some p) (h2 : s91 (b, r) = some q) (hp : PtOk p) (hq : PtOk q) (ha : 0 ≤ a.2 ∧ a.2 ≤ 1000) (hb : 0 ≤ b.2 ∧ b.2 ≤ 1000) :
    ∃ u v, s69 (a, b, s, r) = some (u, v, p.2 * q.2) ∧ IsW u (near (gap p q (a.2 + b.2))) 10 ∧ IsW v (far (gap p q (a.2 + b.2))) 10 := by
  have G := gap_ok hp hq (e := a.2 + b.2) (by omega)
  have hbt := s84_eq h1 h2 hp hq (a.2 + b.2)
  obtain ⟨g, hg⟩ : ∃ g, gap p q (a.2 + b.2) = g := ⟨_, rfl⟩
  have hg2 : g.2 = a.2 + b.2 := by rw [← hg]; rfl
  have hgd : g.1.2 = p.2 * q.2 := by rw [← hg]; rfl
  rw [hg] at hbt G ⊢
  obtain ⟨d1, d2⟩ := G.den
  obtain ⟨b1, b2⟩ := G.by'
  obtain ⟨z, z1, z2⟩ := s108_eq (n := 0) (by omega) (by omega)
  obtain ⟨u1, v1, k1, k2, k3⟩ := squares_step G G.x [g.1.1.1, g.1.1.2.1, g.1.1.2.2] 0 (by omega) rfl rfl (Nat.le_refl 7) (by omega) (z2.more (by omega)) (z2.more (by omega)) (0, []) (0, []) g.1
  obtain ⟨u2, v2, k4, k5, k6⟩ := squares_step G G.y [g.1.1.1, g.1.1.2.1, g.1.1.2.2] 1 (by omega) rfl rfl (by omega) (by omega) k2 k3 (0, []) (0, []) g.1
  obtain ⟨u3, v3, k7, k8, k9⟩ := squares_step G G.z [g.1.1.1, g.1.1.2.1, g.1.1.2.2] 2 (by omega) rfl rfl (by omega) (by omega) k5 k6 (0, []) (0, []) g.1
  have k1' : step69_0 (g.2 * g.1.2, [g.1.1.1, g.1.1.2.1, g.1.1.2.2], 0, (0, []), (0, []), g.1, z, z) = _ := k1
  have hend : step69_0 (g.2 * g.1.2, [g.1.1.1, g.1.1.2.1, g.1.1.2.2], ((2 + 1 : Nat) : Int), (0, []), (0, []), g.1, u3, v3) = some (.inr ((0, []), (0, []), g.1, u3, v3)) := by
    simp only [step69_0]; rfl
  have hloop : loopVal step69_0 (g.2 * g.1.2, [g.1.1.1, g.1.1.2.1, g.1.1.2.2], 0, (0, []), (0, []), g.1, z, z) = some ((0, []), (0, []), g.1, u3, v3) := by
    rw [loopVal_next k1', loopVal_next k4, loopVal_next k7, loopVal_last hend]
  have e1 : wr (a.2 + b.2) = g.2 := by rw [hg2, wr_id (by omega) (by omega)]
  have e2 : wr (g.2 * g.1.2) = g.2 * g.1.2 := wr_id (by omega) (by omega)
  refine ⟨u3, v3, ?_, ?_, ?_⟩
  · rw [← hgd]
    unfold s69
    simp only [hbt, z1, optE_some, e1, e2, hloop]
  · rw [Int.zero_add] at k8; exact k8
  · rw [Int.zero_add] at k9; exact k9

theorem cmpI_le (m n : Int) : decide (cmpI m n ≤ 0) = decide (m ≤ n) := by
  unfold cmpI
  by_cases h : m < n
  · rw [if_pos h, decide_eq_true (show (-1 : Int) ≤ 0 by omega), decide_eq_true (by omega)]
  · rw [if_neg h]
    by_cases e : m = n
    · rw [if_pos e, decide_eq_true (show (0 : Int) ≤ 0 by omega), decide_eq_true (by omega)]
    · rw [if_neg e, decide_eq_false (show ¬ (1 : Int) ≤ 0 by omega), decide_eq_false (by omega)]
theorem cmpI_ge (m n : Int) : decide (cmpI m n ≥ 0) = decide (n ≤ m) := by
  unfold cmpI
  by_cases h : m < n
  · rw [if_pos h, decide_eq_false (show ¬ (-1 : Int) ≥ 0 by omega), decide_eq_false (by omega)]
  · rw [if_neg h]
    by_cases e : m = n
    · rw [if_pos e, decide_eq_true (show (0 : Int) ≥ 0 by omega), decide_eq_true (by omega)]
    · rw [if_neg e, decide_eq_true (show (1 : Int) ≥ 0 by omega), decide_eq_true (by omega)]
theorem cmpI_lt (m n : Int) : decide (cmpI m n < 0) = decide (m < n) := by
  unfold cmpI
  by_cases h : m < n
  · rw [if_pos h, decide_eq_true (show (-1 : Int) < 0 by omega), decide_eq_true (by omega)]
  · rw [if_neg h]
    by_cases e : m = n
    · rw [if_pos e, decide_eq_false (show ¬ (0 : Int) < 0 by omega), decide_eq_false (by omega)]
    · rw [if_neg e, decide_eq_false (show ¬ (1 : Int) < 0 by omega), decide_eq_false (by omega)]
theorem cmpI_gt (m n : Int) : decide (cmpI m n > 0) = decide (n < m) := by
  unfold cmpI
  by_cases h : m < n
  · rw [if_pos h, decide_eq_false (show ¬ (-1 : Int) > 0 by omega), decide_eq_false (by omega)]
  · rw [if_neg h]
    by_cases e : m = n
    · rw [if_pos e, decide_eq_false (show ¬ (0 : Int) > 0 by omega), decide_eq_false (by omega)]
    · rw [if_neg e, decide_eq_true (show (1 : Int) > 0 by omega), decide_eq_true (by omega)]
theorem cmpI_eq (m n : Int) : (cmpI m n == 0) = decide (m = n) := by
  unfold cmpI
  by_cases h : m < n
  · rw [if_pos h, decide_eq_false (by omega)]; rfl
  · rw [if_neg h]
    by_cases e : m = n
    · rw [if_pos e, decide_eq_true e]; rfl
    · rw [if_neg e, decide_eq_false e]; rfl

theorem root_step {w : Int × List Int} {n : Int} (hw : IsW w n 10) {d : Int} (d1 : 1 ≤ d) (d2 : d ≤ 100000000) {lo hi : Int} (h0 : 0 ≤ lo) (hlt : lo < hi) (hhi : hi ≤ 8000000) :
    step70_0 (d, lo, hi, w) = bif decide (((lo + hi + 1) / 2 * d) * ((lo + hi + 1) / 2 * d) ≤ n) then some (.inl (d, (lo + hi + 1) / 2, hi, w)) else some (.inl (d, lo, (lo + hi + 1) / 2 - 1, w)) := by
  have hm := prod_bound (p := (lo + hi + 1) / 2) (q := d) (m := 100000000) (by omega) (by omega) (by omega) d2
  obtain ⟨v, g1, g2⟩ := s78_eq (n := (lo + hi + 1) / 2 * d) (by omega) (by omega)
  have e0 : wr (lo + hi) = lo + hi := wr_id (by omega) (by omega)
  have e1 : wr (lo + hi + 1) = lo + hi + 1 := wr_id (by omega) (by omega)
  have e2 : Int.tdiv (lo + hi + 1) 2 = (lo + hi + 1) / 2 := Int.tdiv_eq_ediv_of_nonneg (by omega)
  have e3 : wr ((lo + hi + 1) / 2) = (lo + hi + 1) / 2 := wr_id (by omega) (by omega)
  have e4 : wr ((lo + hi + 1) / 2 * d) = (lo + hi + 1) / 2 * d := wr_id (by omega) (by omega)
  have e5 : wr ((lo + hi + 1) / 2 - 1) = (lo + hi + 1) / 2 - 1 := wr_id (by omega) (by omega)
  simp only [step70_0, e0, e1, e2, e3, e4, e5, g1, optE_some, s77_eq (g2.more (by omega : 7 ≤ 10)) hw (by omega), cmpI_le]
  rw [decide_eq_true hlt, cond_true]
theorem root_loop {w : Int × List Int} {n : Int} (hw : IsW w n 10) {d : Int} (d1 : 1 ≤ d) (d2 : d ≤ 100000000) : ∀ (m : Nat) (lo hi : Int), 0 ≤ lo → lo ≤ hi → hi ≤ 8000000 → hi - lo ≤ m → (lo * d) * (lo * d) ≤ n → (hi < 8000000 → n < ((hi + 1) * d) * ((hi + 1) * d)) →
    ∃ r, loopVal step70_0 (d, lo, hi, w) = some (d, r, w) ∧ 0 ≤ r ∧ r ≤ 8000000 ∧ (r * d) * (r * d) ≤ n ∧ (r < 8000000 → n < ((r + 1) * d) * ((r + 1) * d)) := by
  intro m
  induction m with
  | zero =>
    intro lo hi h0 h1 h2 h3 h4 h5
    have : lo = hi := by omega
    subst this
    refine ⟨lo, loopVal_last ?_, h0, h2, h4, h5⟩
    simp only [step70_0]
    rw [decide_eq_false (by omega), cond_false]
  | succ m ih =>
    intro lo hi h0 h1 h2 h3 h4 h5
    by_cases he : lo = hi
    · subst he
      refine ⟨lo, loopVal_last ?_, h0, h2, h4, h5⟩
      simp only [step70_0]
      rw [decide_eq_false (by omega), cond_false]
    · have hs := root_step hw d1 d2 h0 (show lo < hi by omega) h2
      by_cases c : ((lo + hi + 1) / 2 * d) * ((lo + hi + 1) / 2 * d) ≤ n
      · rw [decide_eq_true c, cond_true] at hs
        rw [loopVal_next hs]
        exact ih _ hi (by omega) (by omega) h2 (by omega) c h5
      · rw [decide_eq_false c, cond_false] at hs
        rw [loopVal_next hs]
        exact ih lo _ h0 (by omega) (by omega) (by omega) h4 (fun _ => by rw [show (lo + hi + 1) / 2 - 1 + 1 = (lo + hi + 1) / 2 by omega]; omega)
theorem s70_eq {w : Int × List Int} {n : Int} (hw : IsW w n 10) (hn : 0 ≤ n) {d : Int} (d1 : 1 ≤ d) (d2 : d ≤ 100000000) (ht : n < (8000000 * d) * (8000000 * d)) : ∃ r, s70 (w, d) = some (r, decide ((r * d) * (r * d) = n)) ∧ IsLo n d r := by
  obtain ⟨r, g1, g2, g3, g4, g5⟩ := root_loop hw d1 d2 8000000 0 8000000 (by omega) (by omega) (by omega) (by omega) (by rw [Int.zero_mul]; exact hn) (fun h => by omega)
  have hlt : r < 8000000 := by
    rcases (show r = 8000000 ∨ r < 8000000 by omega) with e | e
    · subst e; omega
    · exact e
  have hm := prod_bound (p := r) (q := d) (m := 100000000) (by omega) (by omega) (by omega) d2
  obtain ⟨v, k1, k2⟩ := s78_eq (n := r * d) (by omega) (by omega)
  refine ⟨r, ?_, g2, hlt, g4, g5 hlt⟩
  unfold s70
  simp only [g1, optE_some, wr_id (n := r * d) (by omega) (by omega), k1, s77_eq (k2.more (by omega : 7 ≤ 10)) hw (by omega), cmpI_eq]

theorem IsLo.uniq {n d r r' : Int} (hd : 1 ≤ d) (h : IsLo n d r) (h' : IsLo n d r') : r = r' := by
  have := h.mono hd h' (Int.le_refl _)
  have := h'.mono hd h (Int.le_refl _)
  omega
theorem IsHi.uniq {n d r r' : Int} (hd : 1 ≤ d) (h : IsHi n d r) (h' : IsHi n d r') : r = r' := by
  have := h.mono hd h' (Int.le_refl _)
  have := h'.mono hd h (Int.le_refl _)
  omega
theorem hi_of_lo {n d r : Int} (hd : 1 ≤ d) (h : IsLo n d r) : IsHi n d (if (r * d) * (r * d) = n then r else r + 1) := by
  obtain ⟨h1, h2, h3, h4⟩ := h
  split
  · rename_i e
    refine ⟨h1, by omega, by omega, fun g => ?_⟩
    have hp : (r - 1) * d < r * d := Int.mul_lt_mul_of_pos_right (by omega) (by omega)
    have h0 : 0 ≤ (r - 1) * d := Int.mul_nonneg (by omega) (by omega)
    have hq := Int.mul_le_mul_of_nonneg_left (Int.le_of_lt hp) h0
    have hq2 := Int.mul_lt_mul_of_pos_right hp (show 0 < r * d by omega)
    omega
  · rename_i e
    exact ⟨by omega, by omega, by omega, fun _ => by rw [show r + 1 - 1 = r by omega]; omega⟩

/-- The distance by the reference. -/
theorem ref_dist {a b : Tr} {time : Int} {p q : Pt} (h1 : s91 (a, time) = some p) (h2 : s91 (b, time) = some q) (hp : PtOk p) (hq : PtOk q) (ha : 0 ≤ a.2 ∧ a.2 ≤ 1000) (hb : 0 ≤ b.2 ∧ b.2 ≤ 1000) :
    ∃ r, s18 (a, b, time) = some r ∧ IsLo (near (gap p q (a.2 + b.2))) (p.2 * q.2) r.1 ∧ IsHi (far (gap p q (a.2 + b.2))) (p.2 * q.2) r.2 := by
  have G := gap_ok hp hq (e := a.2 + b.2) (by omega)
  obtain ⟨d1, d2⟩ := dens hp hq
  obtain ⟨u, v, k1, k2, k3⟩ := s69_eq h1 h2 hp hq ha hb
  obtain ⟨_, n1, n2⟩ := s101_eq G
  obtain ⟨_, f1, f2⟩ := s102_eq G
  obtain ⟨lo, l1, l2⟩ := s70_eq k2 n1 d1 d2 (top_bound d1 n2)
  obtain ⟨hi, m1, m2⟩ := s70_eq k3 f1 d1 d2 (top_bound d1 f2)
  obtain ⟨i1, i2, i3, i4⟩ := m2
  refine ⟨(lo, if (hi * (p.2 * q.2)) * (hi * (p.2 * q.2)) = far (gap p q (a.2 + b.2)) then hi else hi + 1), ?_, l2, hi_of_lo d1 ⟨i1, i2, i3, i4⟩⟩
  unfold s18
  simp only [k1, l1, m1, optE_some]
  split
  · rename_i e
    rw [decide_eq_true e]; rfl
  · rename_i e
    rw [decide_eq_false e, wr_id (n := hi + 1) (by omega) (by omega)]; rfl
end Go.Proofs.YtgpfdacidgmelaaGreat
