/- Chapter 1: when a signal is received, and when one must be sent; PathReceived. -/
import Derived.Test.YtgpfdacidgmelaaGreatTravel
set_option linter.unusedSimpArgs false
namespace Go.Proofs.YtgpfdacidgmelaaGreat
open Go.Ev

/-- Two valid tracks at a time of both. -/
structure Pair (a b : Tr) (t : Int) : Prop where
  va : Valid a
  vb : Valid b
  ta : firstT a ≤ t ∧ t ≤ lastT a
  tb : firstT b ≤ t ∧ t ≤ lastT b
theorem pair_of {a b : Tr} {t : Int} (h : bothE a b = 0) (ht : timesE t a b = 0) : Pair a b t :=
  ⟨valid_of (bothE_zero h).1, valid_of (bothE_zero h).2, tErr_of.1 (timesE_zero ht).1, tErr_of.1 (timesE_zero ht).2⟩
section
variable {a b : Tr} {t : Int}

/-! Receipt -/
theorem Pair.see (h : Pair a b t) {r : Int} (h1 : t ≤ r) (h2 : r ≤ lastT b) : Sees a b t r := by
  have := span_ok h.vb
  have := h.tb
  exact sees h.va h.vb (tErr_of.2 h.ta) (tErr_of.2 (by omega)) (by omega)
theorem Pair.up (h : Pair a b t) : ∀ (m : Nat) {r : Int}, t ≤ r → r + (m : Int) ≤ lastT b → (arrT a b t r = true → arrT a b t (r + (m : Int)) = true) ∧ (misT a b t (r + (m : Int)) = true → misT a b t r = true)
  | 0, r, h1, h2 => by simp
  | m + 1, r, h1, h2 => by
    have sp := span_ok h.vb
    have tb := h.tb
    obtain ⟨i1, i2⟩ := h.up m h1 (by omega)
    have e : r + ((m + 1 : Nat) : Int) = r + (m : Int) + 1 := by omega
    obtain ⟨l1, l2⟩ := later h.va h.vb (tErr_of.2 h.ta) (show firstT b ≤ r + (m : Int) by omega) (show r + (m : Int) + 1 ≤ lastT b by omega) (by omega) (by omega)
    rw [e]
    exact ⟨fun x => l1 (i1 x), fun x => i2 (l2 x)⟩
theorem Pair.arr_up (h : Pair a b t) {r r' : Int} (h1 : t ≤ r) (h2 : r ≤ r') (h3 : r' ≤ lastT b) (hr : arrT a b t r = true) : arrT a b t r' = true := by
  have := (h.up (r' - r).toNat h1 (by omega)).1 hr
  rwa [show r + ((r' - r).toNat : Int) = r' by omega] at this
theorem Pair.mis_down (h : Pair a b t) {r r' : Int} (h1 : t ≤ r) (h2 : r ≤ r') (h3 : r' ≤ lastT b) (hr : misT a b t r' = true) : misT a b t r = true := by
  refine (h.up (r' - r).toNat h1 (by omega)).2 ?_
  rwa [show r + ((r' - r).toNat : Int) = r' by omega]
theorem Pair.excl (h : Pair a b t) {r : Int} (h1 : t ≤ r) (h2 : r ≤ lastT b) (hr : arrT a b t r = true) : misT a b t r = false := by
  have := span_ok h.vb
  have := h.tb
  exact not_both h.va h.vb (tErr_of.2 h.ta) (tErr_of.2 (by omega)) (by omega) hr
theorem mid_wr {lo hi : Int} (h1 : 0 ≤ lo) (h2 : lo ≤ hi) (h3 : hi ≤ 1000000000000) : wr (Int.tdiv (wr (lo + hi)) 2) = (lo + hi) / 2 ∧ wr (Int.tdiv (wr (wr (lo + hi) + 1)) 2) = (lo + hi + 1) / 2 := by
  rw [wr_id (n := lo + hi) (by omega) (by omega), wr_id (n := lo + hi + 1) (by omega) (by omega), Int.tdiv_eq_ediv_of_nonneg (by omega), Int.tdiv_eq_ediv_of_nonneg (by omega)]
  exact ⟨wr_id (by omega) (by omega), wr_id (by omega) (by omega)⟩

theorem recv_loop1 (h : Pair a b t) (t6 : Int × Int) : ∀ (m : Nat) (lo hi : Int), t ≤ lo → lo ≤ hi → hi ≤ lastT b → hi - lo ≤ m → arrT a b t hi = true → (∀ u, t ≤ u → u < lo → arrT a b t u = false) →
    ∃ r, loopVal step26_0 (t, lo, hi, a, b, t6) = some (t, r, a, b, t6) ∧ t ≤ r ∧ r ≤ lastT b ∧ arrT a b t r = true ∧ ∀ u, t ≤ u → u < r → arrT a b t u = false := by
  have sp := span_ok h.vb
  have tb := h.tb
  intro m
  induction m with
  | zero =>
    intro lo hi h1 h2 h3 h4 h5 h6
    have : lo = hi := by omega
    subst this
    refine ⟨lo, loopVal_last ?_, h1, h3, h5, h6⟩
    simp only [step26_0]
    rw [decide_eq_false (by omega), cond_false]
  | succ m ih =>
    intro lo hi h1 h2 h3 h4 h5 h6
    by_cases he : lo = hi
    · subst he
      refine ⟨lo, loopVal_last ?_, h1, h3, h5, h6⟩
      simp only [step26_0]
      rw [decide_eq_false (by omega), cond_false]
    · have hs := (h.see (r := (lo + hi) / 2) (by omega) (by omega)).ref
      have hw := (mid_wr (lo := lo) (hi := hi) (by omega) h2 (by omega)).1
      have hstep : step26_0 (t, lo, hi, a, b, t6) = bif arrT a b t ((lo + hi) / 2) then some (.inl (t, lo, (lo + hi) / 2, a, b, t6)) else some (.inl (t, (lo + hi) / 2 + 1, hi, a, b, t6)) := by
        simp only [step26_0, hw, hs, optE_some]
        rw [decide_eq_true (show lo < hi by omega), cond_true, wr_id (n := (lo + hi) / 2 + 1) (by omega) (by omega)]
      cases hc : arrT a b t ((lo + hi) / 2)
      · rw [hc, cond_false] at hstep
        rw [loopVal_next hstep]
        refine ih _ hi (by omega) (by omega) h3 (by omega) h5 (fun u u1 u2 => ?_)
        cases hu : arrT a b t u
        · rfl
        · rw [h.arr_up u1 (show u ≤ (lo + hi) / 2 by omega) (by omega) hu] at hc; cases hc
      · rw [hc, cond_true] at hstep
        rw [loopVal_next hstep]
        exact ih lo _ h1 (by omega) (by omega) (by omega) hc h6
theorem recv_loop2 (h : Pair a b t) (t6 : Int × Int) (e : Int) : ∀ (m : Nat) (lo top : Int), t ≤ lo → lo ≤ top → top ≤ lastT b → top - lo ≤ m → (lo = t ∨ misT a b t lo = true) → (∀ u, top < u → u ≤ lastT b → misT a b t u = false) →
    ∃ r, loopVal step26_2 (t, top, a, b, t6, (lo, e)) = some (t6, (r, e)) ∧ t ≤ r ∧ r ≤ top ∧ (r = t ∨ misT a b t r = true) ∧ ∀ u, r < u → u ≤ lastT b → misT a b t u = false := by
  have sp := span_ok h.vb
  have tb := h.tb
  intro m
  induction m with
  | zero =>
    intro lo top h1 h2 h3 h4 h5 h6
    have : lo = top := by omega
    subst this
    refine ⟨lo, loopVal_last ?_, h1, Int.le_refl _, h5, h6⟩
    simp only [step26_2]
    rw [decide_eq_false (by omega), cond_false]
  | succ m ih =>
    intro lo top h1 h2 h3 h4 h5 h6
    by_cases he : lo = top
    · subst he
      refine ⟨lo, loopVal_last ?_, h1, Int.le_refl _, h5, h6⟩
      simp only [step26_2]
      rw [decide_eq_false (by omega), cond_false]
    · have hs := (h.see (r := (lo + top + 1) / 2) (by omega) (by omega)).away
      have hw := (mid_wr (lo := lo) (hi := top) (by omega) h2 (by omega)).2
      have hstep : step26_2 (t, top, a, b, t6, (lo, e)) = bif misT a b t ((lo + top + 1) / 2) then some (.inl (t, top, a, b, t6, ((lo + top + 1) / 2, e))) else some (.inl (t, (lo + top + 1) / 2 - 1, a, b, t6, (lo, e))) := by
        simp only [step26_2, hw, hs, optE_some]
        rw [decide_eq_true (show lo < top by omega), cond_true, wr_id (n := (lo + top + 1) / 2 - 1) (by omega) (by omega)]
      cases hc : misT a b t ((lo + top + 1) / 2)
      · rw [hc, cond_false] at hstep
        rw [loopVal_next hstep]
        obtain ⟨r, r1, r2, r3, r4, r5⟩ := ih lo ((lo + top + 1) / 2 - 1) h1 (by omega) (by omega) (by omega) h5 (fun u u1 u2 => by
          cases hu : misT a b t u
          · rfl
          · rw [h.mis_down (show t ≤ (lo + top + 1) / 2 by omega) (show (lo + top + 1) / 2 ≤ u by omega) u2 hu] at hc; cases hc)
        exact ⟨r, r1, r2, by omega, r4, r5⟩
      · rw [hc, cond_true] at hstep
        rw [loopVal_next hstep]
        exact ih _ top (by omega) (by omega) h3 (by omega) (.inr hc) h6

/-- When a signal is received. -/
structure Recv (a b : Tr) (t : Int) (x : Int × Int) : Prop where
  lo : t ≤ x.1 ∧ x.1 ≤ x.2
  hi : x.2 ≤ lastT b
  arr : arrT a b t x.2 = true
  least : ∀ u, t ≤ u → u < x.2 → arrT a b t u = false
  mis : x.1 = t ∨ misT a b t x.1 = true
  most : ∀ u, x.1 < u → u ≤ lastT b → misT a b t u = false

theorem Recv.uniq {x y : Int × Int} (hx : Recv a b t x) (hy : Recv a b t y) : x = y := by
  have a1 := hx.lo; have a2 := hy.lo
  have e2 : x.2 = y.2 := by
    rcases (show x.2 < y.2 ∨ y.2 < x.2 ∨ x.2 = y.2 by omega) with c | c | c
    · have := hy.least x.2 (by omega) c; rw [hx.arr] at this; cases this
    · have := hx.least y.2 (by omega) c; rw [hy.arr] at this; cases this
    · exact c
  have e1 : x.1 = y.1 := by
    have b1 := hx.hi; have b2 := hy.hi
    rcases (show x.1 < y.1 ∨ y.1 < x.1 ∨ x.1 = y.1 by omega) with c | c | c
    · rcases hy.mis with m | m
      · omega
      · rw [hx.most y.1 c (by omega)] at m; cases m
    · rcases hx.mis with m | m
      · omega
      · rw [hy.most x.1 c (by omega)] at m; cases m
    · exact c
  exact Prod.ext e1 e2

theorem recvR (h : Pair a b t) : (arrT a b t (lastT b) = false ∧ s26 (a, b, t) = some ((0, 0), false)) ∨ ∃ x, Recv a b t x ∧ s26 (a, b, t) = some (x, true) := by
  have sp := span_ok h.vb
  have tb := h.tb
  have hpos := h.vb.pos
  have hmost := h.vb.most
  have hlast : s29 b = some (lastT b) := by
    have e1 : wr ((b.1.length : Int) - 1) = ((b.1.length - 1 : Nat) : Int) := by rw [wr_id (by omega) (by omega)]; omega
    unfold s29
    rw [e1, inb_nat (show b.1.length - 1 < b.1.length by omega), Int.toNat_natCast]; rfl
  have hs := (h.see (r := lastT b) (by omega) (by omega)).ref
  cases hc : arrT a b t (lastT b)
  · left
    refine ⟨rfl, ?_⟩
    unfold s26
    simp only [hlast, hs, hc, optE_some, Bool.not_false, cond_true]
  · right
    obtain ⟨r, r1, r2, r3, r4, r5⟩ := recv_loop1 h (0, 0) (lastT b - t).toNat t (lastT b) (by omega) (by omega) (by omega) (by omega) hc (fun u u1 u2 => by omega)
    obtain ⟨q, q1, q2, q3, q4, q5⟩ := recv_loop2 h (0, 0) r (r - t).toNat t r (by omega) (by omega) r3 (by omega) (.inl rfl) (fun u u1 u2 => by
      exact h.excl (by omega) u2 (h.arr_up r2 (by omega) u2 r4))
    refine ⟨(q, r), ⟨⟨q2, q3⟩, r3, r4, r5, q4, q5⟩, ?_⟩
    unfold s26
    simp only [hlast, hs, hc, optE_some, Bool.not_true, cond_false, r1, q1]

theorem recvP (h : Pair a b t) : (arrT a b t (lastT b) = false ∧ s73 (a, b, t) = some ((0, 0), 12)) ∨ ∃ x, Recv a b t x ∧ s73 (a, b, t) = some (x, 0) := by
  have sp := span_ok h.vb
  have tb := h.tb
  have hlast := s100_eq h.vb
  have hs := (h.see (r := lastT b) (by omega) (by omega)).arr
  cases hc : arrT a b t (lastT b)
  · left
    refine ⟨rfl, ?_⟩
    unfold s73
    simp only [hlast, hs, hc, optE_some, Bool.not_false, cond_true]
  · right
    obtain ⟨n, hn⟩ : ∃ n : Nat, lastT b - t = (n : Int) := ⟨(lastT b - t).toNat, by omega⟩
    have hseen : ∀ k : Nat, k ≤ n → Sees a b t (t + (k : Int)) := fun k hk => h.see (by omega) (by omega)
    obtain ⟨m1, hm1, p1, l1⟩ := least_ex (q := fun k : Nat => arrT a b t (t + (k : Int)) = true) (n := n) (by rw [show t + (n : Int) = lastT b by omega]; exact hc)
    obtain ⟨m2, hm2, p2, l2⟩ := least_ex (q := fun k : Nat => k = n ∨ misT a b t (t + (k : Int)) = false) (n := n) (.inl rfl)
    have s1 : loopVal step74_0c ((a, t, b, ()), 0, (n : Int)) = some (m1 : Int) := by
      refine search_law (step := step74_0c) (st := fun i j => ((a, t, b, ()), (i : Int), (j : Int))) (g := fun k => arrT a b t (t + (k : Int))) (n := n) (fun i j hij hj => ?_) (fun i hi => ?_) (m := m1) hm1 (fun k hk => by simpa using l1 k hk) (fun k hk hk2 => h.arr_up (by omega) (by omega) (by omega) p1)
      · have hv := (hseen ((i + j) / 2) (by omega)).arr
        have ew : wr (t + (((i + j) / 2 : Nat) : Int)) = t + (((i + j) / 2 : Nat) : Int) := wr_id (by omega) (by omega)
        simp only [step74_0c, lt_cast, hij, decide_true, cond_true, half_mid (show i + j < 4611686018427387904 by omega), ew, hv, optE_some, wr_succ (show (i + j) / 2 < 4611686018427387904 by omega)]
        cases arrT a b t (t + (((i + j) / 2 : Nat) : Int)) <;> simp
      · simp only [step74_0c, lt_cast, Nat.lt_irrefl, decide_false, cond_false]
    have s2 : loopVal step74_0d ((a, t, b, ()), 0, (n : Int)) = some (m2 : Int) := by
      refine search_law (step := step74_0d) (st := fun i j => ((a, t, b, ()), (i : Int), (j : Int))) (g := fun k => !misT a b t (t + (k : Int))) (n := n) (fun i j hij hj => ?_) (fun i hi => ?_) (m := m2) hm2 (fun k hk => ?_) (fun k hk hk2 => ?_)
      · have hv := (hseen ((i + j) / 2) (by omega)).mis
        have ew : wr (t + (((i + j) / 2 : Nat) : Int)) = t + (((i + j) / 2 : Nat) : Int) := wr_id (by omega) (by omega)
        simp only [step74_0d, lt_cast, hij, decide_true, cond_true, half_mid (show i + j < 4611686018427387904 by omega), ew, hv, optE_some, wr_succ (show (i + j) / 2 < 4611686018427387904 by omega)]
        cases misT a b t (t + (((i + j) / 2 : Nat) : Int)) <;> simp
      · simp only [step74_0d, lt_cast, Nat.lt_irrefl, decide_false, cond_false]
      · have := l2 k hk
        cases hq : misT a b t (t + (k : Int))
        · exact absurd (.inr hq) this
        · rfl
      · cases hq : misT a b t (t + (k : Int))
        · rfl
        · rcases p2 with e | e
          · omega
          · rw [h.mis_down (show t ≤ t + (m2 : Int) by omega) (show t + (m2 : Int) ≤ t + (k : Int) by omega) (by omega) hq] at e; cases e
    have e1 : wr (lastT b - t) = (n : Int) := by rw [hn, wr_id (by omega) (by omega)]
    have e2 : wr ((m2 : Int) - 1) = (m2 : Int) - 1 := wr_id (by omega) (by omega)
    have mxv : mx 0 ((m2 : Int) - 1) = if 1 ≤ m2 then (m2 : Int) - 1 else 0 := by unfold mx; split <;> split <;> omega
    have e3 : wr (t + mx 0 ((m2 : Int) - 1)) = t + mx 0 ((m2 : Int) - 1) := by rw [mxv]; split <;> rw [wr_id (by omega) (by omega)]
    have e4 : wr (t + (m1 : Int)) = t + (m1 : Int) := wr_id (by omega) (by omega)
    have hm1arr : arrT a b t (t + (m1 : Int)) = true := p1
    have hmis : ∀ k : Nat, k < m2 → misT a b t (t + (k : Int)) = true := fun k hk => by
      have := l2 k hk
      cases hq : misT a b t (t + (k : Int))
      · exact absurd (.inr hq) this
      · rfl
    refine ⟨(t + mx 0 ((m2 : Int) - 1), t + (m1 : Int)), ⟨?_, ?_, p1, fun u u1 u2 => ?_, ?_, fun u u1 u2 => ?_⟩, ?_⟩
    · refine ⟨by show t ≤ t + mx 0 _; rw [mxv]; split <;> omega, ?_⟩
      show t + mx 0 _ ≤ t + (m1 : Int)
      rw [mxv]
      split
      · rename_i g
        rcases (show m1 < m2 - 1 ∨ m2 - 1 ≤ m1 by omega) with c | c
        · have x1 := hmis m1 (by omega)
          rw [h.excl (show t ≤ t + (m1 : Int) by omega) (by omega) hm1arr] at x1; cases x1
        · omega
      · omega
    · show t + (m1 : Int) ≤ _; omega
    · have := l1 (u - t).toNat (by simp only [] at u2; omega)
      cases hu : arrT a b t u
      · rfl
      · exact absurd (by show arrT a b t (t + ((u - t).toNat : Int)) = true; rw [show t + ((u - t).toNat : Int) = u by omega]; exact hu) this
    · show t + mx 0 _ = t ∨ misT a b t (t + mx 0 _) = true
      rw [mxv]
      split
      · rename_i g
        right
        have := hmis (m2 - 1) (by omega)
        rwa [show ((m2 - 1 : Nat) : Int) = (m2 : Int) - 1 by omega] at this
      · left; omega
    · have u1' : t + mx 0 ((m2 : Int) - 1) < u := u1
      rw [mxv] at u1'
      cases hu : misT a b t u
      · rfl
      · rcases p2 with e | e
        · have g : u = lastT b ∨ m2 = 0 := by split at u1' <;> omega
          rcases g with g | g
          · subst g
            rw [h.excl (by omega) (by omega) hc] at hu; cases hu
          · have g2 : u = lastT b := by rw [if_neg (by omega)] at u1'; omega
            subst g2
            rw [h.excl (by omega) (by omega) hc] at hu; cases hu
        · have g : t + (m2 : Int) ≤ u := by split at u1' <;> omega
          rw [h.mis_down (show t ≤ t + (m2 : Int) by omega) g u2 hu] at e; cases e
    · unfold s73
      simp only [hlast, hs, hc, optE_some, Bool.not_true, cond_false, e1, s1, s2, e2, e3, e4]

/-- By both the same. -/
theorem recv_same (h : Pair a b t) : (arrT a b t (lastT b) = false ∧ s73 (a, b, t) = some ((0, 0), 12) ∧ s26 (a, b, t) = some ((0, 0), false)) ∨
    ∃ x, Recv a b t x ∧ s73 (a, b, t) = some (x, 0) ∧ s26 (a, b, t) = some (x, true) := by
  rcases recvP h with ⟨p1, p2⟩ | ⟨x, p1, p2⟩ <;> rcases recvR h with ⟨r1, r2⟩ | ⟨y, r1, r2⟩
  · exact .inl ⟨p1, p2, r2⟩
  · have := h.arr_up (show t ≤ y.2 by have := r1.lo; omega) r1.hi (Int.le_refl _) r1.arr
    rw [p1] at this; cases this
  · have := h.arr_up (show t ≤ x.2 by have := p1.lo; omega) p1.hi (Int.le_refl _) p1.arr
    rw [r1] at this; cases this
  · obtain rfl := p1.uniq r1
    exact .inr ⟨x, p1, p2, r2⟩

/-! Sending -/
theorem Pair.see' (h : Pair a b t) {s : Int} (h1 : firstT a ≤ s) (h2 : s ≤ t) : Sees a b s t := by
  have := span_ok h.va
  have := h.ta
  exact sees h.va h.vb (tErr_of.2 (by omega)) (tErr_of.2 h.tb) (by omega)
theorem Pair.dn (h : Pair a b t) : ∀ (m : Nat) {s : Int}, firstT a ≤ s → s + (m : Int) ≤ t → (arrT a b (s + (m : Int)) t = true → arrT a b s t = true) ∧ (misT a b s t = true → misT a b (s + (m : Int)) t = true)
  | 0, s, h1, h2 => by simp
  | m + 1, s, h1, h2 => by
    have sp := span_ok h.va
    have ta := h.ta
    obtain ⟨i1, i2⟩ := h.dn m h1 (by omega)
    have e : s + ((m + 1 : Nat) : Int) = s + (m : Int) + 1 := by omega
    obtain ⟨l1, l2⟩ := earlier h.va h.vb (tErr_of.2 h.tb) (show firstT a ≤ s + (m : Int) by omega) (show s + (m : Int) + 1 ≤ lastT a by omega) (by omega) (by omega)
    rw [e]
    exact ⟨fun x => i1 (l1 x), fun x => l2 (i2 x)⟩
theorem Pair.arr_dn (h : Pair a b t) {s s' : Int} (h1 : firstT a ≤ s) (h2 : s ≤ s') (h3 : s' ≤ t) (hr : arrT a b s' t = true) : arrT a b s t = true := by
  refine (h.dn (s' - s).toNat h1 (by omega)).1 ?_
  rwa [show s + ((s' - s).toNat : Int) = s' by omega]
theorem Pair.mis_up (h : Pair a b t) {s s' : Int} (h1 : firstT a ≤ s) (h2 : s ≤ s') (h3 : s' ≤ t) (hr : misT a b s t = true) : misT a b s' t = true := by
  have := (h.dn (s' - s).toNat h1 (by omega)).2 hr
  rwa [show s + ((s' - s).toNat : Int) = s' by omega] at this
theorem Pair.excl' (h : Pair a b t) {s : Int} (h1 : firstT a ≤ s) (h2 : s ≤ t) (hr : arrT a b s t = true) : misT a b s t = false := by
  have := span_ok h.va
  have := h.ta
  exact not_both h.va h.vb (tErr_of.2 (by omega)) (tErr_of.2 h.tb) (by omega) hr

theorem sent_loop1 (h : Pair a b t) (t6 : Int × Int) : ∀ (m : Nat) (lo top : Int), firstT a ≤ lo → lo ≤ top → top ≤ t → top - lo ≤ m → arrT a b lo t = true → (∀ u, top < u → u ≤ t → arrT a b u t = false) →
    ∃ r, loopVal step27_0 (t, lo, top, a, b, t6) = some (t, r, a, b, t6) ∧ firstT a ≤ r ∧ r ≤ t ∧ arrT a b r t = true ∧ ∀ u, r < u → u ≤ t → arrT a b u t = false := by
  have sp := span_ok h.va
  have ta := h.ta
  intro m
  induction m with
  | zero =>
    intro lo hi h1 h2 h3 h4 h5 h6
    have : lo = hi := by omega
    subst this
    refine ⟨lo, loopVal_last ?_, h1, h3, h5, h6⟩
    simp only [step27_0]
    rw [decide_eq_false (by omega), cond_false]
  | succ m ih =>
    intro lo hi h1 h2 h3 h4 h5 h6
    by_cases he : lo = hi
    · subst he
      refine ⟨lo, loopVal_last ?_, h1, h3, h5, h6⟩
      simp only [step27_0]
      rw [decide_eq_false (by omega), cond_false]
    · have hs := (h.see' (s := (lo + hi + 1) / 2) (by omega) (by omega)).ref
      have hw := (mid_wr (lo := lo) (hi := hi) (by omega) h2 (by omega)).2
      have hstep : step27_0 (t, lo, hi, a, b, t6) = bif arrT a b ((lo + hi + 1) / 2) t then some (.inl (t, (lo + hi + 1) / 2, hi, a, b, t6)) else some (.inl (t, lo, (lo + hi + 1) / 2 - 1, a, b, t6)) := by
        simp only [step27_0, hw, hs, optE_some]
        rw [decide_eq_true (show lo < hi by omega), cond_true, wr_id (n := (lo + hi + 1) / 2 - 1) (by omega) (by omega)]
      cases hc : arrT a b ((lo + hi + 1) / 2) t
      · rw [hc, cond_false] at hstep
        rw [loopVal_next hstep]
        refine ih lo _ h1 (by omega) (by omega) (by omega) h5 (fun u u1 u2 => ?_)
        cases hu : arrT a b u t
        · rfl
        · rw [h.arr_dn (show firstT a ≤ (lo + hi + 1) / 2 by omega) (show (lo + hi + 1) / 2 ≤ u by omega) u2 hu] at hc; cases hc
      · rw [hc, cond_true] at hstep
        rw [loopVal_next hstep]
        exact ih _ hi (by omega) (by omega) h3 (by omega) hc h6
theorem sent_loop2 (h : Pair a b t) (t6 : Int × Int) (e : Int) : ∀ (m : Nat) (lo hi : Int), firstT a ≤ lo → lo ≤ hi → hi ≤ t → hi - lo ≤ m → (hi = t ∨ misT a b hi t = true) → (∀ u, firstT a ≤ u → u < lo → misT a b u t = false) →
    ∃ r, loopVal step27_2 (t, lo, a, b, t6, (e, hi)) = some (t6, (e, r)) ∧ lo ≤ r ∧ r ≤ t ∧ (r = t ∨ misT a b r t = true) ∧ ∀ u, firstT a ≤ u → u < r → misT a b u t = false := by
  have sp := span_ok h.va
  have ta := h.ta
  intro m
  induction m with
  | zero =>
    intro lo hi h1 h2 h3 h4 h5 h6
    have : lo = hi := by omega
    subst this
    refine ⟨lo, loopVal_last ?_, Int.le_refl _, h3, h5, h6⟩
    simp only [step27_2]
    rw [decide_eq_false (by omega), cond_false]
  | succ m ih =>
    intro lo hi h1 h2 h3 h4 h5 h6
    by_cases he : lo = hi
    · subst he
      refine ⟨lo, loopVal_last ?_, Int.le_refl _, h3, h5, h6⟩
      simp only [step27_2]
      rw [decide_eq_false (by omega), cond_false]
    · have hs := (h.see' (s := (lo + hi) / 2) (by omega) (by omega)).away
      have hw := (mid_wr (lo := lo) (hi := hi) (by omega) h2 (by omega)).1
      have hstep : step27_2 (t, lo, a, b, t6, (e, hi)) = bif misT a b ((lo + hi) / 2) t then some (.inl (t, lo, a, b, t6, (e, (lo + hi) / 2))) else some (.inl (t, (lo + hi) / 2 + 1, a, b, t6, (e, hi))) := by
        simp only [step27_2, hw, hs, optE_some]
        rw [decide_eq_true (show lo < hi by omega), cond_true, wr_id (n := (lo + hi) / 2 + 1) (by omega) (by omega)]
      cases hc : misT a b ((lo + hi) / 2) t
      · rw [hc, cond_false] at hstep
        rw [loopVal_next hstep]
        obtain ⟨r, r1, r2, r3, r4, r5⟩ := ih ((lo + hi) / 2 + 1) hi (by omega) (by omega) h3 (by omega) h5 (fun u u1 u2 => by
          cases hu : misT a b u t
          · rfl
          · rw [h.mis_up u1 (show u ≤ (lo + hi) / 2 by omega) (by omega) hu] at hc; cases hc)
        exact ⟨r, r1, by omega, r3, r4, r5⟩
      · rw [hc, cond_true] at hstep
        rw [loopVal_next hstep]
        exact ih lo _ h1 (by omega) (by omega) (by omega) (.inr hc) h6

/-- When a signal may be sent. -/
structure Sent (a b : Tr) (t : Int) (x : Int × Int) : Prop where
  lo : firstT a ≤ x.1 ∧ x.1 ≤ x.2
  hi : x.2 ≤ t
  arr : arrT a b x.1 t = true
  most : ∀ u, x.1 < u → u ≤ t → arrT a b u t = false
  mis : x.2 = t ∨ misT a b x.2 t = true
  least : ∀ u, firstT a ≤ u → u < x.2 → misT a b u t = false
theorem Sent.uniq {x y : Int × Int} (hx : Sent a b t x) (hy : Sent a b t y) : x = y := by
  have a1 := hx.lo; have a2 := hy.lo; have b1 := hx.hi; have b2 := hy.hi
  have e1 : x.1 = y.1 := by
    rcases (show x.1 < y.1 ∨ y.1 < x.1 ∨ x.1 = y.1 by omega) with c | c | c
    · have := hx.most y.1 c (by omega); rw [hy.arr] at this; cases this
    · have := hy.most x.1 c (by omega); rw [hx.arr] at this; cases this
    · exact c
  have e2 : x.2 = y.2 := by
    rcases (show x.2 < y.2 ∨ y.2 < x.2 ∨ x.2 = y.2 by omega) with c | c | c
    · rcases hx.mis with m | m
      · omega
      · rw [hy.least x.2 (by omega) c] at m; cases m
    · rcases hy.mis with m | m
      · omega
      · rw [hx.least y.2 (by omega) c] at m; cases m
    · exact c
  exact Prod.ext e1 e2

theorem sentR (h : Pair a b t) : (arrT a b (firstT a) t = false ∧ s27 (a, b, t) = some ((0, 0), false)) ∨ ∃ x, Sent a b t x ∧ s27 (a, b, t) = some (x, true) := by
  have sp := span_ok h.va
  have ta := h.ta
  have hpos := h.va.pos
  have hfirst : s32 a = some (firstT a) := by
    have : inBounds 0 a.1.length = true := inb_nat (i := 0) hpos
    unfold s32
    rw [this]; rfl
  have hs := (h.see' (s := firstT a) (by omega) (by omega)).ref
  cases hc : arrT a b (firstT a) t
  · left
    refine ⟨rfl, ?_⟩
    unfold s27
    simp only [hfirst, hs, hc, optE_some, Bool.not_false, cond_true]
  · right
    obtain ⟨r, r1, r2, r3, r4, r5⟩ := sent_loop1 h (0, 0) (t - firstT a).toNat (firstT a) t (by omega) (by omega) (by omega) (by omega) hc (fun u u1 u2 => by omega)
    obtain ⟨q, q1, q2, q3, q4, q5⟩ := sent_loop2 h (0, 0) r (t - r).toNat r t r2 r3 (by omega) (by omega) (.inl rfl) (fun u u1 u2 => by
      exact h.excl' u1 (by omega) (h.arr_dn u1 (by omega) r3 r4))
    refine ⟨(r, q), ⟨⟨r2, q2⟩, q3, r4, r5, q4, q5⟩, ?_⟩
    unfold s27
    simp only [hfirst, hs, hc, optE_some, Bool.not_true, cond_false, r1, q1]

theorem sentP (hb : bothE a b = 0) (ht : timesE t a b = 0) : (arrT a b (firstT a) t = false ∧ s25 (a, b, t) = some ((0, 0), 12)) ∨ ∃ x, Sent a b t x ∧ s25 (a, b, t) = some (x, 0) := by
  have h := pair_of hb ht
  have sp := span_ok h.va
  have ta := h.ta
  have hpos := h.va.pos
  have hin : inBounds 0 a.1.length = true := inb_nat (i := 0) hpos
  have hfst : (a.1.getD 0 (0, 0, 0, 0)).1 = firstT a := rfl
  have hs := (h.see' (s := firstT a) (by omega) (by omega)).arr
  cases hc : arrT a b (firstT a) t
  · left
    refine ⟨rfl, ?_⟩
    unfold s25
    simp only [trackErr2, optE_some, ne_false hb, cond_false, timeErr2 h.va h.vb, ne_false ht, hin, cond_true, hfst, hs, hc, Bool.not_false]
  · right
    obtain ⟨n, hn⟩ : ∃ n : Nat, t - firstT a = (n : Int) := ⟨(t - firstT a).toNat, by omega⟩
    have hseen : ∀ k : Nat, k ≤ n → Sees a b (firstT a + (k : Int)) t := fun k hk => h.see' (by omega) (by omega)
    obtain ⟨m1, hm1, p1, l1⟩ := least_ex (q := fun k : Nat => k = n + 1 ∨ arrT a b (firstT a + (k : Int)) t = false) (n := n + 1) (.inl rfl)
    obtain ⟨m2, hm2, p2, l2⟩ := least_ex (q := fun k : Nat => k = n ∨ misT a b (firstT a + (k : Int)) t = true) (n := n) (.inl rfl)
    have harr : ∀ k : Nat, k < m1 → arrT a b (firstT a + (k : Int)) t = true := fun k hk => by
      have := l1 k hk
      cases hq : arrT a b (firstT a + (k : Int)) t
      · exact absurd (.inr hq) this
      · rfl
    have hmis : ∀ k : Nat, k < m2 → misT a b (firstT a + (k : Int)) t = false := fun k hk => by
      have := l2 k hk
      cases hq : misT a b (firstT a + (k : Int)) t
      · rfl
      · exact absurd (.inr hq) this
    have hm1pos : 1 ≤ m1 := by
      rcases (show m1 = 0 ∨ 1 ≤ m1 by omega) with c | c
      · rcases p1 with e | e
        · omega
        · rw [c] at e
          rw [show firstT a + ((0 : Nat) : Int) = firstT a by omega, hc] at e; cases e
      · exact c
    have s1 : loopVal step74_0e ((a, firstT a, b, t, ()), 0, ((n + 1 : Nat) : Int)) = some (m1 : Int) := by
      refine search_law (step := step74_0e) (st := fun i j => ((a, firstT a, b, t, ()), (i : Int), (j : Int))) (g := fun k => !arrT a b (firstT a + (k : Int)) t) (n := n + 1) (fun i j hij hj => ?_) (fun i hi => ?_) (m := m1) hm1 (fun k hk => by simp only [harr k hk, Bool.not_true]) (fun k hk hk2 => ?_)
      · have hv := (hseen ((i + j) / 2) (by omega)).arr
        have ew : wr (firstT a + (((i + j) / 2 : Nat) : Int)) = firstT a + (((i + j) / 2 : Nat) : Int) := wr_id (by omega) (by omega)
        simp only [step74_0e, lt_cast, hij, decide_true, cond_true, half_mid (show i + j < 4611686018427387904 by omega), ew, hv, optE_some, wr_succ (show (i + j) / 2 < 4611686018427387904 by omega)]
        cases arrT a b (firstT a + (((i + j) / 2 : Nat) : Int)) t <;> simp
      · simp only [step74_0e, lt_cast, Nat.lt_irrefl, decide_false, cond_false]
      · cases hq : arrT a b (firstT a + (k : Int)) t
        · rfl
        · rcases p1 with e | e
          · omega
          · rw [h.arr_dn (show firstT a ≤ firstT a + (m1 : Int) by omega) (show firstT a + (m1 : Int) ≤ firstT a + (k : Int) by omega) (by omega) hq] at e; cases e
    have s2 : loopVal step74_0f ((a, firstT a, b, t, ()), 0, (n : Int)) = some (m2 : Int) := by
      refine search_law (step := step74_0f) (st := fun i j => ((a, firstT a, b, t, ()), (i : Int), (j : Int))) (g := fun k => misT a b (firstT a + (k : Int)) t) (n := n) (fun i j hij hj => ?_) (fun i hi => ?_) (m := m2) hm2 hmis (fun k hk hk2 => ?_)
      · have hv := (hseen ((i + j) / 2) (by omega)).mis
        have ew : wr (firstT a + (((i + j) / 2 : Nat) : Int)) = firstT a + (((i + j) / 2 : Nat) : Int) := wr_id (by omega) (by omega)
        simp only [step74_0f, lt_cast, hij, decide_true, cond_true, half_mid (show i + j < 4611686018427387904 by omega), ew, hv, optE_some, wr_succ (show (i + j) / 2 < 4611686018427387904 by omega)]
        cases misT a b (firstT a + (((i + j) / 2 : Nat) : Int)) t <;> simp
      · simp only [step74_0f, lt_cast, Nat.lt_irrefl, decide_false, cond_false]
      · rcases p2 with e | e
        · omega
        · exact h.mis_up (show firstT a ≤ firstT a + (m2 : Int) by omega) (by omega) (by omega) e
    have e1 : wr (t - firstT a) = (n : Int) := by rw [hn, wr_id (by omega) (by omega)]
    have e2 : wr ((n : Int) + 1) = ((n + 1 : Nat) : Int) := wr_succ (by omega)
    have e3 : wr (firstT a + (m1 : Int)) = firstT a + (m1 : Int) := wr_id (by omega) (by omega)
    have e4 : wr (firstT a + (m1 : Int) - 1) = firstT a + (m1 : Int) - 1 := wr_id (by omega) (by omega)
    have e5 : wr (firstT a + (m2 : Int)) = firstT a + (m2 : Int) := wr_id (by omega) (by omega)
    have g1 : arrT a b (firstT a + (m1 : Int) - 1) t = true := by
      have := harr (m1 - 1) (by omega)
      rwa [show firstT a + ((m1 - 1 : Nat) : Int) = firstT a + (m1 : Int) - 1 by omega] at this
    refine ⟨(firstT a + (m1 : Int) - 1, firstT a + (m2 : Int)), ⟨⟨by show firstT a ≤ firstT a + (m1 : Int) - 1; omega, ?_⟩, by show firstT a + (m2 : Int) ≤ t; omega, g1, fun u u1 u2 => ?_, ?_, fun u u1 u2 => ?_⟩, ?_⟩
    · show firstT a + (m1 : Int) - 1 ≤ firstT a + (m2 : Int)
      rcases (show m2 < m1 - 1 ∨ m1 - 1 ≤ m2 by omega) with c | c
      · rcases p2 with e | e
        · omega
        · rw [h.excl' (by omega) (by omega) (harr m2 (by omega))] at e; cases e
      · omega
    · have u1' : firstT a + (m1 : Int) - 1 < u := u1
      cases hu : arrT a b u t
      · rfl
      · rcases p1 with e | e
        · omega
        · rw [h.arr_dn (show firstT a ≤ firstT a + (m1 : Int) by omega) (show firstT a + (m1 : Int) ≤ u by omega) u2 hu] at e; cases e
    · rcases p2 with e | e
      · left; show firstT a + (m2 : Int) = t; omega
      · exact .inr e
    · have u2' : u < firstT a + (m2 : Int) := u2
      have := hmis (u - firstT a).toNat (by omega)
      rwa [show firstT a + ((u - firstT a).toNat : Int) = u by omega] at this
    · unfold s25
      simp only [trackErr2, optE_some, ne_false hb, cond_false, timeErr2 h.va h.vb, ne_false ht, hin, cond_true, hfst, hs, hc, Bool.not_true, e1, e2, s1, s2, e3, e4, e5]
theorem sent_same (hb : bothE a b = 0) (ht : timesE t a b = 0) : (arrT a b (firstT a) t = false ∧ s25 (a, b, t) = some ((0, 0), 12) ∧ s27 (a, b, t) = some ((0, 0), false)) ∨
    ∃ x, Sent a b t x ∧ s25 (a, b, t) = some (x, 0) ∧ s27 (a, b, t) = some (x, true) := by
  have h := pair_of hb ht
  rcases sentP hb ht with ⟨p1, p2⟩ | ⟨x, p1, p2⟩ <;> rcases sentR h with ⟨r1, r2⟩ | ⟨y, r1, r2⟩
  · exact .inl ⟨p1, p2, r2⟩
  · have l := r1.lo; have l2 := r1.hi
    have := h.arr_dn (Int.le_refl _) l.1 (by omega) r1.arr
    rw [p1] at this; cases this
  · have l := p1.lo; have l2 := p1.hi
    have := h.arr_dn (Int.le_refl _) l.1 (by omega) p1.arr
    rw [r1] at this; cases this
  · obtain rfl := p1.uniq r1
    exact .inr ⟨x, p1, p2, r2⟩

theorem receivedAt_ok (hb : bothE a b = 0) (ht : timesE t a b = 0) {r : (Int × Int) × Int} (h : s73 (a, b, t) = some r) : s24 (a, b, t) = some r := by
  have hp := pair_of hb ht
  unfold s24
  simp only [trackErr2, optE_some, ne_false hb, cond_false, timeErr2 hp.va hp.vb, ne_false ht, h]
theorem receivedAt_times (hb : bothE a b = 0) (ht : timesE t a b ≠ 0) : s24 (a, b, t) = some ((0, 0), timesE t a b) := by
  obtain ⟨h1, h2⟩ := bothE_zero hb
  unfold s24
  simp only [trackErr2, optE_some, ne_false hb, cond_false, timeErr2 (valid_of h1) (valid_of h2), ne_true ht, cond_true]
theorem receivedAt_both (hb : bothE a b ≠ 0) : s24 (a, b, t) = some ((0, 0), bothE a b) := by
  unfold s24
  simp only [trackErr2, optE_some, ne_true hb, cond_true]
theorem sentAt_times (hb : bothE a b = 0) (ht : timesE t a b ≠ 0) : s25 (a, b, t) = some ((0, 0), timesE t a b) := by
  obtain ⟨h1, h2⟩ := bothE_zero hb
  unfold s25
  simp only [trackErr2, optE_some, ne_false hb, cond_false, timeErr2 (valid_of h1) (valid_of h2), ne_true ht, cond_true]
theorem sentAt_both (hb : bothE a b ≠ 0) : s25 (a, b, t) = some ((0, 0), bothE a b) := by
  unfold s25
  simp only [trackErr2, optE_some, ne_true hb, cond_true]
end

theorem received_true (x : Tr × Tr × Int) : s6 x = some true := by
  obtain ⟨a, b, t⟩ := x
  unfold s6
  simp only [Bool.not_true, cond_false, s12_eq, optE_some]
  by_cases fa : a.1.length ≤ 14
  case neg => rw [decide_eq_false fa]; rfl
  by_cases fb : b.1.length ≤ 14
  case neg => rw [decide_eq_false fb, Bool.and_false]; rfl
  rw [decide_eq_true fa, decide_eq_true fb]
  have hbe := s16_eq a b
  rw [show (bif (trkE a).2 != 0 then (trkE a).2 else (trkE b).2) = bothE a b from rfl] at hbe
  simp only [Bool.and_self, Bool.not_true, cond_false, few_copy fa, few_copy fb, optE_some, hbe]
  by_cases h : bothE a b = 0
  case neg =>
    simp only [receivedAt_both h, sentAt_both h, optE_some, eq_false' h, ne_true h, cond_false, cond_true, beq_self_eq_true]
    rfl
  have hte := s17_eq (valid_of (bothE_zero h).1) (valid_of (bothE_zero h).2) t
  rw [show (bif tErr t a != 0 then tErr t a else tErr t b) = timesE t a b from rfl] at hte
  simp only [h, hte, show ((0 : Int) == 0) = true from rfl, cond_true, optE_some]
  by_cases ht : timesE t a b = 0
  case neg =>
    simp only [receivedAt_times h ht, sentAt_times h ht, optE_some, ne_true ht, cond_true, beq_self_eq_true]
    rfl
  have hp := pair_of h ht
  rcases recv_same hp with ⟨_, p1, r1⟩ | ⟨x, _, p1, r1⟩ <;> rcases sent_same h ht with ⟨_, p2, r2⟩ | ⟨y, _, p2, r2⟩ <;>
    simp only [receivedAt_ok h ht p1, r1, p2, r2, ht, optE_some, show ((0 : Int) != 0) = false from rfl, show ((0 : Int) == 0) = true from rfl, cond_true, cond_false, beq_self_eq_true, Bool.and_self, Bool.not_true, Bool.not_false] <;> rfl
end Go.Proofs.YtgpfdacidgmelaaGreat
