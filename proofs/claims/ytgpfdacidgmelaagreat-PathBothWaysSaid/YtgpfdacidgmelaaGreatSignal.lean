/- Chapter 1: which signals have arrived; PathSignals. -/
import Derived.Test.YtgpfdacidgmelaaGreatDistLaw
import Derived.Test.YtgpfdacidgmelaaGreatView2
set_option linter.unusedSimpArgs false
namespace Go.Proofs.YtgpfdacidgmelaaGreat
open Go.Ev

theorem span_of {p : Tr} (V : Valid p) : ∀ j, j < p.1.length → (p.1.getD j (0, 0, 0, 0)).1 ≤ firstT p + 10000 * (j : Int)
  | 0, _ => by unfold firstT; omega
  | j + 1, h => by
    have := span_of V j (by omega)
    have := V.piece j h
    omega
theorem span_ok {p : Tr} (V : Valid p) : firstT p ≤ lastT p ∧ lastT p ≤ firstT p + 110000 ∧ 0 ≤ firstT p ∧ lastT p ≤ 1000000000000 := by
  have h1 := V.pos
  have h2 := V.most
  have h3 := span_of V (p.1.length - 1) (by omega)
  have h4 := mono_of V (j := p.1.length - 1) (k := 0) (by omega) (by omega)
  have h5 := (kR_spec (V.knot 0 h1)).1
  have h6 := (kR_spec (V.knot (p.1.length - 1) (by omega))).1
  unfold lastT firstT at *
  omega

/-- Has a signal surely arrived; has it surely not? -/
def arrQ (g : Gp) (t : Int) : Bool := decide (far g ≤ (t * g.1.2) * (t * g.1.2))
def misQ (g : Gp) (t : Int) : Bool := decide ((t * g.1.2) * (t * g.1.2) < near g)

theorem tErr_of {t : Int} {p : Tr} : tErr t p = 0 ↔ firstT p ≤ t ∧ t ≤ lastT p := by
  constructor
  · intro h; exact win_iff.1 (unl_zero (by omega) h)
  · intro h; unfold tErr; rw [win_iff.2 h]; rfl

theorem arr_ok {a b : Tr} (Va : Valid a) (Vb : Valid b) {s r : Int} (hs : tErr s a = 0) (hr : tErr r b = 0) (hd : -200000 ≤ r - s ∧ r - s ≤ 200000) :
    ∃ p q, s88 (a, s) = some p ∧ s88 (b, r) = some q ∧ PtOk p ∧ PtOk q ∧ GpOk (gap p q (a.2 + b.2)) ∧
      s72 (a, s, b, r) = some (arrQ (gap p q (a.2 + b.2)) (r - s)) ∧ s30 (a, b, s, r) = some (arrQ (gap p q (a.2 + b.2)) (r - s)) ∧
      s71 (a, s, b, r) = some (misQ (gap p q (a.2 + b.2)) (r - s)) ∧ s31 (a, b, s, r) = some (misQ (gap p q (a.2 + b.2)) (r - s)) := by
  obtain ⟨p, p1, p2, pk, _⟩ := at_ok Va (time := s) (tErr_of.1 hs)
  obtain ⟨q, q1, q2, qk, _⟩ := at_ok Vb (time := r) (tErr_of.1 hr)
  have da := Va.doubt
  have db := Vb.doubt
  have G := gap_ok pk qk (e := a.2 + b.2) (by omega)
  refine ⟨p, q, p1, q1, pk, qk, G, ?_⟩
  have hb := s63_eq p1 q1 pk qk da db
  obtain ⟨u, v, k1, k2, k3⟩ := s69_eq p2 q2 pk qk da db
  obtain ⟨n1, n2, n3⟩ := s101_eq G
  obtain ⟨f1, f2, f3⟩ := s102_eq G
  have hden : p.2 * q.2 = (gap p q (a.2 + b.2)).1.2 := rfl
  rw [hden] at k1
  obtain ⟨g, hg⟩ : ∃ g, gap p q (a.2 + b.2) = g := ⟨_, rfl⟩
  rw [hg] at hb k1 k2 k3 n1 n2 n3 f1 f2 f3 G ⊢
  obtain ⟨d1, d2⟩ := G.den
  have e1 : wr (r - s) = r - s := wr_id (by omega) (by omega)
  have hm1 := Int.mul_le_mul_of_nonneg_right hd.2 (show 0 ≤ g.1.2 by omega)
  have hm2 := Int.mul_le_mul_of_nonneg_right hd.1 (show 0 ≤ g.1.2 by omega)
  have e2 : wr ((r - s) * g.1.2) = (r - s) * g.1.2 := wr_id (by omega) (by omega)
  have hsq := s105_eq (n := (r - s) * g.1.2) (by omega) (by omega)
  obtain ⟨w, w1, w2⟩ := s78_eq (n := (r - s) * g.1.2) (by omega) (by omega)
  refine ⟨?_, ?_, ?_, ?_⟩
  · unfold s72
    simp only [hb, optE_some, e1, e2, hsq, f1, s104_eq]
    unfold arrQ
    by_cases c : far g ≤ (r - s) * g.1.2 * ((r - s) * g.1.2)
    · rw [decide_eq_true c, decide_eq_false (by omega)]; rfl
    · rw [decide_eq_false c, decide_eq_true (by omega)]; rfl
  · unfold s30
    simp only [k1, optE_some, e1, e2, w1, s77_eq (w2.more (by omega : 7 ≤ 10)) k3 (by omega), cmpI_ge]
    rfl
  · unfold s71
    simp only [hb, optE_some, e1, e2, hsq, n1, s104_eq]
    rfl
  · unfold s31
    simp only [k1, optE_some, e1, e2, w1, s77_eq (w2.more (by omega : 7 ≤ 10)) k2 (by omega), cmpI_lt]
    rfl

theorem firstE_four (x y z u : Int) : firstE [x, y, z, u] = bif x != 0 then x else bif y != 0 then y else bif z != 0 then z else u := by
  have := firstE_three y z u
  rw [← this]
  rfl

abbrev Sg := Int × Int × Int
theorem signal_loop {a b : Tr} (Va : Valid a) (Vb : Valid b) (x : Sg) : loopVal step21_0 ([x.1, x.2.1, x.2.2], 0, a, b, x) =
    some (bif timesE x.1 a b != 0 then .inl (timesE x.1 a b) else bif timesE x.2.1 a b != 0 then .inl (timesE x.2.1 a b) else bif timesE x.2.2 a b != 0 then .inl (timesE x.2.2 a b) else .inr (a, b, x)) := by
  have ht : ∀ t, s17 (a, b, t) = some (timesE t a b) := fun t => s17_eq Va Vb t
  have hstep : ∀ (i : Nat), i < 3 → step21_0 ([x.1, x.2.1, x.2.2], (i : Int), a, b, x) = bif timesE ([x.1, x.2.1, x.2.2].getD i 0) a b != 0 then some (.inr (.inl (timesE ([x.1, x.2.1, x.2.2].getD i 0) a b))) else some (.inl ([x.1, x.2.1, x.2.2], ((i + 1 : Nat) : Int), a, b, x)) := by
    intro i hi
    simp only [step21_0, ht, optE_some, Int.toNat_natCast, wr_succ (show i < 4611686018427387904 by omega)]
    rw [decide_eq_true (show (i : Int) < 3 by omega), cond_true, inb_nat (show i < [x.1, x.2.1, x.2.2].length by simpa using hi), cond_true]
  have h0 : step21_0 ([x.1, x.2.1, x.2.2], 0, a, b, x) = _ := hstep 0 (by omega)
  have h1 := hstep 1 (by omega)
  have h2 := hstep 2 (by omega)
  have h3 : step21_0 ([x.1, x.2.1, x.2.2], ((2 + 1 : Nat) : Int), a, b, x) = some (.inr (.inr (a, b, x))) := by
    simp only [step21_0]; rfl
  have g0 : [x.1, x.2.1, x.2.2].getD 0 0 = x.1 := rfl
  have g1 : [x.1, x.2.1, x.2.2].getD 1 0 = x.2.1 := rfl
  have g2 : [x.1, x.2.1, x.2.2].getD 2 0 = x.2.2 := rfl
  rw [g0] at h0
  rw [g1] at h1
  rw [g2] at h2
  cases c0 : timesE x.1 a b != 0
  · rw [c0, cond_false] at h0
    rw [loopVal_next h0]
    cases c1 : timesE x.2.1 a b != 0
    · rw [c1, cond_false] at h1
      rw [loopVal_next h1]
      cases c2 : timesE x.2.2 a b != 0
      · rw [c2, cond_false] at h2
        rw [loopVal_next h2, loopVal_last h3]; rfl
      · rw [c2, cond_true] at h2
        rw [loopVal_last h2]; rfl
    · rw [c1, cond_true] at h1
      rw [loopVal_last h1]; rfl
  · rw [c0, cond_true] at h0
    rw [loopVal_last h0]; rfl

/-- The error of an enclosure: by both the same. -/
theorem signal_same {a b : Tr} (h : bothE a b = 0) (x : Sg) : ∃ e, s20 (a, b, x) = some e ∧ s21 (a, b, x) = some e := by
  have Va := valid_of (bothE_zero h).1
  have Vb := valid_of (bothE_zero h).2
  obtain ⟨s, lo, hi⟩ := x
  have hl := signal_loop Va Vb (s, lo, hi)
  simp only [] at hl
  unfold s20 s21
  simp only [trackErr2, optE_some, ne_false h, cond_false, timeErr2 Va Vb, hl, s66_eq]
  by_cases t0 : timesE s a b = 0
  case neg =>
    refine ⟨timesE s a b, ?_, ?_⟩
    · by_cases c : s ≤ lo
      · rw [decide_eq_true c, cond_true, s65_eq _ (by simp), firstE_four, ne_true t0]
        simp only [cond_true, optE_some, ne_true t0]
      · rw [decide_eq_false c, cond_false, s65_eq _ (by simp), firstE_four, ne_true t0]
        simp only [cond_true, optE_some, ne_true t0]
    · rw [ne_true t0]; rfl
  by_cases t1 : timesE lo a b = 0
  case neg =>
    refine ⟨timesE lo a b, ?_, ?_⟩
    · by_cases c : s ≤ lo
      · rw [decide_eq_true c, cond_true, s65_eq _ (by simp), firstE_four, ne_false t0, ne_true t1]
        simp only [cond_true, cond_false, optE_some, ne_true t1]
      · rw [decide_eq_false c, cond_false, s65_eq _ (by simp), firstE_four, ne_false t0, ne_true t1]
        simp only [cond_true, cond_false, optE_some, ne_true t1]
    · rw [ne_false t0, ne_true t1]; rfl
  by_cases t2 : timesE hi a b = 0
  case neg =>
    refine ⟨timesE hi a b, ?_, ?_⟩
    · by_cases c : s ≤ lo
      · rw [decide_eq_true c, cond_true, s65_eq _ (by simp), firstE_four, ne_false t0, ne_false t1, ne_true t2]
        simp only [cond_true, cond_false, optE_some, ne_true t2]
      · rw [decide_eq_false c, cond_false, s65_eq _ (by simp), firstE_four, ne_false t0, ne_false t1, ne_true t2]
        simp only [cond_true, cond_false, optE_some, ne_true t2]
    · rw [ne_false t0, ne_false t1, ne_true t2]; rfl
  simp only [ne_false t0, ne_false t1, ne_false t2, cond_false, sumE]
  by_cases c : s ≤ lo
  case neg =>
    refine ⟨9, ?_, ?_⟩
    · rw [decide_eq_false c, cond_false, s65_eq _ (by simp), firstE_four, ne_false t0, ne_false t1, ne_false t2]
      rfl
    · rw [decide_eq_true (show lo < s by omega)]; rfl
  rw [decide_eq_true c, decide_eq_false (show ¬ lo < s by omega), cond_true, cond_false]
  by_cases c2 : lo ≤ hi
  case neg =>
    refine ⟨9, ?_, ?_⟩
    · rw [decide_eq_false c2, s65_eq _ (by simp), firstE_four, ne_false t0, ne_false t1, ne_false t2]
      rfl
    · rw [decide_eq_true (show hi < lo by omega)]; rfl
  rw [decide_eq_true c2, decide_eq_false (show ¬ hi < lo by omega), cond_false, s65_eq _ (by simp), firstE_four, ne_false t0, ne_false t1, ne_false t2]
  simp only [cond_false, unl, cond_true, optE_some, show ((0 : Int) != 0) = false from rfl]
  have sa := (timesE_zero t0).1
  have lb := (timesE_zero t1).2
  have hb := (timesE_zero t2).2
  have k1 := tErr_of.1 (timesE_zero t0).2
  have k2 := tErr_of.1 lb
  have k3 := tErr_of.1 hb
  have k4 := span_ok Vb
  obtain ⟨p, q, _, _, _, _, _, x1, x2, _, _⟩ := arr_ok Va Vb sa hb (by omega)
  obtain ⟨p', q', _, _, _, _, _, _, _, y1, y2⟩ := arr_ok Va Vb sa lb (by omega)
  simp only [x1, x2, y1, y2, optE_some]
  by_cases c3 : lo = s
  · refine ⟨unl (arrQ (gap p q (a.2 + b.2)) (hi - s)) 19, ?_, ?_⟩
    · rw [show (lo == s) = true by simpa using c3]; rfl
    · rw [show (lo != s) = false by simpa using c3]
      cases arrQ (gap p q (a.2 + b.2)) (hi - s) <;> rfl
  · rw [show (lo == s) = false by simpa using c3, show (lo != s) = true by simpa using c3]
    cases misQ (gap p' q' (a.2 + b.2)) (lo - s)
    · exact ⟨19, rfl, rfl⟩
    · cases arrQ (gap p q (a.2 + b.2)) (hi - s)
      · exact ⟨19, rfl, rfl⟩
      · exact ⟨0, rfl, rfl⟩
theorem signal_both {a b : Tr} (h : bothE a b ≠ 0) (x : Sg) : s20 (a, b, x) = some (bothE a b) := by
  unfold s20
  simp only [trackErr2, optE_some, ne_true h, cond_true]

theorem signals_true (x : Tr × Tr × Sg) : s4 x = some true := by
  obtain ⟨a, b, t⟩ := x
  unfold s4
  simp only [Bool.not_true, cond_false, s12_eq, optE_some]
  by_cases fa : a.1.length ≤ 14
  case neg => rw [decide_eq_false fa]; rfl
  by_cases fb : b.1.length ≤ 14
  case neg => rw [decide_eq_false fb, Bool.and_false]; rfl
  rw [decide_eq_true fa, decide_eq_true fb]
  have hbe := s16_eq a b
  rw [show (bif (trkE a).2 != 0 then (trkE a).2 else (trkE b).2) = bothE a b from rfl] at hbe
  simp only [Bool.and_self, Bool.not_true, cond_false, few_copy fa, few_copy fb, optE_some, hbe]
  by_cases h : bothE a b = 0
  case neg =>
    simp only [signal_both h, optE_some, eq_false' h, cond_false, beq_self_eq_true]
  obtain ⟨e, e1, e2⟩ := signal_same h t
  simp only [h, e1, e2, optE_some, show ((0 : Int) == 0) = true from rfl, cond_true, beq_self_eq_true]
end Go.Proofs.YtgpfdacidgmelaaGreat
