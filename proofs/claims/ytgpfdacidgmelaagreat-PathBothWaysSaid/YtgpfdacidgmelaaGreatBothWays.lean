/- Chapter 1: PathBothWays. -/
import Derived.Test.YtgpfdacidgmelaaGreatTrips
import Derived.Test.YtgpfdacidgmelaaGreatGb7
set_option linter.unusedSimpArgs false
namespace Go.Proofs.YtgpfdacidgmelaaGreat
open Go.Ev

theorem arr_dn2 {a b : Tr} (Va : Valid a) (Vb : Valid b) {r : Int} (hr : tErr r b = 0) : ∀ (m : Nat) {s : Int}, firstT a ≤ s → s + (m : Int) ≤ lastT a → s + (m : Int) ≤ r → r - s ≤ 190000 → arrT a b (s + (m : Int)) r = true → arrT a b s r = true
  | 0, s, _, _, _, _, h => by simpa using h
  | m + 1, s, h1, h2, h3, h4, h => by
    have e : s + ((m + 1 : Nat) : Int) = s + (m : Int) + 1 := by omega
    rw [e] at h
    exact arr_dn2 Va Vb hr m h1 (by omega) (by omega) h4 ((earlier Va Vb hr (show firstT a ≤ s + (m : Int) by omega) (by omega) (by omega) (by omega)).1 h)

/-- A round trip that comes to an end. -/
structure Trip (a b : Tr) (t : Int) (r : Int × Int) (x y z : Int × Int) : Prop where
  there : Recv a b t x
  t1 : timesE x.1 b a = 0
  t2 : timesE x.2 b a = 0
  early : Recv b a x.1 y
  late : Recv b a x.2 z
  val : r = (y.1, z.2)
theorem recv_zero {a b : Tr} {t : Int} {x : Int × Int} {e : Int} (h : RecvAt a b t x e) (he : e = 0) : Recv a b t x ∧ timesE t a b = 0 := by
  cases h with
  | ok x h ht r => exact ⟨h, ht⟩
  | none h ht r => cases he
  | time ht => exact absurd he ht
theorem trip_facts {a b : Tr} (hb : bothE a b = 0) {t : Int} {r : (Int × Int) × Int} (h : s22 (a, b, t) = some r) (h0 : r.2 = 0) : ∃ x y z, Trip a b t r.1 x y z := by
  obtain ⟨x, e, h1, h2⟩ := recv_all hb t
  unfold s22 at h
  simp only [h1, optE_some] at h
  by_cases he : e = 0
  case neg =>
    simp only [ne_true he, cond_true] at h
    obtain rfl := Option.some.inj h
    exact absurd h0 he
  obtain ⟨g1, _⟩ := recv_zero h2 he
  simp only [ne_false he, cond_false] at h
  obtain ⟨y, f, k1, k2⟩ := recv_all (bothE_swap hb) x.1
  obtain ⟨z, g, k3, k4⟩ := recv_all (bothE_swap hb) x.2
  simp only [k1, k3, optE_some] at h
  rw [s65_eq _ (by simp), firstE_two] at h
  simp only [optE_some] at h
  by_cases hf : f = 0
  case neg =>
    simp only [ne_true hf, cond_true] at h
    obtain rfl := Option.some.inj h
    exact absurd h0 hf
  simp only [ne_false hf, cond_false] at h
  by_cases hg : g = 0
  case neg =>
    simp only [ne_true hg, cond_true] at h
    obtain rfl := Option.some.inj h
    exact absurd h0 hg
  simp only [ne_false hg, cond_false] at h
  obtain rfl := Option.some.inj h
  obtain ⟨y1, y2⟩ := recv_zero k2 hf
  obtain ⟨z1, z2⟩ := recv_zero k4 hg
  exact ⟨x, y, z, g1, y2, z2, y1, z1, rfl⟩
theorem trip_order {a b : Tr} (hb : bothE a b = 0) {t : Int} {r x y z : Int × Int} (T : Trip a b t r x y z) : t ≤ r.1 ∧ r.1 ≤ r.2 ∧ x.1 ≤ r.1 ∧ x.2 ≤ r.2 := by
  have hx := T.there.lo
  have hy := T.early.lo
  have hz := T.late.lo
  have hP := pair_of (bothE_swap hb) T.t1
  have hQ := pair_of (bothE_swap hb) T.t2
  have b1 := hP.ta; have b2 := hP.tb; have b3 := hQ.ta
  have sp := span_ok hP.vb
  have z3 := T.late.hi
  have key : y.1 ≤ z.2 := by
    rcases (show z.2 < y.1 ∨ y.1 ≤ z.2 by omega) with c | c
    · rcases T.early.mis with m | m
      · omega
      · have harr := T.late.arr
        have hr : tErr z.2 a = 0 := tErr_of.2 (by omega)
        have h1 := arr_dn2 hP.va hP.vb hr (x.2 - x.1).toNat (s := x.1) (by omega) (by omega) (by omega) (by omega) (by rw [show x.1 + ((x.2 - x.1).toNat : Int) = x.2 by omega]; exact harr)
        have h2 := hP.mis_down (show x.1 ≤ z.2 by omega) (show z.2 ≤ y.1 by omega) (by have := T.early.hi; omega) m
        rw [hP.excl (by omega) (by omega) h1] at h2; cases h2
    · exact c
  rw [T.val]
  exact ⟨by show t ≤ y.1; omega, key, by show x.1 ≤ y.1; omega, by show x.2 ≤ z.2; omega⟩

theorem tErr_val (t : Int) (p : Tr) : tErr t p = 0 ∨ tErr t p = 2 := by unfold tErr unl; cases win t (firstT p) (lastT p) <;> simp
theorem timesE_val (t : Int) (a b : Tr) : timesE t a b = 0 ∨ timesE t a b = 2 := by
  unfold timesE
  rcases tErr_val t a with h | h <;> rcases tErr_val t b with g | g <;> rw [h, g] <;> simp

/-- The enclosure is accepted, or it ends behind the first track. -/
theorem check_recv {a b : Tr} (hb : bothE a b = 0) {t : Int} (ht : timesE t a b = 0) {x : Int × Int} (R : Recv a b t x) : ∃ f, s20 (a, b, (t, x.1, x.2)) = some f ∧ (f = 0 ∨ (f = 2 ∧ timesE x.2 a b ≠ 0)) := by
  have hP := pair_of hb ht
  obtain ⟨e, e1, e2⟩ := signal_same hb (t, x.1, x.2)
  refine ⟨e, e1, ?_⟩
  have hl := signal_loop hP.va hP.vb (t, x.1, x.2)
  simp only [] at hl
  have ta := hP.ta; have tb := hP.tb
  have lo := R.lo; have hi := R.hi
  unfold s21 at e2
  simp only [hl, ne_false ht, cond_false, optE_some] at e2
  rcases timesE_val x.1 a b with c1 | c1
  case inr =>
    rw [c1] at e2
    have : timesE x.2 a b ≠ 0 := fun h0 => by
      have h1 := tErr_of.1 (timesE_zero h0).1
      have : timesE x.1 a b = 0 := by
        unfold timesE
        rw [tErr_of.2 (show firstT a ≤ x.1 ∧ x.1 ≤ lastT a by omega), tErr_of.2 (show firstT b ≤ x.1 ∧ x.1 ≤ lastT b by omega)]; rfl
      omega
    obtain rfl := Option.some.inj (show some (2 : Int) = some e from e2)
    exact .inr ⟨rfl, this⟩
  rw [c1] at e2
  simp only [show ((0 : Int) != 0) = false from rfl, cond_false] at e2
  rcases timesE_val x.2 a b with c2 | c2
  case inr =>
    rw [c2] at e2
    obtain rfl := Option.some.inj (show some (2 : Int) = some e from e2)
    exact .inr ⟨rfl, by omega⟩
  rw [c2] at e2
  simp only [show ((0 : Int) != 0) = false from rfl, cond_false, sumE_r] at e2
  rw [decide_eq_false (show ¬ x.1 < t by omega), decide_eq_false (show ¬ x.2 < x.1 by omega)] at e2
  simp only [cond_false, (hP.see (show t ≤ x.1 by omega) (by omega)).away, (hP.see (show t ≤ x.2 by omega) hi).ref, R.arr, optE_some, Bool.not_true] at e2
  left
  rcases R.mis with m | m
  · rw [show (x.1 != t) = false by simpa using m] at e2
    exact (Option.some.inj e2).symm
  · rw [m] at e2
    simp only [Bool.not_true, cond_false] at e2
    cases hne : (x.1 != t) <;> rw [hne] at e2 <;> exact (Option.some.inj e2).symm

theorem win_true {a b c : Int} (h : b ≤ a ∧ a ≤ c) : win a b c = true := win_iff.2 h

theorem bothWays_true (x : Tr × Tr × Int) : s7 x = some true := by
  obtain ⟨a, b, t⟩ := x
  have hbe := s16_eq a b
  rw [show (bif (trkE a).2 != 0 then (trkE a).2 else (trkE b).2) = bothE a b from rfl] at hbe
  unfold s7
  simp only [Bool.not_true, cond_false, s12_eq, optE_some, hbe]
  by_cases fa : a.1.length ≤ 14
  case neg => rw [decide_eq_false fa]; rfl
  by_cases fb : b.1.length ≤ 14
  case neg => rw [decide_eq_false fb, Bool.and_false]; rfl
  rw [decide_eq_true fa, decide_eq_true fb]
  by_cases h : bothE a b = 0
  case neg => simp only [Bool.and_self, Bool.not_true, cond_false, ne_true h, cond_true]
  have hv := bothE_zero h
  have hte : ∀ u, s17 (a, b, u) = some (timesE u a b) := fun u => s17_eq (valid_of hv.1) (valid_of hv.2) u
  by_cases ht : timesE t a b = 0
  case neg => simp only [Bool.and_self, Bool.not_true, cond_false, ne_false h, hte, optE_some, ne_true ht, cond_true]
  have hP := pair_of h ht
  have ta := hP.ta; have tb := hP.tb
  have spa := span_ok hP.va
  have spb := span_ok hP.vb
  have hpa := hP.va.pos
  have hpb := hP.vb.pos
  have hlb := hP.vb.most
  have hlast : s29 b = some (lastT b) := by
    have e1 : wr ((b.1.length : Int) - 1) = ((b.1.length - 1 : Nat) : Int) := by rw [wr_id (by omega) (by omega)]; omega
    unfold s29
    rw [e1, inb_nat (show b.1.length - 1 < b.1.length by omega), Int.toNat_natCast]; rfl
  have hfirst : s32 a = some (firstT a) := by
    have : inBounds 0 a.1.length = true := inb_nat (i := 0) hpa
    unfold s32
    rw [this]; rfl
  obtain ⟨tr, t1, t2⟩ := trip_same h t
  -- the end: the round trip
  have hend : ∀ (r6 : (Int × Int) × Int), s24 (a, b, t) = some r6 → (bif tr.2 != tr.2 then some false else bif !((tr.1.1 == tr.1.1) && ((tr.1.2 == tr.1.2) && true)) then some false else bif tr.2 != 0 then some true else bif decide (tr.1.1 ≥ t) then bif decide (tr.1.2 ≥ tr.1.1) then bif r6.2 != 0 then some true else bif decide (tr.1.1 ≥ r6.1.1) then some (decide (tr.1.2 ≥ r6.1.2)) else some false else some false else some false) = some true := by
    intro r6 h6
    simp only [bne_self_eq_false, beq_self_eq_true, Bool.and_self, Bool.not_true, cond_false]
    by_cases h0 : tr.2 = 0
    case neg => simp only [ne_true h0, cond_true]
    obtain ⟨x, y, z, T⟩ := trip_facts h t1 h0
    obtain ⟨o1, o2, o3, o4⟩ := trip_order h T
    have hx : s24 (a, b, t) = some (x, 0) := by
      rcases recv_same hP with ⟨n1, _, _⟩ | ⟨w, n1, n2, _⟩
      · have := hP.arr_up (show t ≤ x.2 by have := T.there.lo; omega) T.there.hi (Int.le_refl _) T.there.arr
        rw [n1] at this; cases this
      · obtain rfl := n1.uniq T.there
        exact receivedAt_ok h ht n2
    obtain rfl := Option.some.inj (hx.symm.trans h6)
    simp only [ne_false h0, cond_false, show ((0 : Int) != 0) = false from rfl]
    rw [decide_eq_true (show tr.1.1 ≥ t by omega), decide_eq_true (show tr.1.2 ≥ tr.1.1 by omega), decide_eq_true (show tr.1.1 ≥ x.1 by omega), decide_eq_true (show tr.1.2 ≥ x.2 by omega)]
    rfl
  -- the middle: sending
  have hmid : ∃ r22, s25 (a, b, t) = some r22 ∧ ((r22.2 = 12 ∧ arrT a b (firstT a) t = false) ∨ (r22.2 = 0 ∧ Sent a b t r22.1)) := by
    rcases sent_same h ht with ⟨s1, s2, _⟩ | ⟨y, s1, s2, _⟩
    · exact ⟨_, s2, .inl ⟨rfl, s1⟩⟩
    · exact ⟨_, s2, .inr ⟨rfl, s1⟩⟩
  obtain ⟨r22, q1, q2⟩ := hmid
  have hsee0 := (hP.see' (s := firstT a) (by omega) (by omega)).ref
  have hseeL := (hP.see (r := lastT b) (by omega) (by omega)).ref
  -- receipt
  have htop : ∃ r6, s24 (a, b, t) = some r6 ∧ ((r6.2 = 12 ∧ arrT a b t (lastT b) = false) ∨ (r6.2 = 0 ∧ Recv a b t r6.1)) := by
    rcases recv_same hP with ⟨s1, s2, _⟩ | ⟨y, s1, s2, _⟩
    · exact ⟨_, receivedAt_ok h ht s2, .inl ⟨rfl, s1⟩⟩
    · exact ⟨_, receivedAt_ok h ht s2, .inr ⟨rfl, s1⟩⟩
  obtain ⟨r6, w1, w2⟩ := htop
  have he := hend r6 w1
  simp only [Bool.and_self, Bool.not_true, cond_false, ne_false h, hte, optE_some, ne_false ht, few_copy fa, few_copy fb, w1, q1, hlast, hfirst, t1, t2, he]
  have hsent : (bif r22.2 == 0 then
      optE (s28 (r22.1.1, firstT a, t)) (fun r24 => bif !r24 then some false else optE (s28 (r22.1.2, r22.1.1, t)) (fun r25 => bif !r25 then some false else optE (s30 (a, b, r22.1.1, t)) (fun r26 => bif !r26 then some false else
        bif decide (r22.1.1 < t) then optE (s30 (a, b, wr (r22.1.1 + 1), t)) (fun r27 => bif r27 then some false else
            bif timesE r22.1.1 a b == 0 then optE (s24 (a, b, r22.1.1)) (fun r31 => bif r31.2 != 0 then some false else bif decide (r31.1.2 > t) then some false else some true) none else some true) none
        else bif timesE r22.1.1 a b == 0 then optE (s24 (a, b, r22.1.1)) (fun r31 => bif r31.2 != 0 then some false else bif decide (r31.1.2 > t) then some false else some true) none else some true) none) none) none
    else bif r22.2 != 12 then some false else optE (s30 (a, b, firstT a, t)) (fun r53 => bif r53 then some false else some true) none) = some true := by
    rcases q2 with ⟨q3, q4⟩ | ⟨q3, S⟩
    · simp only [q3, show ((12 : Int) == 0) = false from rfl, show ((12 : Int) != 12) = false from rfl, cond_false, hsee0, q4, optE_some]
    · have lo := S.lo; have hi := S.hi
      have hback : (bif timesE r22.1.1 a b == 0 then optE (s24 (a, b, r22.1.1)) (fun r31 => bif r31.2 != 0 then some false else bif decide (r31.1.2 > t) then some false else some true) none else some true) = some true := by
        by_cases hz : timesE r22.1.1 a b = 0
        case neg => rw [eq_false' hz]; rfl
        have hP2 := pair_of h hz
        rcases recv_same hP2 with ⟨n1, _, _⟩ | ⟨x, n1, n2, _⟩
        · have := hP2.arr_up (show r22.1.1 ≤ t by omega) tb.2 (Int.le_refl _) S.arr
          rw [n1] at this; cases this
        · have hle : x.2 ≤ t := by
            rcases (show t < x.2 ∨ x.2 ≤ t by omega) with c | c
            · have := n1.least t (by omega) c; rw [S.arr] at this; cases this
            · exact c
          simp only [hz, show ((0 : Int) == 0) = true from rfl, cond_true, receivedAt_ok h hz n2, optE_some, show ((0 : Int) != 0) = false from rfl, cond_false]
          rw [decide_eq_false (show ¬ x.2 > t by omega)]; rfl
      simp only [q3, show ((0 : Int) == 0) = true from rfl, cond_true, s28_eq, optE_some, win_true (show firstT a ≤ r22.1.1 ∧ r22.1.1 ≤ t by omega), win_true (show r22.1.1 ≤ r22.1.2 ∧ r22.1.2 ≤ t by omega), Bool.not_true, cond_false, (hP.see' lo.1 (show r22.1.1 ≤ t by omega)).ref, S.arr, hback]
      by_cases c : r22.1.1 < t
      · have e1 : wr (r22.1.1 + 1) = r22.1.1 + 1 := wr_id (by omega) (by omega)
        simp only [decide_eq_true c, cond_true, e1, (hP.see' (show firstT a ≤ r22.1.1 + 1 by omega) (show r22.1.1 + 1 ≤ t by omega)).ref, S.most _ (show r22.1.1 < r22.1.1 + 1 by omega) (by omega), optE_some, cond_false]
      · simp only [decide_eq_false c, cond_false]
  simp only [hsent]
  rcases w2 with ⟨w3, w4⟩ | ⟨w3, R⟩
  · simp only [w3, show ((12 : Int) == 0) = false from rfl, show ((12 : Int) != 12) = false from rfl, cond_false, hseeL, w4, optE_some]
  · have lo := R.lo; have hi := R.hi
    obtain ⟨f, f1, f2⟩ := check_recv h ht R
    have hf : (bif f != 0 then bif f == 2 then bif !(timesE r6.1.2 a b != 0) then some false else some true else some false else some true) = some true := by
      rcases f2 with e | ⟨e, e2⟩
      · rw [e]; rfl
      · rw [e, ne_true e2]; rfl
    have e2 : wr (r6.1.1 + 1) = r6.1.1 + 1 := wr_id (by omega) (by omega)
    have e3 : wr (r6.1.2 - 1) = r6.1.2 - 1 := wr_id (by omega) (by omega)
    simp only [w3, show ((0 : Int) == 0) = true from rfl, cond_true, s28_eq, optE_some, win_true (show t ≤ r6.1.1 ∧ r6.1.1 ≤ lastT b by omega), win_true (show r6.1.1 ≤ r6.1.2 ∧ r6.1.2 ≤ lastT b by omega), Bool.not_true, cond_false, (hP.see (show t ≤ r6.1.2 by omega) hi).ref, R.arr, f1, hf, e2, e3]
    have k6 : (bif decide (r6.1.1 < lastT b) then optE (s31 (a, b, t, r6.1.1 + 1)) (fun r15 => bif r15 then some false else some true) none else some true) = some true := by
      by_cases c : r6.1.1 < lastT b
      · simp only [decide_eq_true c, cond_true, (hP.see (show t ≤ r6.1.1 + 1 by omega) (by omega)).away, R.most _ (show r6.1.1 < r6.1.1 + 1 by omega) (by omega), optE_some, cond_false]
      · simp only [decide_eq_false c, cond_false]
    simp only [k6]
    have k5 : (bif decide (r6.1.1 > t) then optE (s31 (a, b, t, r6.1.1)) (fun r13 => bif !r13 then some false else some true) none else some true) = some true := by
      by_cases c : r6.1.1 > t
      · have hm : misT a b t r6.1.1 = true := by rcases R.mis with m | m; omega; exact m
        simp only [decide_eq_true c, cond_true, (hP.see (show t ≤ r6.1.1 by omega) (by omega)).away, hm, optE_some, Bool.not_true, cond_false]
      · simp only [decide_eq_false c, cond_false]
    simp only [k5]
    by_cases c : r6.1.2 > t
    · simp only [decide_eq_true c, cond_true, (hP.see (show t ≤ r6.1.2 - 1 by omega) (by omega)).ref, R.least _ (show t ≤ r6.1.2 - 1 by omega) (by omega), optE_some, cond_false]
    · simp only [decide_eq_false c, cond_false]
end Go.Proofs.YtgpfdacidgmelaaGreat
