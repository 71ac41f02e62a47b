import Derived.Test.YtfmfiflpokogiaaDoorProof
set_option linter.unusedSimpArgs false
namespace Go.Proofs.YtfmfiflpokogiaaDoor
open Go.Ev
abbrev Tm := Int × Bool × Int
abbrev Cl := (Int × Bool) × (Int × Int) × List Tm × Int
noncomputable def tE (n : Int) (t : Tm) : Int := firstE [unl (win t.1 0 (n - 1)) 6, unl (win t.2.2 1 100000000) 2]
def acc (l : List Msr) (s : Int × Int × Int) (t : Tm) : Int × Int × Int :=
 (s.1 + t.2.2 * (hf (l.getD t.1.toNat (0, 0, 0, 0, 0)) t.2.1).1, s.2.1 + t.2.2 * (hf (l.getD t.1.toNat (0, 0, 0, 0, 0)) t.2.1).2.1, s.2.2 + t.2.2 * (hf (l.getD t.1.toNat (0, 0, 0, 0, 0)) t.2.1).2.2)
noncomputable def tl (l : List Msr) : List Tm → Int × Int × Int → Int ⊕ (Int × Int × Int)
 | [], s => .inr s
 | t :: r, s => bif tE l.length t != 0 then .inl (tE l.length t) else tl l r (acc l s t)
theorem tE_ok {n : Int} {t : Tm} (h : tE n t = 0) : (0 ≤ t.1 ∧ t.1 ≤ n - 1) ∧ 1 ≤ t.2.2 ∧ t.2.2 ≤ 100000000 := by
 unfold tE at h
 have h := firstE_zero.1 h
 have h1 := unl_zero (by decide) (h (unl (win t.1 0 (n - 1)) 6) (by simp))
 have h2 := unl_zero (by decide) (h (unl (win t.2.2 1 100000000) 2) (by simp))
 exact ⟨win_iff.1 h1, win_iff.1 h2⟩
theorem hf_facts {m : Msr} (hm : mErr m = 0) (up : Bool) : (-1 ≤ (hf m up).1 ∧ (hf m up).1 ≤ 1) ∧ (-1000 ≤ (hf m up).2.1 ∧ (hf m up).2.1 ≤ 1000) ∧ (-100000 ≤ (hf m up).2.2 ∧ (hf m up).2.2 ≤ 100000) := by
 obtain ⟨k1, k2, _, k4, _⟩ := mErr_ok.1 hm
 unfold hf
 by_cases h1 : m.1 = 1
 ·have := k4 h1
  cases up <;> simp [h1] <;> omega
 ·cases up <;> simp [h1] <;> omega
def Bd (k : Nat) (s : Int × Int × Int) : Prop := (-(k * 100000000) ≤ s.1 ∧ s.1 ≤ k * 100000000) ∧ (-(k * 100000000000) ≤ s.2.1 ∧ s.2.1 ≤ k * 100000000000) ∧ (-(k * 10000000000000) ≤ s.2.2 ∧ s.2.2 ≤ k * 10000000000000)
theorem acc_facts {l : List Msr} (hv : ∀ m ∈ l, mErr m = 0) {t : Tm} (ht : tE l.length t = 0) (b : Bool) :
 (-100000000 ≤ t.2.2 * (hf (l.getD t.1.toNat (0, 0, 0, 0, 0)) b).1 ∧ t.2.2 * (hf (l.getD t.1.toNat (0, 0, 0, 0, 0)) b).1 ≤ 100000000) ∧
 (-100000000000 ≤ t.2.2 * (hf (l.getD t.1.toNat (0, 0, 0, 0, 0)) b).2.1 ∧ t.2.2 * (hf (l.getD t.1.toNat (0, 0, 0, 0, 0)) b).2.1 ≤ 100000000000) ∧
 (-10000000000000 ≤ t.2.2 * (hf (l.getD t.1.toNat (0, 0, 0, 0, 0)) b).2.2 ∧ t.2.2 * (hf (l.getD t.1.toNat (0, 0, 0, 0, 0)) b).2.2 ≤ 10000000000000) := by
 obtain ⟨h1, h2⟩ := tE_ok ht
 have hm := hv _ (getD_mem (l := l) (k := t.1.toNat) (0, 0, 0, 0, 0) (by omega))
 obtain ⟨f1, f2, f3⟩ := hf_facts hm b
 have e1 := mulB (a := t.2.2) (b := (hf (l.getD t.1.toNat (0, 0, 0, 0, 0)) b).1) (A := 100000000) (B := 1) (by omega) (by omega)
 have e2 := mulB (a := t.2.2) (b := (hf (l.getD t.1.toNat (0, 0, 0, 0, 0)) b).2.1) (A := 100000000) (B := 1000) (by omega) (by omega)
 have e3 := mulB (a := t.2.2) (b := (hf (l.getD t.1.toNat (0, 0, 0, 0, 0)) b).2.2) (A := 100000000) (B := 100000) (by omega) (by omega)
 omega
theorem Bd.step {l : List Msr} (hv : ∀ m ∈ l, mErr m = 0) {t : Tm} (ht : tE l.length t = 0) {k : Nat} {s : Int × Int × Int} (h : Bd k s) : Bd (k + 1) (acc l s t) := by
 obtain ⟨a1, a2, a3⟩ := acc_facts hv ht t.2.1
 obtain ⟨h1, h2, h3⟩ := h
 unfold Bd acc
 simp only [Int.natCast_add, Int.natCast_one]
 omega
theorem loop65 (l : List Msr) (c : Cl) (hl : l.length ≤ 12) (hv : ∀ m ∈ l, mErr m = 0) (T : List Tm) (hT : T.length ≤ 6) : ∀ (n k : Nat) (s : Int × Int × Int), k + n = T.length → Bd k s →
 loopVal step65_0 (l, rwsF 0 l, s.2.2, T, (T.length : Int), (k : Int), c, (s.1, s.2.1)) = some (match tl l (T.drop k) s with | .inl e => .inl e | .inr s => .inr (s.2.2, c, (s.1, s.2.1))) := by
 intro n
 induction n with
 | zero =>
   intro k s hk _
   obtain rfl : k = T.length := by omega
   rw [List.drop_length]
   exact loopVal_last (by simp [step65_0, tl])
 | succ n ih =>
   intro k s hk hs
   have hk' : k < T.length := by omega
   rw [getD_drop T (0, false, 0) hk', tl]
   obtain ⟨t, ht⟩ : ∃ t : Tm, T.getD k (0, false, 0) = t := ⟨_, rfl⟩
   rw [ht]
   have hst : step65_0 (l, rwsF 0 l, s.2.2, T, (T.length : Int), (k : Int), c, (s.1, s.2.1)) = bif tE l.length t != 0 then some (.inr (.inl (tE l.length t))) else some (.inl (l, rwsF 0 l, (acc l s t).2.2, T, (T.length : Int), ((k + 1 : Nat) : Int), c, ((acc l s t).1, (acc l s t).2.1))) := by
    have e0 : wr ((l.length : Int) - 1) = (l.length : Int) - 1 := wr_id (by omega) (by omega)
    simp only [step65_0, ht, lt_cast, inB_cast, hk', decide_true, cond_true, Int.toNat_natCast, e0, wr_succ (show k < 4611686018427387904 by omega)]
    rw [show firstE [unl (win t.1 0 ((l.length : Int) - 1)) 6, unl (win t.2.2 1 100000000) 2] = tE l.length t from rfl]
    cases hb : tE l.length t != 0 with
    | true => rfl
    | false =>
      have h0 : tE l.length t = 0 := by simpa using hb
      obtain ⟨h1, h2⟩ := tE_ok h0
      obtain ⟨a1, a2, a3⟩ := acc_facts hv h0 true
      obtain ⟨b1, b2, b3⟩ := acc_facts hv h0 false
      obtain ⟨s1, s2, s3⟩ := hs
      have hlen := rwsF_len l 0
      obtain ⟨j, hj⟩ : ∃ j : Nat, t.1 = (j : Int) := ⟨t.1.toNat, by omega⟩
      have hjl : j < l.length := by omega
      obtain ⟨g1, g2⟩ := rwsF_get l 0 j ((0, 0), 0, 0, false) hjl
      have w1 : wr (2 * t.1) = ((2 * j : Nat) : Int) := by rw [hj, wr_id (by omega) (by omega)]; omega
      have w2 : wr (((2 * j : Nat) : Int) + 1) = ((2 * j + 1 : Nat) : Int) := by rw [wr_id (by omega) (by omega)]; omega
      have tj : t.1.toNat = j := by omega
      rw [tj] at a1 a2 a3 b1 b2 b3
      simp only [cond_false, w1, w2, inB_cast, Int.toNat_natCast, hlen, show 2 * j < 2 * l.length by omega, show 2 * j + 1 < 2 * l.length by omega, decide_true, cond_true, g1, g2, rwOf]
      unfold acc
      rw [tj]
      cases hu : t.2.1 with
      | true =>
        simp only [Bool.not_true, cond_false]
        rw [wr_id (n := t.2.2 * (hf (l.getD j (0, 0, 0, 0, 0)) true).2.2) (by omega) (by omega), wr_id (n := t.2.2 * (hf (l.getD j (0, 0, 0, 0, 0)) true).1) (by omega) (by omega), wr_id (n := t.2.2 * (hf (l.getD j (0, 0, 0, 0, 0)) true).2.1) (by omega) (by omega),
         wr_id (by omega) (by omega), wr_id (by omega) (by omega), wr_id (by omega) (by omega)]
      | false =>
        simp only [Bool.not_false, cond_true]
        rw [wr_id (n := t.2.2 * (hf (l.getD j (0, 0, 0, 0, 0)) false).2.2) (by omega) (by omega), wr_id (n := t.2.2 * (hf (l.getD j (0, 0, 0, 0, 0)) false).1) (by omega) (by omega), wr_id (n := t.2.2 * (hf (l.getD j (0, 0, 0, 0, 0)) false).2.1) (by omega) (by omega),
         wr_id (by omega) (by omega), wr_id (by omega) (by omega), wr_id (by omega) (by omega)]
   cases hb : tE l.length t != 0 with
   | true => rw [hb, cond_true] at hst; rw [loopVal_last hst, cond_true]
   | false =>
     rw [hb, cond_false] at hst
     rw [loopVal_next hst, cond_false]
     exact ih (k + 1) _ (by omega) (hs.step hv (by simpa using hb))
theorem loop67a (l : List Msr) (c : Cl) (hl : l.length ≤ 12) (hT : c.2.2.1.length ≤ 6) : ∀ (n k : Nat) (s : Int × Int × Int), k + n = c.2.2.1.length →
 loopVal step67_0 (l, (k : Int), c) = some (match tl l (c.2.2.1.drop k) s with | .inl e => .inl e | .inr _ => .inr (l, c)) := by
 intro n
 induction n with
 | zero =>
   intro k s hk
   obtain rfl : k = c.2.2.1.length := by omega
   rw [List.drop_length]
   exact loopVal_last (by simp [step67_0, tl])
 | succ n ih =>
   intro k s hk
   have hk' : k < c.2.2.1.length := by omega
   rw [getD_drop c.2.2.1 (0, false, 0) hk', tl]
   obtain ⟨t, ht⟩ : ∃ t : Tm, c.2.2.1.getD k (0, false, 0) = t := ⟨_, rfl⟩
   rw [ht]
   have hst : step67_0 (l, (k : Int), c) = bif tE l.length t != 0 then some (.inr (.inl (tE l.length t))) else some (.inl (l, ((k + 1 : Nat) : Int), c)) := by
    have e0 : wr ((l.length : Int) - 1) = (l.length : Int) - 1 := wr_id (by omega) (by omega)
    simp only [step67_0, ht, lt_cast, inB_cast, hk', decide_true, cond_true, Int.toNat_natCast, e0, wr_succ (show k < 4611686018427387904 by omega)]
    unfold tE
    cases win t.1 0 ((l.length : Int) - 1) <;> cases win t.2.2 1 100000000 <;> rfl
   cases hb : tE l.length t != 0 with
   | true => rw [hb, cond_true] at hst; rw [loopVal_last hst, cond_true]
   | false => rw [hb, cond_false] at hst; rw [loopVal_next hst, cond_false]; exact ih (k + 1) _ (by omega)
theorem loop67b (l : List Msr) (c : Cl) (hv : ∀ m ∈ l, mErr m = 0) (hT : c.2.2.1.length ≤ 6) : ∀ (n k : Nat) (s r : Int × Int × Int), k + n = c.2.2.1.length → Bd k s → tl l (c.2.2.1.drop k) s = .inr r →
 loopVal step67_2 (l, s.1, s.2.1, s.2.2, (k : Int), c) = some (r.1, r.2.1, r.2.2, c) ∧ Bd c.2.2.1.length r := by
 intro n
 induction n with
 | zero =>
   intro k s r hk hs h
   obtain rfl : k = c.2.2.1.length := by omega
   rw [List.drop_length] at h
   obtain rfl := Sum.inr.inj h
   exact ⟨loopVal_last (by simp [step67_2]), hs⟩
 | succ n ih =>
   intro k s r hk hs h
   have hk' : k < c.2.2.1.length := by omega
   rw [getD_drop c.2.2.1 (0, false, 0) hk', tl] at h
   obtain ⟨t, ht⟩ : ∃ t : Tm, c.2.2.1.getD k (0, false, 0) = t := ⟨_, rfl⟩
   rw [ht] at h
   cases hb : tE l.length t != 0 with
   | true => rw [hb, cond_true] at h; cases h
   | false =>
     rw [hb, cond_false] at h
     have h0 : tE l.length t = 0 := by simpa using hb
     obtain ⟨h1, h2⟩ := tE_ok h0
     have hm := hv _ (getD_mem (l := l) (k := t.1.toNat) (0, 0, 0, 0, 0) (by omega))
     obtain ⟨a1, a2, a3⟩ := acc_facts hv h0 t.2.1
     have hs' := hs
     obtain ⟨s1, s2, s3⟩ := hs'
     have hst : step67_2 (l, s.1, s.2.1, s.2.2, (k : Int), c) = some (.inl (l, (acc l s t).1, (acc l s t).2.1, (acc l s t).2.2, ((k + 1 : Nat) : Int), c)) := by
      obtain ⟨j, hj⟩ : ∃ j : Nat, t.1 = (j : Int) := ⟨t.1.toNat, by omega⟩
      have tj : t.1.toNat = j := by omega
      rw [tj] at hm a1 a2 a3
      simp only [step67_2, ht, hj, lt_cast, inB_cast, hk', show j < l.length by omega, decide_true, cond_true, Int.toNat_natCast, half_eq hm, optE_some, wr_succ (show k < 4611686018427387904 by omega)]
      unfold acc
      rw [tj]
      rw [wr_id (n := t.2.2 * (hf (l.getD j (0, 0, 0, 0, 0)) t.2.1).2.2) (by omega) (by omega), wr_id (n := t.2.2 * (hf (l.getD j (0, 0, 0, 0, 0)) t.2.1).1) (by omega) (by omega), wr_id (n := t.2.2 * (hf (l.getD j (0, 0, 0, 0, 0)) t.2.1).2.1) (by omega) (by omega),
          wr_id (by omega) (by omega), wr_id (by omega) (by omega), wr_id (by omega) (by omega)]
     rw [loopVal_next hst]
     exact ih (k + 1) _ r (by omega) (hs.step hv h0) h
def sg (b : Bool) : Int := if b then 1 else -1
def okP (c : Cl) (s : Int × Int × Int) : Bool := (s.1 == sg c.1.2 * c.2.2.2) && ((s.2.1 == sg c.1.2 * c.2.2.2 * c.1.1) && !decide (s.2.2 * c.2.1.2 > sg c.1.2 * c.2.1.1 * c.2.2.2))
noncomputable def clE (c : Cl) : Int := firstE [unl (win c.1.1 0 1000) 2, frE c.2.1 1000000000 1000000000, unl (win c.2.2.2 1 100000000) 2, unl (decide ((c.2.2.1.length : Int) ≤ 6)) 8]
noncomputable def clV (l : List Msr) (c : Cl) : Int := if clE c ≠ 0 then clE c else match tl l c.2.2.1 (0, 0, 0) with | .inl e => e | .inr s => unl (okP c s) 19
theorem clE_ok {c : Cl} (h : clE c = 0) : (0 ≤ c.1.1 ∧ c.1.1 ≤ 1000) ∧ (isLow c.2.1 = true ∧ (-1000000000 ≤ c.2.1.1 ∧ c.2.1.1 ≤ 1000000000) ∧ 1 ≤ c.2.1.2 ∧ c.2.1.2 ≤ 1000000000) ∧ (1 ≤ c.2.2.2 ∧ c.2.2.2 ≤ 100000000) ∧ c.2.2.1.length ≤ 6 := by
 unfold clE at h
 have h := firstE_zero.1 h
 have h1 := unl_zero (by decide) (h (unl (win c.1.1 0 1000) 2) (by simp))
 have h2 := h (frE c.2.1 1000000000 1000000000) (by simp)
 have h3 := unl_zero (by decide) (h (unl (win c.2.2.2 1 100000000) 2) (by simp))
 have h4 := unl_zero (by decide) (h (unl (decide ((c.2.2.1.length : Int) ≤ 6)) 8) (by simp))
 unfold frE at h2
 have h2 := firstE_zero.1 h2
 have h5 := unl_zero (by decide) (h2 (unl (isLow c.2.1) 3) (by simp))
 have h6 := unl_zero (by decide) (h2 (unl (win c.2.1.1 (wr (-1000000000)) 1000000000 && decide (c.2.1.2 ≤ 1000000000)) 2) (by simp))
 simp only [Bool.and_eq_true, win_iff, decide_eq_true_eq, show wr (-1000000000) = -1000000000 from rfl] at h6
 have := isLow_pos h5
 exact ⟨win_iff.1 h1, ⟨h5, h6.1, by omega, h6.2⟩, win_iff.1 h3, by have := of_decide_eq_true h4; omega⟩
theorem asked_eq {q : Int × Bool} (h : 0 ≤ q.1 ∧ q.1 ≤ 1000) : s106 q = some (sg q.2, sg q.2 * q.1) := by
 obtain ⟨t, b⟩ := q
 unfold s106 sg
 have h2 := opp_eq (1, t) (by simp) (by simp at h ⊢; omega)
 cases b
 ·simp only [h2, optE_some, Bool.not_false, cond_true]; simp
 ·simp
theorem okP_facts {l : List Msr} {c : Cl} (hc : clE c = 0) (hv : ∀ m ∈ l, mErr m = 0) {s : Int × Int × Int} (ht : tl l c.2.2.1 (0, 0, 0) = .inr s) : Bd 6 s := by
 obtain ⟨_, _, _, h4⟩ := clE_ok hc
 have h := (loop67b l c hv h4 c.2.2.1.length 0 (0, 0, 0) s (by omega) (by simp [Bd]) (by rwa [List.drop_zero])).2
 obtain ⟨h1, h2, h3⟩ := h
 unfold Bd
 omega
theorem check_eq (l : List Msr) (c : Cl) (hl : l.length ≤ 1000) : s65 (l, c) = some (if (chkM l).2 ≠ 0 then (chkM l).2 else clV l c) := by
 unfold s65
 simp only [open_eq l hl, fracErr_eq, optE_some]
 by_cases hm : (chkM l).2 = 0
 ·have hv := (chkE_zero mErr (0, 0, 0, 0, 0) 12 l).1 hm
  rw [if_pos hm, if_neg (fun h => h hm)]
  dsimp only
  have hE : firstE [0, unl (win c.1.1 0 1000) 2, frE c.2.1 1000000000 1000000000, unl (win c.2.2.2 1 100000000) 2, unl (decide ((c.2.2.1.length : Int) ≤ 6)) 8] = clE c := rfl
  rw [hE]
  unfold clV
  by_cases hc : clE c = 0
  ·rw [if_neg (fun h => h hc), hc]
   obtain ⟨c1, ⟨_, c2, c3⟩, c4, c5⟩ := clE_ok hc
   have h65 := loop65 l c (by omega) hv.2 c.2.2.1 c5 c.2.2.1.length 0 (0, 0, 0) (by omega) (by simp [Bd])
   rw [show ((0 : Nat) : Int) = 0 from rfl, List.drop_zero] at h65
   simp only [bne_self_eq_false, cond_false, h65, optE_some]
   cases ht : tl l c.2.2.1 (0, 0, 0) with
   | inl e => rfl
   | inr s =>
     obtain ⟨b1, b2, b3⟩ := okP_facts hc hv.2 ht
     simp only [sumE_r, asked_eq c1, optE_some]
     have m1 := mulB (a := sg c.1.2) (b := c.1.1) (A := 1) (B := 1000) (by unfold sg; split <;> omega) (by omega)
     have m2 := mulB (a := c.2.2.2) (b := sg c.1.2) (A := 100000000) (B := 1) (by omega) (by unfold sg; split <;> omega)
     have m3 := mulB (a := c.2.2.2) (b := sg c.1.2 * c.1.1) (A := 100000000) (B := 1000) (by omega) (by omega)
     rw [wr_id (n := c.2.2.2 * sg c.1.2) (by omega) (by omega), wr_id (n := c.2.2.2 * (sg c.1.2 * c.1.1)) (by omega) (by omega), wr_id (n := -c.2.1.1) (by omega) (by omega),
      exceeds_eq (a := s.2.2) (b := c.2.1.2) (c := -c.2.1.1) (d := c.2.2.2) (by omega) (by omega) (by omega) (by omega), exceeds_eq (a := s.2.2) (b := c.2.1.2) (c := c.2.1.1) (d := c.2.2.2) (by omega) (by omega) (by omega) (by omega)]
     simp only [optE_some]
     unfold okP
     rw [show sg c.1.2 * c.2.2.2 = c.2.2.2 * sg c.1.2 from Int.mul_comm _ _, show c.2.2.2 * sg c.1.2 * c.1.1 = c.2.2.2 * (sg c.1.2 * c.1.1) from Int.mul_assoc _ _ _]
     cases hu : c.1.2 with
     | false =>
       rw [show sg false * c.2.1.1 = -c.2.1.1 by unfold sg; simp]
       simp only [Bool.not_false, cond_true, Bool.and_true]
       cases s.1 == c.2.2.2 * sg false <;> cases s.2.1 == c.2.2.2 * (sg false * c.1.1) <;> cases decide (s.2.2 * c.2.1.2 > -c.2.1.1 * c.2.2.2) <;> rfl
     | true =>
       rw [show sg true * c.2.1.1 = c.2.1.1 by unfold sg; simp]
       simp only [Bool.not_true, cond_false, Bool.and_true]
       cases s.1 == c.2.2.2 * sg true <;> cases s.2.1 == c.2.2.2 * (sg true * c.1.1) <;> cases decide (s.2.2 * c.2.1.2 > c.2.1.1 * c.2.2.2) <;> rfl
  ·rw [if_pos hc, show (clE c != 0) = true by simpa using hc]
   rfl
 ·have hb : ((chkM l).2 != 0) = true := by simpa using hm
  have hh : ∀ r, firstE ((chkM l).2 :: r) = (chkM l).2 := fun r => by simp only [firstE, hb, cond_true]
  rw [if_neg hm, if_pos hm]
  simp only [hh, hb, cond_true]
theorem claimErr_eq (l : List Msr) (c : Cl) (hl : l.length ≤ 12) (hv : ∀ m ∈ l, mErr m = 0) (hT : c.2.2.1.length ≤ 1000) : s67 (l, c) = some (clV l c) := by
 have htime : s29 c.1.1 = some (unl (win c.1.1 0 1000) 2) := by
  unfold s29
  cases win c.1.1 0 1000 <;> rfl
 unfold s67
 simp only [htime, isLowest_eq, optE_some, dec_gt]
 unfold clV
 by_cases hc : clE c = 0
 ·rw [if_neg (fun h => h hc)]
  obtain ⟨c1, ⟨c0, c2, c3⟩, c4, c5⟩ := clE_ok hc
  have h67 := loop67a l c hl c5 c.2.2.1.length 0 (0, 0, 0) (by omega)
  rw [show ((0 : Nat) : Int) = 0 from rfl, List.drop_zero] at h67
  simp only [win_iff.2 c1, c0, win_iff.2 c2, win_iff.2 c4, decide_eq_true c3.2, decide_eq_true (show (c.2.2.1.length : Int) ≤ 6 by omega), show unl true 2 = 0 from rfl, bne_self_eq_false, cond_false, Bool.not_true, h67, optE_some]
  cases ht : tl l c.2.2.1 (0, 0, 0) with
  | inl e => rfl
  | inr s =>
    obtain ⟨h2, _⟩ := loop67b l c hv c5 c.2.2.1.length 0 (0, 0, 0) s (by omega) (by simp [Bd]) (by rwa [List.drop_zero])
    obtain ⟨b1, b2, b3⟩ := okP_facts hc hv ht
    rw [show ((0 : Nat) : Int) = 0 from rfl] at h2
    simp only [sumE_r, h2, optE_some]
    have m0 := mulB (a := sg c.1.2) (b := c.2.2.2) (A := 1) (B := 100000000) (by unfold sg; split <;> omega) (by omega)
    have m1 := mulB (a := sg c.1.2 * c.2.2.2) (b := c.1.1) (A := 100000000) (B := 1000) (by omega) (by omega)
    obtain ⟨w1, e1, i1⟩ := s92_eq (n := s.2.2) (by omega) (by omega)
    obtain ⟨w2, e2, i2⟩ := s92_eq (n := c.2.1.2) (by omega) (by omega)
    obtain ⟨w3, e3, i3⟩ := s93_eq i1 i2 (by omega)
    obtain ⟨w4, e4, i4⟩ := s92_eq (n := sg c.1.2 * c.2.2.2) (by omega) (by omega)
    obtain ⟨w5, e5, i5⟩ := s92_eq (n := c.2.1.1) (by omega) (by omega)
    obtain ⟨w6, e6, i6⟩ := s93_eq i4 i5 (by omega)
    have e7 := s94_eq i3 i6 (by omega)
    have hgt : decide (cmpI (s.2.2 * c.2.1.2) (sg c.1.2 * c.2.2.2 * c.2.1.1) > 0) = decide (s.2.2 * c.2.1.2 > sg c.1.2 * c.2.1.1 * c.2.2.2) := by
     rw [show sg c.1.2 * c.2.1.1 * c.2.2.2 = sg c.1.2 * c.2.2.2 * c.2.1.1 by grind, decide_eq_decide]
     unfold cmpI
     split
     ·omega
     ·split <;> omega
    unfold okP
    cases hu : c.1.2 with
    | false =>
      rw [hu] at e4 m0 m1 e7 hgt
      have hs : (-1) * c.2.2.2 = sg false * c.2.2.2 := rfl
      simp only [Bool.not_false, cond_true, hs, wr_id (n := sg false * c.2.2.2) (by omega) (by omega), wr_id (n := sg false * c.2.2.2 * c.1.1) (by omega) (by omega), e1, e2, e3, e4, e5, e6, e7, optE_some, ← dec_gt, hgt, bne]
      cases s.1 == sg false * c.2.2.2 <;> cases s.2.1 == sg false * c.2.2.2 * c.1.1 <;> cases decide (s.2.2 * c.2.1.2 > sg false * c.2.1.1 * c.2.2.2) <;> rfl
    | true =>
      rw [hu] at e4 m0 m1 e7 hgt
      have hs : 1 * c.2.2.2 = sg true * c.2.2.2 := rfl
      simp only [Bool.not_true, cond_false, hs, wr_id (n := sg true * c.2.2.2) (by omega) (by omega), wr_id (n := sg true * c.2.2.2 * c.1.1) (by omega) (by omega), e1, e2, e3, e4, e5, e6, e7, optE_some, ← dec_gt, hgt, bne]
      cases s.1 == sg true * c.2.2.2 <;> cases s.2.1 == sg true * c.2.2.2 * c.1.1 <;> cases decide (s.2.2 * c.2.1.2 > sg true * c.2.1.1 * c.2.2.2) <;> rfl
 ·rw [if_pos hc]
  unfold clE frE at hc ⊢
  rw [show wr (-1000000000) = -1000000000 from rfl] at hc ⊢
  cases h1 : win c.1.1 0 1000
  ·rfl
  cases h2 : isLow c.2.1
  ·rfl
  cases h3 : win c.2.1.1 (-1000000000) 1000000000
  ·rfl
  cases h4 : decide (c.2.1.2 ≤ 1000000000)
  ·rfl
  cases h5 : win c.2.2.2 1 100000000
  ·rfl
  cases h6 : decide ((c.2.2.1.length : Int) ≤ 6)
  ·rfl
  rw [h1, h2, h3, h4, h5, h6] at hc
  exact absurd rfl hc
theorem copyC (c : Cl) (h : c.2.2.1.length ≤ 1000000) : s66 c = some c := by
 unfold s66
 rw [room_true (by omega) (by omega)]
 rfl
theorem claims_true (y : List Msr × Cl) : s14 y = some true := by
 obtain ⟨l, c⟩ := y
 unfold s14
 simp only [Bool.not_true, cond_false]
 have hfew : ∃ b, s21 l = some b ∧ (b = true → l.length ≤ 14) := by
  unfold s21
  by_cases h1 : (l.length : Int) ≤ 6
  ·rw [decide_eq_true h1]; exact ⟨true, rfl, fun _ => by omega⟩
  ·rw [decide_eq_false h1]
   by_cases h2 : (l.length : Int) > 12
   ·rw [decide_eq_true h2]; exact ⟨_, rfl, fun h => by have := of_decide_eq_true h; omega⟩
   ·rw [decide_eq_false h2]; exact ⟨false, rfl, fun h => by cases h⟩
 obtain ⟨b, hb, hl⟩ := hfew
 rw [hb]
 cases b with
 | false => rfl
 | true =>
   have hl := hl rfl
   simp only [optE_some, Bool.not_true, cond_false]
   cases hT : decide ((c.2.2.1.length : Int) > 8)
   case true => rfl
   have hT : ¬ (c.2.2.1.length : Int) > 8 := by simpa using hT
   have hme : s23 l = some (chkM l).2 := by unfold s23; simp only [chk2, optE_some]
   simp only [cond_false, copyM l (by omega), copyC c (by omega), optE_some, check_eq l c (by omega), hme]
   by_cases hm : (chkM l).2 = 0
   ·have hv := (chkE_zero mErr (0, 0, 0, 0, 0) 12 l).1 hm
    rw [if_neg (fun h => h hm), hm]
    simp only [beq_self_eq_true, cond_true, claimErr_eq l c (by omega) hv.2 (by omega), optE_some]
   ·rw [if_pos hm, show ((chkM l).2 == 0) = false by simpa using hm]
    simp
end Go.Proofs.YtfmfiflpokogiaaDoor
