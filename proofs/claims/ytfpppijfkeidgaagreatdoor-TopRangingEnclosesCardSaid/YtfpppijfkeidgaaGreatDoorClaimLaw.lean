/- Claims: which are accepted. -/
import Derived.Test.YtfpppijfkeidgaaGreatDoorProof
set_option linter.unusedSimpArgs false
namespace Go.Proofs.YtfpppijfkeidgaaGreatDoor
open Go.Ev
abbrev Tm := Int × Bool × Int
abbrev Cl := (Int × Bool) × (Int × Int) × List Tm × Int
noncomputable def tE (n : Int) (t : Tm) : Int := firstE [unl (win t.1 0 (n - 1)) 6, unl (win t.2.2 1 100000000) 2]
def acc (l : List Msr) (s : Int × Int × Int) (t : Tm) : Int × Int × Int :=
 (s.1 + t.2.2 * (hf (l.getD t.1.toNat (0, 0, 0, 0, 0)) t.2.1).1, s.2.1 + t.2.2 * (hf (l.getD t.1.toNat (0, 0, 0, 0, 0)) t.2.1).2.1, s.2.2 + t.2.2 * (hf (l.getD t.1.toNat (0, 0, 0, 0, 0)) t.2.1).2.2)
noncomputable def tl (l : List Msr) : List Tm → Int × Int × Int → Int ⊕ (Int × Int × Int)
 | [], s => .inr s
 | t :: r, s => bif tE l.length t != 0 then .inl (tE l.length t) else tl l r (acc l s t)
theorem tE_ok {n : Int} {t : Tm} (h : tE n t = 0) : (0 ≤ t.1 ∧ t.1 ≤ n - 1) ∧ 1 ≤ t.2.2 ∧ t.2.2 ≤ 100000000 := by
 unfold tE at h
 have h := firstE_zero.1 h
 have h1 := unl_zero (by decide) (h (unl (win t.1 0 (n - 1)) 6) (by simp))
 have h2 := unl_zero (by decide) (h (unl (win t.2.2 1 100000000) 2) (by simp))
 exact ⟨win_iff.1 h1, win_iff.1 h2⟩
theorem hf_facts {m : Msr} (hm : mErr m = 0) (up : Bool) : (-1 ≤ (hf m up).1 ∧ (hf m up).1 ≤ 1) ∧ (-1000 ≤ (hf m up).2.1 ∧ (hf m up).2.1 ≤ 1000) ∧ (-100000 ≤ (hf m up).2.2 ∧ (hf m up).2.2 ≤ 100000) := by
 obtain ⟨k1, k2, _, k4, _⟩ := mErr_ok.1 hm
 unfold hf
 by_cases h1 : m.1 = 1
 ·have := k4 h1
  cases up <;> simp [h1] <;> omega
 ·cases up <;> simp [h1] <;> omega
def Bd (k : Nat) (s : Int × Int × Int) : Prop := (-(k * 100000000) ≤ s.1 ∧ s.1 ≤ k * 100000000) ∧ (-(k * 100000000000) ≤ s.2.1 ∧ s.2.1 ≤ k * 100000000000) ∧ (-(k * 10000000000000) ≤ s.2.2 ∧ s.2.2 ≤ k * 10000000000000)
theorem acc_facts {l : List Msr} (hv : ∀ m ∈ l, mErr m = 0) {t : Tm} (ht : tE l.length t = 0) (b : Bool) :
 (-100000000 ≤ t.2.2 * (hf (l.getD t.1.toNat (0, 0, 0, 0, 0)) b).1 ∧ t.2.2 * (hf (l.getD t.1.toNat (0, 0, 0, 0, 0)) b).1 ≤ 100000000) ∧
 (-100000000000 ≤ t.2.2 * (hf (l.getD t.1.toNat (0, 0, 0, 0, 0)) b).2.1 ∧ t.2.2 * (hf (l.getD t.1.toNat (0, 0, 0, 0, 0)) b).2.1 ≤ 100000000000) ∧
 (-10000000000000 ≤ t.2.2 * (hf (l.getD t.1.toNat (0, 0, 0, 0, 0)) b).2.2 ∧ t.2.2 * (hf (l.getD t.1.toNat (0, 0, 0, 0, 0)) b).2.2 ≤ 10000000000000) := by
 obtain ⟨h1, h2⟩ := tE_ok ht
 have hm := hv _ (getD_mem (l := l) (k := t.1.toNat) (0, 0, 0, 0, 0) (by omega))
 obtain ⟨f1, f2, f3⟩ := hf_facts hm b
 have e1 := mulB (a := t.2.2) (b := (hf (l.getD t.1.toNat (0, 0, 0, 0, 0)) b).1) (A := 100000000) (B := 1) (by omega) (by omega)
 have e2 := mulB (a := t.2.2) (b := (hf (l.getD t.1.toNat (0, 0, 0, 0, 0)) b).2.1) (A := 100000000) (B := 1000) (by omega) (by omega)
 have e3 := mulB (a := t.2.2) (b := (hf (l.getD t.1.toNat (0, 0, 0, 0, 0)) b).2.2) (A := 100000000) (B := 100000) (by omega) (by omega)
 omega
theorem Bd.step {l : List Msr} (hv : ∀ m ∈ l, mErr m = 0) {t : Tm} (ht : tE l.length t = 0) {k : Nat} {s : Int × Int × Int} (h : Bd k s) : Bd (k + 1) (acc l s t) := by
 obtain ⟨a1, a2, a3⟩ := acc_facts hv ht t.2.1
 obtain ⟨h1, h2, h3⟩ := h
 unfold Bd acc
 simp only [Int.natCast_add, Int.natCast_one]
 omega
theorem loop65 (l : List Msr) (c : Cl) (hl : l.length ≤ 12) (hv : ∀ m ∈ l, mErr m = 0) (T : List Tm) (hT : T.length ≤ 6) : ∀ (n k : Nat) (s : Int × Int × Int), k + n = T.length → Bd k s →
 loopVal step20_0 (l, rwsF 0 l, s.2.2, T, (T.length : Int), (k : Int), c, (s.1, s.2.1)) = some (match tl l (T.drop k) s with | .inl e => .inl e | .inr s => .inr (s.2.2, c, (s.1, s.2.1))) := by
 intro n
 induction n with
 | zero =>
   intro k s hk _
   obtain rfl : k = T.length := by omega
   rw [List.drop_length]
   exact loopVal_last (by simp [step20_0, tl])
 | succ n ih =>
   intro k s hk hs
   have hk' : k < T.length := by omega
   rw [getD_drop T (0, false, 0) hk', tl]
   obtain ⟨t, ht⟩ : ∃ t : Tm, T.getD k (0, false, 0) = t := ⟨_, rfl⟩
   rw [ht]
   have hst : step20_0 (l, rwsF 0 l, s.2.2, T, (T.length : Int), (k : Int), c, (s.1, s.2.1)) = bif tE l.length t != 0 then some (.inr (.inl (tE l.length t))) else some (.inl (l, rwsF 0 l, (acc l s t).2.2, T, (T.length : Int), ((k + 1 : Nat) : Int), c, ((acc l s t).1, (acc l s t).2.1))) := by
    have e0 : wr ((l.length : Int) - 1) = (l.length : Int) - 1 := wr_id (by omega) (by omega)
    simp only [step20_0, ht, lt_cast, inB_cast, hk', decide_true, cond_true, Int.toNat_natCast, e0, wr_succ (show k < 4611686018427387904 by omega)]
    rw [show firstE [unl (win t.1 0 ((l.length : Int) - 1)) 6, unl (win t.2.2 1 100000000) 2] = tE l.length t from rfl]
    cases hb : tE l.length t != 0 with
    | true => rfl
    | false =>
      have h0 : tE l.length t = 0 := by simpa using hb
      obtain ⟨h1, h2⟩ := tE_ok h0
      obtain ⟨a1, a2, a3⟩ := acc_facts hv h0 true
      obtain ⟨b1, b2, b3⟩ := acc_facts hv h0 false
      obtain ⟨s1, s2, s3⟩ := hs
      have hlen := rwsF_len l 0
      obtain ⟨j, hj⟩ : ∃ j : Nat, t.1 = (j : Int) := ⟨t.1.toNat, by omega⟩
      have hjl : j < l.length := by omega
      obtain ⟨g1, g2⟩ := rwsF_get l 0 j ((0, 0), 0, 0, false) hjl
      have w1 : wr (2 * t.1) = ((2 * j : Nat) : Int) := by rw [hj, wr_id (by omega) (by omega)]; omega
      have w2 : wr (((2 * j : Nat) : Int) + 1) = ((2 * j + 1 : Nat) : Int) := by rw [wr_id (by omega) (by omega)]; omega
      have tj : t.1.toNat = j := by omega
      rw [tj] at a1 a2 a3 b1 b2 b3
      simp only [cond_false, w1, w2, inB_cast, Int.toNat_natCast, hlen, show 2 * j < 2 * l.length by omega, show 2 * j + 1 < 2 * l.length by omega, decide_true, cond_true, g1, g2, rwOf]
      unfold acc
      rw [tj]
      cases hu : t.2.1 with
      | true =>
        simp only [Bool.not_true, cond_false]
        rw [wr_id (n := t.2.2 * (hf (l.getD j (0, 0, 0, 0, 0)) true).2.2) (by omega) (by omega), wr_id (n := t.2.2 * (hf (l.getD j (0, 0, 0, 0, 0)) true).1) (by omega) (by omega), wr_id (n := t.2.2 * (hf (l.getD j (0, 0, 0, 0, 0)) true).2.1) (by omega) (by omega),
         wr_id (by omega) (by omega), wr_id (by omega) (by omega), wr_id (by omega) (by omega)]
      | false =>
        simp only [Bool.not_false, cond_true]
        rw [wr_id (n := t.2.2 * (hf (l.getD j (0, 0, 0, 0, 0)) false).2.2) (by omega) (by omega), wr_id (n := t.2.2 * (hf (l.getD j (0, 0, 0, 0, 0)) false).1) (by omega) (by omega), wr_id (n := t.2.2 * (hf (l.getD j (0, 0, 0, 0, 0)) false).2.1) (by omega) (by omega),
         wr_id (by omega) (by omega), wr_id (by omega) (by omega), wr_id (by omega) (by omega)]
   cases hb : tE l.length t != 0 with
   | true => rw [hb, cond_true] at hst; rw [loopVal_last hst, cond_true]
   | false =>
     rw [hb, cond_false] at hst
     rw [loopVal_next hst, cond_false]
     exact ih (k + 1) _ (by omega) (hs.step hv (by simpa using hb))
def sg (b : Bool) : Int := if b then 1 else -1
def okP (c : Cl) (s : Int × Int × Int) : Bool := (s.1 == sg c.1.2 * c.2.2.2) && ((s.2.1 == sg c.1.2 * c.2.2.2 * c.1.1) && !decide (s.2.2 * c.2.1.2 > sg c.1.2 * c.2.1.1 * c.2.2.2))
noncomputable def clE (c : Cl) : Int := firstE [unl (win c.1.1 0 1000) 2, frE c.2.1 1000000000 1000000000, unl (win c.2.2.2 1 100000000) 2, unl (decide ((c.2.2.1.length : Int) ≤ 6)) 8]
noncomputable def clV (l : List Msr) (c : Cl) : Int := if clE c ≠ 0 then clE c else match tl l c.2.2.1 (0, 0, 0) with | .inl e => e | .inr s => unl (okP c s) 19
theorem clE_ok {c : Cl} (h : clE c = 0) : (0 ≤ c.1.1 ∧ c.1.1 ≤ 1000) ∧ (isLow c.2.1 = true ∧ (-1000000000 ≤ c.2.1.1 ∧ c.2.1.1 ≤ 1000000000) ∧ 1 ≤ c.2.1.2 ∧ c.2.1.2 ≤ 1000000000) ∧ (1 ≤ c.2.2.2 ∧ c.2.2.2 ≤ 100000000) ∧ c.2.2.1.length ≤ 6 := by
 unfold clE at h
 have h := firstE_zero.1 h
 have h1 := unl_zero (by decide) (h (unl (win c.1.1 0 1000) 2) (by simp))
 have h2 := h (frE c.2.1 1000000000 1000000000) (by simp)
 have h3 := unl_zero (by decide) (h (unl (win c.2.2.2 1 100000000) 2) (by simp))
 have h4 := unl_zero (by decide) (h (unl (decide ((c.2.2.1.length : Int) ≤ 6)) 8) (by simp))
 unfold frE at h2
 have h2 := firstE_zero.1 h2
 have h5 := unl_zero (by decide) (h2 (unl (isLow c.2.1) 3) (by simp))
 have h6 := unl_zero (by decide) (h2 (unl (win c.2.1.1 (wr (-1000000000)) 1000000000 && decide (c.2.1.2 ≤ 1000000000)) 2) (by simp))
 simp only [Bool.and_eq_true, win_iff, decide_eq_true_eq, show wr (-1000000000) = -1000000000 from rfl] at h6
 have := isLow_pos h5
 exact ⟨win_iff.1 h1, ⟨h5, h6.1, by omega, h6.2⟩, win_iff.1 h3, by have := of_decide_eq_true h4; omega⟩
theorem asked_eq {q : Int × Bool} (h : 0 ≤ q.1 ∧ q.1 ≤ 1000) : s49 q = some (sg q.2, sg q.2 * q.1) := by
 obtain ⟨t, b⟩ := q
 unfold s49 sg
 have h2 := opp_eq (1, t) (by simp) (by simp at h ⊢; omega)
 cases b
 ·simp only [h2, optE_some, Bool.not_false, cond_true]; simp
 ·simp
theorem copyC (c : Cl) (h : c.2.2.1.length ≤ 1000000) : s21 c = some c := by
 unfold s21
 rw [room_true (by omega) (by omega)]
 rfl
end Go.Proofs.YtfpppijfkeidgaaGreatDoor
