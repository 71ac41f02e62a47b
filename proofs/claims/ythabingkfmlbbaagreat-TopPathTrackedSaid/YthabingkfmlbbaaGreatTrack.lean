/- Chapter 1: tracks. -/
import Derived.Test.YthabingkfmlbbaaGreatSearch
import Derived.Test.YthabingkfmlbbaaGreatGm4
set_option linter.unusedSimpArgs false
namespace Go.Proofs.YthabingkfmlbbaaGreat
open Go.Ev
abbrev Kn := Int × Int × Int × Int
abbrev Tr := List Kn × Int
def kR (k : Kn) : Bool := win k.1 0 1000000000000 && (win k.2.1 (-1000000) 1000000 && (win k.2.2.1 (-1000000) 1000000 && win k.2.2.2 (-1000000) 1000000))
def sqd (b k : Kn) : Int := (k.2.1 - b.2.1) * (k.2.1 - b.2.1) + (k.2.2.1 - b.2.2.1) * (k.2.2.1 - b.2.2.1) + (k.2.2.2 - b.2.2.2) * (k.2.2.2 - b.2.2.2)
def kE (b k : Kn) : Int := bif !kR k then 2 else bif decide (k.1 ≤ b.1) then 9 else bif decide (k.1 - b.1 > 10000) then 14 else bif decide (4 * sqd b k > (k.1 - b.1) * (k.1 - b.1)) then 23 else 0
def hitK (l : List Kn) (i : Nat) : Int := if i = 0 then unl (kR (l.getD 0 (0, 0, 0, 0))) 2 else kE (l.getD (i - 1) (0, 0, 0, 0)) (l.getD i (0, 0, 0, 0))
theorem s48_eq (a b c : Int) : s48 (a, b, c) = some (win a b c) := by
 unfold s48 win; cases h : decide (b ≤ a) <;> simp [h]
theorem s27_eq (a b c : Int) : s27 (a, b, c) = some (win a b c) := by
 unfold s27 win; cases h : decide (b ≤ a) <;> simp [h]
theorem s104_eq (a : Int) : s104 a = some (win a (-1000000) 1000000) := by
 unfold s104 s95
 simp only [optE_some, s48_eq]
 rfl
theorem s47_eq (b : Bool) (e : Int) : s47 (b, e) = some (unl b e) := by unfold s47 unl; cases b <;> rfl
theorem s46_eq (l : List Int) (hl : l.length ≤ 1000) : s46 l = some (firstE l) := by
 have h := loop_scan (step := step46_0) (st := fun k => (l, (l.length : Int), (k : Int))) (hit := fun k => (fun x => bif x != 0 then some (Sum.inl x : Int ⊕ Unit) else none) (l.getD k 0)) (n := l.length) (e := .inr ())
  (fun k hk => by
    simp only [step46_0, lt_cast, inB_cast, hk, decide_true, cond_true, Int.toNat_natCast, wr_succ (show k < 4611686018427387904 by omega)]
    cases h : l.getD k 0 != 0 <;> simp [h])
  (by simp only [step46_0, lt_cast, Nat.lt_irrefl, decide_false, cond_false]) l.length 0 (by omega)
 rw [scan_list0 (fun x => bif x != 0 then some (Sum.inl x : Int ⊕ Unit) else none) (.inr ()) l 0, scanL_first] at h
 unfold s46
 have h' : loopVal step46_0 (l, (l.length : Int), 0) = _ := h
 rw [h']
 cases hf : firstE l != 0
 ·simp [optE, sumE, cond_false]
  have : firstE l = 0 := by simpa using hf
  exact this.symm
 ·simp [optE, sumE]
theorem kR_spec {k : Kn} (h : kR k = true) : (0 ≤ k.1 ∧ k.1 ≤ 1000000000000) ∧ (-1000000 ≤ k.2.1 ∧ k.2.1 ≤ 1000000) ∧ (-1000000 ≤ k.2.2.1 ∧ k.2.2.1 ≤ 1000000) ∧ (-1000000 ≤ k.2.2.2 ∧ k.2.2.2 ≤ 1000000) := by
 simp only [kR, Bool.and_eq_true, win_iff] at h
 exact ⟨h.1, h.2.1, h.2.2.1, h.2.2.2⟩
theorem mul_bound {a b m : Int} (h1 : -m ≤ a) (h2 : a ≤ m) (h3 : -m ≤ b) (h4 : b ≤ m) : -(m * m) ≤ a * b ∧ a * b ≤ m * m := by
 have hm : 0 ≤ m := by omega
 have e1 : a.natAbs * b.natAbs ≤ m.natAbs * m.natAbs := Nat.mul_le_mul (by omega) (by omega)
 have e2 : (a * b).natAbs = a.natAbs * b.natAbs := Int.natAbs_mul a b
 have e3 : (m * m).natAbs = m.natAbs * m.natAbs := Int.natAbs_mul m m
 have e4 : 0 ≤ m * m := Int.mul_nonneg hm hm
 omega
theorem sq_bound {a m : Int} (h1 : -m ≤ a) (h2 : a ≤ m) : 0 ≤ a * a ∧ a * a ≤ m * m := ⟨by
 rcases Int.le_total 0 a with h | h
 ·exact Int.mul_nonneg h h
 ·exact Int.mul_nonneg_of_nonpos_of_nonpos h h, (mul_bound h1 h2 h1 h2).2⟩
theorem way_eq {b k : Kn} (hb : kR b = true) (hk : kR k = true) : s60 ((k.2.1, k.2.2.1, k.2.2.2), (b.2.1, b.2.2.1, b.2.2.2)) = some (k.2.1 - b.2.1, k.2.2.1 - b.2.2.1, k.2.2.2 - b.2.2.2) ∧ s61 (k.2, b.2) = some (k.2.1 - b.2.1, k.2.2.1 - b.2.2.1, k.2.2.2 - b.2.2.2) ∧
 s89 ((k.2.1 - b.2.1, k.2.2.1 - b.2.2.1, k.2.2.2 - b.2.2.2), (k.2.1 - b.2.1, k.2.2.1 - b.2.2.1, k.2.2.2 - b.2.2.2)) = some (sqd b k) ∧ s110 (k.2.1 - b.2.1, k.2.2.1 - b.2.2.1, k.2.2.2 - b.2.2.2) = some (sqd b k) ∧
 wr (4 * sqd b k) = 4 * sqd b k ∧ wr (k.1 - b.1) = k.1 - b.1 ∧ 0 ≤ sqd b k := by
 obtain ⟨t1, x1, y1, z1⟩ := kR_spec hb
 obtain ⟨t2, x2, y2, z2⟩ := kR_spec hk
 obtain ⟨bx1, bx2⟩ := sq_bound (a := k.2.1 - b.2.1) (m := 2000000) (by omega) (by omega)
 obtain ⟨by1, by2⟩ := sq_bound (a := k.2.2.1 - b.2.2.1) (m := 2000000) (by omega) (by omega)
 obtain ⟨bz1, bz2⟩ := sq_bound (a := k.2.2.2 - b.2.2.2) (m := 2000000) (by omega) (by omega)
 have e1 : s60 ((k.2.1, k.2.2.1, k.2.2.2), (b.2.1, b.2.2.1, b.2.2.2)) = some (k.2.1 - b.2.1, k.2.2.1 - b.2.2.1, k.2.2.2 - b.2.2.2) := by
  unfold s60; simp only []; rw [wr_id (by omega) (by omega), wr_id (by omega) (by omega), wr_id (by omega) (by omega)]
 have e2 : s61 (k.2, b.2) = some (k.2.1 - b.2.1, k.2.2.1 - b.2.2.1, k.2.2.2 - b.2.2.2) := by
  unfold s61; simp only []; rw [wr_id (by omega) (by omega), wr_id (by omega) (by omega), wr_id (by omega) (by omega)]
 have e3 : s89 ((k.2.1 - b.2.1, k.2.2.1 - b.2.2.1, k.2.2.2 - b.2.2.2), (k.2.1 - b.2.1, k.2.2.1 - b.2.2.1, k.2.2.2 - b.2.2.2)) = some (sqd b k) := by
  unfold s89 sqd; simp only []
  rw [wr_id (n := (k.2.1 - b.2.1) * (k.2.1 - b.2.1)) (by omega) (by omega), wr_id (n := (k.2.2.1 - b.2.2.1) * (k.2.2.1 - b.2.2.1)) (by omega) (by omega), wr_id (n := (k.2.2.2 - b.2.2.2) * (k.2.2.2 - b.2.2.2)) (by omega) (by omega)]
  rw [wr_id (n := (k.2.1 - b.2.1) * (k.2.1 - b.2.1) + _) (by omega) (by omega), wr_id (by omega) (by omega)]
 refine ⟨e1, e2, e3, ?_, wr_id ?_ ?_, wr_id (by omega) (by omega), ?_⟩
 ·unfold s110
  have : ∀ v, s113 (v, v) = s89 (v, v) := fun v => rfl
  rw [this, e3]; rfl
 ·unfold sqd; omega
 ·unfold sqd; omega
 ·unfold sqd; omega
theorem piece_eq {b k : Kn} (_hb : kR b = true) (hk : kR k = true) (hd : k.1 - b.1 ≤ 1000000000000) :
 firstE [unl (decide (k.1 - b.1 > 0)) 9, unl (decide (k.1 - b.1 ≤ 10000)) 14, unl (decide (4 * sqd b k ≤ wr ((k.1 - b.1) * (k.1 - b.1)))) 23] = kE b k := by
 unfold kE
 rw [hk]
 simp only [Bool.not_true, cond_false, firstE, unl]
 by_cases h1 : k.1 - b.1 > 0
 ·rw [decide_eq_true h1, decide_eq_false (show ¬ k.1 ≤ b.1 by omega)]
  by_cases h2 : k.1 - b.1 ≤ 10000
  ·rw [decide_eq_true h2, decide_eq_false (show ¬ k.1 - b.1 > 10000 by omega)]
   obtain ⟨q1, q2⟩ := sq_bound (a := k.1 - b.1) (m := 10000) (by omega) h2
   rw [wr_id (by omega) (by omega)]
   by_cases h3 : 4 * sqd b k ≤ (k.1 - b.1) * (k.1 - b.1)
   ·rw [decide_eq_true h3, decide_eq_false (show ¬ 4 * sqd b k > (k.1 - b.1) * (k.1 - b.1) by omega)]; rfl
   ·rw [decide_eq_false h3, decide_eq_true (show 4 * sqd b k > (k.1 - b.1) * (k.1 - b.1) by omega)]; rfl
  ·rw [decide_eq_false h2, decide_eq_true (show k.1 - b.1 > 10000 by omega)]; rfl
 ·rw [decide_eq_false h1, decide_eq_true (show k.1 ≤ b.1 by omega)]; rfl
theorem step56_none {n : Int} {i : Nat} {p : Tr} (hn : n = (p.1.length : Int)) (hi : i < p.1.length) (hs : p.1.length ≤ 1000) :
 step56_0 (none, n, (i : Int), p) = bif kR (p.1.getD i (0, 0, 0, 0)) then some (.inl (some (p.1.getD i (0, 0, 0, 0)), n, ((i + 1 : Nat) : Int), p)) else some (.inr (.inl ((i : Int), 2))) := by
 subst hn
 have hw := wr_succ (show i < 4611686018427387904 by omega)
 obtain ⟨k, hkk⟩ : ∃ k, p.1.getD i (0, 0, 0, 0) = k := ⟨_, rfl⟩
 simp only [step56_0, lt_cast, inB_cast, hi, decide_true, cond_true, Int.toNat_natCast, s59, s48_eq, s104_eq, s47_eq, optE_some, hw, hkk]
 unfold kR
 cases h1 : win k.1 0 1000000000000
 ·simp [unl]
 ·cases h2 : win k.2.1 (-1000000) 1000000
  ·simp [unl]
  ·cases h3 : win k.2.2.1 (-1000000) 1000000
   ·simp [unl]
   ·cases h4 : win k.2.2.2 (-1000000) 1000000 <;> simp [unl]
theorem step56_some {n : Int} {i : Nat} {p : Tr} {b : Kn} (hb : kR b = true) (hn : n = (p.1.length : Int)) (hi : i < p.1.length) (hs : p.1.length ≤ 1000) :
 step56_0 (some b, n, (i : Int), p) = bif kE b (p.1.getD i (0, 0, 0, 0)) != 0 then some (.inr (.inl ((i : Int), kE b (p.1.getD i (0, 0, 0, 0))))) else some (.inl (some (p.1.getD i (0, 0, 0, 0)), n, ((i + 1 : Nat) : Int), p)) := by
 subst hn
 have hw := wr_succ (show i < 4611686018427387904 by omega)
 obtain ⟨k, hkk⟩ : ∃ k, p.1.getD i (0, 0, 0, 0) = k := ⟨_, rfl⟩
 simp only [step56_0, lt_cast, inB_cast, hi, decide_true, cond_true, Int.toNat_natCast, s59, s48_eq, s104_eq, s47_eq, optE_some, hw, Option.isSome_some, Bool.not_true, cond_false, Option.getD_some, hkk]
 by_cases hk : kR k = true
 ·obtain ⟨w1, w2, w3, w4, w5, w6, w7⟩ := way_eq hb hk
  obtain ⟨t1, _, _, _⟩ := kR_spec hb
  obtain ⟨t2, _, _, _⟩ := kR_spec hk
  have hk' := hk
  simp only [kR, Bool.and_eq_true] at hk'
  obtain ⟨h1, h2, h3, h4⟩ := hk'
  simp only [h1, h2, h3, h4, cond_true, unl, show ((0 : Int) != 0) = false from rfl, cond_false, w1, w3, w5, w6, optE_some]
  have hp := piece_eq hb hk (by omega)
  simp only [unl] at hp
  rw [s46_eq _ (by simp)]
  simp only [optE_some, hp]
 ·have hk0 : kR k = false := by simpa using hk
  have he : kE b k = 2 := by unfold kE; rw [hk0]; rfl
  rw [he]
  unfold kR at hk0
  cases h1 : win k.1 0 1000000000000
  ·simp [unl]
  ·cases h2 : win k.2.1 (-1000000) 1000000
   ·simp [unl]
   ·cases h3 : win k.2.2.1 (-1000000) 1000000
    ·simp [unl]
    ·cases h4 : win k.2.2.2 (-1000000) 1000000
     ·simp [unl]
     ·rw [h1, h2, h3, h4] at hk0; cases hk0
theorem s103_eq {l : List Kn} {i : Nat} (hi : i < l.length) (hs : l.length ≤ 1000) (hb : i ≠ 0 → kR (l.getD (i - 1) (0, 0, 0, 0)) = true) : s103 (l, (i : Int)) = some (hitK l i) := by
 have hm1 : i ≠ 0 → wr ((i : Int) - 1) = ((i - 1 : Nat) : Int) := fun h => by rw [wr_id (by omega) (by omega)]; omega
 simp only [s103, inB_cast, hi, decide_true, cond_true, Int.toNat_natCast, s109, s27_eq, optE_some]
 unfold hitK
 by_cases h0 : i = 0
 ·subst h0
  rw [if_pos rfl]
  obtain ⟨k, hkk⟩ : ∃ k, l.getD 0 (0, 0, 0, 0) = k := ⟨_, rfl⟩
  simp only [hkk, show (((0 : Nat) : Int) == 0) = true from rfl, cond_true]
  unfold kR
  cases h1 : win k.1 0 1000000000000
  ·simp [unl]
  ·cases h2 : win k.2.1 (-1000000) 1000000
   ·simp [unl]
   ·cases h3 : win k.2.2.1 (-1000000) 1000000
    ·simp [unl]
    ·cases h4 : win k.2.2.2 (-1000000) 1000000 <;> simp [unl]
 ·rw [if_neg h0]
  have hz : ((i : Int) == 0) = false := by simp; omega
  simp only [hm1 h0, inB_cast, show i - 1 < l.length by omega, decide_true, cond_true, Int.toNat_natCast, hz, cond_false]
  have hb := hb h0
  obtain ⟨b, hbb⟩ : ∃ b, l.getD (i - 1) (0, 0, 0, 0) = b := ⟨_, rfl⟩
  obtain ⟨k, hkk⟩ : ∃ k, l.getD i (0, 0, 0, 0) = k := ⟨_, rfl⟩
  rw [hbb] at hb
  simp only [hbb, hkk]
  by_cases hk : kR k = true
  ·obtain ⟨w1, w2, w3, w4, w5, w6, w7⟩ := way_eq hb hk
   have hk' := hk
   simp only [kR, Bool.and_eq_true] at hk'
   obtain ⟨h1, h2, h3, h4⟩ := hk'
   simp only [h1, h2, h3, h4, Bool.not_true, cond_false, w2, w4, w5, w6, optE_some]
   unfold kE
   rw [hk]
   simp only [Bool.not_true, cond_false]
   obtain ⟨t1, _, _, _⟩ := kR_spec hb
   obtain ⟨t2, _, _, _⟩ := kR_spec hk
   by_cases c1 : k.1 ≤ b.1
   ·simp [c1]
   ·by_cases c2 : k.1 - b.1 > 10000
    ·simp [c1, c2]
    ·obtain ⟨q1, q2⟩ := sq_bound (a := k.1 - b.1) (m := 10000) (by omega) (by omega)
     rw [wr_id (n := (k.1 - b.1) * (k.1 - b.1)) (by omega) (by omega)]
     simp only [c1, c2, decide_false, cond_false]
     cases decide (4 * sqd b k > (k.1 - b.1) * (k.1 - b.1)) <;> rfl
  ·have hk0 : kR k = false := by simpa using hk
   have he : kE b k = 2 := by unfold kE; rw [hk0]; rfl
   rw [he]
   unfold kR at hk0
   cases h1 : win k.1 0 1000000000000
   ·simp
   ·cases h2 : win k.2.1 (-1000000) 1000000
    ·simp
    ·cases h3 : win k.2.2.1 (-1000000) 1000000
     ·simp
     ·cases h4 : win k.2.2.2 (-1000000) 1000000
      ·simp
      ·rw [h1, h2, h3, h4] at hk0; cases hk0
def bfK (l : List Kn) : Nat → Option Kn
 | 0 => none
 | i + 1 => some (l.getD i (0, 0, 0, 0))
def hitT (l : List Kn) (_p : Tr) (i : Nat) : Option ((Int × Int) ⊕ Tr) := if hitK l i = 0 then none else some (.inl ((i : Int), hitK l i))
theorem hitT_none {l : List Kn} {p : Tr} {i : Nat} : hitT l p i = none ↔ hitK l i = 0 := by unfold hitT; split <;> simp_all
theorem kE_ok {b k : Kn} (h : kE b k = 0) : kR k = true ∧ b.1 < k.1 ∧ k.1 - b.1 ≤ 10000 ∧ 4 * sqd b k ≤ (k.1 - b.1) * (k.1 - b.1) := by
 unfold kE at h
 cases hk : kR k
 ·rw [hk] at h; simp at h
 ·rw [hk] at h
  simp only [Bool.not_true, cond_false] at h
  by_cases c1 : k.1 ≤ b.1
  ·simp [c1] at h
  ·by_cases c2 : k.1 - b.1 > 10000
   ·simp [c1, c2] at h
   ·by_cases c3 : 4 * sqd b k > (k.1 - b.1) * (k.1 - b.1)
    ·simp [c1, c2, c3] at h
    ·exact ⟨rfl, by omega, by omega, by omega⟩
theorem hitK_ok {l : List Kn} {i : Nat} (h : hitK l i = 0) : kR (l.getD i (0, 0, 0, 0)) = true := by
 unfold hitK at h
 split at h
 ·rename_i h0; subst h0; exact unl_zero (by omega) h
 ·exact (kE_ok h).1
def trkScan (p : Tr) : (Int × Int) ⊕ Tr := scan (hitT p.1 p) (.inr p) p.1.length 0
theorem loop23 (p : Tr) (hs : p.1.length ≤ 1000) : loopVal step56_0 (none, (p.1.length : Int), 0, p) = some (trkScan p) :=
 loop_scan_prior (step := step56_0) (st := fun i => (bfK p.1 i, (p.1.length : Int), (i : Int), p)) (hit := hitT p.1 p) (n := p.1.length) (e := .inr p)
  (fun i hi hp => by
    cases i with
    | zero =>
      have := step56_none (n := (p.1.length : Int)) (i := 0) (p := p) rfl hi hs
      simp only [bfK]
      rw [this]
      unfold hitT hitK
      simp only [if_true]
      cases kR (p.1.getD 0 (0, 0, 0, 0)) <;> simp [unl, bfK]
    | succ i =>
      have hb := hitK_ok (hitT_none.1 (hp i (by omega)))
      have := step56_some (n := (p.1.length : Int)) (i := i + 1) (p := p) hb rfl hi hs
      simp only [bfK]
      rw [this]
      unfold hitT hitK
      simp only [if_neg (show ¬ i + 1 = 0 by omega), Nat.add_sub_cancel]
      cases he : kE (p.1.getD i (0, 0, 0, 0)) (p.1.getD (i + 1) (0, 0, 0, 0)) != 0
      ·have : kE (p.1.getD i (0, 0, 0, 0)) (p.1.getD (i + 1) (0, 0, 0, 0)) = 0 := by simpa using he
       simp only [he, cond_false, if_pos this, bfK]
      ·have : ¬ kE (p.1.getD i (0, 0, 0, 0)) (p.1.getD (i + 1) (0, 0, 0, 0)) = 0 := by simpa using he
       simp only [he, cond_true, if_neg this])
  (fun _ => by simp only [step56_0, lt_cast, Nat.lt_irrefl, decide_false, cond_false]) p.1.length 0 (by omega) (fun j hj => by omega)
theorem loop26 (p : Tr) (hs : p.1.length ≤ 1000) : loopVal step85_0 (0, p) = some (trkScan p) :=
 loop_scan_prior (step := step85_0) (st := fun i => ((i : Int), p)) (hit := hitT p.1 p) (n := p.1.length) (e := .inr p)
  (fun i hi hp => by
    have := s103_eq (l := p.1) (i := i) hi hs (fun h0 => hitK_ok (hitT_none.1 (hp (i - 1) (by omega))))
    simp only [step85_0, lt_cast, hi, decide_true, cond_true, this, optE_some, wr_succ (show i < 4611686018427387904 by omega)]
    unfold hitT
    cases he : hitK p.1 i != 0
    ·have : hitK p.1 i = 0 := by simpa using he
     simp [this]
    ·have : ¬ hitK p.1 i = 0 := by simpa using he
     simp [this])
  (fun _ => by simp only [step85_0, lt_cast, Nat.lt_irrefl, decide_false, cond_false]) p.1.length 0 (by omega) (fun j hj => by omega)
def trkE (p : Tr) : Int × Int := if p.1.length = 0 then (0, 10) else if 12 < p.1.length then (0, 8) else sumE (trkScan p) (fun e => e) (fun q => (0, unl (win q.2 0 1000) 2))
theorem s56_eq (p : Tr) : s56 p = some (trkE p) := by
 unfold s56 trkE
 simp only [s47_eq, optE_some]
 rw [s46_eq _ (by simp)]
 simp only [optE_some]
 by_cases h0 : p.1.length = 0
 ·rw [if_pos h0]
  have : decide ((p.1.length : Int) > 0) = false := decide_eq_false (by omega)
  rw [this]; rfl
 ·rw [if_neg h0]
  have h1 : decide ((p.1.length : Int) > 0) = true := decide_eq_true (by omega)
  rw [h1]
  by_cases h2 : 12 < p.1.length
  ·have h3 : decide ((p.1.length : Int) ≤ 12) = false := decide_eq_false (by omega)
   rw [h3, if_pos h2]; rfl
  ·have h3 : decide ((p.1.length : Int) ≤ 12) = true := decide_eq_true (by omega)
   rw [h3, if_neg h2]
   simp only [firstE, unl, cond_true, show ((0 : Int) != 0) = false from rfl, cond_false, s48_eq, s47_eq, optE_some]
   rw [loop23 p (by omega)]
   simp only [optE_some]
   cases trkScan p <;> rfl
theorem s85_eq (p : Tr) : s85 p = some (trkE p) := by
 unfold s85 trkE
 by_cases h0 : p.1.length = 0
 ·rw [if_pos h0]
  have : ((p.1.length : Int) == 0) = true := by rw [h0]; rfl
  rw [this]; rfl
 ·rw [if_neg h0]
  have h1 : ((p.1.length : Int) == 0) = false := beq_eq_false_iff_ne.2 (by omega)
  rw [h1]
  by_cases h2 : 12 < p.1.length
  ·have h3 : decide ((p.1.length : Int) > 12) = true := decide_eq_true (by omega)
   rw [h3, if_pos h2]; rfl
  ·have h3 : decide ((p.1.length : Int) > 12) = false := decide_eq_false (by omega)
   rw [h3, if_neg h2]
   simp only [cond_false, s27_eq, optE_some]
   rw [loop26 p (by omega)]
   simp only [optE_some]
   cases trkScan p with
   | inl e => rfl
   | inr q => simp only [sumE, unl]; cases win q.2 0 1000 <;> rfl
structure Valid (p : Tr) : Prop where
 pos : 0 < p.1.length
 most : p.1.length ≤ 12
 knot : ∀ i, i < p.1.length → kR (p.1.getD i (0, 0, 0, 0)) = true
 piece : ∀ i, i + 1 < p.1.length → (p.1.getD i (0, 0, 0, 0)).1 < (p.1.getD (i + 1) (0, 0, 0, 0)).1 ∧ (p.1.getD (i + 1) (0, 0, 0, 0)).1 - (p.1.getD i (0, 0, 0, 0)).1 ≤ 10000 ∧
  4 * sqd (p.1.getD i (0, 0, 0, 0)) (p.1.getD (i + 1) (0, 0, 0, 0)) ≤ ((p.1.getD (i + 1) (0, 0, 0, 0)).1 - (p.1.getD i (0, 0, 0, 0)).1) * ((p.1.getD (i + 1) (0, 0, 0, 0)).1 - (p.1.getD i (0, 0, 0, 0)).1)
 doubt : 0 ≤ p.2 ∧ p.2 ≤ 1000
theorem valid_of {p : Tr} (h : (trkE p).2 = 0) : Valid p := by
 unfold trkE at h
 split at h
 ·cases h
 ·split at h
  ·cases h
  ·rename_i h0 h1
   rcases scan_cases (hitT p.1 p) (.inr p) p.1.length 0 with ⟨hs, hn⟩ | ⟨j, x, _, _, hj, hs⟩
   ·unfold trkScan at h
    rw [hs] at h
    simp only [sumE] at h
    have hd := win_iff.1 (unl_zero (by omega) h)
    have hk : ∀ i, i < p.1.length → hitK p.1 i = 0 := fun i hi => hitT_none.1 (hn i (by omega) (by omega))
    refine ⟨by omega, by omega, fun i hi => hitK_ok (hk i hi), fun i hi => ?_, hd⟩
    have := hk (i + 1) hi
    unfold hitK at this
    rw [if_neg (by omega), Nat.add_sub_cancel] at this
    exact (kE_ok this).2
   ·unfold trkScan at h
    rw [hs] at h
    unfold hitT at hj
    split at hj
    ·cases hj
    ·rename_i hne
     obtain rfl := Option.some.inj hj
     exact absurd h hne
end Go.Proofs.YthabingkfmlbbaaGreat
