/- Chapter 1: the point of a track, and its box. -/
import Derived.Test.YthabingkfmlbbaaGreatTrack
set_option linter.unusedSimpArgs false
namespace Go.Proofs.YthabingkfmlbbaaGreat
open Go.Ev
theorem scanL_map {α γ E : Type} (f : α → γ) (g : γ → Option E) (e : E) : ∀ l : List α, scanL (fun x => g (f x)) e l = scanL g e (l.map f)
 | [] => rfl
 | x :: l => by simp only [scanL, List.map_cons, scanL_map f g e l]
def firstT (p : Tr) : Int := (p.1.getD 0 (0, 0, 0, 0)).1
def lastT (p : Tr) : Int := (p.1.getD (p.1.length - 1) (0, 0, 0, 0)).1
def tErr (time : Int) (p : Tr) : Int := unl (win time (firstT p) (lastT p)) 2
theorem first_fin {l : List Int} : (sumE (bif firstE l != 0 then .inl (firstE l) else .inr () : Int ⊕ Unit) (fun e => some e) (fun _ => some 0) : Option Int) = some (firstE l) := by
 cases hf : firstE l != 0
 ·have : firstE l = 0 := by simpa using hf
  simp [sumE, this]
 ·simp [sumE]
theorem firstE_one (x : Int) : firstE [x] = x := by
 simp only [firstE]
 cases h : x != 0
 ·have : x = 0 := by simpa using h
  rw [this]; rfl
 ·rfl
theorem s29_eq (l : List Tr) (hl : l.length ≤ 1000) : s29 l = some (firstE (l.map fun p => (trkE p).2)) := by
 have h := loop_scan (step := step29_0) (st := fun k => (l, (l.length : Int), (k : Int))) (hit := fun k => (fun p : Tr => (fun x => bif x != 0 then some (Sum.inl x : Int ⊕ Unit) else none) (trkE p).2) (l.getD k ([], 0))) (n := l.length) (e := .inr ())
  (fun k hk => by
    simp only [step29_0, lt_cast, inB_cast, hk, decide_true, cond_true, Int.toNat_natCast, s56_eq, optE_some, wr_succ (show k < 4611686018427387904 by omega)]
    cases h : (trkE (l.getD k ([], 0))).2 != 0 <;> simp only [cond_true, cond_false])
  (by simp only [step29_0, lt_cast, Nat.lt_irrefl, decide_false, cond_false]) l.length 0 (by omega)
 rw [scan_list0 (fun p : Tr => (fun x => bif x != 0 then some (Sum.inl x : Int ⊕ Unit) else none) (trkE p).2) (.inr ()) l ([], 0), scanL_map (fun p : Tr => (trkE p).2) (fun x => bif x != 0 then some (Sum.inl x : Int ⊕ Unit) else none), scanL_first] at h
 unfold s29
 have h' : loopVal step29_0 (l, (l.length : Int), 0) = _ := h
 rw [h']
 simp only [optE_some]
 exact first_fin
theorem s57_eq {p : Tr} (V : Valid p) : s57 p = some (lastT p) := by
 have h1 := V.pos
 have h2 := V.most
 have hw : wr ((p.1.length : Int) - 1) = ((p.1.length - 1 : Nat) : Int) := by rw [wr_id (by omega) (by omega)]; omega
 unfold s57
 simp only [hw, inB_cast, show p.1.length - 1 < p.1.length by omega, decide_true, cond_true, Int.toNat_natCast]
 rfl
theorem s30_eq (time : Int) (l : List Tr) (hl : l.length ≤ 1000) (hv : ∀ p ∈ l, Valid p) : s30 (time, l) = some (firstE (l.map (tErr time))) := by
 have h := loop_scan (step := step30_0) (st := fun k => (time, l, (l.length : Int), (k : Int))) (hit := fun k => (fun p : Tr => (fun x => bif x != 0 then some (Sum.inl x : Int ⊕ Unit) else none) (tErr time p)) (l.getD k ([], 0))) (n := l.length) (e := .inr ())
  (fun k hk => by
    have V : Valid (l.getD k ([], 0)) := hv _ (by rw [List.getD_eq_getElem?_getD, List.getElem?_eq_getElem hk]; exact List.getElem_mem hk)
    have h0 : inBounds 0 (l.getD k ([], 0)).1.length = true := by
     have := inB_cast (k := 0) (n := (l.getD k ([], 0)).1.length)
     rw [decide_eq_true V.pos] at this; exact this
    simp only [step30_0, lt_cast, inB_cast, hk, decide_true, cond_true, Int.toNat_natCast, s57_eq V, s48_eq, optE_some, h0, wr_succ (show k < 4611686018427387904 by omega)]
    unfold tErr firstT
    cases h : win time ((l.getD k ([], 0)).1.getD 0 (0, 0, 0, 0)).1 (lastT (l.getD k ([], 0))) <;> simp [unl])
  (by simp only [step30_0, lt_cast, Nat.lt_irrefl, decide_false, cond_false]) l.length 0 (by omega)
 rw [scan_list0 (fun p : Tr => (fun x => bif x != 0 then some (Sum.inl x : Int ⊕ Unit) else none) (tErr time p)) (.inr ()) l ([], 0), scanL_map (tErr time) (fun x => bif x != 0 then some (Sum.inl x : Int ⊕ Unit) else none), scanL_first] at h
 unfold s30
 have h' : loopVal step30_0 (time, l, (l.length : Int), 0) = _ := h
 simp only [h', optE_some]
 exact first_fin
theorem s28_eq {p : Tr} (V : Valid p) (time : Int) : s28 (p, time) = some (tErr time p) := by
 have h0 : inBounds 0 p.1.length = true := by
  have := inB_cast (k := 0) (n := p.1.length)
  rw [decide_eq_true V.pos] at this; exact this
 have h65 : s54 p = some (firstT p) := by unfold s54; simp only [h0, cond_true]; rfl
 have h66 : s55 p = some (lastT p) := s57_eq V
 unfold s28 tErr
 simp only [h65, h66, s27_eq, optE_some]
 cases win time (firstT p) (lastT p) <;> rfl
theorem mono_of {p : Tr} (V : Valid p) : ∀ {j k : Nat}, k ≤ j → j < p.1.length → (p.1.getD k (0, 0, 0, 0)).1 ≤ (p.1.getD j (0, 0, 0, 0)).1
 | 0, k, hk, _ => by have : k = 0 := by omega
                     rw [this]; exact Int.le_refl _
 | j + 1, k, hk, hj => by
   by_cases e : k = j + 1
   ·rw [e]; exact Int.le_refl _
   ·have h1 := mono_of V (j := j) (k := k) (by omega) (by omega)
    have h2 := (V.piece j hj).1
    omega
def FirstAt (l : List Kn) (time : Int) (m : Nat) : Prop := m < l.length ∧ time ≤ (l.getD m (0, 0, 0, 0)).1 ∧ ∀ k, k < m → (l.getD k (0, 0, 0, 0)).1 < time
abbrev Pt := (Int × Int × Int) × Int
def spotAt (l : List Kn) (m : Nat) (time : Int) : Pt :=
 if (l.getD m (0, 0, 0, 0)).1 = time then (((l.getD m (0, 0, 0, 0)).2.1, (l.getD m (0, 0, 0, 0)).2.2.1, (l.getD m (0, 0, 0, 0)).2.2.2), 1) else
  ((wr (wr ((l.getD (m - 1) (0, 0, 0, 0)).2.1 * ((l.getD m (0, 0, 0, 0)).1 - (l.getD (m - 1) (0, 0, 0, 0)).1)) + wr (((l.getD m (0, 0, 0, 0)).2.1 - (l.getD (m - 1) (0, 0, 0, 0)).2.1) * (time - (l.getD (m - 1) (0, 0, 0, 0)).1))),
    wr (wr ((l.getD (m - 1) (0, 0, 0, 0)).2.2.1 * ((l.getD m (0, 0, 0, 0)).1 - (l.getD (m - 1) (0, 0, 0, 0)).1)) + wr (((l.getD m (0, 0, 0, 0)).2.2.1 - (l.getD (m - 1) (0, 0, 0, 0)).2.2.1) * (time - (l.getD (m - 1) (0, 0, 0, 0)).1))),
    wr (wr ((l.getD (m - 1) (0, 0, 0, 0)).2.2.2 * ((l.getD m (0, 0, 0, 0)).1 - (l.getD (m - 1) (0, 0, 0, 0)).1)) + wr (((l.getD m (0, 0, 0, 0)).2.2.2 - (l.getD (m - 1) (0, 0, 0, 0)).2.2.2) * (time - (l.getD (m - 1) (0, 0, 0, 0)).1)))), (l.getD m (0, 0, 0, 0)).1 - (l.getD (m - 1) (0, 0, 0, 0)).1)
structure PtOk (r : Pt) : Prop where
 den : 1 ≤ r.2 ∧ r.2 ≤ 10000
 x : -(1000000 * r.2) ≤ r.1.1 ∧ r.1.1 ≤ 1000000 * r.2
 y : -(1000000 * r.2) ≤ r.1.2.1 ∧ r.1.2.1 ≤ 1000000 * r.2
 z : -(1000000 * r.2) ≤ r.1.2.2 ∧ r.1.2.2 ≤ 1000000 * r.2
theorem mid_bd {a b s d : Int} (a1 : -1000000 ≤ a) (a2 : a ≤ 1000000) (b1 : -1000000 ≤ b) (b2 : b ≤ 1000000) (s1 : 0 ≤ s) (s2 : s ≤ d) (hd : d ≤ 10000) : -(1000000 * d) ≤ wr (wr (a * d) + wr ((b - a) * s)) ∧ wr (wr (a * d) + wr ((b - a) * s)) ≤ 1000000 * d ∧ wr (wr (a * d) + wr ((b - a) * s)) = a * d + (b - a) * s := by
 have e : a * d + (b - a) * s = a * (d - s) + b * s := by grind
 have h1 := Int.mul_le_mul_of_nonneg_right a2 (show 0 ≤ d - s by omega)
 have h2 := Int.mul_le_mul_of_nonneg_right a1 (show 0 ≤ d - s by omega)
 have h3 := Int.mul_le_mul_of_nonneg_right b2 s1
 have h4 := Int.mul_le_mul_of_nonneg_right b1 s1
 have h5 := Int.mul_le_mul_of_nonneg_right a2 (show 0 ≤ d by omega)
 have h6 := Int.mul_le_mul_of_nonneg_right a1 (show 0 ≤ d by omega)
 rw [wr_id (n := a * d) (by omega) (by omega), wr_id (n := (b - a) * s) (by omega) (by omega), wr_id (by omega) (by omega)]
 omega
theorem at_ok {p : Tr} (V : Valid p) {time : Int} (ht : firstT p ≤ time ∧ time ≤ lastT p) : ∃ r : (Int × Int × Int) × Int, s31 (p, time) = some r ∧ s34 (p, time) = some r ∧ PtOk r ∧ ∃ m, FirstAt p.1 time m ∧ r = spotAt p.1 m time := by
 have hn := V.pos
 have hn2 := V.most
 obtain ⟨m, hm, hq, hlt⟩ := least_ex (q := fun k => time ≤ (p.1.getD k (0, 0, 0, 0)).1) (n := p.1.length - 1) ht.2
 have hml : m < p.1.length := by omega
 have hlt' : ∀ k, k < m → (p.1.getD k (0, 0, 0, 0)).1 < time := fun k hk => by have := hlt k hk; omega
 have hfirst : FirstAt p.1 time m := ⟨hml, hq, hlt'⟩
 have hsearch : loopVal step44_0b ((p, time, ()), 0, (p.1.length : Int)) = some (m : Int) := by
  refine search_law (step := step44_0b) (st := fun i j => ((p, time, ()), (i : Int), (j : Int))) (g := fun k => decide ((p.1.getD k (0, 0, 0, 0)).1 ≥ time)) (n := p.1.length) (fun i j hij hj => ?_) (fun i hi => ?_) (m := m) (by omega) (fun k hk => ?_) (fun k hk hk2 => ?_)
  ·simp only [step44_0b, lt_cast, hij, decide_true, cond_true, half_mid (show i + j < 4611686018427387904 by omega), inB_cast, show (i + j) / 2 < p.1.length by omega, Int.toNat_natCast, wr_succ (show (i + j) / 2 < 4611686018427387904 by omega)]
   cases decide ((p.1.getD ((i + j) / 2) (0, 0, 0, 0)).1 ≥ time) <;> simp
  ·simp only [step44_0b, lt_cast, Nat.lt_irrefl, decide_false, cond_false]
  ·have := hlt' k hk; exact decide_eq_false (by omega)
  ·have := mono_of V hk hk2; exact decide_eq_true (by omega)
 have hscan : ∀ q e, q < p.1.length → (∀ k, k < q → (p.1.getD k (0, 0, 0, 0)).1 < time ∧ (p.1.getD (k + 1) (0, 0, 0, 0)).1 ≤ time) → step34_0 (time, (q : Int), p, ((0, 0, 0), 0)) = some (.inr e) → loopVal step34_0 (time, 0, p, ((0, 0, 0), 0)) = some e := by
  intro q e hq0 hk he
  refine loop_for (step := step34_0) (st := fun k => (time, (k : Int), p, ((0, 0, 0), 0))) (n := q) (fun k hkq => ?_) he 0 (by omega)
  obtain ⟨c1, c2⟩ := hk k hkq
  have h90 : ∀ x, ∃ y, s61 (x, (0, 0, 0)) = some y := fun x => ⟨_, rfl⟩
  obtain ⟨y, hy⟩ := h90 (p.1.getD k (0, 0, 0, 0)).2
  have hne : ((p.1.getD k (0, 0, 0, 0)).1 == time) = false := beq_eq_false_iff_ne.2 (by omega)
  have hnl : decide (time < (p.1.getD (k + 1) (0, 0, 0, 0)).1) = false := decide_eq_false (by omega)
  simp only [step34_0, lt_cast, inB_cast, show k < p.1.length by omega, show k + 1 < p.1.length by omega, decide_true, cond_true, Int.toNat_natCast, hy, optE_some, hne, cond_false, wr_succ (show k < 4611686018427387904 by omega), hnl]
 by_cases hqe : (p.1.getD m (0, 0, 0, 0)).1 = time
 ·-- a knot at this time
  obtain ⟨k, hkk⟩ : ∃ k, p.1.getD m (0, 0, 0, 0) = k := ⟨_, rfl⟩
  have hk := V.knot m hml
  rw [hkk] at hqe hk
  obtain ⟨_, hx, hy, hz⟩ := kR_spec hk
  have h90 : s61 (k.2, (0, 0, 0)) = some (k.2.1, k.2.2.1, k.2.2.2) := by
   unfold s61; simp only [Int.sub_zero]
   rw [wr_id (by omega) (by omega), wr_id (by omega) (by omega), wr_id (by omega) (by omega)]
  refine ⟨((k.2.1, k.2.2.1, k.2.2.2), 1), ?_, ?_, ⟨⟨by show (1 : Int) ≤ 1; omega, by show (1 : Int) ≤ 10000; omega⟩, ⟨by show -(1000000 * 1) ≤ k.2.1; omega, by show k.2.1 ≤ 1000000 * 1; omega⟩, ⟨by show -(1000000 * 1) ≤ k.2.2.1; omega, by show k.2.2.1 ≤ 1000000 * 1; omega⟩, ⟨by show -(1000000 * 1) ≤ k.2.2.2; omega, by show k.2.2.2 ≤ 1000000 * 1; omega⟩⟩, m, hfirst, by unfold spotAt; rw [hkk, if_pos hqe]⟩
  ·unfold s31
   simp only [hsearch, optE_some, inB_cast, hml, decide_true, cond_true, Int.toNat_natCast, hkk, hqe, beq_self_eq_true, s59]
  ·have := hscan m (.inl ((k.2.1, k.2.2.1, k.2.2.2), 1)) hml (fun j hj => ⟨hlt' j hj, by
    by_cases e : j + 1 = m
    ·rw [e, hkk, hqe]; exact Int.le_refl _
    ·have := hlt' (j + 1) (by omega); omega⟩) (by
    simp only [step34_0, lt_cast, inB_cast, hml, decide_true, cond_true, Int.toNat_natCast, hkk, h90, optE_some, hqe, beq_self_eq_true])
   unfold s34
   simp only [this, optE_some, sumE_l]
 ·-- between two
  have hm0 : m ≠ 0 := fun e => by subst e; have := ht.1; unfold firstT at this; omega
  obtain ⟨b, hbb⟩ : ∃ b, p.1.getD m (0, 0, 0, 0) = b := ⟨_, rfl⟩
  obtain ⟨a, haa⟩ : ∃ a, p.1.getD (m - 1) (0, 0, 0, 0) = a := ⟨_, rfl⟩
  have hkb := V.knot m hml
  have hka := V.knot (m - 1) (by omega)
  have hp := V.piece (m - 1) (by omega)
  have hta := hlt' (m - 1) (by omega)
  have hm1 : m - 1 + 1 = m := by omega
  rw [hm1] at hp
  rw [hbb] at hkb hp hq hqe
  rw [haa] at hka hp hta
  obtain ⟨w1, w2, _, _, _, w6, _⟩ := way_eq hka hkb
  obtain ⟨t1, x1, y1, z1⟩ := kR_spec hka
  obtain ⟨t2, x2, y2, z2⟩ := kR_spec hkb
  have h90 : s61 (a.2, (0, 0, 0)) = some (a.2.1, a.2.2.1, a.2.2.2) := by
   unfold s61; simp only [Int.sub_zero]
   rw [wr_id (by omega) (by omega), wr_id (by omega) (by omega), wr_id (by omega) (by omega)]
  have hwm : wr ((m : Int) - 1) = ((m - 1 : Nat) : Int) := by rw [wr_id (by omega) (by omega)]; omega
  have hwt : wr (time - a.1) = time - a.1 := wr_id (by omega) (by omega)
  have hwp : wr (((m - 1 : Nat) : Int) + 1) = (m : Int) := by rw [wr_succ (by omega), hm1]
  have hne : (b.1 == time) = false := beq_eq_false_iff_ne.2 hqe
  have hne2 : (a.1 == time) = false := beq_eq_false_iff_ne.2 (by omega)
  have mx1 := mid_bd (s := time - a.1) (d := b.1 - a.1) x1.1 x1.2 x2.1 x2.2 (by omega) (by omega) (by omega)
  have my1 := mid_bd (s := time - a.1) (d := b.1 - a.1) y1.1 y1.2 y2.1 y2.2 (by omega) (by omega) (by omega)
  have mz1 := mid_bd (s := time - a.1) (d := b.1 - a.1) z1.1 z1.2 z2.1 z2.2 (by omega) (by omega) (by omega)
  refine ⟨((wr (wr (a.2.1 * (b.1 - a.1)) + wr ((b.2.1 - a.2.1) * (time - a.1))), wr (wr (a.2.2.1 * (b.1 - a.1)) + wr ((b.2.2.1 - a.2.2.1) * (time - a.1))), wr (wr (a.2.2.2 * (b.1 - a.1)) + wr ((b.2.2.2 - a.2.2.2) * (time - a.1)))), b.1 - a.1), ?_, ?_, ⟨⟨by show 1 ≤ b.1 - a.1; omega, by show b.1 - a.1 ≤ 10000; omega⟩, ⟨mx1.1, mx1.2.1⟩, ⟨my1.1, my1.2.1⟩, ⟨mz1.1, mz1.2.1⟩⟩, m, hfirst, by unfold spotAt; rw [hbb, haa, if_neg hqe]⟩
  ·unfold s31
   simp only [hsearch, optE_some, inB_cast, hml, decide_true, cond_true, Int.toNat_natCast, hbb, hne, cond_false, hwm, show m - 1 < p.1.length by omega, haa, s59, w1, w6, hwt]
  ·have := hscan (m - 1) (.inl ((wr (wr (a.2.1 * (b.1 - a.1)) + wr ((b.2.1 - a.2.1) * (time - a.1))), wr (wr (a.2.2.1 * (b.1 - a.1)) + wr ((b.2.2.1 - a.2.2.1) * (time - a.1))), wr (wr (a.2.2.2 * (b.1 - a.1)) + wr ((b.2.2.2 - a.2.2.2) * (time - a.1)))), b.1 - a.1)) (by omega) (fun j hj => ⟨hlt' j (by omega), by have := hlt' (j + 1) (by omega); omega⟩) (by
    simp only [step34_0, lt_cast, inB_cast, show m - 1 < p.1.length by omega, decide_true, cond_true, Int.toNat_natCast, haa, h90, optE_some, hne2, cond_false, hwp, hml, hbb, show time < b.1 by omega, w6, w2, hwt, s63, s62])
   unfold s34
   simp only [this, optE_some, sumE_l]
theorem s32_eq {n m : Int} (h : 0 < m) : s32 (n, m) = some (wr (n / m)) := floor_law h
theorem s33_eq {n m : Int} (h : 0 < m) : s33 (n, m) = some (wr (-(wr (wr (-n) / m)))) := by unfold s33; simp only [s32_eq h, optE_some]
theorem s64_eq {n m : Int} (h : 0 < m) : s64 (n, m) = some (wr (n / m)) := floor_law h
theorem s65_eq {n m : Int} (h : 0 < m) : s65 (n, m) = some (wr (-(wr (wr (-n) / m)))) := by unfold s65; simp only [s64_eq h, optE_some]
def lowOf (n m d : Int) : Int := wr (wr (n / m) - d)
def highOf (n m d : Int) : Int := wr (wr (-(wr (wr (-n) / m))) + d)
theorem box_ok {p : Tr} (V : Valid p) (h0 : (trkE p).2 = 0) {time : Int} (ht : tErr time p = 0) : ∃ r : (Int × Int) × (Int × Int) × Int × Int, s9 (p, time) = some (r, 0) ∧ s11 (p, time) = some r := by
 obtain ⟨r, h1, h2, ⟨⟨h3, _⟩, _⟩, _⟩ := at_ok V (time := time) (win_iff.1 (unl_zero (by omega) ht))
 have hr : 0 < r.2 := by omega
 have e59 : s29 [p] = some 0 := by rw [s29_eq _ (by simp)]; simp [firstE_one, h0]
 have e60 : s30 (time, [p]) = some 0 := by rw [s30_eq _ _ (by simp) (by simpa using V)]; simp [firstE_one, ht]
 refine ⟨((lowOf r.1.1 r.2 p.2, highOf r.1.1 r.2 p.2), (lowOf r.1.2.1 r.2 p.2, highOf r.1.2.1 r.2 p.2), lowOf r.1.2.2 r.2 p.2, highOf r.1.2.2 r.2 p.2), ?_, ?_⟩
 rotate_left
 ·unfold s11 s35
  simp only [h2, optE_some, s64_eq hr, s65_eq hr]
  rfl
 ·unfold s9
  simp only [e59, e60, h1, optE_some, s32_eq hr, s33_eq hr, show ((0 : Int) != 0) = false from rfl, cond_false]
  rfl
theorem copy_ok {p : Tr} (h : p.1.length ≤ 1000) : s10 p = some p := by
 obtain ⟨l, d⟩ := p
 cases l with
 | nil => rfl
 | cons y l =>
   have hr : room 32 (l.length + 1) = true := room_true (by simp at h; omega) (by simp at h; omega)
   simp only [s10, listE, hr, cond_true]
end Go.Proofs.YthabingkfmlbbaaGreat
