/- Samples that are mixed and filtered: the program and the reference compute the same. -/
import Derived.Test.YtcdpgjlaajdfmaaGreatDoorNoneA
set_option linter.unusedSimpArgs false
set_option linter.unusedVariables false
set_option maxRecDepth 100000
namespace Go.Proofs.YtcdpgjlaajdfmaaGreatDoor
open Go.Ev
abbrev GsL := List (Int × Int)
theorem small24_of {n : Int} (h1 : -16777216 < n) (h2 : n < 16777216) : small24 n = true := by
 unfold small24
 rw [decide_eq_true h1, decide_eq_true h2]; rfl
theorem okS_iff {g : Int × Int} (h : okS g = true) : (-2000 ≤ g.1 ∧ g.1 ≤ 2000) ∧ -2000 ≤ g.2 ∧ g.2 ≤ 2000 := by
 simp only [okS, Bool.and_eq_true, win_iff] at h; exact h
theorem okS_of {g : Int × Int} (h : (-2000 ≤ g.1 ∧ g.1 ≤ 2000) ∧ -2000 ≤ g.2 ∧ g.2 ≤ 2000) : okS g = true := by
 simp only [okS, Bool.and_eq_true, win_iff]; exact h
theorem getG_ok {l : GsL} {k : Nat} (h : ∀ x ∈ l, okS x = true) (hk : k < l.length) : okS (l.getD k (0, 0)) = true := h _ (getDm hk)
theorem getG_any {l : GsL} (k : Nat) (h : ∀ x ∈ l, okS x = true) : (-2000 ≤ (l.getD k (0, 0)).1 ∧ (l.getD k (0, 0)).1 ≤ 2000) ∧ -2000 ≤ (l.getD k (0, 0)).2 ∧ (l.getD k (0, 0)).2 ≤ 2000 := by
 by_cases hk : k < l.length
 ·exact okS_iff (getG_ok h hk)
 ·rw [List.getD_eq_getElem?_getD, List.getElem?_eq_none (by omega)]; simp
theorem eq_getD {α : Type} {a b : List α} (d : α) (h : a.length = b.length) (hg : ∀ k, k < a.length → a.getD k d = b.getD k d) : a = b := by
 refine List.ext_getElem h fun k h1 h2 => ?_
 have := hg k h1
 rwa [List.getD_eq_getElem?_getD, List.getElem?_eq_getElem h1, List.getD_eq_getElem?_getD, List.getElem?_eq_getElem h2] at this
theorem first_bad {α : Type} {f : α → Bool} {l : List α} (d : α) (h : l.all f = false) : ∃ j, j < l.length ∧ f (l.getD j d) = false ∧ ∀ i, i < j → f (l.getD i d) = true := by
 induction l with
 | nil => cases h
 | cons g l ih =>
   cases hg : f g with
   | false => exact ⟨0, by simp, by simpa using hg, fun j hj => by omega⟩
   | true =>
     rw [List.all_cons, hg, Bool.true_and] at h
     obtain ⟨i, h1, h2, h3⟩ := ih h
     refine ⟨i + 1, by simpa using h1, by simpa using h2, fun j hj => ?_⟩
     cases j with
     | zero => simpa using hg
     | succ j => simpa using h3 j (by omega)
def smp (x : GsL) : Int := bif decide (x.length ≤ 400) then (bif x.all okS then 0 else 2) else 8
theorem samples_r {x : GsL} (hl : x.length ≤ 1000) : s13 x = some (smp x) := by
 unfold s13 smp
 by_cases h : x.length ≤ 400
 ·have h' : ¬ ((x.length : Int) > 400) := by omega
  simp only [h, h', decide_true, decide_false, cond_true, cond_false]
  cases hall : x.all okS with
  | true =>
    have hg : ∀ g ∈ x, okS g = true := List.all_eq_true.1 hall
    have h1 := loop_for (step := step13_0) (st := fun k => (x, (k : Int))) (n := x.length) (e := Sum.inr ())
     (fun k hk => by
       simp only [step13_0, lt_cast, inB_cast, hk, decide_true, cond_true, Int.toNat_natCast, gauss_z, getG_ok hg hk, bne_self_eq_false, cond_false, optE_some, wr_succ (show k < 4611686018427387904 by omega)])
     (by simp only [step13_0, lt_cast, Nat.lt_irrefl, decide_false, cond_false]) 0 (by omega)
    rw [show ((0 : Nat) : Int) = 0 from rfl] at h1
    simp only [h1, optE_some, sumE, cond_true]
  | false =>
    obtain ⟨i, hi, hb, hj⟩ := first_bad (0, 0) hall
    have h1 := loop_for (step := step13_0) (st := fun k => (x, (k : Int))) (n := i) (e := Sum.inl (2 : Int))
     (fun k hk => by
       simp only [step13_0, lt_cast, inB_cast, show k < x.length by omega, decide_true, cond_true, Int.toNat_natCast, gauss_z, hj k hk, bne_self_eq_false, cond_false, optE_some, wr_succ (show k < 4611686018427387904 by omega)])
     (by simp only [step13_0, lt_cast, inB_cast, hi, decide_true, cond_true, Int.toNat_natCast, gauss_z, hb, cond_false, optE_some, show ((2 : Int) != 0) = true from rfl]) 0 (by omega)
    rw [show ((0 : Nat) : Int) = 0 from rfl] at h1
    simp only [h1, optE_some, sumE, cond_false]
 ·have h' : ((x.length : Int) > 400) := by omega
  simp only [h, h', decide_true, decide_false, cond_true, cond_false]
theorem smp_zero {x : GsL} (h : smp x = 0) : x.length ≤ 400 ∧ ∀ g ∈ x, okS g = true := by
 unfold smp at h
 by_cases hl : x.length ≤ 400
 ·rw [decide_eq_true hl, cond_true] at h
  cases ha : x.all okS with
  | true => exact ⟨hl, List.all_eq_true.1 ha⟩
  | false => rw [ha] at h; cases h
 ·rw [decide_eq_false hl] at h; cases h
theorem smp_ok0 {x : GsL} (hl : x.length ≤ 400) (h : ∀ g ∈ x, okS g = true) : smp x = 0 := by
 unfold smp
 rw [decide_eq_true hl, List.all_eq_true.2 h]; rfl
theorem prog_r (p : Int × Int × Int) : s14 p = some (progE p) := by
 unfold s14 progE
 simp only [Within_z, optE_some]
 cases win p.1 0 4095 <;> cases win p.2.1 (-4096) 4096 <;> cases win p.2.2 (-4096) 4096 <;> rfl
theorem progE_zero {p : Int × Int × Int} (h : progE p = 0) : win p.1 0 4095 = true ∧ win p.2.1 (-4096) 4096 = true ∧ win p.2.2 (-4096) 4096 = true := by
 have := unl_zero (by omega) h
 simpa only [Bool.and_eq_true] using this
theorem prog_p {p : Int × Int × Int} (h : progE p = 0) : s62 p = some 0 := by
 obtain ⟨h1, h2, h3⟩ := progE_zero h
 unfold s62 s90
 simp only [within_z, h1, h2, h3, optE_some, cond_true, unless_z]
 rfl
def okW (c : Int) : Bool := win c (-100) 100
def fltE (f : List Int × Int) : Int := bif decide (f.1.length = 0) then 10 else bif decide (8 < f.1.length) then 8 else bif f.1.all okW then unl (win f.2 1 100) 2 else 2
theorem filter_r (f : List Int × Int) : s15 f = some (fltE f) := by
 unfold s15 fltE
 by_cases h0 : f.1.length = 0
 ·have : ((f.1.length : Int) == 0) = true := beqT (by omega)
  rw [this, decide_eq_true h0]; rfl
 ·have : ((f.1.length : Int) == 0) = false := beqF (by omega)
  rw [this, decide_eq_false h0]
  by_cases h8 : 8 < f.1.length
  ·rw [decide_eq_true (show (f.1.length : Int) > 8 by omega), decide_eq_true h8]; rfl
  ·rw [decide_eq_false (show ¬ (f.1.length : Int) > 8 by omega), decide_eq_false h8]
   simp only [cond_false]
   cases hall : f.1.all okW with
   | true =>
     have hg : ∀ k, k < f.1.length → win (f.1.getD k 0) (-100) 100 = true := fun k hk => List.all_eq_true.1 hall _ (getDm hk)
     have h1 := loop_for (step := step15_0) (st := fun k => ((k : Int), f)) (n := f.1.length) (e := Sum.inr f)
      (fun k hk => by
        simp only [step15_0, lt_cast, inB_cast, hk, decide_true, cond_true, Int.toNat_natCast, Within_z, hg k hk, Bool.not_true, cond_false, optE_some, wr_succ (show k < 4611686018427387904 by omega)])
      (by simp only [step15_0, lt_cast, Nat.lt_irrefl, decide_false, cond_false]) 0 (by omega)
     rw [show ((0 : Nat) : Int) = 0 from rfl] at h1
     simp only [h1, optE_some, sumE, Within_z, cond_true]
     cases win f.2 1 100 <;> rfl
   | false =>
     obtain ⟨i, hi, hb, hj⟩ := first_bad (0 : Int) hall
     have h1 := loop_for (step := step15_0) (st := fun k => ((k : Int), f)) (n := i) (e := Sum.inl (2 : Int))
      (fun k hk => by
        have hw : win (f.1.getD k 0) (-100) 100 = true := hj k hk
        simp only [step15_0, lt_cast, inB_cast, show k < f.1.length by omega, decide_true, cond_true, Int.toNat_natCast, Within_z, hw, Bool.not_true, cond_false, optE_some, wr_succ (show k < 4611686018427387904 by omega)])
      (by
        have hw : win (f.1.getD i 0) (-100) 100 = false := hb
        simp only [step15_0, lt_cast, inB_cast, hi, decide_true, cond_true, Int.toNat_natCast, Within_z, hw, Bool.not_false, optE_some]) 0 (by omega)
     rw [show ((0 : Nat) : Int) = 0 from rfl] at h1
     simp only [h1, optE_some, sumE, cond_false]
theorem fltE_zero {f : List Int × Int} (h : fltE f = 0) : 0 < f.1.length ∧ f.1.length ≤ 8 ∧ (∀ c ∈ f.1, -100 ≤ c ∧ c ≤ 100) ∧ 1 ≤ f.2 ∧ f.2 ≤ 100 := by
 unfold fltE at h
 by_cases h0 : f.1.length = 0
 ·rw [decide_eq_true h0] at h; cases h
 rw [decide_eq_false h0, cond_false] at h
 by_cases h8 : 8 < f.1.length
 ·rw [decide_eq_true h8] at h; cases h
 rw [decide_eq_false h8, cond_false] at h
 cases ha : f.1.all okW with
 | false => rw [ha] at h; cases h
 | true =>
   rw [ha, cond_true] at h
   have := win_iff.1 (unl_zero (by omega) h)
   exact ⟨by omega, by omega, fun c hc => win_iff.1 (List.all_eq_true.1 ha c hc), this.1, this.2⟩
theorem part_z (g : Int × Int) : s96 g = some (!(okS g)) := by
 unfold s96
 simp only [sample_z, optE_some]
theorem samples_p {x : GsL} (hl : x.length ≤ 400) (hok : ∀ g ∈ x, okS g = true) : s71 x = some 0 := by
 unfold s71
 have h1 := loop_for (step := step112_0) (st := fun k => (x, (x.length : Int), (k : Int))) (n := x.length) (e := Sum.inr ())
  (fun k hk => by
    simp only [step112_0, lt_cast, inB_cast, hk, decide_true, cond_true, Int.toNat_natCast, part_z, getG_ok hok hk, Bool.not_true, cond_false, optE_some, wr_succ (show k < 4611686018427387904 by omega)])
  (by simp only [step112_0, lt_cast, Nat.lt_irrefl, decide_false, cond_false]) 0 (by omega)
 rw [show ((0 : Nat) : Int) = 0 from rfl] at h1
 simp only [h1, optE_some, sumE, unless_z, decide_eq_true (show (x.length : Int) ≤ 400 by omega)]
 rw [first_z _ (by simp)]
 rfl
theorem filter_p {f : List Int × Int} (h : fltE f = 0) : s66 f = some 0 := by
 obtain ⟨h1, h2, h3, h4, h5⟩ := fltE_zero h
 unfold s66
 have hw : ∀ k, k < f.1.length → win (f.1.getD k 0) (-100) 100 = true := fun k hk => win_iff.2 (h3 _ (getDm hk))
 have hl := loop_for (step := step111_0) (st := fun k => (f.1, (f.1.length : Int), (k : Int))) (n := f.1.length) (e := Sum.inr ())
  (fun k hk => by
    simp only [step111_0, s93, s94, within_z, hw k hk, lt_cast, inB_cast, hk, decide_true, cond_true, Int.toNat_natCast, Bool.not_true, cond_false, optE_some, wr_succ (show k < 4611686018427387904 by omega)])
  (by simp only [step111_0, lt_cast, Nat.lt_irrefl, decide_false, cond_false]) 0 (by omega)
 rw [show ((0 : Nat) : Int) = 0 from rfl] at hl
 have w : win f.2 1 100 = true := win_iff.2 ⟨h4, h5⟩
 simp only [hl, optE_some, sumE, unless_z, within_z, w, decide_eq_true (show (f.1.length : Int) > 0 by omega), decide_eq_true (show (f.1.length : Int) ≤ 8 by omega)]
 rw [first_z _ (by simp)]
 rfl
theorem signal_z {l : GsL} (hok : ∀ x ∈ l, okS x = true) (hl : l.length ≤ 400) : s72 l = some l := by
 unfold s72
 have h1 := loop_for (step := step72_0) (st := fun k => (l.take k, l, (l.length : Int), (k : Int))) (n := l.length) (e := l)
  (fun k hk => by
    obtain ⟨g1, g2⟩ := okS_iff (getG_ok hok hk)
    have hroom := room_true (b := 8) (n := (l.take k).length + 1) (by simp; omega) (by simp; omega)
    simp only [step72_0, lt_cast, inB_cast, hk, decide_true, cond_true, Int.toNat_natCast, small24_of (show -16777216 < (l.getD k (0, 0)).1 by omega) (by omega), small24_of (show -16777216 < (l.getD k (0, 0)).2 by omega) (by omega), hroom, wr_succ (show k < 4611686018427387904 by omega), take_succ_getD l (0, 0) hk]) (by simp only [step72_0, lt_cast, Nat.lt_irrefl, decide_false, cond_false, List.take_length]) 0 (by omega)
 have h1 : loopVal step72_0 ([], l, (l.length : Int), 0) = some l := h1
 simp only [h1, optE_some]
theorem out_z {l : GsL} (hl : l.length ≤ 400) : s85 l = some l := by
 unfold s85
 have h1 := loop_for (step := step85_0) (st := fun k => (l.take k, l, (l.length : Int), (k : Int))) (n := l.length) (e := l)
  (fun k hk => by
    have hroom := room_true (b := 16) (n := (l.take k).length + 1) (by simp; omega) (by simp; omega)
    simp only [step85_0, s68, lt_cast, inB_cast, hk, decide_true, cond_true, Int.toNat_natCast, optE_some, hroom, wr_succ (show k < 4611686018427387904 by omega), take_succ_getD l (0, 0) hk]) (by simp only [step85_0, lt_cast, Nat.lt_irrefl, decide_false, cond_false, List.take_length]) 0 (by omega)
 have h1 : loopVal step85_0 ([], l, (l.length : Int), 0) = some l := h1
 simp only [h1, optE_some]
theorem taps_z {f : List Int × Int} (h : fltE f = 0) : s69 f = some (f.1.map fun c => (c, 0)) := by
 obtain ⟨h1, h2, h3, h4, h5⟩ := fltE_zero h
 unfold s69
 have hl := loop_for (step := step69_0) (st := fun k => ((f.1.take k).map (fun c => (c, (0 : Int))), f.1, (f.1.length : Int), (k : Int))) (n := f.1.length) (e := f.1.map fun c => (c, 0))
  (fun k hk => by
    have hc := h3 _ (getDm (d := 0) hk)
    have hroom := room_true (b := 8) (n := ((f.1.take k).map (fun c => (c, (0 : Int)))).length + 1) (by simp; omega) (by simp; omega)
    simp only [step69_0, lt_cast, inB_cast, hk, decide_true, cond_true, Int.toNat_natCast, small24_of (show -16777216 < f.1.getD k 0 by omega) (by omega), hroom, wr_succ (show k < 4611686018427387904 by omega), take_map_succ (fun c => (c, (0 : Int))) f.1 0 hk]) (by simp only [step69_0, lt_cast, Nat.lt_irrefl, decide_false, cond_false, List.take_length]) 0 (by omega)
 have hl : loopVal step69_0 ([], f.1, (f.1.length : Int), 0) = _ := hl
 simp only [hl, optE_some]
def cmul (a b : Int × Int) : Int × Int := (a.1 * b.1 - a.2 * b.2, a.1 * b.2 + a.2 * b.1)
def rotI (k : Nat) : Int × Int := if k = 0 then (1, 0) else if k = 1 then (0, 1) else if k = 2 then (-1, 0) else (0, -1)
theorem rot_step : ∀ k, k < 3 → s56 (rotI k, (0, 1)) = some (rotI (k + 1))
 | 0, _ => by decide
 | 1, _ => by decide
 | 2, _ => by decide
theorem power_z (n : Int) : s57 n = some (rotI (n % 4).toNat) := by
 unfold s57
 have hm : 0 ≤ n % 4 ∧ n % 4 < 4 := by omega
 have hl := loop_for (step := step57_0) (st := fun k => (n, (k : Int), (0, 0), rotI k)) (n := (n % 4).toNat) (e := ((0, 0), rotI (n % 4).toNat))
  (fun k hk => by
    simp only [step57_0, mod_z (n := n) (m := 4) (by omega) (by omega), optE_some, decide_eq_true (show (k : Int) < n % 4 by omega), cond_true, rot_step k (by omega), wr_succ (show k < 4611686018427387904 by omega)]) (by
    simp only [step57_0, mod_z (n := n) (m := 4) (by omega) (by omega), optE_some, decide_eq_false (show ¬ ((n % 4).toNat : Int) < n % 4 by omega), cond_false]) 0 (by omega)
 have hl : loopVal step57_0 (n, 0, (0, 0), (1, 0)) = _ := hl
 simp only [hl, optE_some]
theorem turnOf_range (p : Int × Int × Int) (n : Int) : 0 ≤ turnOf p n ∧ turnOf p n < 4 := by unfold turnOf; omega
theorem turn_p (p : Int × Int × Int) (n : Int) : s65 (p, n) = some (turnOf p n) := by
 have h : s91 (p, n) = some (phaseOf p n) := by
  simp only [s91, s110, mod4096_law, optE_some, phaseOf]
 simp only [s65, h, optE_some]
 exact turn_law1 p n
theorem turn_r (p : Int × Int × Int) (n : Int) : s58 (p, n) = some (turnOf p n) := by
 have h : s88 (p, n) = some (phaseOf p n) := by
  simp only [s88, mod_z (m := 4096) (by omega) (by omega), optE_some, phaseOf]
 have h2 : s55 (wr (phaseOf p n + 512), 1024) = some (wr (wr (phaseOf p n + 512) / 1024)) := floor_law (n := wr (phaseOf p n + 512)) (m := 1024) (by omega)
 simp only [s58, h, h2, optE_some, mod_z (m := 4) (by omega) (by omega)]
 exact turn_law2 p n
theorem back_p {t : Int} (h : 0 ≤ t ∧ t < 4) : s52 t = some (rotI ((-1 * t) % 4).toNat) := by
 obtain ⟨k, rfl⟩ : ∃ k : Nat, t = (k : Int) := ⟨t.toNat, by omega⟩
 have hk : k < 4 := by omega
 match k, hk with
 | 0, _ => decide
 | 1, _ => decide
 | 2, _ => decide
 | 3, _ => decide
theorem rot_any (k : Nat) : rotI k = (1, 0) ∨ rotI k = (0, 1) ∨ rotI k = (-1, 0) ∨ rotI k = (0, -1) := by
 unfold rotI
 split
 ·exact .inl rfl
 split
 ·exact .inr (.inl rfl)
 split
 ·exact .inr (.inr (.inl rfl))
 ·exact .inr (.inr (.inr rfl))
theorem cmul_ok {z : Int × Int} (h : okS z = true) (k : Nat) : okS (cmul z (rotI k)) = true := by
 have := okS_iff h
 refine okS_of ?_
 rcases rot_any k with e | e | e | e <;> rw [e] <;> simp only [cmul] <;> omega
theorem gmul_z {z : Int × Int} (h : okS z = true) (k : Nat) : s56 (z, rotI k) = some (cmul z (rotI k)) := by
 have := okS_iff h
 unfold s56
 rcases rot_any k with e | e | e | e <;> rw [e] <;> simp only [cmul] <;> simp (disch := omega) only [wr_id]
def mixAt (p : Int × Int × Int) (x : GsL) (n : Nat) : Int × Int := cmul (x.getD n (0, 0)) (rotI ((-1 * turnOf p n) % 4).toNat)
def mixL (p : Int × Int × Int) (x : GsL) : GsL := (List.range x.length).map (mixAt p x)
theorem mixL_len (p : Int × Int × Int) (x : GsL) : (mixL p x).length = x.length := by simp [mixL]
theorem mixL_ok {p : Int × Int × Int} {x : GsL} (h : ∀ g ∈ x, okS g = true) : ∀ g ∈ mixL p x, okS g = true := by
 intro g hg
 obtain ⟨n, hn, rfl⟩ := List.mem_map.1 hg
 exact cmul_ok (getG_ok h (List.mem_range.1 hn)) _
theorem mix_r {p : Int × Int × Int} {x : GsL} (hok : ∀ g ∈ x, okS g = true) (hl : x.length ≤ 400) : s26 (p, x, -1) = some (mixL p x) := by
 unfold s26
 have h1 := loop_for (step := step26_0) (st := fun k => (x, -1, (List.range k).map (mixAt p x), (k : Int), p)) (n := x.length) (e := mixL p x)
  (fun k hk => by
    have hr := turnOf_range p (k : Int)
    have hw : wr (-1 * turnOf p (k : Int)) = -1 * turnOf p (k : Int) := wr_id (by omega) (by omega)
    have hroom := room_true (b := 16) (n := ((List.range k).map (mixAt p x)).length + 1) (by simp; omega) (by simp; omega)
    simp only [step26_0, lt_cast, inB_cast, hk, decide_true, cond_true, Int.toNat_natCast, turn_r, optE_some, hw, power_z, gmul_z (getG_ok hok hk), hroom, wr_succ (show k < 4611686018427387904 by omega)]
    rw [← range_map_succ (mixAt p x) k]
    rfl) (by simp only [step26_0, lt_cast, Nat.lt_irrefl, decide_false, cond_false, mixL]) 0 (by omega)
 have h1 : loopVal step26_0 (x, -1, [], 0, p) = _ := h1
 simp only [h1, optE_some]
theorem mix_p {p : Int × Int × Int} {x : GsL} (hp : progE p = 0) (hok : ∀ g ∈ x, okS g = true) (hl : x.length ≤ 400) : s20 (p, x) = some (mixL p x, 0) := by
 unfold s20
 simp only [prog_p hp, samples_p hl hok, signal_z hok hl, optE_some]
 rw [first_z _ (by simp)]
 simp only [optE_some, show firstE [0, 0] = 0 from rfl, bne_self_eq_false, cond_false]
 have h1 := loop_for (step := step51_0) (st := fun k => ((List.range k).map (mixAt p x) ++ x.drop k, (x.length : Int), (k : Int), p)) (n := x.length) (e := mixL p x)
  (fun k hk => by
    have hlen2 : ((List.range k).map (mixAt p x) ++ x.drop k).length = x.length := by
     rw [List.length_append, List.length_map, List.length_range, List.length_drop]; omega
    have hd := getD_drop x (0, 0) hk
    have hget : ((List.range k).map (mixAt p x) ++ x.drop k).getD k (0, 0) = x.getD k (0, 0) := by
     rw [List.getD_eq_getElem?_getD, List.getElem?_append_right (by simp), List.length_map, List.length_range, Nat.sub_self, hd]
     rfl
    have hset : ∀ y, ((List.range k).map (mixAt p x) ++ x.drop k).set k y = (List.range k).map (mixAt p x) ++ y :: x.drop (k + 1) := by
     intro y
     rw [hd, List.set_append_right _ _ (by simp), List.length_map, List.length_range, Nat.sub_self]
     rfl
    have hr := turnOf_range p (k : Int)
    have hc := okS_iff (cmul_ok (getG_ok hok hk) ((-1 * turnOf p (k : Int)) % 4).toNat)
    have s1 := small24_of (show -16777216 < (cmul (x.getD k (0, 0)) (rotI ((-1 * turnOf p (k : Int)) % 4).toNat)).1 by omega) (by omega)
    have s2 := small24_of (show -16777216 < (cmul (x.getD k (0, 0)) (rotI ((-1 * turnOf p (k : Int)) % 4).toNat)).2 by omega) (by omega)
    simp only [cmul] at s1 s2
    simp only [step51_0, lt_cast, inB_cast, hlen2, decide_eq_true hk, cond_true, turn_p, optE_some, back_p hr, Int.toNat_natCast, hget, s1, s2, Bool.and_self, hset, wr_succ (show k < 4611686018427387904 by omega)]
    rw [← range_map_succ (mixAt p x) k, List.append_assoc]
    rfl)
  (by
    simp only [step51_0, lt_cast, Nat.lt_irrefl, decide_false, cond_false, List.drop_length, List.append_nil, mixL]) 0 (by omega)
 have h1 : loopVal step51_0 (x, (x.length : Int), 0, p) = _ := h1
 simp only [h1, optE_some, out_z (l := mixL p x) (by rw [mixL_len]; exact hl)]
theorem mul_bound {a b : Int} (h1 : -100 ≤ a) (h2 : a ≤ 100) (h3 : -2000 ≤ b) (h4 : b ≤ 2000) : -200000 ≤ a * b ∧ a * b ≤ 200000 := by
 have e : (a * b).natAbs ≤ 100 * 2000 := by rw [Int.natAbs_mul]; exact Nat.mul_le_mul (by omega) (by omega)
 omega
def outTo (f : List Int) (x : GsL) (n : Nat) : Nat → Int × Int
 | 0 => (0, 0)
 | k + 1 => if k ≤ n then ((outTo f x n k).1 + f.getD k 0 * (x.getD (n - k) (0, 0)).1, (outTo f x n k).2 + f.getD k 0 * (x.getD (n - k) (0, 0)).2) else outTo f x n k
theorem term_bound {f : List Int} {x : GsL} (hf : ∀ c ∈ f, -100 ≤ c ∧ c ≤ 100) (hx : ∀ g ∈ x, okS g = true) (n : Nat) {k : Nat} (hk : k < f.length) :
 (-200000 ≤ f.getD k 0 * (x.getD n (0, 0)).1 ∧ f.getD k 0 * (x.getD n (0, 0)).1 ≤ 200000) ∧ -200000 ≤ f.getD k 0 * (x.getD n (0, 0)).2 ∧ f.getD k 0 * (x.getD n (0, 0)).2 ≤ 200000 := by
 have hc := hf _ (getDm (d := 0) hk)
 have hg := getG_any n hx
 exact ⟨mul_bound hc.1 hc.2 hg.1.1 hg.1.2, mul_bound hc.1 hc.2 hg.2.1 hg.2.2⟩
theorem out_bound {f : List Int} {x : GsL} (hf : ∀ c ∈ f, -100 ≤ c ∧ c ≤ 100) (hx : ∀ g ∈ x, okS g = true) (n : Nat) :
 ∀ k : Nat, k ≤ f.length → -(200000 * (k : Int)) ≤ (outTo f x n k).1 ∧ (outTo f x n k).1 ≤ 200000 * (k : Int) ∧ -(200000 * (k : Int)) ≤ (outTo f x n k).2 ∧ (outTo f x n k).2 ≤ 200000 * (k : Int)
 | 0, _ => by simp [outTo]
 | k + 1, h => by
   have ih := out_bound hf hx n k (by omega)
   have ht := term_bound hf hx (n - k) (show k < f.length by omega)
   simp only [outTo]
   split <;> omega
theorem out_stay (f : List Int) (x : GsL) (n : Nat) : ∀ k : Nat, n + 1 ≤ k → outTo f x n k = outTo f x n (n + 1)
 | 0, h => by omega
 | k + 1, h => by
   by_cases e : k = n
   ·rw [e]
   ·rw [outTo, if_neg (by omega)]; exact out_stay f x n k (by omega)
theorem neg_floor {n d : Int} (hd : 1 ≤ d) : (d - 1 - n) / d = -(n / d) := by
 have h3 := Int.mul_ediv_add_emod n d
 have h4 := Int.emod_nonneg n (show d ≠ 0 by omega)
 have h5 := Int.emod_lt_of_pos n (show 0 < d by omega)
 have e : d - 1 - n = (d - 1 - n % d) + d * (-(n / d)) := by rw [Int.mul_neg]; omega
 rw [e, Int.add_mul_ediv_left _ _ (by omega), Int.ediv_eq_zero_of_lt (by omega) (by omega)]
 omega
theorem div_abs {n d : Int} (hd : 1 ≤ d) : (0 ≤ n → 0 ≤ n / d ∧ n / d ≤ n) ∧ (n < 0 → n ≤ n / d ∧ n / d ≤ 0) := by
 have h3 := Int.mul_ediv_add_emod n d
 have h4 := Int.emod_nonneg n (show d ≠ 0 by omega)
 have h5 := Int.emod_lt_of_pos n (show 0 < d by omega)
 constructor
 ·intro hn
  have h1 := Int.ediv_nonneg hn (show 0 ≤ d by omega)
  have : 1 * (n / d) ≤ d * (n / d) := Int.mul_le_mul_of_nonneg_right hd h1
  omega
 ·intro hn
  have h1 : n / d < 0 := Int.ediv_neg_of_neg_of_pos hn (by omega)
  refine ⟨?_, by omega⟩
  exact (Int.le_ediv_iff_mul_le (a := n) (b := n) (c := d) (by omega)).2 (by
   have : n * d ≤ n * 1 := Int.mul_le_mul_of_nonpos_left (by omega) hd
   omega)
theorem floor_r {n d : Int} (hd : 1 ≤ d) (h1 : -2000000 ≤ n) (h2 : n ≤ 2000000) : s55 (n, d) = some (n / d) := by
 have h : s55 (n, d) = some (wr (n / d)) := floor_law (n := n) (m := d) (by omega)
 have hb := div_abs (n := n) hd
 rw [h, wr_id (by omega) (by omega)]
theorem floor_p {n d : Int} (hd : 1 ≤ d) (hd2 : d ≤ 100) (h1 : -2000000 ≤ n) (h2 : n ≤ 2000000) : s87 (n, d) = some (n / d) := by
 have hb := div_abs (n := n) hd
 simp only [s87]
 by_cases hn : n < 0
 ·have e := neg_floor (n := n) hd
  have hdiv : Int.tdiv (d - 1 - n) d = -(n / d) := by rw [Int.tdiv_eq_ediv_of_nonneg (by omega), e]
  rw [wr_id (n := d - 1) (by omega) (by omega), wr_id (n := d - 1 - n) (by omega) (by omega), hdiv, wr_id (n := -(n / d)) (by omega) (by omega), Int.neg_neg, wr_id (by omega) (by omega), decide_eq_true hn, beqF (show d ≠ 0 by omega)]
  rfl
 ·rw [Int.tdiv_eq_ediv_of_nonneg (a := n) (b := d) (by omega), wr_id (n := n / d) (by omega) (by omega), decide_eq_false hn, beqF (show d ≠ 0 by omega)]
  rfl
def filtAt (f : List Int × Int) (x : GsL) (n : Nat) : Int × Int := ((outTo f.1 x n f.1.length).1 / f.2, (outTo f.1 x n f.1.length).2 / f.2)
def filtL (f : List Int × Int) (x : GsL) : GsL := (List.range x.length).map (filtAt f x)
theorem at_p {f : List Int × Int} {x : GsL} (h : fltE f = 0) (hx : ∀ g ∈ x, okS g = true) (hl : x.length ≤ 400) {n : Nat} (hn : n < x.length) : s86 (x, f.1.map fun c => (c, 0), (n : Int)) = some (outTo f.1 x n f.1.length) := by
 obtain ⟨h1, h2, h3, h4, h5⟩ := fltE_zero h
 unfold s86
 have hlen : (f.1.map fun c => (c, (0 : Int))).length = f.1.length := List.length_map _
 have hlp := loop_for (step := step86_0) (st := fun k => (x, (n : Int), outTo f.1 x n k, f.1.map (fun c => (c, (0 : Int))), ((f.1.map fun c => (c, (0 : Int))).length : Int), (k : Int))) (n := f.1.length) (e := outTo f.1 x n f.1.length)
  (fun k hk => by
    have hg : (f.1.map fun c => (c, (0 : Int))).getD k (0, 0) = (f.1.getD k 0, 0) := by
     rw [List.getD_eq_getElem?_getD, List.getElem?_map, List.getD_eq_getElem?_getD, List.getElem?_eq_getElem hk]; rfl
    have hb := out_bound h3 hx n k (by omega)
    have ht := term_bound h3 hx (n - k) hk
    by_cases hkn : k ≤ n
    ·have hw : wr ((n : Int) - (k : Int)) = ((n - k : Nat) : Int) := by rw [wr_id (by omega) (by omega)]; omega
     have o : outTo f.1 x n (k + 1) = ((outTo f.1 x n k).1 + f.1.getD k 0 * (x.getD (n - k) (0, 0)).1, (outTo f.1 x n k).2 + f.1.getD k 0 * (x.getD (n - k) (0, 0)).2) := by rw [outTo, if_pos hkn]
     rw [o]
     simp only [step86_0, hlen, lt_cast, inB_cast, hk, decide_true, cond_true, Int.toNat_natCast, hg, decide_eq_true (show (n : Int) ≥ (k : Int) by omega), hw, decide_eq_true (show n - k < x.length by omega), Int.zero_mul, Int.sub_zero, Int.add_zero, wr_succ (show k < 4611686018427387904 by omega),
      small24_of (show -16777216 < f.1.getD k 0 * (x.getD (n - k) (0, 0)).1 by omega) (by omega), small24_of (show -16777216 < f.1.getD k 0 * (x.getD (n - k) (0, 0)).2 by omega) (by omega),
      small24_of (show -16777216 < (outTo f.1 x n k).1 + f.1.getD k 0 * (x.getD (n - k) (0, 0)).1 by omega) (by omega), small24_of (show -16777216 < (outTo f.1 x n k).2 + f.1.getD k 0 * (x.getD (n - k) (0, 0)).2 by omega) (by omega), Bool.and_self]
    ·have o : outTo f.1 x n (k + 1) = outTo f.1 x n k := by rw [outTo, if_neg hkn]
     rw [o]
     simp only [step86_0, hlen, lt_cast, inB_cast, hk, decide_true, cond_true, decide_eq_false (show ¬ (n : Int) ≥ (k : Int) by omega), cond_false, wr_succ (show k < 4611686018427387904 by omega)]) (by
    simp only [step86_0, hlen, lt_cast, Nat.lt_irrefl, decide_false, cond_false]) 0 (by omega)
 have hlp : loopVal step86_0 (x, (n : Int), (0, 0), f.1.map (fun c => (c, (0 : Int))), ((f.1.map fun c => (c, (0 : Int))).length : Int), 0) = _ := hlp
 simp only [hlp, optE_some]
theorem filt_p {f : List Int × Int} {x : GsL} (h : fltE f = 0) (hx : ∀ g ∈ x, okS g = true) (hl : x.length ≤ 400) : s22 (f, x) = some (filtL f x, 0) := by
 obtain ⟨h1, h2, h3, h4, h5⟩ := fltE_zero h
 have w : win (1 : Int) 1 400 = true := by decide
 unfold s22 s53
 simp only [filter_p h, samples_p hl hx, within_z, w, unless_z, unl, cond_true, optE_some]
 rw [first_z _ (by simp)]
 simp only [optE_some, show firstE [0, 0, 0] = 0 from rfl, bne_self_eq_false, cond_false, signal_z hx hl, taps_z h]
 have hlp := loop_for (step := step53_0) (st := fun k => ((1 : Int), x, f.1.map (fun c => (c, (0 : Int))), (List.range k).map (filtAt f x), (k : Int), f)) (n := x.length) (e := filtL f x)
  (fun k hk => by
    have hb := out_bound h3 hx k f.1.length (Nat.le_refl _)
    have hroom := room_true (b := 16) (n := ((List.range k).map (filtAt f x)).length + 1) (by simp; omega) (by simp; omega)
    simp only [step53_0, s68, lt_cast, hk, decide_true, cond_true, at_p h hx hl hk, optE_some, floor_p h4 h5 (show -2000000 ≤ (outTo f.1 x k f.1.length).1 by omega) (by omega), floor_p h4 h5 (show -2000000 ≤ (outTo f.1 x k f.1.length).2 by omega) (by omega), hroom, wr_succ (show k < 4611686018427387904 by omega)]
    rw [← range_map_succ (filtAt f x) k]
    rfl) (by
    simp only [step53_0, lt_cast, Nat.lt_irrefl, decide_false, cond_false, filtL]) 0 (by omega)
 have hlp : loopVal step53_0 (1, x, f.1.map (fun c => (c, (0 : Int))), [], 0, f) = _ := hlp
 simp only [hlp, optE_some]
theorem inner_r {f : List Int × Int} {x : GsL} (h : fltE f = 0) (hx : ∀ g ∈ x, okS g = true) (hl : x.length ≤ 400) {n : Nat} (hn : n < x.length) (out : GsL) : loopVal step25_2 (x, out, (n : Int), 0, 0, 0, f) = some (x, out, (n : Int), (outTo f.1 x n f.1.length).1, (outTo f.1 x n f.1.length).2, f) := by
 obtain ⟨h1, h2, h3, h4, h5⟩ := fltE_zero h
 have hend : outTo f.1 x n (min f.1.length (n + 1)) = outTo f.1 x n f.1.length := by
  by_cases hc : f.1.length ≤ n + 1
  ·rw [Nat.min_eq_left hc]
  ·rw [Nat.min_eq_right (by omega), out_stay f.1 x n f.1.length (by omega)]
 have hlp := loop_for (step := step25_2) (st := fun k => (x, out, (n : Int), (outTo f.1 x n k).1, (outTo f.1 x n k).2, (k : Int), f)) (n := min f.1.length (n + 1)) (e := (x, out, (n : Int), (outTo f.1 x n f.1.length).1, (outTo f.1 x n f.1.length).2, f))
  (fun k hk => by
    have hk1 : k < f.1.length := by omega
    have hk2 : k ≤ n := by omega
    have hb := out_bound h3 hx n k (by omega)
    have ht := term_bound h3 hx (n - k) hk1
    have hw : wr ((n : Int) - (k : Int)) = ((n - k : Nat) : Int) := by rw [wr_id (by omega) (by omega)]; omega
    have o : outTo f.1 x n (k + 1) = ((outTo f.1 x n k).1 + f.1.getD k 0 * (x.getD (n - k) (0, 0)).1, (outTo f.1 x n k).2 + f.1.getD k 0 * (x.getD (n - k) (0, 0)).2) := by rw [outTo, if_pos hk2]
    rw [o]
    simp only [step25_2, lt_cast, inB_cast, hk1, decide_true, cond_true, decide_eq_true (show (k : Int) ≤ (n : Int) by omega), hw, decide_eq_true (show n - k < x.length by omega), Int.toNat_natCast, wr_id (n := f.1.getD k 0 * (x.getD (n - k) (0, 0)).1) (by omega) (by omega), wr_id (n := f.1.getD k 0 * (x.getD (n - k) (0, 0)).2) (by omega) (by omega),
     wr_id (n := (outTo f.1 x n k).1 + f.1.getD k 0 * (x.getD (n - k) (0, 0)).1) (by omega) (by omega), wr_id (n := (outTo f.1 x n k).2 + f.1.getD k 0 * (x.getD (n - k) (0, 0)).2) (by omega) (by omega), wr_succ (show k < 4611686018427387904 by omega)]) (by
    rw [hend]
    by_cases hc : f.1.length ≤ n + 1
    ·rw [Nat.min_eq_left hc]
     simp only [step25_2, lt_cast, Nat.lt_irrefl, decide_false, cond_false]
    ·rw [Nat.min_eq_right (by omega)]
     simp only [step25_2, lt_cast, decide_eq_true (show n + 1 < f.1.length by omega), cond_true, decide_eq_false (show ¬ (((n + 1 : Nat) : Int) ≤ (n : Int)) by omega), cond_false]) 0 (by omega)
 exact hlp
theorem filt_r {f : List Int × Int} {x : GsL} (h : fltE f = 0) (hx : ∀ g ∈ x, okS g = true) (hl : x.length ≤ 400) : s25 (f, x) = some (filtL f x) := by
 obtain ⟨h1, h2, h3, h4, h5⟩ := fltE_zero h
 unfold s25
 have hlp := loop_for (step := step25_0) (st := fun k => (x, (List.range k).map (filtAt f x), (k : Int), f)) (n := x.length) (e := filtL f x)
  (fun k hk => by
    have hb := out_bound h3 hx k f.1.length (Nat.le_refl _)
    have hroom := room_true (b := 16) (n := ((List.range k).map (filtAt f x)).length + 1) (by simp; omega) (by simp; omega)
    simp only [step25_0, lt_cast, hk, decide_true, cond_true, inner_r h hx hl hk, optE_some, floor_r h4 (show -2000000 ≤ (outTo f.1 x k f.1.length).1 by omega) (by omega), floor_r h4 (show -2000000 ≤ (outTo f.1 x k f.1.length).2 by omega) (by omega), hroom, wr_succ (show k < 4611686018427387904 by omega)]
    rw [← range_map_succ (filtAt f x) k]
    rfl) (by
    simp only [step25_0, lt_cast, Nat.lt_irrefl, decide_false, cond_false, filtL]) 0 (by omega)
 have hlp : loopVal step25_0 (x, [], 0, f) = _ := hlp
 simp only [hlp, optE_some]
theorem same_z {x : GsL} (hl : x.length ≤ 1000) : s24 (x, x) = some true := by
 unfold s24
 have hlp := loop_for (step := step24_0) (st := fun k => (x, x, (k : Int))) (n := x.length) (e := Sum.inr ())
  (fun k hk => by
    simp only [step24_0, lt_cast, inB_cast, hk, decide_true, cond_true, beq_self_eq_true, Bool.and_self, Bool.not_true, cond_false, wr_succ (show k < 4611686018427387904 by omega)]) (by
    simp only [step24_0, lt_cast, Nat.lt_irrefl, decide_false, cond_false]) 0 (by omega)
 have hlp : loopVal step24_0 (x, x, 0) = _ := hlp
 simp only [bne_self_eq_false, cond_false, hlp, optE_some, sumE]
end Go.Proofs.YtcdpgjlaajdfmaaGreatDoor
