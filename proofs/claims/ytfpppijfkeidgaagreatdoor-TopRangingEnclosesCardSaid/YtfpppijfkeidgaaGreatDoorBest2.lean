/- The search for the least bound: its loops. -/
import Derived.Test.YtfpppijfkeidgaaGreatDoorGz5
import Derived.Test.YtfpppijfkeidgaaGreatDoorProof
set_option linter.unusedSimpArgs false
namespace Go.Proofs.YtfpppijfkeidgaaGreatDoor
open Go.Ev
abbrev Vc := Int × Int
def VOk (v : Vc) : Prop := (-1 ≤ v.1 ∧ v.1 ≤ 1) ∧ (-1000 ≤ v.2 ∧ v.2 ≤ 1000)
def RwOk (r : Rw) : Prop := VOk r.1 ∧ (-100000 ≤ r.2.1 ∧ r.2.1 ≤ 100000)
def crs (v w : Vc) : Int := v.1 * w.2 - w.1 * v.2
theorem crs_facts {v w : Vc} (hv : VOk v) (hw : VOk w) : (-1000 ≤ v.1 * w.2 ∧ v.1 * w.2 ≤ 1000) ∧ (-1000 ≤ w.1 * v.2 ∧ w.1 * v.2 ≤ 1000) ∧ (-2000 ≤ crs v w ∧ crs v w ≤ 2000) := by
 obtain ⟨h1, h2⟩ := hv
 obtain ⟨h3, h4⟩ := hw
 have e1 := mulB (a := v.1) (b := w.2) (A := 1) (B := 1000) (by omega) (by omega)
 have e2 := mulB (a := w.1) (b := v.2) (A := 1) (B := 1000) (by omega) (by omega)
 unfold crs
 omega
theorem crs_eq {v w : Vc} (hv : VOk v) (hw : VOk w) : s63 (v, w) = some (crs v w) := by
 obtain ⟨h1, h2, h3⟩ := crs_facts hv hw
 show some (wr (wr (v.1 * w.2) - wr (w.1 * v.2))) = some (crs v w)
 unfold crs at h3 ⊢
 rw [wr_id (n := v.1 * w.2) (by omega) (by omega), wr_id (n := w.1 * v.2) (by omega) (by omega), wr_id (by omega) (by omega)]
def alg (v w : Vc) : Int := if crs v w ≠ 0 ∨ v.1 * w.1 + v.2 * w.2 ≤ 0 then 0 else if w.1 ≠ 0 then Int.tdiv v.1 w.1 else Int.tdiv v.2 w.2
theorem tdiv_size (a b : Int) : (Int.tdiv a b).natAbs ≤ a.natAbs := by
 rw [Int.natAbs_tdiv]
 exact Nat.div_le_self _ _
theorem alg_facts {v : Vc} (hv : VOk v) (w : Vc) : -1000 ≤ alg v w ∧ alg v w ≤ 1000 := by
 obtain ⟨h1, h2⟩ := hv
 have e1 := tdiv_size v.1 w.1
 have e2 := tdiv_size v.2 w.2
 unfold alg
 split
 ·omega
 ·split <;> omega
theorem alg_eq {v w : Vc} (hv : VOk v) (hw : VOk w) : s64 (v, w) = some (alg v w) := by
 have hc := crs_eq hv hw
 obtain ⟨h1, h2⟩ := hv
 obtain ⟨h3, h4⟩ := hw
 have e1 := tdiv_size v.1 w.1
 have e2 := tdiv_size v.2 w.2
 have m1 := mulB (a := v.1) (b := w.1) (A := 1) (B := 1) (by omega) (by omega)
 have m2 := mulB (a := v.2) (b := w.2) (A := 1000) (B := 1000) (by omega) (by omega)
 unfold s64 alg
 dsimp only
 rw [hc, optE_some, wr_id (n := v.1 * w.1) (by omega) (by omega), wr_id (n := v.2 * w.2) (by omega) (by omega), wr_id (n := v.1 * w.1 + v.2 * w.2) (by omega) (by omega), wr_id (n := Int.tdiv v.1 w.1) (by omega) (by omega), wr_id (n := Int.tdiv v.2 w.2) (by omega) (by omega)]
 by_cases g1 : crs v w = 0
 ·rw [show (crs v w != 0) = false by simpa using g1, cond_false]
  by_cases g2 : v.1 * w.1 + v.2 * w.2 ≤ 0
  ·rw [decide_eq_true g2, if_pos (.inr g2)]; rfl
  ·rw [decide_eq_false g2, cond_false, if_neg (by intro h; rcases h with h | h; exact h g1; exact g2 h)]
   by_cases g3 : w.1 = 0
   ·rw [show (w.1 != 0) = false by simpa using g3, cond_false, if_neg (by simpa using g3)]
    have g4 : w.2 ≠ 0 := fun h => g2 (by rw [g3, h]; simp)
    rw [show (w.2 == 0) = false by simpa using g4]; rfl
   ·rw [show (w.1 != 0) = true by simpa using g3, cond_true, if_pos g3, show (w.1 == 0) = false by simpa using g3]; rfl
 ·rw [show (crs v w != 0) = true by simpa using g1, if_pos (.inl g1)]; rfl
abbrev Cd := List (Int × Bool × Int) × Int × Int
def addT (r : Rw) (w : Int) (c : Cd) : Cd := if w > 0 then (c.1 ++ [(r.2.2.1, r.2.2.2, w)], c.2.1, c.2.2 + w * r.2.1) else c
def nrm (d p q : Int) : Int × Int × Int := if d < 0 then (-d, -p, -q) else (d, p, q)
def pairC (f : Vc) (s r : Rw) : Option Cd :=
 if (nrm (crs s.1 r.1) (crs f r.1) (crs s.1 f)).1 = 0 ∨ (nrm (crs s.1 r.1) (crs f r.1) (crs s.1 f)).2.1 < 0 ∨ (nrm (crs s.1 r.1) (crs f r.1) (crs s.1 f)).2.2 < 0 then none
 else some (addT r (nrm (crs s.1 r.1) (crs f r.1) (crs s.1 f)).2.2 (addT s (nrm (crs s.1 r.1) (crs f r.1) (crs s.1 f)).2.1 ([], (nrm (crs s.1 r.1) (crs f r.1) (crs s.1 f)).1, 0)))
def oneC (f : Vc) (r : Rw) : Option Cd := if alg r.1 f > 0 then some ([(r.2.2.1, r.2.2.2, 1)], alg r.1 f, r.2.1) else none
def lessC (a b : Cd) : Bool := decide (a.2.2 * b.2.1 < b.2.2 * a.2.1)
def takeC (st : Option Cd) : Option Cd → Option Cd
 | none => st
 | some c => match st with
   | none => some c
   | some o => bif lessC c o then some c else some o
def encC : Option Cd → Cd × Bool
 | none => (([], 0, 0), false)
 | some c => (c, true)
def CdOk (c : Cd) : Prop := (-2000 ≤ c.2.1 ∧ c.2.1 ≤ 2000) ∧ (-400000000 ≤ c.2.2 ∧ c.2.2 ≤ 400000000)
def StOk (st : Option Cd) : Prop := ∀ c, st = some c → CdOk c
theorem nrm_facts {d p q : Int} (hd : -2000 ≤ d ∧ d ≤ 2000) (hp : -2000 ≤ p ∧ p ≤ 2000) (hq : -2000 ≤ q ∧ q ≤ 2000) : (0 ≤ (nrm d p q).1 ∧ (nrm d p q).1 ≤ 2000) ∧ (-2000 ≤ (nrm d p q).2.1 ∧ (nrm d p q).2.1 ≤ 2000) ∧ (-2000 ≤ (nrm d p q).2.2 ∧ (nrm d p q).2.2 ≤ 2000) := by
 unfold nrm
 split <;> simp only <;> omega
theorem pairC_ok {f : Vc} {s r : Rw} (hf : VOk f) (hs : RwOk s) (hr : RwOk r) : StOk (pairC f s r) := by
 intro c hc
 obtain ⟨_, _, c1⟩ := crs_facts hs.1 hr.1
 obtain ⟨_, _, c2⟩ := crs_facts hf hr.1
 obtain ⟨_, _, c3⟩ := crs_facts hs.1 hf
 obtain ⟨n1, n2, n3⟩ := nrm_facts c1 c2 c3
 unfold pairC at hc
 generalize nrm (crs s.1 r.1) (crs f r.1) (crs s.1 f) = t at *
 have m1 := mulB (a := t.2.1) (b := s.2.1) (A := 2000) (B := 100000) (by omega) (by have := hs.2; omega)
 have m2 := mulB (a := t.2.2) (b := r.2.1) (A := 2000) (B := 100000) (by omega) (by have := hr.2; omega)
 split at hc
 ·cases hc
 ·obtain rfl := Option.some.inj hc
  unfold CdOk addT
  split <;> split <;> simp only <;> omega
theorem oneC_ok {f : Vc} {r : Rw} (hr : RwOk r) : StOk (oneC f r) := by
 intro c hc
 have h1 := alg_facts hr.1 f
 have h2 := hr.2
 unfold oneC at hc
 split at hc
 ·obtain rfl := Option.some.inj hc
  unfold CdOk
  simp only
  omega
 ·cases hc
theorem takeC_ok {st c : Option Cd} (h1 : StOk st) (h2 : StOk c) : StOk (takeC st c) := by
 intro d hd
 cases c with
 | none => exact h1 d hd
 | some c =>
   cases st with
   | none => exact h2 d hd
   | some o =>
     simp only [takeC] at hd
     cases hl : lessC c o with
     | true => rw [hl] at hd; exact h2 d hd
     | false => rw [hl] at hd; exact h1 d hd
theorem less_eq {a b : Cd} (ha : CdOk a) (hb : CdOk b) : s71 (((a.1, a.2.1), a.2.2), ((b.1, b.2.1), b.2.2)) = some (lessC a b) := by
 obtain ⟨a1, a2⟩ := ha
 obtain ⟨b1, b2⟩ := hb
 have m1 := mulB (a := a.2.2) (b := b.2.1) (A := 400000000) (B := 2000) (by omega) (by omega)
 have m2 := mulB (a := b.2.2) (b := a.2.1) (A := 400000000) (B := 2000) (by omega) (by omega)
 show some (decide (wr (a.2.2 * b.2.1) < wr (b.2.2 * a.2.1))) = some (lessC a b)
 rw [wr_id (n := a.2.2 * b.2.1) (by omega) (by omega), wr_id (n := b.2.2 * a.2.1) (by omega) (by omega)]
 rfl
theorem take_enc {σ : Type} (f : Cd × Bool → σ) {st : Option Cd} {c : Cd} (hs : StOk st) (hc : CdOk c) :
 (bif !(encC st).2 then some (f (c, true)) else optE (s71 (((c.1, c.2.1), c.2.2), (((encC st).1.1, (encC st).1.2.1), (encC st).1.2.2))) (fun r => bif r then some (f (c, true)) else some (f (encC st))) none) = some (f (encC (takeC st (some c)))) := by
 cases st with
 | none => rfl
 | some o =>
   have := less_eq hc (hs o rfl)
   simp only [encC, Bool.not_true, cond_false, this, optE_some, takeC]
   cases lessC c o <;> rfl
end Go.Proofs.YtfpppijfkeidgaaGreatDoor
set_option linter.unusedSimpArgs false
namespace Go.Proofs.YtfpppijfkeidgaaGreatDoor
open Go.Ev
noncomputable def emitC {σ : Type} (F : Cd × Bool → σ) (out : Cd) (found : Bool) (s r : Rw) (D P Q : Int) : Option σ :=
 bif decide (P > 0) then
  bif decide (Q > 0) then
   bif !found then some (F (([(s.2.2.1, s.2.2.2, P), (r.2.2.1, r.2.2.2, Q)], D, wr (wr (0 + wr (P * s.2.1)) + wr (Q * r.2.1))), true))
   else optE (s71 ((([(s.2.2.1, s.2.2.2, P), (r.2.2.1, r.2.2.2, Q)], D), wr (wr (0 + wr (P * s.2.1)) + wr (Q * r.2.1))), ((out.1, out.2.1), out.2.2))) (fun z => bif z then some (F (([(s.2.2.1, s.2.2.2, P), (r.2.2.1, r.2.2.2, Q)], D, wr (wr (0 + wr (P * s.2.1)) + wr (Q * r.2.1))), true)) else some (F (out, found))) none
  else
   bif !found then some (F (([(s.2.2.1, s.2.2.2, P)], D, wr (0 + wr (P * s.2.1))), true))
   else optE (s71 ((([(s.2.2.1, s.2.2.2, P)], D), wr (0 + wr (P * s.2.1))), ((out.1, out.2.1), out.2.2))) (fun z => bif z then some (F (([(s.2.2.1, s.2.2.2, P)], D, wr (0 + wr (P * s.2.1))), true)) else some (F (out, found))) none
 else
  bif decide (Q > 0) then
   bif !found then some (F (([(r.2.2.1, r.2.2.2, Q)], D, wr (0 + wr (Q * r.2.1))), true))
   else optE (s71 ((([(r.2.2.1, r.2.2.2, Q)], D), wr (0 + wr (Q * r.2.1))), ((out.1, out.2.1), out.2.2))) (fun z => bif z then some (F (([(r.2.2.1, r.2.2.2, Q)], D, wr (0 + wr (Q * r.2.1))), true)) else some (F (out, found))) none
  else
   bif !found then some (F (([], D, 0), true))
   else optE (s71 ((([], D), 0), ((out.1, out.2.1), out.2.2))) (fun z => bif z then some (F (([], D, 0), true)) else some (F (out, found))) none
theorem emit_eq {σ : Type} (F : Cd × Bool → σ) {st : Option Cd} (hst : StOk st) {s r : Rw} (hs : RwOk s) (hr : RwOk r) {D P Q : Int} (hD : 0 ≤ D ∧ D ≤ 2000) (hP : 0 ≤ P ∧ P ≤ 2000) (hQ : 0 ≤ Q ∧ Q ≤ 2000) :
 emitC F (encC st).1 (encC st).2 s r D P Q = some (F (encC (takeC st (some (addT r Q (addT s P ([], D, 0))))))) := by
 have m1 := mulB (a := P) (b := s.2.1) (A := 2000) (B := 100000) (by omega) (by have := hs.2; omega)
 have m2 := mulB (a := Q) (b := r.2.1) (A := 2000) (B := 100000) (by omega) (by have := hr.2; omega)
 unfold emitC
 rw [wr_id (n := P * s.2.1) (by omega) (by omega), wr_id (n := Q * r.2.1) (by omega) (by omega), wr_id (n := 0 + P * s.2.1) (by omega) (by omega), wr_id (n := 0 + Q * r.2.1) (by omega) (by omega), wr_id (n := 0 + P * s.2.1 + Q * r.2.1) (by omega) (by omega)]
 by_cases h1 : P > 0
 ·rw [decide_eq_true h1, cond_true]
  by_cases h2 : Q > 0
  ·rw [decide_eq_true h2, cond_true]
   have hc : addT r Q (addT s P ([], D, 0)) = ([(s.2.2.1, s.2.2.2, P), (r.2.2.1, r.2.2.2, Q)], D, 0 + P * s.2.1 + Q * r.2.1) := by simp [addT, h1, h2]
   rw [hc]
   exact take_enc F hst (c := ([(s.2.2.1, s.2.2.2, P), (r.2.2.1, r.2.2.2, Q)], D, 0 + P * s.2.1 + Q * r.2.1)) (by unfold CdOk; simp only; omega)
  ·rw [decide_eq_false h2, cond_false]
   have hc : addT r Q (addT s P ([], D, 0)) = ([(s.2.2.1, s.2.2.2, P)], D, 0 + P * s.2.1) := by simp [addT, h1, h2]
   rw [hc]
   exact take_enc F hst (c := ([(s.2.2.1, s.2.2.2, P)], D, 0 + P * s.2.1)) (by unfold CdOk; simp only; omega)
 ·rw [decide_eq_false h1, cond_false]
  by_cases h2 : Q > 0
  ·rw [decide_eq_true h2, cond_true]
   have hc : addT r Q (addT s P ([], D, 0)) = ([(r.2.2.1, r.2.2.2, Q)], D, 0 + Q * r.2.1) := by simp [addT, h1, h2]
   rw [hc]
   exact take_enc F hst (c := ([(r.2.2.1, r.2.2.2, Q)], D, 0 + Q * r.2.1)) (by unfold CdOk; simp only; omega)
  ·rw [decide_eq_false h2, cond_false]
   have hc : addT r Q (addT s P ([], D, 0)) = ([], D, 0) := by simp [addT, h1, h2]
   rw [hc]
   exact take_enc F hst (c := ([], D, 0)) (by unfold CdOk; simp only; omega)
abbrev rw0 : Rw := ((0, 0), 0, 0, false)
theorem step_in {a : List Rw} {b c : Int} {L : List Rw} {l : List Rw} {f : Vc} {r : Rw} {jk : (List (Int × Bool × Int) × Int) × Int} {st : Option Cd} (hf : VOk f) (hr : RwOk r) (hL : ∀ s ∈ L, RwOk s) (hst : StOk st) (hlen : L.length ≤ 1000) {k : Nat} (hk : k < L.length) :
 step90_2 (a, b, c, L, (L.length : Int), (k : Int), l, f, r, jk, (encC st).1, (encC st).2) = some (Lp48_0, .inl (a, b, c, L, (L.length : Int), ((k + 1 : Nat) : Int), l, f, r, jk, (encC (takeC st (pairC f (L.getD k rw0) r))).1, (encC (takeC st (pairC f (L.getD k rw0) r))).2)) := by
 have hs := hL _ (getD_mem rw0 hk)
 obtain ⟨s, hn⟩ : ∃ s : Rw, L.getD k rw0 = s := ⟨_, rfl⟩
 rw [hn] at hs
 obtain ⟨_, _, c1⟩ := crs_facts hs.1 hr.1
 obtain ⟨_, _, c2⟩ := crs_facts hf hr.1
 obtain ⟨_, _, c3⟩ := crs_facts hs.1 hf
 have hn' : L.getD k ((0, 0), 0, 0, false) = s := hn
 rw [hn]
 simp only [step90_2, hn', lt_cast, inB_cast, hk, decide_true, cond_true, Int.toNat_natCast, crs_eq hs.1 hr.1, crs_eq hf hr.1, crs_eq hs.1 hf, optE_some, wr_succ (show k < 4611686018427387904 by omega)]
 have hpc : pairC f s r = (if (nrm (crs s.1 r.1) (crs f r.1) (crs s.1 f)).1 = 0 ∨ (nrm (crs s.1 r.1) (crs f r.1) (crs s.1 f)).2.1 < 0 ∨ (nrm (crs s.1 r.1) (crs f r.1) (crs s.1 f)).2.2 < 0 then none
  else some (addT r (nrm (crs s.1 r.1) (crs f r.1) (crs s.1 f)).2.2 (addT s (nrm (crs s.1 r.1) (crs f r.1) (crs s.1 f)).2.1 ([], (nrm (crs s.1 r.1) (crs f r.1) (crs s.1 f)).1, 0)))) := rfl
 rw [hpc]
 generalize crs s.1 r.1 = d at c1 ⊢
 generalize crs f r.1 = p at c2 ⊢
 generalize crs s.1 f = q at c3 ⊢
 have none' : takeC st none = st := rfl
 by_cases hd : d < 0
 ·have hnr : nrm d p q = (-d, -p, -q) := if_pos hd
  rw [hnr, decide_eq_true hd, cond_true, wr_id (n := -d) (by omega) (by omega), wr_id (n := -p) (by omega) (by omega), wr_id (n := -q) (by omega) (by omega), show (-d == 0) = false by simp; omega, cond_false]
  by_cases hp : -p < 0
  ·rw [decide_eq_true hp, if_pos (by simp only; omega)]; rfl
  ·rw [decide_eq_false hp, cond_false]
   by_cases hq : -q < 0
   ·rw [decide_eq_true hq, if_pos (by simp only; omega)]; rfl
   ·rw [decide_eq_false hq, cond_false, if_neg (by simp only; omega)]
    exact emit_eq (fun o => (Lp48_0, (Sum.inl (a, b, c, L, (L.length : Int), ((k + 1 : Nat) : Int), l, f, r, jk, o.1, o.2) : _ ⊕ _))) hst hs hr (D := -d) (P := -p) (Q := -q) (by omega) (by omega) (by omega)
 ·have hnr : nrm d p q = (d, p, q) := if_neg hd
  rw [hnr, decide_eq_false hd, cond_false]
  by_cases h0 : d = 0
  ·rw [show (d == 0) = true by simpa using h0, if_pos (.inl h0)]; rfl
  ·rw [show (d == 0) = false by simpa using h0, cond_false]
   by_cases hp : p < 0
   ·rw [decide_eq_true hp, if_pos (by simp only; omega)]; rfl
   ·rw [decide_eq_false hp, cond_false]
    by_cases hq : q < 0
    ·rw [decide_eq_true hq, if_pos (by simp only; omega)]; rfl
    ·rw [decide_eq_false hq, cond_false, if_neg (by simp only; omega)]
     exact emit_eq (fun o => (Lp48_0, (Sum.inl (a, b, c, L, (L.length : Int), ((k + 1 : Nat) : Int), l, f, r, jk, o.1, o.2) : _ ⊕ _))) hst hs hr (D := d) (P := p) (Q := q) (by omega) (by omega) (by omega)
def pairsF (f : Vc) (r : Rw) (L : List Rw) (st : Option Cd) : Option Cd := L.foldl (fun st s => takeC st (pairC f s r)) st
theorem pairsF_ok {f : Vc} {r : Rw} (hf : VOk f) (hr : RwOk r) : ∀ {L : List Rw} {st : Option Cd}, (∀ s ∈ L, RwOk s) → StOk st → StOk (pairsF f r L st)
 | [], _, _, h => h
 | s :: L, _, hL, h => pairsF_ok hf hr (L := L) (fun x hx => hL x (List.mem_cons_of_mem _ hx)) (takeC_ok h (pairC_ok hf (hL s List.mem_cons_self) hr))
theorem loop_in {a : List Rw} {b c : Int} {L : List Rw} {l : List Rw} {f : Vc} {r : Rw} {jk : (List (Int × Bool × Int) × Int) × Int} (hf : VOk f) (hr : RwOk r) (hL : ∀ s ∈ L, RwOk s) (hlen : L.length ≤ 1000) : ∀ (m k : Nat) (st : Option Cd), k + m = L.length → StOk st →
 loopVal (strip Lp48_0 step90_2) (a, b, c, L, (L.length : Int), (k : Int), l, f, r, jk, (encC st).1, (encC st).2) = some (a, b, c, l, f, jk, (encC (pairsF f r (L.drop k) st)).1, (encC (pairsF f r (L.drop k) st)).2) := by
 intro m
 induction m with
 | zero =>
   intro k st hk _
   obtain rfl : k = L.length := by omega
   rw [List.drop_length]
   refine loopVal_last (strip_some (i := Lp48_0) (r := .inr _) ?_)
   simp only [step90_2, lt_cast, Nat.lt_irrefl, decide_false, cond_false, pairsF, List.foldl_nil]
 | succ m ih =>
   intro k st hk hst
   rw [loopVal_next (strip_some (step_in (a := a) (b := b) (c := c) (l := l) (jk := jk) hf hr hL hst hlen (show k < L.length by omega)))]
   have hs := hL _ (getD_mem rw0 (show k < L.length by omega))
   rw [ih (k + 1) _ (by omega) (takeC_ok hst (pairC_ok hf hs hr)), getD_drop L rw0 (show k < L.length by omega)]
   rfl
def bestF (f : Vc) (R : List Rw) : Nat → Nat → Option Cd → Option Cd
 | 0, _, st => st
 | n + 1, i, st => bestF f R n (i + 1) (pairsF f (R.getD i rw0) (R.take i) (takeC st (oneC f (R.getD i rw0))))
theorem loop_out {R : List Rw} {f : Vc} {jk : (List (Int × Bool × Int) × Int) × Int} (hf : VOk f) (hR : ∀ s ∈ R, RwOk s) (hlen : R.length ≤ 1000) : ∀ (m k : Nat) (st : Option Cd), k + m = R.length → StOk st →
 loopVal (strip Lp48_0 step90_0) (R, (R.length : Int), (k : Int), R, f, jk, (encC st).1, (encC st).2) = some (jk, (encC (bestF f R m k st)).1, (encC (bestF f R m k st)).2) ∧ StOk (bestF f R m k st) := by
 intro m
 induction m with
 | zero =>
   intro k st hk hst
   obtain rfl : k = R.length := by omega
   refine ⟨loopVal_last (strip_some (i := Lp48_0) (r := .inr _) ?_), hst⟩
   simp only [step90_0, lt_cast, Nat.lt_irrefl, decide_false, cond_false, bestF]
 | succ m ih =>
   intro k st hk hst
   have hk' : k < R.length := by omega
   have hr := hR _ (getD_mem rw0 hk')
   have hsub : ∀ s ∈ R.take k, RwOk s := fun s hs => hR s (List.mem_of_mem_take hs)
   have hlt : (R.take k).length ≤ 1000 := by rw [List.length_take]; omega
   obtain ⟨r, hn⟩ : ∃ r : Rw, R.getD k rw0 = r := ⟨_, rfl⟩
   have hn' : R.getD k ((0, 0), 0, 0, false) = r := hn
   rw [bestF, hn]
   rw [hn] at hr
   have hst1 : StOk (takeC st (oneC f r)) := takeC_ok hst (oneC_ok hr)
   have hst2 : StOk (pairsF f r (R.take k) (takeC st (oneC f r))) := pairsF_ok hf hr hsub hst1
   have hs : step90_0 (R, (R.length : Int), (k : Int), R, f, jk, (encC st).1, (encC st).2) = some (Lp48_0, .inl (R, (R.length : Int), ((k + 1 : Nat) : Int), R, f, jk, (encC (pairsF f r (R.take k) (takeC st (oneC f r)))).1, (encC (pairsF f r (R.take k) (takeC st (oneC f r)))).2)) := by
    have hin : ∀ st' : Option Cd, StOk st' → loopVal (strip Lp48_0 step90_2) (R, (R.length : Int), (k : Int), R.take k, ((R.take k).length : Int), 0, R, f, r, jk, (encC st').1, (encC st').2) = some (R, (R.length : Int), (k : Int), R, f, jk, (encC (pairsF f r (R.take k) st')).1, (encC (pairsF f r (R.take k) st')).2) := fun st' h => by
     have := loop_in (a := R) (b := (R.length : Int)) (c := (k : Int)) (l := R) (jk := jk) hf hr hsub hlt (R.take k).length 0 st' (by omega) h
     rwa [show ((0 : Nat) : Int) = 0 from rfl, List.drop_zero] at this
    simp only [step90_0, hn', lt_cast, inB_cast, hk', decide_true, cond_true, Int.toNat_natCast, alg_eq hr.1 hf, optE_some, wr_succ (show k < 4611686018427387904 by omega), decide_eq_true (show (0 : Int) ≤ (k : Int) by omega), decide_eq_true (show (k : Int) ≤ (R.length : Int) by omega), Bool.and_self, onlyAt_eq]
    have hone : oneC f r = (if alg r.1 f > 0 then some ([(r.2.2.1, r.2.2.2, 1)], alg r.1 f, r.2.1) else none) := rfl
    have h2 := hr.2
    have ha := alg_facts hr.1 f
    rw [wr_id (n := 1 * r.2.1) (by omega) (by omega), Int.one_mul, Int.zero_add, wr_id (n := r.2.1) (by omega) (by omega)]
    by_cases hg : alg r.1 f > 0
    ·rw [hone, if_pos hg, decide_eq_true hg, cond_true]
     have hc : CdOk ([(r.2.2.1, r.2.2.2, 1)], alg r.1 f, r.2.1) := by unfold CdOk; simp only; omega
     cases st with
     | none =>
       have := hin (some ([(r.2.2.1, r.2.2.2, 1)], alg r.1 f, r.2.1)) (fun c h => by obtain rfl := Option.some.inj h; exact hc)
       simp only [encC, Bool.not_false, cond_true, takeC] at this ⊢
       simp only [this, optE_some, wr_succ (show k < 4611686018427387904 by omega)]
     | some o =>
       have hl := less_eq hc (hst o rfl)
       simp only [encC, Bool.not_true, cond_false] at hl ⊢
       simp only [hl, optE_some, takeC]
       cases lessC ([(r.2.2.1, r.2.2.2, 1)], alg r.1 f, r.2.1) o with
       | true =>
         have := hin (some ([(r.2.2.1, r.2.2.2, 1)], alg r.1 f, r.2.1)) (fun c h => by obtain rfl := Option.some.inj h; exact hc)
         simp only [encC, cond_true] at this ⊢
         simp only [this, optE_some, wr_succ (show k < 4611686018427387904 by omega)]
       | false =>
         have := hin (some o) hst
         simp only [encC, cond_false] at this ⊢
         simp only [this, optE_some, wr_succ (show k < 4611686018427387904 by omega)]
    ·rw [hone, if_neg hg, decide_eq_false hg, cond_false]
     have := hin st hst
     simp only [this, optE_some, takeC, wr_succ (show k < 4611686018427387904 by omega)]
   rw [loopVal_next (strip_some hs)]
   exact ih (k + 1) _ (by omega) hst2
theorem best_eq {R : List Rw} {f : Vc} (hf : VOk f) (hR : ∀ s ∈ R, RwOk s) (hlen : R.length ≤ 1000) : ∃ st, st = bestF f R R.length 0 none ∧ StOk st ∧ s48 (R, f) = some ((((encC st).1.1, (encC st).1.2.1), (encC st).1.2.2), (encC st).2) := by
 obtain ⟨h, h2⟩ := loop_out (jk := (([], 0), 0)) hf hR hlen R.length 0 none (by omega) (fun c h => by cases h)
 refine ⟨_, rfl, h2, ?_⟩
 rw [show ((0 : Nat) : Int) = 0 from rfl] at h
 unfold s48
 simp only [encC] at h
 simp only [onlyAt_eq, h, optE_some]
 rfl
end Go.Proofs.YtfpppijfkeidgaaGreatDoor
