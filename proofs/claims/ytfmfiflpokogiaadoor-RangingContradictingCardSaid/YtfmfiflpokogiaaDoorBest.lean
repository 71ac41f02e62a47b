import Derived.Test.YtfmfiflpokogiaaDoorGc9
import Derived.Test.YtfmfiflpokogiaaDoorProof
set_option linter.unusedSimpArgs false
namespace Go.Proofs.YtfmfiflpokogiaaDoor
open Go.Ev
abbrev Vc := Int × Int
def VOk (v : Vc) : Prop := (-1 ≤ v.1 ∧ v.1 ≤ 1) ∧ (-1000 ≤ v.2 ∧ v.2 ≤ 1000)
def RwOk (r : Rw) : Prop := VOk r.1 ∧ (-100000 ≤ r.2.1 ∧ r.2.1 ≤ 100000)
def crs (v w : Vc) : Int := v.1 * w.2 - w.1 * v.2
theorem crs_facts {v w : Vc} (hv : VOk v) (hw : VOk w) : (-1000 ≤ v.1 * w.2 ∧ v.1 * w.2 ≤ 1000) ∧ (-1000 ≤ w.1 * v.2 ∧ w.1 * v.2 ≤ 1000) ∧ (-2000 ≤ crs v w ∧ crs v w ≤ 2000) := by
 obtain ⟨h1, h2⟩ := hv
 obtain ⟨h3, h4⟩ := hw
 have e1 := mulB (a := v.1) (b := w.2) (A := 1) (B := 1000) (by omega) (by omega)
 have e2 := mulB (a := w.1) (b := v.2) (A := 1) (B := 1000) (by omega) (by omega)
 unfold crs
 omega
theorem crs_eq {v w : Vc} (hv : VOk v) (hw : VOk w) : s115 (v, w) = some (crs v w) := by
 obtain ⟨h1, h2, h3⟩ := crs_facts hv hw
 show some (wr (wr (v.1 * w.2) - wr (w.1 * v.2))) = some (crs v w)
 unfold crs at h3 ⊢
 rw [wr_id (n := v.1 * w.2) (by omega) (by omega), wr_id (n := w.1 * v.2) (by omega) (by omega), wr_id (by omega) (by omega)]
def alg (v w : Vc) : Int := if crs v w ≠ 0 ∨ v.1 * w.1 + v.2 * w.2 ≤ 0 then 0 else if w.1 ≠ 0 then Int.tdiv v.1 w.1 else Int.tdiv v.2 w.2
theorem tdiv_size (a b : Int) : (Int.tdiv a b).natAbs ≤ a.natAbs := by
 rw [Int.natAbs_tdiv]
 exact Nat.div_le_self _ _
theorem alg_facts {v : Vc} (hv : VOk v) (w : Vc) : -1000 ≤ alg v w ∧ alg v w ≤ 1000 := by
 obtain ⟨h1, h2⟩ := hv
 have e1 := tdiv_size v.1 w.1
 have e2 := tdiv_size v.2 w.2
 unfold alg
 split
 ·omega
 ·split <;> omega
theorem alg_eq {v w : Vc} (hv : VOk v) (hw : VOk w) : s116 (v, w) = some (alg v w) := by
 have hc := crs_eq hv hw
 obtain ⟨h1, h2⟩ := hv
 obtain ⟨h3, h4⟩ := hw
 have e1 := tdiv_size v.1 w.1
 have e2 := tdiv_size v.2 w.2
 have m1 := mulB (a := v.1) (b := w.1) (A := 1) (B := 1) (by omega) (by omega)
 have m2 := mulB (a := v.2) (b := w.2) (A := 1000) (B := 1000) (by omega) (by omega)
 unfold s116 alg
 dsimp only
 rw [hc, optE_some, wr_id (n := v.1 * w.1) (by omega) (by omega), wr_id (n := v.2 * w.2) (by omega) (by omega), wr_id (n := v.1 * w.1 + v.2 * w.2) (by omega) (by omega), wr_id (n := Int.tdiv v.1 w.1) (by omega) (by omega), wr_id (n := Int.tdiv v.2 w.2) (by omega) (by omega)]
 by_cases g1 : crs v w = 0
 ·rw [show (crs v w != 0) = false by simpa using g1, cond_false]
  by_cases g2 : v.1 * w.1 + v.2 * w.2 ≤ 0
  ·rw [decide_eq_true g2, if_pos (.inr g2)]; rfl
  ·rw [decide_eq_false g2, cond_false, if_neg (by intro h; rcases h with h | h; exact h g1; exact g2 h)]
   by_cases g3 : w.1 = 0
   ·rw [show (w.1 != 0) = false by simpa using g3, cond_false, if_neg (by simpa using g3)]
    have g4 : w.2 ≠ 0 := fun h => g2 (by rw [g3, h]; simp)
    rw [show (w.2 == 0) = false by simpa using g4]; rfl
   ·rw [show (w.1 != 0) = true by simpa using g3, cond_true, if_pos g3, show (w.1 == 0) = false by simpa using g3]; rfl
 ·rw [show (crs v w != 0) = true by simpa using g1, if_pos (.inl g1)]; rfl
abbrev Cd := List (Int × Bool × Int) × Int × Int
def addT (r : Rw) (w : Int) (c : Cd) : Cd := if w > 0 then (c.1 ++ [(r.2.2.1, r.2.2.2, w)], c.2.1, c.2.2 + w * r.2.1) else c
def nrm (d p q : Int) : Int × Int × Int := if d < 0 then (-d, -p, -q) else (d, p, q)
def pairC (f : Vc) (s r : Rw) : Option Cd :=
 if (nrm (crs s.1 r.1) (crs f r.1) (crs s.1 f)).1 = 0 ∨ (nrm (crs s.1 r.1) (crs f r.1) (crs s.1 f)).2.1 < 0 ∨ (nrm (crs s.1 r.1) (crs f r.1) (crs s.1 f)).2.2 < 0 then none
 else some (addT r (nrm (crs s.1 r.1) (crs f r.1) (crs s.1 f)).2.2 (addT s (nrm (crs s.1 r.1) (crs f r.1) (crs s.1 f)).2.1 ([], (nrm (crs s.1 r.1) (crs f r.1) (crs s.1 f)).1, 0)))
def oneC (f : Vc) (r : Rw) : Option Cd := if alg r.1 f > 0 then some ([(r.2.2.1, r.2.2.2, 1)], alg r.1 f, r.2.1) else none
def lessC (a b : Cd) : Bool := decide (a.2.2 * b.2.1 < b.2.2 * a.2.1)
def takeC (st : Option Cd) : Option Cd → Option Cd
 | none => st
 | some c => match st with
   | none => some c
   | some o => bif lessC c o then some c else some o
def encC : Option Cd → Cd × Bool
 | none => (([], 0, 0), false)
 | some c => (c, true)
def CdOk (c : Cd) : Prop := (-2000 ≤ c.2.1 ∧ c.2.1 ≤ 2000) ∧ (-400000000 ≤ c.2.2 ∧ c.2.2 ≤ 400000000)
def StOk (st : Option Cd) : Prop := ∀ c, st = some c → CdOk c
theorem nrm_facts {d p q : Int} (hd : -2000 ≤ d ∧ d ≤ 2000) (hp : -2000 ≤ p ∧ p ≤ 2000) (hq : -2000 ≤ q ∧ q ≤ 2000) : (0 ≤ (nrm d p q).1 ∧ (nrm d p q).1 ≤ 2000) ∧ (-2000 ≤ (nrm d p q).2.1 ∧ (nrm d p q).2.1 ≤ 2000) ∧ (-2000 ≤ (nrm d p q).2.2 ∧ (nrm d p q).2.2 ≤ 2000) := by
 unfold nrm
 split <;> simp only <;> omega
theorem pairC_ok {f : Vc} {s r : Rw} (hf : VOk f) (hs : RwOk s) (hr : RwOk r) : StOk (pairC f s r) := by
 intro c hc
 obtain ⟨_, _, c1⟩ := crs_facts hs.1 hr.1
 obtain ⟨_, _, c2⟩ := crs_facts hf hr.1
 obtain ⟨_, _, c3⟩ := crs_facts hs.1 hf
 obtain ⟨n1, n2, n3⟩ := nrm_facts c1 c2 c3
 unfold pairC at hc
 generalize nrm (crs s.1 r.1) (crs f r.1) (crs s.1 f) = t at *
 have m1 := mulB (a := t.2.1) (b := s.2.1) (A := 2000) (B := 100000) (by omega) (by have := hs.2; omega)
 have m2 := mulB (a := t.2.2) (b := r.2.1) (A := 2000) (B := 100000) (by omega) (by have := hr.2; omega)
 split at hc
 ·cases hc
 ·obtain rfl := Option.some.inj hc
  unfold CdOk addT
  split <;> split <;> simp only <;> omega
theorem oneC_ok {f : Vc} {r : Rw} (hr : RwOk r) : StOk (oneC f r) := by
 intro c hc
 have h1 := alg_facts hr.1 f
 have h2 := hr.2
 unfold oneC at hc
 split at hc
 ·obtain rfl := Option.some.inj hc
  unfold CdOk
  simp only
  omega
 ·cases hc
theorem takeC_ok {st c : Option Cd} (h1 : StOk st) (h2 : StOk c) : StOk (takeC st c) := by
 intro d hd
 cases c with
 | none => exact h1 d hd
 | some c =>
   cases st with
   | none => exact h2 d hd
   | some o =>
     simp only [takeC] at hd
     cases hl : lessC c o with
     | true => rw [hl] at hd; exact h2 d hd
     | false => rw [hl] at hd; exact h1 d hd
theorem less_eq {a b : Cd} (ha : CdOk a) (hb : CdOk b) : s129 (((a.1, a.2.1), a.2.2), ((b.1, b.2.1), b.2.2)) = some (lessC a b) := by
 obtain ⟨a1, a2⟩ := ha
 obtain ⟨b1, b2⟩ := hb
 have m1 := mulB (a := a.2.2) (b := b.2.1) (A := 400000000) (B := 2000) (by omega) (by omega)
 have m2 := mulB (a := b.2.2) (b := a.2.1) (A := 400000000) (B := 2000) (by omega) (by omega)
 show some (decide (wr (a.2.2 * b.2.1) < wr (b.2.2 * a.2.1))) = some (lessC a b)
 rw [wr_id (n := a.2.2 * b.2.1) (by omega) (by omega), wr_id (n := b.2.2 * a.2.1) (by omega) (by omega)]
 rfl
theorem take_enc {σ : Type} (f : Cd × Bool → σ) {st : Option Cd} {c : Cd} (hs : StOk st) (hc : CdOk c) :
 (bif !(encC st).2 then some (f (c, true)) else optE (s129 (((c.1, c.2.1), c.2.2), (((encC st).1.1, (encC st).1.2.1), (encC st).1.2.2))) (fun r => bif r then some (f (c, true)) else some (f (encC st))) none) = some (f (encC (takeC st (some c)))) := by
 cases st with
 | none => rfl
 | some o =>
   have := less_eq hc (hs o rfl)
   simp only [encC, Bool.not_true, cond_false, this, optE_some, takeC]
   cases lessC c o <;> rfl
end Go.Proofs.YtfmfiflpokogiaaDoor
