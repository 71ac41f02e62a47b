/- Chapter 1: drives, and motions that are checked. -/
import Derived.Test.YthabingkfmlbbaaGreatTrack
import Derived.Test.YthabingkfmlbbaaGreatGm4
set_option linter.unusedSimpArgs false
namespace Go.Proofs.YthabingkfmlbbaaGreat
open Go.Ev
abbrev Dr := Int × (Int × Int) × Int × Int
def dR (d : Dr) : Bool := win d.1 1 3600 && (win d.2.1.1 (-20000) 20000 && (win d.2.1.2 (-20000) 20000 && win d.2.2.2 0 40000))
def drvE (d : Dr) : Int := firstE [unl (dR d) 2, unl (decide (d.2.1.1 ≤ d.2.1.2)) 9, unl (win d.2.2.1 d.2.1.1 d.2.1.2) 2]
theorem s95_eq (a : Int) : s95 (a, 20000) = some (win a (-20000) 20000) := by
 unfold s95
 simp only [optE_some, s48_eq]
 rfl
theorem s71_eq (d : Dr) : s71 d = some (drvE d) := by
 unfold s71 drvE dR
 simp only [s48_eq, s95_eq, s47_eq, optE_some]
 cases win d.1 1 3600
 ·simp only [cond_false, Bool.false_and]; rw [s46_eq _ (by simp)]; rfl
 ·cases win d.2.1.1 (-20000) 20000
  ·simp only [cond_false, cond_true, Bool.true_and, Bool.false_and]; rw [s46_eq _ (by simp)]; rfl
  ·cases win d.2.1.2 (-20000) 20000
   ·simp only [cond_false, cond_true, Bool.true_and, Bool.false_and]; rw [s46_eq _ (by simp)]; rfl
   ·simp only [cond_true, Bool.true_and]; rw [s46_eq _ (by simp)]; rfl
theorem s7_eq (d : Dr) : s7 d = some (drvE d) := by
 unfold s7 drvE dR
 simp only [s27_eq, optE_some]
 cases win d.1 1 3600
 ·rfl
 ·cases win d.2.1.1 (-20000) 20000
  ·rfl
  ·cases win d.2.1.2 (-20000) 20000
   ·rfl
   ·cases win d.2.2.2 0 40000
    ·rfl
    ·simp only [Bool.and_true, Bool.not_true, cond_false, unl, cond_true, firstE, show ((0 : Int) != 0) = false from rfl]
     by_cases h : d.2.1.1 > d.2.1.2
     ·rw [decide_eq_true h, decide_eq_false (show ¬ d.2.1.1 ≤ d.2.1.2 by omega)]; rfl
     ·rw [decide_eq_false h, decide_eq_true (show d.2.1.1 ≤ d.2.1.2 by omega)]
      cases win d.2.2.1 d.2.1.1 d.2.1.2 <;> rfl
theorem drvE_ok {d : Dr} (h : drvE d = 0) : (1 ≤ d.1 ∧ d.1 ≤ 3600) ∧ (-20000 ≤ d.2.1.1 ∧ d.2.1.1 ≤ 20000) ∧ (-20000 ≤ d.2.1.2 ∧ d.2.1.2 ≤ 20000) ∧ (0 ≤ d.2.2.2 ∧ d.2.2.2 ≤ 40000) ∧ d.2.1.1 ≤ d.2.1.2 ∧ (d.2.1.1 ≤ d.2.2.1 ∧ d.2.2.1 ≤ d.2.1.2) := by
 have h := firstE_zero.1 h
 have h1 := unl_zero (by omega) (h _ (List.mem_cons_self))
 have h2 := unl_zero (by omega) (h _ (List.mem_cons_of_mem _ List.mem_cons_self))
 have h3 := unl_zero (by omega) (h _ (List.mem_cons_of_mem _ (List.mem_cons_of_mem _ List.mem_cons_self)))
 simp only [dR, Bool.and_eq_true, win_iff] at h1
 exact ⟨h1.1, h1.2.1, h1.2.2.1, h1.2.2.2, of_decide_eq_true h2, win_iff.1 h3⟩
def AllT (d : Dr) (l : List Int) : Prop := ∀ k, k < l.length → win (l.getD k 0) 0 (wr (d.1 - 1)) = true
theorem s40_eq {d : Dr} {l : List Int} (hl : l.length ≤ 1000) : (drvE d ≠ 0 → s40 (d, l) = some (drvE d)) ∧ (drvE d = 0 → 40 < l.length → s40 (d, l) = some 8) ∧ (drvE d = 0 → l.length ≤ 40 → AllT d l → s40 (d, l) = some 0) ∧ (drvE d = 0 → l.length ≤ 40 → ¬ AllT d l → s40 (d, l) = some 2) := by
 have hloop : loopVal step96_0 (l, ((d.1, d.2.1.1, d.2.1.2, d.2.2.1, d.2.2.2), ()), (l.length : Int), 0) = some (scan (fun k => bif win (l.getD k 0) 0 (wr (d.1 - 1)) then none else some (Sum.inl (k : Int) : Int ⊕ Unit)) (.inr ()) l.length 0) :=
  loop_scan (step := step96_0) (st := fun k => (l, ((d.1, d.2.1.1, d.2.1.2, d.2.2.1, d.2.2.2), ()), (l.length : Int), (k : Int))) (n := l.length)
   (fun k hk => by
     simp only [step96_0, lt_cast, inB_cast, hk, decide_true, cond_true, Int.toNat_natCast, s48_eq, optE_some, wr_succ (show k < 4611686018427387904 by omega)]
     cases win (l.getD k 0) 0 (wr (d.1 - 1)) <;> rfl)
   (by simp only [step96_0, lt_cast, Nat.lt_irrefl, decide_false, cond_false]) l.length 0 (by omega)
 have e46 : ∀ b, s46 [drvE d, unl b 8] = some (firstE [drvE d, unl b 8]) := fun b => s46_eq _ (by simp)
 unfold s40
 simp only [s71_eq, s47_eq, optE_some, e46]
 refine ⟨fun h => ?_, fun h h2 => ?_, fun h h2 h3 => ?_, fun h h2 h3 => ?_⟩
 ·have hb : (drvE d != 0) = true := by simpa using h
  simp only [firstE, hb, cond_true]
 ·rw [h, decide_eq_false (show ¬ (l.length : Int) ≤ 40 by omega)]; rfl
 ·rw [h, decide_eq_true (show (l.length : Int) ≤ 40 by omega)]
  rcases scan_cases (fun k => bif win (l.getD k 0) 0 (wr (d.1 - 1)) then none else some (Sum.inl (k : Int) : Int ⊕ Unit)) (.inr ()) l.length 0 with ⟨hs, _⟩ | ⟨j, x, _, hj, hx, _⟩
  ·rw [hs] at hloop
   simp only [firstE, unl, cond_true, show ((0 : Int) != 0) = false from rfl, cond_false, hloop, optE_some, sumE_r]
  ·have := h3 j (by omega)
   rw [this] at hx; cases hx
 ·rw [h, decide_eq_true (show (l.length : Int) ≤ 40 by omega)]
  rcases scan_cases (fun k => bif win (l.getD k 0) 0 (wr (d.1 - 1)) then none else some (Sum.inl (k : Int) : Int ⊕ Unit)) (.inr ()) l.length 0 with ⟨_, hn⟩ | ⟨j, x, _, hj, hx, hs⟩
  ·refine absurd (fun k hk => ?_) h3
   have := hn k (by omega) (by omega)
   cases hw : win (l.getD k 0) 0 (wr (d.1 - 1)) with
   | true => rfl
   | false => rw [hw] at this; cases this
  ·rw [hs] at hloop
   cases hw : win (l.getD j 0) 0 (wr (d.1 - 1)) with
   | true => rw [hw] at hx; cases hx
   | false =>
     rw [hw] at hx
     obtain rfl := Option.some.inj hx
     simp only [firstE, unl, cond_true, show ((0 : Int) != 0) = false from rfl, cond_false, hloop, optE_some, sumE_l, decide_eq_true (show (j : Int) ≥ 0 by omega), Bool.not_true]
theorem tmod_zero {n m : Int} (h : 0 < m) : (Int.tmod n m == 0) = (n % m == 0) := by
 have h1 := Int.emod_nonneg n (show m ≠ 0 by omega)
 have h2 := Int.emod_lt_of_pos n h
 rw [tmod_neg_iff h]
 split
 ·rename_i hc
  rw [beq_eq_false_iff_ne.2 (by omega), beq_eq_false_iff_ne.2 hc.2]
 ·rfl
def ptg (d : Dr) (ts ps : List Int) : Nat → Nat → Int → Int → (Int × Int) ⊕ Int
 | 0, _, _, tr => .inr tr
 | m + 1, i, now, tr => bif !(win (ps.getD i 0) d.2.1.1 d.2.1.2) then .inl (0, 23) else bif wr (ps.getD i 0 - ts.getD i 0) % d.1 != 0 then .inl (0, 13) else
    bif decide (mx (wr (ps.getD i 0 - now)) (wr (now - ps.getD i 0)) > d.2.2.2) then .inl (0, 24) else ptg d ts ps m (i + 1) (ps.getD i 0) (wr (tr + mx (wr (ps.getD i 0 - now)) (wr (now - ps.getD i 0))))
theorem loop20 {d : Dr} (hd : 0 < d.1) (hd2 : d.1 ≤ 3600) {ts ps : List Int} (hl : ps.length = ts.length) (hs : ps.length ≤ 1000) : ∀ m i now tr, i + m = ps.length → loopVal step19_0 (ts, tr, now, ps, (ps.length : Int), (i : Int), d) = some (ptg d ts ps m i now tr)
 | 0, i, now, tr, hi => by
   have : i = ps.length := by omega
   subst this
   exact loopVal_last (by simp only [step19_0, lt_cast, Nat.lt_irrefl, decide_false, cond_false, ptg])
 | m + 1, i, now, tr, hi => by
   have hz : (d.1 == 0) = false := beq_eq_false_iff_ne.2 (by omega)
   have e46 : ∀ a b : Int, s46 [a, b] = some (firstE [a, b]) := fun a b => s46_eq _ (by simp)
   have hstep : step19_0 (ts, tr, now, ps, (ps.length : Int), (i : Int), d) = bif !(win (ps.getD i 0) d.2.1.1 d.2.1.2) then some (.inr (.inl (0, 23))) else bif wr (ps.getD i 0 - ts.getD i 0) % d.1 != 0 then some (.inr (.inl (0, 13))) else
    bif decide (mx (wr (ps.getD i 0 - now)) (wr (now - ps.getD i 0)) > d.2.2.2) then some (.inr (.inl (0, 24))) else some (.inl (ts, wr (tr + mx (wr (ps.getD i 0 - now)) (wr (now - ps.getD i 0))), ps.getD i 0, ps, (ps.length : Int), ((i + 1 : Nat) : Int), d)) := by
    simp only [step19_0, lt_cast, inB_cast, show i < ps.length by omega, show i < ts.length by omega, decide_true, cond_true, Int.toNat_natCast, s48_eq, s47_eq, optE_some, hz, Bool.not_false, e46, tmod_zero hd, wr_succ (show i < 4611686018427387904 by omega)]
    cases win (ps.getD i 0) d.2.1.1 d.2.1.2
    ·rfl
    ·simp only [Bool.not_true, cond_false]
     by_cases hm : wr (ps.getD i 0 - ts.getD i 0) % d.1 = 0
     ·have hm1 : (wr (ps.getD i 0 - ts.getD i 0) % d.1 == 0) = true := by rw [hm]; rfl
      have hm2 : (wr (ps.getD i 0 - ts.getD i 0) % d.1 != 0) = false := by rw [hm]; rfl
      simp only [hm1, hm2, unl, cond_true, cond_false, firstE, show ((0 : Int) != 0) = false from rfl]
      by_cases hr : mx (wr (ps.getD i 0 - now)) (wr (now - ps.getD i 0)) ≤ d.2.2.2
      ·rw [decide_eq_true hr, decide_eq_false (show ¬ mx (wr (ps.getD i 0 - now)) (wr (now - ps.getD i 0)) > d.2.2.2 by omega)]; rfl
      ·rw [decide_eq_false hr, decide_eq_true (show mx (wr (ps.getD i 0 - now)) (wr (now - ps.getD i 0)) > d.2.2.2 by omega)]; rfl
     ·have hm1 : (wr (ps.getD i 0 - ts.getD i 0) % d.1 == 0) = false := beq_eq_false_iff_ne.2 hm
      have hm2 : (wr (ps.getD i 0 - ts.getD i 0) % d.1 != 0) = true := by simpa using hm
      simp only [hm1, hm2, unl, cond_true, cond_false, firstE, show ((13 : Int) != 0) = true from rfl]
   have ih := loop20 hd hd2 hl hs m (i + 1) (ps.getD i 0) (wr (tr + mx (wr (ps.getD i 0 - now)) (wr (now - ps.getD i 0)))) (by omega)
   unfold ptg
   revert hstep
   cases win (ps.getD i 0) d.2.1.1 d.2.1.2
   ·exact fun h => loopVal_last h
   ·cases wr (ps.getD i 0 - ts.getD i 0) % d.1 != 0
    ·cases decide (mx (wr (ps.getD i 0 - now)) (wr (now - ps.getD i 0)) > d.2.2.2)
     ·exact fun h => (loopVal_next h).trans ih
     ·exact fun h => loopVal_last h
    ·exact fun h => loopVal_last h
def ptgE (d : Dr) (ts ps : List Int) : Int × Int := bif (ps.length : Int) != (ts.length : Int) then (0, 10) else sumE (ptg d ts ps ps.length 0 d.2.2.1 0) (fun e => e) (fun t => (t, 0))
theorem s19_eq {d : Dr} {ts ps : List Int} (hs : ps.length ≤ 1000) {e : Int} (h48 : s40 (d, ts) = some e) : (e ≠ 0 → s19 (d, ts, ps) = some (0, e)) ∧ (e = 0 → drvE d = 0 → s19 (d, ts, ps) = some (ptgE d ts ps)) := by
 have e46 : ∀ a b : Int, s46 [a, b] = some (firstE [a, b]) := fun a b => s46_eq _ (by simp)
 unfold s19
 simp only [h48, s47_eq, optE_some, e46]
 refine ⟨fun h => ?_, fun h h2 => ?_⟩
 ·have hb : (e != 0) = true := by simpa using h
  simp only [firstE, hb, cond_true]
 ·subst h
  obtain ⟨t, _⟩ := drvE_ok h2
  unfold ptgE
  by_cases hl : ps.length = ts.length
  ·have h1 : ((ps.length : Int) == (ts.length : Int)) = true := by rw [hl]; simp
   have h3 : ((ps.length : Int) != (ts.length : Int)) = false := by rw [hl]; simp
   have := loop20 (d := d) (by omega) (by omega) hl hs ps.length 0 d.2.2.1 0 (by omega)
   have h' : loopVal step19_0 (ts, 0, d.2.2.1, ps, (ps.length : Int), 0, d) = _ := this
   simp only [h1, h3, unl, cond_true, cond_false, firstE, show ((0 : Int) != 0) = false from rfl, h', optE_some]
   cases ptg d ts ps ps.length 0 d.2.2.1 0 <;> rfl
  ·have h1 : ((ps.length : Int) == (ts.length : Int)) = false := beq_eq_false_iff_ne.2 (by omega)
   have h3 : ((ps.length : Int) != (ts.length : Int)) = true := by simp only [bne, h1, Bool.not_false]
   simp only [h1, h3, unl, cond_true, cond_false, firstE, show ((0 : Int) != 0) = false from rfl, show ((10 : Int) != 0) = true from rfl]
theorem s17_eq {l : List Int} (h : l.length ≤ 1000) : s17 l = some l := by
 have hr : room 8 (0 + l.length) = true := room_true (by omega) (by omega)
 simp only [s17, hr, cond_true]
end Go.Proofs.YthabingkfmlbbaaGreat
