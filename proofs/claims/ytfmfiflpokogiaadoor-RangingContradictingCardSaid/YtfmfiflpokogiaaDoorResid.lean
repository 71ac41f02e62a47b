import Derived.Test.YtfmfiflpokogiaaDoorFracs
import Derived.Test.YtfmfiflpokogiaaDoorDelays
set_option linter.unusedSimpArgs false
namespace Go.Proofs.YtfmfiflpokogiaaDoor
open Go.Ev
theorem mulB {a b A B : Int} (ha : -A ≤ a ∧ a ≤ A) (hb : -B ≤ b ∧ b ≤ B) : -(A * B) ≤ a * b ∧ a * b ≤ A * B := by
 have h : (a * b).natAbs ≤ (A * B).natAbs := by
  rw [Int.natAbs_mul, Int.natAbs_mul]
  exact Nat.mul_le_mul (by omega) (by omega)
 have h2 : 0 ≤ A * B := Int.mul_nonneg (by omega) (by omega)
 omega
def ms (x : Fr × Fr) (m : Msr) : Int := if m.1 = 1 then (m.2.2.1 - m.2.1) * x.2.1 * x.1.2 else x.1.1 * x.2.2 + m.2.2.1 * x.2.1 * x.1.2
def dn (x : Fr × Fr) : Int := x.1.2 * x.2.2
def rN (x : Fr × Fr) (m : Msr) : Int := mx (mx 0 (m.2.2.2.1 * dn x - ms x m)) (ms x m - m.2.2.2.2 * dn x)
def resF (x : Fr × Fr) (m : Msr) : Fr := lowF (rN x m) (dn x)
theorem mx_max (a b : Int) : mx a b = max a b := by unfold mx; split <;> omega
theorem rN_nonneg (x : Fr × Fr) (m : Msr) : 0 ≤ rN x m := by unfold rN; simp only [mx_max]; omega
theorem ms_facts {x : Fr × Fr} {m : Msr} (hx : lnE x = 0) (hm : mErr m = 0) : (1 ≤ dn x ∧ dn x ≤ 1000000) ∧ (-100100000000 ≤ ms x m ∧ ms x m ≤ 100100000000) ∧
 (-100000000000 ≤ m.2.2.2.1 * dn x ∧ m.2.2.2.1 * dn x ≤ 100000000000) ∧ (-100000000000 ≤ m.2.2.2.2 * dn x ∧ m.2.2.2.2 * dn x ≤ 100000000000) := by
 obtain ⟨h1, h2⟩ := lnE_ok hx
 obtain ⟨_, h3, h4⟩ := ptE_ok h1
 obtain ⟨_, h5, h6⟩ := ptE_ok h2
 obtain ⟨k1, k2, _, k4, _⟩ := mErr_ok.1 hm
 have d1 := mulB (a := x.1.2) (b := x.2.2) (A := 1000) (B := 1000) (by omega) (by omega)
 have d2 := Int.mul_le_mul h4.1 h6.1 (by omega) (by omega)
 have hd : 1 ≤ dn x ∧ dn x ≤ 1000000 := by unfold dn; omega
 refine ⟨hd, ?_, mulB (A := 100000) (B := 1000000) (by omega) (by omega), mulB (A := 100000) (B := 1000000) (by omega) (by omega)⟩
 unfold ms
 split
 ·rename_i hk
  have := k4 hk
  have e1 := mulB (a := m.2.2.1 - m.2.1) (b := x.2.1) (A := 1000) (B := 100000) (by omega) (by omega)
  have e2 := mulB (a := (m.2.2.1 - m.2.1) * x.2.1) (b := x.1.2) (A := 100000000) (B := 1000) (by omega) (by omega)
  omega
 ·have e0 := mulB (a := x.1.1) (b := x.2.2) (A := 100000) (B := 1000) (by omega) (by omega)
  have e1 := mulB (a := m.2.2.1) (b := x.2.1) (A := 1000) (B := 100000) (by omega) (by omega)
  have e2 := mulB (a := m.2.2.1 * x.2.1) (b := x.1.2) (A := 100000000) (B := 1000) (by omega) (by omega)
  omega
theorem rN_facts {x : Fr × Fr} {m : Msr} (hx : lnE x = 0) (hm : mErr m = 0) : rN x m ≤ 300000000000 := by
 obtain ⟨h1, h2, h3, h4⟩ := ms_facts hx hm
 unfold rN
 simp only [mx_max]
 omega
def rl (x : Fr × Fr) : List Msr → List Fr → Option (List Fr)
 | [], o => some o
 | m :: l, o => bif decide ((resF x m).1 > 1000000000) then none else rl x l (o ++ [resF x m])
theorem loop48 (l : List Msr) (x : Fr × Fr) (hl : l.length ≤ 1000) (hx : lnE x = 0) (hv : ∀ m ∈ l, mErr m = 0) : ∀ (n k : Nat) (out : List Fr), k + n = l.length → out.length = k →
 loopVal step48_0 (out, dn x, l, (l.length : Int), (k : Int), x) = some (match rl x (l.drop k) out with | none => .inl ([], 8) | some o => .inr o) := by
 intro n
 induction n with
 | zero =>
   intro k out hk ho
   obtain rfl : k = l.length := by omega
   rw [List.drop_length]
   exact loopVal_last (by simp [step48_0, rl])
 | succ n ih =>
   intro k out hk ho
   have hk' : k < l.length := by omega
   have hm := hv _ (getD_mem (0, 0, 0, 0, 0) hk')
   rw [getD_drop l (0, 0, 0, 0, 0) hk', rl]
   obtain ⟨m, hn⟩ : ∃ m : Msr, l.getD k (0, 0, 0, 0, 0) = m := ⟨_, rfl⟩
   rw [hn] at hm ⊢
   obtain ⟨q1, q2, q3, q4⟩ := ms_facts hx hm
   have q5 := rN_facts hx hm
   have q6 := rN_nonneg x m
   have q7 := lowF_den (n := rN x m) (d := dn x) (by omega)
   have hs : step48_0 (out, dn x, l, (l.length : Int), (k : Int), x) = bif decide ((resF x m).1 > 1000000000) then some (.inr (.inl ([], 8))) else some (.inl (out ++ [resF x m], dn x, l, (l.length : Int), ((k + 1 : Nat) : Int), x)) := by
    have e0 := lowest1 (n := rN x m) (d := dn x) (by omega) (by omega) (by omega) (by omega)
    obtain ⟨g1, g2⟩ := lnE_ok hx
    obtain ⟨_, g3, g4⟩ := ptE_ok g1
    obtain ⟨_, g5, g6⟩ := ptE_ok g2
    obtain ⟨k1, k2, _, _, _⟩ := mErr_ok.1 hm
    have e1 := mulB (a := m.2.2.1) (b := x.2.1) (A := 1000) (B := 100000) (by omega) (by omega)
    have e2 := mulB (a := m.2.2.1 * x.2.1) (b := x.1.2) (A := 100000000) (B := 1000) (by omega) (by omega)
    have e3 := mulB (a := m.2.1) (b := x.2.1) (A := 1000) (B := 100000) (by omega) (by omega)
    have e4 := mulB (a := m.2.1 * x.2.1) (b := x.1.2) (A := 100000000) (B := 1000) (by omega) (by omega)
    have e5 := mulB (a := x.1.1) (b := x.2.2) (A := 100000) (B := 1000) (by omega) (by omega)
    simp only [step48_0, hn, lt_cast, inB_cast, hk', decide_true, cond_true, Int.toNat_natCast, wr_succ (show k < 4611686018427387904 by omega), room_true (b := 16) (n := out.length + 1) (by omega) (by omega)]
    rw [wr_id (n := m.2.2.2.1 * dn x) (by omega) (by omega), wr_id (n := m.2.2.2.2 * dn x) (by omega) (by omega), wr_id (n := m.2.2.1 * x.2.1) (by omega) (by omega), wr_id (n := m.2.2.1 * x.2.1 * x.1.2) (by omega) (by omega),
     wr_id (n := m.2.1 * x.2.1) (by omega) (by omega), wr_id (n := m.2.1 * x.2.1 * x.1.2) (by omega) (by omega), wr_id (n := x.1.1 * x.2.2) (by omega) (by omega)]
    by_cases h1 : m.1 = 1
    ·have hq : m.2.2.1 * x.2.1 * x.1.2 - m.2.1 * x.2.1 * x.1.2 = ms x m := by unfold ms; rw [if_pos h1]; grind
     rw [show (m.1 == 1) = true by simpa using h1, cond_true, hq, wr_id (n := ms x m) (by omega) (by omega), wr_id (n := m.2.2.2.1 * dn x - ms x m) (by omega) (by omega), wr_id (n := ms x m - m.2.2.2.2 * dn x) (by omega) (by omega)]
     rw [show s99 (mx (mx 0 (m.2.2.2.1 * dn x - ms x m)) (ms x m - m.2.2.2.2 * dn x), dn x) = some (resF x m) from e0]
     simp only [optE_some, decide_eq_false (show ¬ (resF x m).2 > 1000000000 by have := q7.2; unfold resF; omega), cond_false]
    ·have hq : m.2.2.1 * x.2.1 * x.1.2 + x.1.1 * x.2.2 = ms x m := by unfold ms; rw [if_neg h1]; omega
     rw [show (m.1 == 1) = false by simpa using h1, cond_false, hq, wr_id (n := ms x m) (by omega) (by omega), wr_id (n := m.2.2.2.1 * dn x - ms x m) (by omega) (by omega), wr_id (n := ms x m - m.2.2.2.2 * dn x) (by omega) (by omega)]
     rw [show s99 (mx (mx 0 (m.2.2.2.1 * dn x - ms x m)) (ms x m - m.2.2.2.2 * dn x), dn x) = some (resF x m) from e0]
     simp only [optE_some, decide_eq_false (show ¬ (resF x m).2 > 1000000000 by have := q7.2; unfold resF; omega), cond_false]
   cases hb : decide ((resF x m).1 > 1000000000) with
   | true => rw [hb, cond_true] at hs; rw [loopVal_last hs, cond_true]
   | false => rw [hb, cond_false] at hs; rw [loopVal_next hs, cond_false]; exact ih (k + 1) _ (by omega) (by simp [ho])
def hf (m : Msr) (up : Bool) : Int × Int × Int := if m.1 = 1 then (if up then (0, m.2.2.1 - m.2.1, m.2.2.2.2) else (0, -(m.2.2.1 - m.2.1), -m.2.2.2.1)) else (if up then (1, m.2.2.1, m.2.2.2.2) else (-1, -m.2.2.1, -m.2.2.2.1))
theorem half_eq {m : Msr} (hm : mErr m = 0) (up : Bool) : s100 (m, up) = some (hf m up) := by
 obtain ⟨k1, k2, _, _, _⟩ := mErr_ok.1 hm
 unfold s100 hf
 dsimp only
 rw [wr_id (n := m.2.2.1 - m.2.1) (by omega) (by omega), wr_id (n := -(m.2.2.1 - m.2.1)) (by omega) (by omega), wr_id (n := -m.2.2.2.1) (by omega) (by omega), wr_id (n := -m.2.2.1) (by omega) (by omega)]
 by_cases h1 : m.1 = 1
 ·rw [show (m.1 == 1) = true by simpa using h1, if_pos h1]
  cases up <;> rfl
 ·rw [show (m.1 == 1) = false by simpa using h1, if_neg h1]
  cases up <;> rfl
theorem loop49 (l : List Msr) (x : Fr × Fr) (hl : l.length ≤ 1000) (hx : lnE x = 0) (hv : ∀ m ∈ l, mErr m = 0) : ∀ (n k : Nat) (out : List Fr), k + n = l.length → out.length = k →
 loopVal step49_0 (l, out, (k : Int), x) = some (out ++ (l.drop k).map (resF x)) := by
 intro n
 induction n with
 | zero =>
   intro k out hk ho
   obtain rfl : k = l.length := by omega
   rw [List.drop_length]
   exact loopVal_last (by simp [step49_0])
 | succ n ih =>
   intro k out hk ho
   have hk' : k < l.length := by omega
   have hm := hv _ (getD_mem (0, 0, 0, 0, 0) hk')
   rw [getD_drop l (0, 0, 0, 0, 0) hk', List.map_cons]
   obtain ⟨m, hn⟩ : ∃ m : Msr, l.getD k (0, 0, 0, 0, 0) = m := ⟨_, rfl⟩
   rw [hn] at hm ⊢
   obtain ⟨q1, q2, q3, q4⟩ := ms_facts hx hm
   have q5 := rN_facts hx hm
   have q6 := rN_nonneg x m
   have hs : step49_0 (l, out, (k : Int), x) = some (.inl (l, out ++ [resF x m], ((k + 1 : Nat) : Int), x)) := by
    have e0 := lowest2 (n := rN x m) (d := dn x) (by omega) (by omega) (by omega) (by omega)
    obtain ⟨g1, g2⟩ := lnE_ok hx
    obtain ⟨_, g3, g4⟩ := ptE_ok g1
    obtain ⟨_, g5, g6⟩ := ptE_ok g2
    obtain ⟨k1, k2, _, _, _⟩ := mErr_ok.1 hm
    have f1 : -1 ≤ (hf m true).1 ∧ (hf m true).1 ≤ 1 := by unfold hf; split <;> simp
    have f2 : -1000 ≤ (hf m true).2.1 ∧ (hf m true).2.1 ≤ 1000 := by unfold hf; split <;> simp <;> omega
    have e1 := mulB (a := (hf m true).1) (b := x.1.1) (A := 1) (B := 100000) (by omega) (by omega)
    have e2 := mulB (a := (hf m true).1 * x.1.1) (b := x.2.2) (A := 100000) (B := 1000) (by omega) (by omega)
    have e3 := mulB (a := (hf m true).2.1) (b := x.2.1) (A := 1000) (B := 100000) (by omega) (by omega)
    have e4 := mulB (a := (hf m true).2.1 * x.2.1) (b := x.1.2) (A := 100000000) (B := 1000) (by omega) (by omega)
    have hq : (hf m true).1 * x.1.1 * x.2.2 + (hf m true).2.1 * x.2.1 * x.1.2 = ms x m := by
     unfold hf ms
     by_cases h1 : m.1 = 1
     ·simp [h1]
     ·simp [h1]
    have hdn : wr (x.1.2 * x.2.2) = dn x := wr_id (by unfold dn at q1; omega) (by unfold dn at q1; omega)
    simp only [step49_0, hn, lt_cast, inB_cast, hk', decide_true, cond_true, Int.toNat_natCast, half_eq hm, optE_some, hdn, wr_succ (show k < 4611686018427387904 by omega), room_true (b := 16) (n := out.length + 1) (by omega) (by omega)]
    rw [wr_id (n := m.2.2.2.1 * dn x) (by omega) (by omega), wr_id (n := m.2.2.2.2 * dn x) (by omega) (by omega), wr_id (n := (hf m true).1 * x.1.1) (by omega) (by omega), wr_id (n := (hf m true).1 * x.1.1 * x.2.2) (by omega) (by omega),
     wr_id (n := (hf m true).2.1 * x.2.1) (by omega) (by omega), wr_id (n := (hf m true).2.1 * x.2.1 * x.1.2) (by omega) (by omega), hq, wr_id (n := ms x m) (by omega) (by omega),
     wr_id (n := m.2.2.2.1 * dn x - ms x m) (by omega) (by omega), wr_id (n := ms x m - m.2.2.2.2 * dn x) (by omega) (by omega)]
    rw [show s70 (mx (mx 0 (m.2.2.2.1 * dn x - ms x m)) (ms x m - m.2.2.2.2 * dn x), dn x) = some (resF x m) from e0]
    simp only [optE_some]
   rw [loopVal_next hs, ih (k + 1) _ (by omega) (by simp [ho]), List.append_assoc]
   rfl
theorem resid2 (l : List Msr) (x : Fr × Fr) (hl : l.length ≤ 1000) (hx : lnE x = 0) (hv : ∀ m ∈ l, mErr m = 0) : s49 (l, x) = some (l.map (resF x)) := by
 have h := loop49 l x hl hx hv l.length 0 [] (by omega) rfl
 rw [show ((0 : Nat) : Int) = 0 from rfl, List.drop_zero, List.nil_append] at h
 unfold s49
 simp only [h, optE_some]
def smF (f : Fr) : Bool := win f.1 (-1000000000) 1000000000 && win f.2 1 1000000000
theorem small_eq (f : Fr) : s50 f = some (smF f) := by
 unfold s50 smF
 cases win f.1 (-1000000000) 1000000000 <;> rfl
theorem resF_small {x : Fr × Fr} {m : Msr} (hx : lnE x = 0) (hm : mErr m = 0) : smF (resF x m) = !decide ((resF x m).1 > 1000000000) := by
 obtain ⟨q1, _⟩ := ms_facts hx hm
 have q7 := lowF_den (n := rN x m) (d := dn x) (by omega)
 have q8 := lowF_num (n := rN x m) (d := dn x) (rN_nonneg x m)
 unfold smF
 rw [show win (resF x m).2 1 1000000000 = true from win_iff.2 ⟨q7.1, by unfold resF; omega⟩, Bool.and_true]
 by_cases h : (resF x m).1 > 1000000000
 ·rw [decide_eq_true h]
  cases hw : win (resF x m).1 (-1000000000) 1000000000 with
  | false => rfl
  | true => have := win_iff.1 hw; omega
 ·rw [decide_eq_false h]
  exact win_iff.2 ⟨by unfold resF; omega, by omega⟩
theorem rl_cases (x : Fr × Fr) : ∀ (l : List Msr) (o : List Fr), (rl x l o = some (o ++ l.map (resF x)) ∧ ∀ m ∈ l, ¬ (resF x m).1 > 1000000000) ∨ (rl x l o = none ∧ ∃ m ∈ l, (resF x m).1 > 1000000000)
 | [], o => .inl ⟨by simp [rl], fun m h => by cases h⟩
 | m :: l, o => by
   rw [rl]
   by_cases h : (resF x m).1 > 1000000000
   ·rw [decide_eq_true h]
    exact .inr ⟨rfl, m, by simp, h⟩
   ·rw [decide_eq_false h, cond_false]
    rcases rl_cases x l (o ++ [resF x m]) with ⟨h1, h2⟩ | ⟨h1, n, h2, h3⟩
    ·refine .inl ⟨by rw [h1, List.append_assoc]; rfl, fun n hn => ?_⟩
     rcases List.mem_cons.1 hn with rfl | hn
     ·exact h
     ·exact h2 n hn
    ·exact .inr ⟨h1, n, by simp [h2], h3⟩
theorem fracs_self (l : List Fr) (hl : l.length ≤ 1000000) : s51 (l, l) = some true := by
 unfold s51
 have h1 := loop_for (step := step51_0) (st := fun k => (l, l, (k : Int))) (n := l.length) (e := .inr ())
  (fun k hk => by
    simp only [step51_0, lt_cast, inB_cast, hk, decide_true, cond_true, Int.toNat_natCast, wr_succ (show k < 4611686018427387904 by omega), beq_self_eq_true, Bool.and_self, Bool.not_true, cond_false]) (by simp [step51_0]) 0 (by omega)
 rw [show ((0 : Nat) : Int) = 0 from rfl] at h1
 simp only [h1, bne_self_eq_false, cond_false]
 rfl
theorem resid1 (l : List Msr) (x : Fr × Fr) (hl : l.length ≤ 1000) : s48 (l, x) = bif firstE [(chkM l).2, lnE x] != 0 then some ([], firstE [(chkM l).2, lnE x]) else some (match rl x l [] with | none => ([], 8) | some o => (o, 0)) := by
 unfold s48
 simp only [chk1, part_eq, optE_some]
 have hE : firstE [(chkM l).2, ptE x.1, ptE x.2] = firstE [(chkM l).2, lnE x] := by
  unfold lnE
  simp only [firstE]
  cases (chkM l).2 != 0
  ·simp only [cond_false]
   cases h1 : ptE x.1 != 0
   ·simp only [cond_false]
    cases h2 : ptE x.2 != 0
    ·rfl
    ·simp only [cond_true, h2]
   ·simp only [cond_true, h1]
  ·rfl
 rw [hE]
 cases hb : firstE [(chkM l).2, lnE x] != 0 with
 | true => rfl
 | false =>
   simp only [cond_false]
   have h0 := firstE_zero.1 (show firstE [(chkM l).2, lnE x] = 0 by simpa using hb)
   have hx := h0 (lnE x) (by simp)
   have hv := ((chkE_zero mErr (0, 0, 0, 0, 0) 12 l).1 (h0 (chkM l).2 (by simp))).2
   obtain ⟨g1, g2⟩ := lnE_ok hx
   obtain ⟨_, g3, g4⟩ := ptE_ok g1
   obtain ⟨_, g5, g6⟩ := ptE_ok g2
   have e5 := mulB (a := x.1.2) (b := x.2.2) (A := 1000) (B := 1000) (by omega) (by omega)
   have h := loop48 l x hl hx hv l.length 0 [] (by omega) rfl
   rw [show ((0 : Nat) : Int) = 0 from rfl, List.drop_zero] at h
   rw [show wr (x.1.2 * x.2.2) = dn x from wr_id (by omega) (by omega), h, optE_some]
   cases rl x l [] <;> rfl
theorem loop10 (r want : List Fr) (e : Int) (hw : want.length ≤ 1000) :
 loopVal step10_0 (r, e, want, 0) = some (if ∀ f ∈ want, smF f = true then .inr (r, e, want) else .inl (bif e == 8 then (r.length : Int) == 0 else false)) := by
 have h1 := loop_scan (step := step10_0) (st := fun k => (r, e, want, (k : Int))) (n := want.length)
  (hit := fun k => bif !smF (want.getD k (0, 0)) then some (.inl (bif e == 8 then (r.length : Int) == 0 else false)) else none) (e := .inr (r, e, want))
  (fun k hk => by
    simp only [step10_0, small_eq, optE_some, lt_cast, inB_cast, hk, decide_true, cond_true, Int.toNat_natCast, wr_succ (show k < 4611686018427387904 by omega)]
    cases smF (want.getD k (0, 0)) <;> cases e == 8 <;> rfl) (by simp [step10_0]) want.length 0 (by omega)
 rw [show ((0 : Nat) : Int) = 0 from rfl] at h1
 rw [h1, scan_list0 (fun f : Fr => bif !smF f then some (Sum.inl (bif e == 8 then (r.length : Int) == 0 else false) : Bool ⊕ (List Fr × Int × List Fr)) else none) (.inr (r, e, want)) want (0, 0), scanL_const (b := .inl (bif e == 8 then (r.length : Int) == 0 else false)) (fun f _ => by cases smF f <;> simp)]
 congr 1
 by_cases h : ∀ f ∈ want, smF f = true
 ·rw [if_pos h, if_pos (by rw [List.all_eq_true]; intro f hf; rw [h f hf]; rfl)]
 ·rw [if_neg h, if_neg]
  intro ha
  rw [List.all_eq_true] at ha
  refine h fun f hf => ?_
  have := ha f hf
  cases hs : smF f with
  | true => rfl
  | false => rw [hs] at this; simp at this
theorem loop10b (r : List Fr) (hr : r.length ≤ 1000) (h : ∀ f ∈ r, 0 ≤ f.1) : loopVal step10_2 (r, 0) = some (.inr ()) := by
 have h1 := loop_for (step := step10_2) (st := fun k => (r, (k : Int))) (n := r.length) (e := .inr ())
  (fun k hk => by
    have := h _ (getD_mem (0, 0) hk)
    simp only [step10_2, lt_cast, inB_cast, hk, decide_true, cond_true, Int.toNat_natCast, wr_succ (show k < 4611686018427387904 by omega), decide_eq_false (show ¬ (r.getD k (0, 0)).1 < 0 by omega), cond_false]) (by simp [step10_2]) 0 (by omega)
 rwa [show ((0 : Nat) : Int) = 0 from rfl] at h1
theorem residuals_true (y : List Msr × (Fr × Fr)) : s10 y = some true := by
 obtain ⟨l, x⟩ := y
 unfold s10
 simp only [Bool.not_true, cond_false]
 cases hl : decide ((l.length : Int) > 14)
 case true => rfl
 have hl : ¬ (l.length : Int) > 14 := by simpa using hl
 have hme : s23 l = some (chkM l).2 := by unfold s23; simp only [chk2, optE_some]
 simp only [copyM l (by omega), optE_some, cond_false, hme, lineErr_eq, resid1 l x (by omega)]
 cases hc : (chkM l).2 != 0 with
 | true =>
   have hc2 : ((chkM l).2 == 0) = false := by simpa using hc
   have hh : ∀ r, firstE ((chkM l).2 :: r) = (chkM l).2 := fun r => by simp only [firstE, hc, cond_true]
   simp [hh, hc2, optE_some, hc]
 | false =>
   have hc0 : (chkM l).2 = 0 := by simpa using hc
   have hh : ∀ r, firstE ((chkM l).2 :: r) = firstE r := fun r => by simp only [firstE, hc, cond_false]
   rw [hh]
   cases hx : lnE x != 0 with
   | true =>
     have hh2 : firstE [lnE x] = lnE x := by simp only [firstE, hx, cond_true]
     simp [hh2, hx, optE_some, hc0]
   | false =>
     have hx0 : lnE x = 0 := by simpa using hx
     have hv := ((chkE_zero mErr (0, 0, 0, 0, 0) 12 l).1 hc0).2
     have hh2 : firstE [lnE x] = 0 := by simp only [firstE, hx, cond_false]
     have hr2 := resid2 l x (by omega) hx0 hv
     simp only [hh2]
     simp only [hx0, bne_self_eq_false, cond_false, hc0, beq_self_eq_true, cond_true, hr2, optE_some]
     have hsm : ∀ m ∈ l, smF (resF x m) = !decide ((resF x m).1 > 1000000000) := fun m hm => resF_small hx0 (hv m hm)
     rcases rl_cases x l [] with ⟨h1, h2⟩ | ⟨h1, m, h2, h3⟩
     ·rw [h1, List.nil_append]
      have hall : ∀ f ∈ l.map (resF x), smF f = true := fun f hf => by
       obtain ⟨m, hm, rfl⟩ := List.mem_map.1 hf
       rw [hsm m hm, decide_eq_false (h2 m hm)]; rfl
      have h4 := loop10 (l.map (resF x)) (l.map (resF x)) 0 (by simp; omega)
      rw [if_pos hall] at h4
      have h5 := loop10b (l.map (resF x)) (by simp; omega) fun f hf => by
       obtain ⟨m, hm, rfl⟩ := List.mem_map.1 hf
       exact lowF_num (rN_nonneg x m)
      simp only [optE_some, h4, sumE_r, bne_self_eq_false, cond_false, fracs_self (l.map (resF x)) (by simp; omega), Bool.not_true, h5]
     ·rw [h1]
      have h4 := loop10 [] (l.map (resF x)) 8 (by simp; omega)
      rw [if_neg (fun ha => by
       have := ha _ (List.mem_map.2 ⟨m, h2, rfl⟩)
       rw [hsm m h2, decide_eq_true h3] at this
       cases this)] at h4
      simp only [optE_some, h4, sumE_l]
      rfl
end Go.Proofs.YtfmfiflpokogiaaDoor
