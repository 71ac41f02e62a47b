/- The delay of a station, and corrected measurements. -/
import Derived.Test.YtfpppijfkeidgaaGreatDoorGz5
import Derived.Test.YtfpppijfkeidgaaGreatDoorMeas
set_option linter.unusedSimpArgs false
namespace Go.Proofs.YtfpppijfkeidgaaGreatDoor
open Go.Ev
abbrev Lp := Int × Int × Int
noncomputable def lErr (x : Lp) : Int := firstE [unl (win x.1 0 100000 && (win x.2.1 0 100000 && win x.2.2 0 100000)) 2, unl (decide (x.2.1 ≤ x.2.2)) 9]
def dF (o : Int × Int) (x : Lp) : Int × Int := (mx o.1 (x.2.1 - x.1), mn o.2 (x.2.2 - x.1))
noncomputable def dl : List Lp → Int × Int → Int ⊕ (Int × Int)
 | [], o => .inr o
 | x :: l, o => bif lErr x != 0 then .inl (lErr x) else dl l (dF o x)
theorem lErr_ok {x : Lp} (h : lErr x = 0) : ((0 ≤ x.1 ∧ x.1 ≤ 100000) ∧ (0 ≤ x.2.1 ∧ x.2.1 ≤ 100000) ∧ 0 ≤ x.2.2 ∧ x.2.2 ≤ 100000) ∧ x.2.1 ≤ x.2.2 := by
 unfold lErr at h
 have h := firstE_zero.1 h
 have h1 := unl_zero (by decide) (h (unl (win x.1 0 100000 && (win x.2.1 0 100000 && win x.2.2 0 100000)) 2) (by simp))
 have h2 := unl_zero (by decide) (h (unl (decide (x.2.1 ≤ x.2.2)) 9) (by simp))
 simp only [Bool.and_eq_true, win_iff, decide_eq_true_eq] at h1 h2
 exact ⟨h1, h2⟩
theorem step54 (l : List Lp) (k : Nat) (t2 out : Int × Int) (hk : k < l.length) (hl : l.length ≤ 1000) :
 step9_0 (l, (l.length : Int), (k : Int), t2, out) = bif lErr (l.getD k (0, 0, 0)) != 0 then some (.inr (.inl (lErr (l.getD k (0, 0, 0)), (0, 0)))) else some (.inl (l, (l.length : Int), ((k + 1 : Nat) : Int), t2, dF out (l.getD k (0, 0, 0)))) := by
 obtain ⟨x, hx⟩ : ∃ x : Lp, l.getD k (0, 0, 0) = x := ⟨_, rfl⟩
 simp only [step9_0, hx, lt_cast, inB_cast, hk, decide_true, cond_true, Int.toNat_natCast, wr_succ (show k < 4611686018427387904 by omega)]
 by_cases he : lErr x = 0
 ·obtain ⟨⟨h1, h2, h3⟩, h4⟩ := lErr_ok he
  rw [he]
  simp only [win_iff.2 h1, win_iff.2 h2, win_iff.2 h3, decide_eq_true h4, cond_true, dF, wr_id (n := x.2.1 - x.1) (by omega) (by omega), wr_id (n := x.2.2 - x.1) (by omega) (by omega)]
  rfl
 ·rw [show (lErr x != 0) = true by simpa using he, cond_true]
  unfold lErr at he ⊢
  cases h1 : win x.1 0 100000 <;> cases h2 : win x.2.1 0 100000 <;> cases h3 : win x.2.2 0 100000 <;> cases h4 : decide (x.2.1 ≤ x.2.2) <;> first | rfl | (rw [h1, h2, h3, h4] at he; exact absurd rfl he)
theorem loop54 (l : List Lp) (hl : l.length ≤ 1000) (t2 : Int × Int) : ∀ (m k : Nat) (out : Int × Int), k + m = l.length →
 loopVal step9_0 (l, (l.length : Int), (k : Int), t2, out) = some (match dl (l.drop k) out with | .inl e => .inl (e, (0, 0)) | .inr o => .inr (t2, o)) := by
 intro m
 induction m with
 | zero =>
   intro k out hk
   obtain rfl : k = l.length := by omega
   rw [List.drop_length]
   exact loopVal_last (by simp [step9_0, dl])
 | succ m ih =>
   intro k out hk
   have hs := step54 l k t2 out (by omega) hl
   rw [getD_drop l (0, 0, 0) (show k < l.length by omega), dl]
   cases hb : lErr (l.getD k (0, 0, 0)) != 0 with
   | true => rw [hb, cond_true] at hs; rw [loopVal_last hs, cond_true]
   | false => rw [hb, cond_false] at hs; rw [loopVal_next hs, cond_false]; exact ih (k + 1) _ (by omega)
theorem step57 (l : List Lp) (k : Nat) (hk : k < l.length) (hl : l.length ≤ 1000) :
 step6_0 (l, (k : Int)) = bif lErr (l.getD k (0, 0, 0)) != 0 then some (.inr (.inl (lErr (l.getD k (0, 0, 0))))) else some (.inl (l, ((k + 1 : Nat) : Int))) := by
 obtain ⟨x, hx⟩ : ∃ x : Lp, l.getD k (0, 0, 0) = x := ⟨_, rfl⟩
 simp only [step6_0, hx, lt_cast, inB_cast, hk, decide_true, cond_true, Int.toNat_natCast, wr_succ (show k < 4611686018427387904 by omega)]
 rw [dec_gt]
 unfold lErr
 cases win x.1 0 100000 <;> cases win x.2.1 0 100000 <;> cases win x.2.2 0 100000 <;> cases decide (x.2.1 ≤ x.2.2) <;> rfl
theorem loop57 (l : List Lp) (hl : l.length ≤ 1000) : ∀ (m k : Nat) (out : Int × Int), k + m = l.length →
 loopVal step6_0 (l, (k : Int)) = some (match dl (l.drop k) out with | .inl e => .inl e | .inr _ => .inr ()) := by
 intro m
 induction m with
 | zero =>
   intro k out hk
   obtain rfl : k = l.length := by omega
   rw [List.drop_length]
   exact loopVal_last (by simp [step6_0, dl])
 | succ m ih =>
   intro k out hk
   have hs := step57 l k (by omega) hl
   rw [getD_drop l (0, 0, 0) (show k < l.length by omega), dl]
   cases hb : lErr (l.getD k (0, 0, 0)) != 0 with
   | true => rw [hb, cond_true] at hs; rw [loopVal_last hs, cond_true]
   | false => rw [hb, cond_false] at hs; rw [loopVal_next hs, cond_false]; exact ih (k + 1) _ (by omega)
theorem copyL (l : List Lp) (h : l.length ≤ 1000000) : s10 l = some l := by
 unfold s10
 rw [room_true (by omega) (by omega)]
 rfl
theorem dl_error : ∀ {l : List Lp} {o : Int × Int} {e : Int}, dl l o = .inl e → e ≠ 0
 | [], _, _, h => by cases h
 | x :: l, o, e, h => by
   rw [dl] at h
   cases hb : lErr x != 0 with
   | true => rw [hb, cond_true] at h; obtain rfl := Sum.inl.inj h; simpa using hb
   | false => rw [hb, cond_false] at h; exact dl_error h
def cF (d : Int × Int) (x : Msr) : Msr := if x.1 = 0 then (x.1, x.2.1, x.2.2.1, x.2.2.2.1 - d.2, x.2.2.2.2 - d.1) else x
def cOk (x : Msr) : Bool := win x.2.2.2.1 (-100000) 100000 && win x.2.2.2.2 (-100000) 100000
def co (d : Int × Int) : List Msr → List Msr → Option (List Msr)
 | [], o => some o
 | x :: l, o => bif cOk (cF d x) then co d l (o ++ [cF d x]) else none
noncomputable def dErr (d : Int × Int) : Int := firstE [unl (win d.1 (-100000) 100000 && win d.2 (-100000) 100000) 2, unl (decide (d.1 ≤ d.2)) 9]
theorem mErr_ok {x : Msr} : mErr x = 0 ↔ (0 ≤ x.1 ∧ x.1 ≤ 1) ∧ ((0 ≤ x.2.1 ∧ x.2.1 ≤ 1000) ∧ (0 ≤ x.2.2.1 ∧ x.2.2.1 ≤ 1000) ∧ (-100000 ≤ x.2.2.2.1 ∧ x.2.2.2.1 ≤ 100000) ∧ (-100000 ≤ x.2.2.2.2 ∧ x.2.2.2.2 ≤ 100000)) ∧ (x.1 = 1 ∨ x.2.1 = 0) ∧ (x.1 = 1 → x.2.1 < x.2.2.1) ∧ x.2.2.2.1 ≤ x.2.2.2.2 := by
 unfold mErr
 rw [firstE_zero]
 have u : ∀ (b : Bool) (e : Int), e ≠ 0 → (unl b e = 0 ↔ b = true) := fun b e h => ⟨fun hu => unl_zero h hu, fun hb => by rw [hb]; rfl⟩
 simp only [List.mem_cons, List.not_mem_nil, or_false, forall_eq_or_imp, forall_eq, u _ 15 (by decide), u _ 2 (by decide), u _ 3 (by decide), u _ 9 (by decide), Bool.and_eq_true, win_iff, Bool.or_eq_true, beq_iff_eq, decide_eq_true_eq, Bool.not_eq_true']
 simp only [beq_eq_false_iff_ne, ne_eq]
 constructor
 ·rintro ⟨h1, h2, h3, h4, h5⟩
  exact ⟨h1, h2, h3, fun h => h4.resolve_left (fun hn => hn h), h5⟩
 ·rintro ⟨h1, h2, h3, h4, h5⟩
  refine ⟨h1, h2, h3, ?_, h5⟩
  by_cases hk : x.1 = 1
  ·exact .inr (h4 hk)
  ·exact .inl hk
theorem dErr_ok {d : Int × Int} (h : dErr d = 0) : ((-100000 ≤ d.1 ∧ d.1 ≤ 100000) ∧ -100000 ≤ d.2 ∧ d.2 ≤ 100000) ∧ d.1 ≤ d.2 := by
 unfold dErr at h
 have h := firstE_zero.1 h
 have h1 := unl_zero (by decide) (h (unl (win d.1 (-100000) 100000 && win d.2 (-100000) 100000) 2) (by simp))
 have h2 := unl_zero (by decide) (h (unl (decide (d.1 ≤ d.2)) 9) (by simp))
 simp only [Bool.and_eq_true, win_iff, decide_eq_true_eq] at h1 h2
 exact ⟨h1, h2⟩
theorem cF_err {d : Int × Int} {x : Msr} (hd : dErr d = 0) (hx : mErr x = 0) : (mErr (cF d x) != 0) = !cOk (cF d x) := by
 obtain ⟨hd1, hd2⟩ := dErr_ok hd
 have hx' := mErr_ok.1 hx
 by_cases h0 : x.1 = 0
 ·have hc : cF d x = (x.1, x.2.1, x.2.2.1, x.2.2.2.1 - d.2, x.2.2.2.2 - d.1) := by unfold cF; rw [if_pos h0]
  have key : mErr (cF d x) = 0 ↔ cOk (cF d x) = true := by
   rw [mErr_ok, hc]
   simp only [cOk, Bool.and_eq_true, win_iff]
   constructor
   ·exact fun h => ⟨h.2.1.2.2.1, h.2.1.2.2.2⟩
   ·exact fun h => ⟨hx'.1, ⟨hx'.2.1.1, hx'.2.1.2.1, h.1, h.2⟩, hx'.2.2.1, hx'.2.2.2.1, by have := hx'.2.2.2.2; omega⟩
  by_cases hm : mErr (cF d x) = 0
  ·rw [hm, key.1 hm]; rfl
  ·rw [show (mErr (cF d x) != 0) = true by simpa using hm]
   cases hq : cOk (cF d x) with
   | true => exact absurd (key.2 hq) hm
   | false => rfl
 ·have hc : cF d x = x := by unfold cF; rw [if_neg h0]
  rw [hc, hx]
  have : cOk x = true := by simp only [cOk, Bool.and_eq_true, win_iff]; exact ⟨hx'.2.1.2.2.1, hx'.2.1.2.2.2⟩
  rw [this]; rfl
theorem loop56 (l : List Msr) (d : Int × Int) (hl : l.length ≤ 1000) (hd : dErr d = 0) (hv : ∀ x ∈ l, mErr x = 0) : ∀ (m k : Nat) (out : List Msr), k + m = l.length → out.length = k →
 loopVal step11_0 (out, l, (l.length : Int), (k : Int), d) = some (match co d (l.drop k) out with | none => .inl ([], 8) | some o => .inr o) := by
 intro m
 induction m with
 | zero =>
   intro k out hk ho
   obtain rfl : k = l.length := by omega
   rw [List.drop_length]
   exact loopVal_last (by simp [step11_0, co])
 | succ m ih =>
   intro k out hk ho
   have hk' : k < l.length := by omega
   obtain ⟨hd1, hd2⟩ := dErr_ok hd
   have hx := mErr_ok.1 (hv _ (getD_mem (0, 0, 0, 0, 0) hk'))
   have hs : step11_0 (out, l, (l.length : Int), (k : Int), d) = bif cOk (cF d (l.getD k (0, 0, 0, 0, 0))) then some (.inl (out ++ [cF d (l.getD k (0, 0, 0, 0, 0))], l, (l.length : Int), ((k + 1 : Nat) : Int), d)) else some (.inr (.inl ([], 8))) := by
    obtain ⟨x, hn⟩ : ∃ x : Msr, l.getD k (0, 0, 0, 0, 0) = x := ⟨_, rfl⟩
    rw [hn] at hx
    simp only [step11_0, hn, lt_cast, inB_cast, hk', decide_true, cond_true, Int.toNat_natCast, wr_succ (show k < 4611686018427387904 by omega), room_true (b := 40) (n := out.length + 1) (by omega) (by omega)]
    rw [wr_id (n := -100000) (by omega) (by omega), wr_id (n := x.2.2.2.1 - d.2) (by omega) (by omega), wr_id (n := x.2.2.2.2 - d.1) (by omega) (by omega)]
    by_cases h0 : x.1 = 0
    ·have hc : cF d x = (x.1, x.2.1, x.2.2.1, x.2.2.2.1 - d.2, x.2.2.2.2 - d.1) := by unfold cF; rw [if_pos h0]
     rw [show (x.1 == 0) = true by simpa using h0, hc]
     simp only [cOk, cond_true]
     cases win (x.2.2.2.1 - d.2) (-100000) 100000 <;> cases win (x.2.2.2.2 - d.1) (-100000) 100000 <;> rfl
    ·have hc : cF d x = x := by unfold cF; rw [if_neg h0]
     rw [show (x.1 == 0) = false by simpa using h0, hc]
     simp only [cOk, cond_false]
     cases win x.2.2.2.1 (-100000) 100000 <;> cases win x.2.2.2.2 (-100000) 100000 <;> rfl
   rw [getD_drop l (0, 0, 0, 0, 0) hk', co]
   cases hb : cOk (cF d (l.getD k (0, 0, 0, 0, 0))) with
   | true => rw [hb, cond_true] at hs; rw [loopVal_next hs, cond_true]; exact ih (k + 1) _ (by omega) (by simp [ho])
   | false => rw [hb, cond_false] at hs; rw [loopVal_last hs, cond_false]
end Go.Proofs.YtfpppijfkeidgaaGreatDoor
