import Derived.Test.YtfmfiflpokogiaaDoorGc4
import Derived.Test.YtfmfiflpokogiaaDoorMeas
set_option linter.unusedSimpArgs false
namespace Go.Proofs.YtfmfiflpokogiaaDoor
open Go.Ev
abbrev Lp := Int × Int × Int
noncomputable def lErr (x : Lp) : Int := firstE [unl (win x.1 0 100000 && (win x.2.1 0 100000 && win x.2.2 0 100000)) 2, unl (decide (x.2.1 ≤ x.2.2)) 9]
def dF (o : Int × Int) (x : Lp) : Int × Int := (mx o.1 (x.2.1 - x.1), mn o.2 (x.2.2 - x.1))
noncomputable def dl : List Lp → Int × Int → Int ⊕ (Int × Int)
 | [], o => .inr o
 | x :: l, o => bif lErr x != 0 then .inl (lErr x) else dl l (dF o x)
theorem lErr_ok {x : Lp} (h : lErr x = 0) : ((0 ≤ x.1 ∧ x.1 ≤ 100000) ∧ (0 ≤ x.2.1 ∧ x.2.1 ≤ 100000) ∧ 0 ≤ x.2.2 ∧ x.2.2 ≤ 100000) ∧ x.2.1 ≤ x.2.2 := by
 unfold lErr at h
 have h := firstE_zero.1 h
 have h1 := unl_zero (by decide) (h (unl (win x.1 0 100000 && (win x.2.1 0 100000 && win x.2.2 0 100000)) 2) (by simp))
 have h2 := unl_zero (by decide) (h (unl (decide (x.2.1 ≤ x.2.2)) 9) (by simp))
 simp only [Bool.and_eq_true, win_iff, decide_eq_true_eq] at h1 h2
 exact ⟨h1, h2⟩
theorem step54 (l : List Lp) (k : Nat) (t2 out : Int × Int) (hk : k < l.length) (hl : l.length ≤ 1000) :
 step54_0 (l, (l.length : Int), (k : Int), t2, out) = bif lErr (l.getD k (0, 0, 0)) != 0 then some (.inr (.inl (lErr (l.getD k (0, 0, 0)), (0, 0)))) else some (.inl (l, (l.length : Int), ((k + 1 : Nat) : Int), t2, dF out (l.getD k (0, 0, 0)))) := by
 obtain ⟨x, hx⟩ : ∃ x : Lp, l.getD k (0, 0, 0) = x := ⟨_, rfl⟩
 simp only [step54_0, hx, lt_cast, inB_cast, hk, decide_true, cond_true, Int.toNat_natCast, wr_succ (show k < 4611686018427387904 by omega)]
 by_cases he : lErr x = 0
 ·obtain ⟨⟨h1, h2, h3⟩, h4⟩ := lErr_ok he
  rw [he]
  simp only [win_iff.2 h1, win_iff.2 h2, win_iff.2 h3, decide_eq_true h4, cond_true, dF, wr_id (n := x.2.1 - x.1) (by omega) (by omega), wr_id (n := x.2.2 - x.1) (by omega) (by omega)]
  rfl
 ·rw [show (lErr x != 0) = true by simpa using he, cond_true]
  unfold lErr at he ⊢
  cases h1 : win x.1 0 100000 <;> cases h2 : win x.2.1 0 100000 <;> cases h3 : win x.2.2 0 100000 <;> cases h4 : decide (x.2.1 ≤ x.2.2) <;> first | rfl | (rw [h1, h2, h3, h4] at he; exact absurd rfl he)
theorem loop54 (l : List Lp) (hl : l.length ≤ 1000) (t2 : Int × Int) : ∀ (m k : Nat) (out : Int × Int), k + m = l.length →
 loopVal step54_0 (l, (l.length : Int), (k : Int), t2, out) = some (match dl (l.drop k) out with | .inl e => .inl (e, (0, 0)) | .inr o => .inr (t2, o)) := by
 intro m
 induction m with
 | zero =>
   intro k out hk
   obtain rfl : k = l.length := by omega
   rw [List.drop_length]
   exact loopVal_last (by simp [step54_0, dl])
 | succ m ih =>
   intro k out hk
   have hs := step54 l k t2 out (by omega) hl
   rw [getD_drop l (0, 0, 0) (show k < l.length by omega), dl]
   cases hb : lErr (l.getD k (0, 0, 0)) != 0 with
   | true => rw [hb, cond_true] at hs; rw [loopVal_last hs, cond_true]
   | false => rw [hb, cond_false] at hs; rw [loopVal_next hs, cond_false]; exact ih (k + 1) _ (by omega)
theorem step57 (l : List Lp) (k : Nat) (hk : k < l.length) (hl : l.length ≤ 1000) :
 step57_0 (l, (k : Int)) = bif lErr (l.getD k (0, 0, 0)) != 0 then some (.inr (.inl (lErr (l.getD k (0, 0, 0))))) else some (.inl (l, ((k + 1 : Nat) : Int))) := by
 obtain ⟨x, hx⟩ : ∃ x : Lp, l.getD k (0, 0, 0) = x := ⟨_, rfl⟩
 simp only [step57_0, hx, lt_cast, inB_cast, hk, decide_true, cond_true, Int.toNat_natCast, wr_succ (show k < 4611686018427387904 by omega)]
 rw [dec_gt]
 unfold lErr
 cases win x.1 0 100000 <;> cases win x.2.1 0 100000 <;> cases win x.2.2 0 100000 <;> cases decide (x.2.1 ≤ x.2.2) <;> rfl
theorem loop57 (l : List Lp) (hl : l.length ≤ 1000) : ∀ (m k : Nat) (out : Int × Int), k + m = l.length →
 loopVal step57_0 (l, (k : Int)) = some (match dl (l.drop k) out with | .inl e => .inl e | .inr _ => .inr ()) := by
 intro m
 induction m with
 | zero =>
   intro k out hk
   obtain rfl : k = l.length := by omega
   rw [List.drop_length]
   exact loopVal_last (by simp [step57_0, dl])
 | succ m ih =>
   intro k out hk
   have hs := step57 l k (by omega) hl
   rw [getD_drop l (0, 0, 0) (show k < l.length by omega), dl]
   cases hb : lErr (l.getD k (0, 0, 0)) != 0 with
   | true => rw [hb, cond_true] at hs; rw [loopVal_last hs, cond_true]
   | false => rw [hb, cond_false] at hs; rw [loopVal_next hs, cond_false]; exact ih (k + 1) _ (by omega)
theorem loop58 (l : List Lp) (hl : l.length ≤ 1000) (t2 : Int × Int) : ∀ (m k : Nat) (out o : Int × Int), k + m = l.length → dl (l.drop k) out = .inr o →
 loopVal step58_0 (l, (k : Int), t2, out) = some (t2, o) := by
 intro m
 induction m with
 | zero =>
   intro k out o hk h
   obtain rfl : k = l.length := by omega
   rw [List.drop_length] at h
   obtain rfl := Sum.inr.inj h
   exact loopVal_last (by simp [step58_0])
 | succ m ih =>
   intro k out o hk h
   have hk' : k < l.length := by omega
   rw [getD_drop l (0, 0, 0) hk', dl] at h
   cases hb : lErr (l.getD k (0, 0, 0)) != 0 with
   | true => rw [hb, cond_true] at h; cases h
   | false =>
     rw [hb, cond_false] at h
     have he : lErr (l.getD k (0, 0, 0)) = 0 := by simpa using hb
     obtain ⟨⟨h1, h2, h3⟩, h4⟩ := lErr_ok he
     have hs : step58_0 (l, (k : Int), t2, out) = some (.inl (l, ((k + 1 : Nat) : Int), t2, dF out (l.getD k (0, 0, 0)))) := by
      obtain ⟨x, hx⟩ : ∃ x : Lp, l.getD k (0, 0, 0) = x := ⟨_, rfl⟩
      rw [hx] at h1 h2 h3
      simp only [step58_0, hx, lt_cast, inB_cast, hk', decide_true, cond_true, Int.toNat_natCast, wr_succ (show k < 4611686018427387904 by omega)]
      simp only [dF, wr_id (n := x.2.1 - x.1) (by omega) (by omega), wr_id (n := x.2.2 - x.1) (by omega) (by omega)]
     rw [loopVal_next hs]
     exact ih (k + 1) _ _ (by omega) h
theorem copyL (l : List Lp) (h : l.length ≤ 1000000) : s55 l = some l := by
 unfold s55
 rw [room_true (by omega) (by omega)]
 rfl
theorem dl_error : ∀ {l : List Lp} {o : Int × Int} {e : Int}, dl l o = .inl e → e ≠ 0
 | [], _, _, h => by cases h
 | x :: l, o, e, h => by
   rw [dl] at h
   cases hb : lErr x != 0 with
   | true => rw [hb, cond_true] at h; obtain rfl := Sum.inl.inj h; simpa using hb
   | false => rw [hb, cond_false] at h; exact dl_error h
theorem delay_facts (l : List Lp) (hl : l.length ≤ 1000) : ∃ e, s57 l = some e ∧ ((e ≠ 0 ∧ s54 l = some ((0, 0), e)) ∨
 (e = 0 ∧ ∃ o : Int × Int, s58 l = some (o, decide (o.1 ≤ o.2)) ∧ s54 l = some (bif decide (o.1 ≤ o.2) then (o, 0) else ((0, 0), 13)))) := by
 have h54 := loop54 l hl (0, 0) l.length 0 ((-100000), 100000) (by omega)
 have h57 := loop57 l hl l.length 0 ((-100000), 100000) (by omega)
 rw [List.drop_zero, show ((0 : Nat) : Int) = 0 from rfl] at h54 h57
 unfold s57 s54
 by_cases h0 : (l.length : Int) = 0
 ·refine ⟨10, by rw [show ((l.length : Int) == 0) = true by simpa using h0]; rfl, .inl ⟨by decide, ?_⟩⟩
  rw [decide_eq_false (show ¬ (l.length : Int) > 0 by omega), decide_eq_true (show (l.length : Int) ≤ 12 by omega)]
  rfl
 ·rw [show ((l.length : Int) == 0) = false by simpa using h0, decide_eq_true (show (l.length : Int) > 0 by omega)]
  by_cases h12 : (l.length : Int) > 12
  ·rw [decide_eq_true h12, decide_eq_false (show ¬ (l.length : Int) ≤ 12 by omega)]
   exact ⟨8, rfl, .inl ⟨by decide, rfl⟩⟩
  ·rw [decide_eq_false h12, decide_eq_true (show (l.length : Int) ≤ 12 by omega)]
   have hf : (firstE [unl true 10, unl true 8] != 0) = false := rfl
   simp only [cond_false, h57, hf, h54, optE_some]
   cases hd : dl l (-100000, 100000) with
   | inl e => exact ⟨e, rfl, .inl ⟨dl_error hd, rfl⟩⟩
   | inr o =>
     have h58 := loop58 l hl (0, 0) l.length 0 ((-100000), 100000) o (by omega) (by rwa [List.drop_zero])
     rw [show ((0 : Nat) : Int) = 0 from rfl] at h58
     refine ⟨0, rfl, .inr ⟨rfl, o, ?_, ?_⟩⟩
     ·unfold s58
      rw [h58]; rfl
     ·simp only [sumE_r, dec_gt]
      cases decide (o.1 ≤ o.2) <;> rfl
def cF (d : Int × Int) (x : Msr) : Msr := if x.1 = 0 then (x.1, x.2.1, x.2.2.1, x.2.2.2.1 - d.2, x.2.2.2.2 - d.1) else x
def cOk (x : Msr) : Bool := win x.2.2.2.1 (-100000) 100000 && win x.2.2.2.2 (-100000) 100000
def co (d : Int × Int) : List Msr → List Msr → Option (List Msr)
 | [], o => some o
 | x :: l, o => bif cOk (cF d x) then co d l (o ++ [cF d x]) else none
noncomputable def dErr (d : Int × Int) : Int := firstE [unl (win d.1 (-100000) 100000 && win d.2 (-100000) 100000) 2, unl (decide (d.1 ≤ d.2)) 9]
theorem mErr_ok {x : Msr} : mErr x = 0 ↔ (0 ≤ x.1 ∧ x.1 ≤ 1) ∧ ((0 ≤ x.2.1 ∧ x.2.1 ≤ 1000) ∧ (0 ≤ x.2.2.1 ∧ x.2.2.1 ≤ 1000) ∧ (-100000 ≤ x.2.2.2.1 ∧ x.2.2.2.1 ≤ 100000) ∧ (-100000 ≤ x.2.2.2.2 ∧ x.2.2.2.2 ≤ 100000)) ∧ (x.1 = 1 ∨ x.2.1 = 0) ∧ (x.1 = 1 → x.2.1 < x.2.2.1) ∧ x.2.2.2.1 ≤ x.2.2.2.2 := by
 unfold mErr
 rw [firstE_zero]
 have u : ∀ (b : Bool) (e : Int), e ≠ 0 → (unl b e = 0 ↔ b = true) := fun b e h => ⟨fun hu => unl_zero h hu, fun hb => by rw [hb]; rfl⟩
 simp only [List.mem_cons, List.not_mem_nil, or_false, forall_eq_or_imp, forall_eq, u _ 15 (by decide), u _ 2 (by decide), u _ 3 (by decide), u _ 9 (by decide), Bool.and_eq_true, win_iff, Bool.or_eq_true, beq_iff_eq, decide_eq_true_eq, Bool.not_eq_true']
 simp only [beq_eq_false_iff_ne, ne_eq]
 constructor
 ·rintro ⟨h1, h2, h3, h4, h5⟩
  exact ⟨h1, h2, h3, fun h => h4.resolve_left (fun hn => hn h), h5⟩
 ·rintro ⟨h1, h2, h3, h4, h5⟩
  refine ⟨h1, h2, h3, ?_, h5⟩
  by_cases hk : x.1 = 1
  ·exact .inr (h4 hk)
  ·exact .inl hk
theorem dErr_ok {d : Int × Int} (h : dErr d = 0) : ((-100000 ≤ d.1 ∧ d.1 ≤ 100000) ∧ -100000 ≤ d.2 ∧ d.2 ≤ 100000) ∧ d.1 ≤ d.2 := by
 unfold dErr at h
 have h := firstE_zero.1 h
 have h1 := unl_zero (by decide) (h (unl (win d.1 (-100000) 100000 && win d.2 (-100000) 100000) 2) (by simp))
 have h2 := unl_zero (by decide) (h (unl (decide (d.1 ≤ d.2)) 9) (by simp))
 simp only [Bool.and_eq_true, win_iff, decide_eq_true_eq] at h1 h2
 exact ⟨h1, h2⟩
theorem cF_err {d : Int × Int} {x : Msr} (hd : dErr d = 0) (hx : mErr x = 0) : (mErr (cF d x) != 0) = !cOk (cF d x) := by
 obtain ⟨hd1, hd2⟩ := dErr_ok hd
 have hx' := mErr_ok.1 hx
 by_cases h0 : x.1 = 0
 ·have hc : cF d x = (x.1, x.2.1, x.2.2.1, x.2.2.2.1 - d.2, x.2.2.2.2 - d.1) := by unfold cF; rw [if_pos h0]
  have key : mErr (cF d x) = 0 ↔ cOk (cF d x) = true := by
   rw [mErr_ok, hc]
   simp only [cOk, Bool.and_eq_true, win_iff]
   constructor
   ·exact fun h => ⟨h.2.1.2.2.1, h.2.1.2.2.2⟩
   ·exact fun h => ⟨hx'.1, ⟨hx'.2.1.1, hx'.2.1.2.1, h.1, h.2⟩, hx'.2.2.1, hx'.2.2.2.1, by have := hx'.2.2.2.2; omega⟩
  by_cases hm : mErr (cF d x) = 0
  ·rw [hm, key.1 hm]; rfl
  ·rw [show (mErr (cF d x) != 0) = true by simpa using hm]
   cases hq : cOk (cF d x) with
   | true => exact absurd (key.2 hq) hm
   | false => rfl
 ·have hc : cF d x = x := by unfold cF; rw [if_neg h0]
  rw [hc, hx]
  have : cOk x = true := by simp only [cOk, Bool.and_eq_true, win_iff]; exact ⟨hx'.2.1.2.2.1, hx'.2.1.2.2.2⟩
  rw [this]; rfl
theorem loop56 (l : List Msr) (d : Int × Int) (hl : l.length ≤ 1000) (hd : dErr d = 0) (hv : ∀ x ∈ l, mErr x = 0) : ∀ (m k : Nat) (out : List Msr), k + m = l.length → out.length = k →
 loopVal step56_0 (out, l, (l.length : Int), (k : Int), d) = some (match co d (l.drop k) out with | none => .inl ([], 8) | some o => .inr o) := by
 intro m
 induction m with
 | zero =>
   intro k out hk ho
   obtain rfl : k = l.length := by omega
   rw [List.drop_length]
   exact loopVal_last (by simp [step56_0, co])
 | succ m ih =>
   intro k out hk ho
   have hk' : k < l.length := by omega
   obtain ⟨hd1, hd2⟩ := dErr_ok hd
   have hx := mErr_ok.1 (hv _ (getD_mem (0, 0, 0, 0, 0) hk'))
   have hs : step56_0 (out, l, (l.length : Int), (k : Int), d) = bif cOk (cF d (l.getD k (0, 0, 0, 0, 0))) then some (.inl (out ++ [cF d (l.getD k (0, 0, 0, 0, 0))], l, (l.length : Int), ((k + 1 : Nat) : Int), d)) else some (.inr (.inl ([], 8))) := by
    obtain ⟨x, hn⟩ : ∃ x : Msr, l.getD k (0, 0, 0, 0, 0) = x := ⟨_, rfl⟩
    rw [hn] at hx
    simp only [step56_0, hn, lt_cast, inB_cast, hk', decide_true, cond_true, Int.toNat_natCast, wr_succ (show k < 4611686018427387904 by omega), room_true (b := 40) (n := out.length + 1) (by omega) (by omega)]
    rw [wr_id (n := -100000) (by omega) (by omega), wr_id (n := x.2.2.2.1 - d.2) (by omega) (by omega), wr_id (n := x.2.2.2.2 - d.1) (by omega) (by omega)]
    by_cases h0 : x.1 = 0
    ·have hc : cF d x = (x.1, x.2.1, x.2.2.1, x.2.2.2.1 - d.2, x.2.2.2.2 - d.1) := by unfold cF; rw [if_pos h0]
     rw [show (x.1 == 0) = true by simpa using h0, hc]
     simp only [cOk, cond_true]
     cases win (x.2.2.2.1 - d.2) (-100000) 100000 <;> cases win (x.2.2.2.2 - d.1) (-100000) 100000 <;> rfl
    ·have hc : cF d x = x := by unfold cF; rw [if_neg h0]
     rw [show (x.1 == 0) = false by simpa using h0, hc]
     simp only [cOk, cond_false]
     cases win x.2.2.2.1 (-100000) 100000 <;> cases win x.2.2.2.2 (-100000) 100000 <;> rfl
   rw [getD_drop l (0, 0, 0, 0, 0) hk', co]
   cases hb : cOk (cF d (l.getD k (0, 0, 0, 0, 0))) with
   | true => rw [hb, cond_true] at hs; rw [loopVal_next hs, cond_true]; exact ih (k + 1) _ (by omega) (by simp [ho])
   | false => rw [hb, cond_false] at hs; rw [loopVal_last hs, cond_false]
theorem getD_at {α : Type} (a : List α) (x : α) (b : List α) (d : α) : (a ++ x :: b).getD a.length d = x := by simp [List.getD_eq_getElem?_getD]
theorem set_at {α : Type} (a : List α) (x y : α) (b : List α) : (a ++ x :: b).set a.length y = a ++ y :: b := by simp [List.set_append]
theorem loop60 (l : List Msr) (d : Int × Int) (hl : l.length ≤ 1000) (hd : dErr d = 0) (hv : ∀ x ∈ l, mErr x = 0) : ∀ (m k : Nat) (done : List Msr), k + m = l.length → done.length = k →
 loopVal step60_0 (l, done ++ l.drop k, (k : Int), d) = some (match co d (l.drop k) done with | none => .inl ([], false) | some o => .inr o) := by
 intro m
 induction m with
 | zero =>
   intro k done hk ho
   obtain rfl : k = l.length := by omega
   rw [List.drop_length, List.append_nil]
   exact loopVal_last (by simp [step60_0, co, ho])
 | succ m ih =>
   intro k done hk ho
   have hk' : k < l.length := by omega
   obtain ⟨hd1, hd2⟩ := dErr_ok hd
   have hm0 := hv _ (getD_mem (0, 0, 0, 0, 0) hk')
   have hx := mErr_ok.1 hm0
   rw [getD_drop l (0, 0, 0, 0, 0) hk', co]
   have hs : step60_0 (l, done ++ l.getD k (0, 0, 0, 0, 0) :: l.drop (k + 1), (k : Int), d) = bif cOk (cF d (l.getD k (0, 0, 0, 0, 0))) then some (.inl (l, (done ++ [cF d (l.getD k (0, 0, 0, 0, 0))]) ++ l.drop (k + 1), ((k + 1 : Nat) : Int), d)) else some (.inr (.inl ([], false))) := by
    obtain ⟨x, hn⟩ : ∃ x : Msr, l.getD k (0, 0, 0, 0, 0) = x := ⟨_, rfl⟩
    rw [hn] at hx hm0 ⊢
    have hlen : (done ++ x :: l.drop (k + 1)).length = l.length := by simp; omega
    have hce := cF_err hd hm0
    have hg : (done ++ x :: l.drop (k + 1)).getD k (0, 0, 0, 0, 0) = x := by rw [← ho]; exact getD_at _ _ _ _
    have hset : ∀ y, (done ++ x :: l.drop (k + 1)).set k y = done ++ y :: l.drop (k + 1) := fun y => by
     conv => lhs; rw [← ho]
     rw [ho]
     have := set_at done (x) y (l.drop (k + 1))
     rw [ho] at this
     exact this
    have hg2 : ∀ y, (done ++ y :: l.drop (k + 1)).getD k (0, 0, 0, 0, 0) = y := fun y => by
     have := getD_at done y (l.drop (k + 1)) (0, 0, 0, 0, 0)
     rwa [ho] at this
    have hlen2 : ∀ y, (done ++ y :: l.drop (k + 1)).length = l.length := fun y => by simp; omega
    simp only [step60_0, hn, lt_cast, inB_cast, hlen, hk', decide_true, cond_true, Int.toNat_natCast, hset, hg, hg2, hlen2, wr_succ (show k < 4611686018427387904 by omega)]
    rw [wr_id (n := x.2.2.2.1 - d.2) (by omega) (by omega), wr_id (n := x.2.2.2.2 - d.1) (by omega) (by omega), List.append_assoc]
    by_cases h0 : x.1 = 0
    ·have hc : cF d x = (x.1, x.2.1, x.2.2.1, x.2.2.2.1 - d.2, x.2.2.2.2 - d.1) := by unfold cF; rw [if_pos h0]
     rw [hc] at hce ⊢
     rw [show (x.1 == 0) = true by simpa using h0, cond_true, hce]
     cases cOk (x.1, x.2.1, x.2.2.1, x.2.2.2.1 - d.2, x.2.2.2.2 - d.1) <;> rfl
    ·have hc : cF d x = x := by unfold cF; rw [if_neg h0]
     rw [hc] at hce ⊢
     rw [show (x.1 == 0) = false by simpa using h0, cond_false, hce]
     cases cOk x <;> rfl
   cases hb : cOk (cF d (l.getD k (0, 0, 0, 0, 0))) with
   | true => rw [hb, cond_true] at hs; rw [loopVal_next hs, cond_true]; exact ih (k + 1) _ (by omega) (by simp [ho])
   | false => rw [hb, cond_false] at hs; rw [loopVal_last hs, cond_false]
theorem same_self (l : List Msr) (hl : l.length ≤ 1000000) : s61 (l, l) = some true := by
 unfold s61
 have h1 := loop_for (step := step61_0) (st := fun k => (l, l, (k : Int))) (n := l.length) (e := .inr ())
  (fun k hk => by
    simp only [step61_0, lt_cast, inB_cast, hk, decide_true, cond_true, Int.toNat_natCast, wr_succ (show k < 4611686018427387904 by omega), beq_self_eq_true, Bool.and_self, Bool.not_true, cond_false]) (by simp [step61_0]) 0 (by omega)
 rw [show ((0 : Nat) : Int) = 0 from rfl] at h1
 simp only [h1, bne_self_eq_false, cond_false]
 rfl
theorem co_len (d : Int × Int) : ∀ {l o r : List Msr}, co d l o = some r → r.length = l.length + o.length
 | [], o, r, h => by obtain rfl := Option.some.inj h; simp
 | x :: l, o, r, h => by
   rw [co] at h
   cases hb : cOk (cF d x) with
   | true => rw [hb, cond_true] at h; have := co_len d h; simp at this ⊢; omega
   | false => rw [hb, cond_false] at h; cases h
theorem corrected_facts (m : List Msr) (d : Int × Int) (hl : m.length ≤ 1000) : s23 m = some (chkM m).2 ∧ s59 d = some (dErr d) ∧
 (((chkM m).2 ≠ 0 ∧ s56 (m, d) = some ([], (chkM m).2)) ∨ ((chkM m).2 = 0 ∧ dErr d ≠ 0 ∧ s56 (m, d) = some ([], dErr d)) ∨
   ((chkM m).2 = 0 ∧ dErr d = 0 ∧ ((s56 (m, d) = some ([], 8) ∧ s60 (m, d) = some ([], false)) ∨ ∃ o : List Msr, o.length ≤ 1000 ∧ s56 (m, d) = some (o, 0) ∧ s60 (m, d) = some (o, true)))) := by
 have e1 : wr (-100000) = -100000 := rfl
 have hE : s56 (m, d) = bif firstE [(chkM m).2, dErr d] != 0 then some ([], firstE [(chkM m).2, dErr d]) else optE (loopVal step56_0 ([], m, (m.length : Int), 0, d)) (fun e2 => sumE e2 (fun e3 => some e3) (fun e4 => some (e4, 0))) none := by
  unfold s56
  simp only [chk1, optE_some, e1, dErr]
  cases hc : (chkM m).2 != 0
  ·have hc : (chkM m).2 = 0 := by simpa using hc
   rw [hc]
   cases win d.1 (-100000) 100000 <;> cases win d.2 (-100000) 100000 <;> cases decide (d.1 ≤ d.2) <;> rfl
  ·have hh : ∀ r, firstE ((chkM m).2 :: r) = (chkM m).2 := fun r => by simp only [firstE, hc, cond_true]
   simp only [hh, hc, cond_true]
   cases win d.1 (-100000) 100000 <;> rfl
 refine ⟨by unfold s23; simp only [chk2, optE_some], ?_, ?_⟩
 ·unfold s59 dErr
  rw [dec_gt]
  cases win d.1 (-100000) 100000 <;> cases win d.2 (-100000) 100000 <;> cases decide (d.1 ≤ d.2) <;> rfl
 ·by_cases hc : (chkM m).2 = 0
  ·right
   rw [hc] at hE
   by_cases hd : dErr d = 0
   ·right
    have hv := ((chkE_zero mErr (0, 0, 0, 0, 0) 12 m).1 hc).2
    have h56 := loop56 m d hl hd hv m.length 0 [] (by omega) rfl
    have h60 := loop60 m d hl hd hv m.length 0 [] (by omega) rfl
    rw [show ((0 : Nat) : Int) = 0 from rfl, List.drop_zero] at h56 h60
    rw [List.nil_append] at h60
    rw [hd, h56] at hE
    have h6 : s60 (m, d) = some (match co d m [] with | none => ([], false) | some o => (o, true)) := by
     unfold s60
     simp only [copyM m (by omega), optE_some, h60]
     cases co d m [] <;> rfl
    refine ⟨hc, hd, ?_⟩
    cases ho : co d m [] with
    | none => rw [ho] at hE h6; exact .inl ⟨hE, h6⟩
    | some o => rw [ho] at hE h6; exact .inr ⟨o, by have := co_len d ho; simp at this; omega, hE, h6⟩
   ·left
    refine ⟨hc, hd, ?_⟩
    have : firstE [0, dErr d] = dErr d := by
     have hb : (dErr d != 0) = true := by simpa using hd
     simp only [firstE, bne_self_eq_false, cond_false, hb, cond_true]
    rw [this, show (dErr d != 0) = true by simpa using hd] at hE
    exact hE
  ·left
   refine ⟨hc, ?_⟩
   have hb : ((chkM m).2 != 0) = true := by simpa using hc
   have hh : ∀ r, firstE ((chkM m).2 :: r) = (chkM m).2 := fun r => by simp only [firstE, hb, cond_true]
   rw [hh, hb] at hE
   exact hE
theorem delays_true (x : List Lp × List Msr × (Int × Int)) : s12 x = some true := by
 obtain ⟨l, m, d⟩ := x
 unfold s12
 simp only [Bool.not_true, cond_false]
 cases hl : decide ((l.length : Int) > 14)
 case true => rfl
 cases hm : decide ((m.length : Int) > 14)
 case true => rfl
 have hl : ¬ (l.length : Int) > 14 := by simpa using hl
 have hm : ¬ (m.length : Int) > 14 := by simpa using hm
 obtain ⟨e, h1, h2⟩ := delay_facts l (by omega)
 obtain ⟨c1, c2, c3⟩ := corrected_facts m d (by omega)
 simp only [copyL l (by omega), copyM m (by omega), optE_some, cond_false, h1, c1, c2]
 rcases h2 with ⟨he, h2⟩ | ⟨he, o, h3, h2⟩
 ·have he' : (e != 0) = true := by simpa using he
  rcases c3 with ⟨hc, c3⟩ | ⟨hc, hd, c3⟩ | ⟨hc, hd, ⟨c3, c4⟩ | ⟨r, hr, c3, c4⟩⟩
  ·have hc' : ((chkM m).2 != 0) = true := by simpa using hc
   have hc'' : ((chkM m).2 == 0) = false := by simpa using hc
   simp [h2, c3, optE_some, he', hc', hc'']
  ·have hd' : (dErr d != 0) = true := by simpa using hd
   simp [h2, c3, optE_some, he', hc, hd']
  ·simp [h2, c3, c4, optE_some, he', hc, hd]
  ·simp [h2, c3, c4, optE_some, he', hc, hd, same_self r (by omega)]
 ·subst he
  rcases c3 with ⟨hc, c3⟩ | ⟨hc, hd, c3⟩ | ⟨hc, hd, ⟨c3, c4⟩ | ⟨r, hr, c3, c4⟩⟩
  ·have hc' : ((chkM m).2 != 0) = true := by simpa using hc
   have hc'' : ((chkM m).2 == 0) = false := by simpa using hc
   cases ho : decide (o.1 ≤ o.2) <;> rw [ho] at h2 h3 <;> simp [h2, h3, c3, optE_some, hc', hc'']
  ·have hd' : (dErr d != 0) = true := by simpa using hd
   cases ho : decide (o.1 ≤ o.2) <;> rw [ho] at h2 h3 <;> simp [h2, h3, c3, optE_some, hc, hd']
  ·cases ho : decide (o.1 ≤ o.2) <;> rw [ho] at h2 h3 <;> simp [h2, h3, c3, c4, optE_some, hc, hd]
  ·cases ho : decide (o.1 ≤ o.2) <;> rw [ho] at h2 h3 <;> simp [h2, h3, c3, c4, optE_some, hc, hd, same_self r (by omega)]
end Go.Proofs.YtfmfiflpokogiaaDoor
