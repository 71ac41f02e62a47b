/- The statement TopRangingEncloses holds of what the program computes. -/
import Derived.Test.YtfpppijfkeidgaaGreatDoorEncdLaw
import Derived.Test.YtfpppijfkeidgaaGreatDoorMeasBack
set_option linter.unusedSimpArgs false
namespace Go.Proofs.YtfpppijfkeidgaaGreatDoor
open Go.Ev
theorem delay_in {D : Int} : ∀ (l : List Lp) (o : Int × Int), o.1 ≤ D → D ≤ o.2 → (∀ x ∈ l, lErr x = 0 ∧ x.2.1 ≤ x.1 + D ∧ x.1 + D ≤ x.2.2) → ∃ r, dl l o = .inr r ∧ r.1 ≤ D ∧ D ≤ r.2 ∧ o.1 ≤ r.1 ∧ r.2 ≤ o.2
 | [], o, h1, h2, _ => ⟨o, rfl, h1, h2, Int.le_refl _, Int.le_refl _⟩
 | x :: l, o, h1, h2, h => by
   obtain ⟨a, b, c⟩ := h x List.mem_cons_self
   have hd : (dF o x).1 ≤ D ∧ D ≤ (dF o x).2 ∧ o.1 ≤ (dF o x).1 ∧ (dF o x).2 ≤ o.2 := by
    unfold dF mx mn
    refine ⟨?_, ?_, ?_, ?_⟩ <;> simp only <;> split <;> omega
   obtain ⟨r, r1, r2, r3, r4, r5⟩ := delay_in l (dF o x) hd.1 hd.2.1 (fun y hy => h y (List.mem_cons_of_mem _ hy))
   exact ⟨r, by rw [dl, a]; exact r1, r2, r3, by omega, by omega⟩
theorem dl_ok : ∀ {l : List Lp} {o r : Int × Int}, dl l o = .inr r → ∀ x ∈ l, lErr x = 0
 | [], _, _, _, x, hx => by cases hx
 | y :: l, o, r, h, x, hx => by
   rw [dl] at h
   cases hb : lErr y != 0 with
   | true => rw [hb, cond_true] at h; cases h
   | false =>
     rw [hb, cond_false] at h
     rcases List.mem_cons.1 hx with rfl | hx
     ·simpa using hb
     ·exact dl_ok h x hx
theorem loops_eq (l : List Lp) : ∃ e, s6 l = some e ∧ (e = 0 → 0 < l.length ∧ l.length ≤ 12 ∧ ∀ x ∈ l, lErr x = 0) := by
 unfold s6
 by_cases h0 : (l.length : Int) = 0
 ·refine ⟨10, by rw [show ((l.length : Int) == 0) = true by simpa using h0]; rfl, fun h => by cases h⟩
 rw [show ((l.length : Int) == 0) = false by simpa using h0]
 by_cases h12 : (l.length : Int) > 12
 ·rw [decide_eq_true h12]
  exact ⟨8, rfl, fun h => by cases h⟩
 rw [decide_eq_false h12]
 have h57 := loop57 l (by omega) l.length 0 ((-100000), 100000) (by omega)
 rw [List.drop_zero, show ((0 : Nat) : Int) = 0 from rfl] at h57
 simp only [cond_false, h57, optE_some]
 cases hd : dl l (-100000, 100000) with
 | inl e => exact ⟨e, rfl, fun h => absurd h (dl_error hd)⟩
 | inr o => exact ⟨0, rfl, fun _ => ⟨by omega, by omega, dl_ok hd⟩⟩
theorem delay_eq {l : List Lp} {D : Int} (h0 : 0 < l.length) (h12 : l.length ≤ 12) (hD : -100 ≤ D ∧ D ≤ 1000) (h : ∀ x ∈ l, lErr x = 0 ∧ x.2.1 ≤ x.1 + D ∧ x.1 + D ≤ x.2.2) :
 ∃ o : Int × Int, s9 l = some (o, 0) ∧ o.1 ≤ D ∧ D ≤ o.2 ∧ dErr o = 0 := by
 obtain ⟨o, o1, o2, o3, o4, o5⟩ := delay_in l (-100000, 100000) (by simp only; omega) (by simp only; omega) h
 simp only at o4 o5
 have h54 := loop54 l (by omega) (0, 0) l.length 0 ((-100000), 100000) (by omega)
 rw [List.drop_zero, show ((0 : Nat) : Int) = 0 from rfl, o1] at h54
 refine ⟨o, ?_, o2, o3, ?_⟩
 ·unfold s9
  rw [decide_eq_true (show (l.length : Int) > 0 by omega), decide_eq_true (show (l.length : Int) ≤ 12 by omega)]
  have hf : (firstE [unl true 10, unl true 8] != 0) = false := rfl
  have hle : decide (o.1 ≤ o.2) = true := decide_eq_true (by omega)
  simp only [hf, cond_false, h54, optE_some, sumE_r, dec_gt, hle, Bool.not_true]
 ·unfold dErr
  rw [win_iff.2 (show -100000 ≤ o.1 ∧ o.1 ≤ 100000 by omega), win_iff.2 (show -100000 ≤ o.2 ∧ o.2 ≤ 100000 by omega), decide_eq_true (show o.1 ≤ o.2 by omega)]
  rfl
theorem co_map (d : Int × Int) : ∀ {l o r : List Msr}, co d l o = some r → r = o ++ l.map (cF d) ∧ ∀ x ∈ l, cOk (cF d x) = true
 | [], o, r, h => by
   obtain rfl := Option.some.inj h
   exact ⟨by simp, fun x hx => by cases hx⟩
 | x :: l, o, r, h => by
   rw [co] at h
   cases hb : cOk (cF d x) with
   | false => rw [hb, cond_false] at h; cases h
   | true =>
     rw [hb, cond_true] at h
     obtain ⟨h1, h2⟩ := co_map d h
     refine ⟨by rw [h1]; simp, fun y hy => ?_⟩
     rcases List.mem_cons.1 hy with rfl | hy
     ·exact hb
     ·exact h2 y hy
theorem corr_eq {m : List Msr} {d : Int × Int} (hl : m.length ≤ 1000) (hm : (chkM m).2 = 0) (hd : dErr d = 0) :
 s11 (m, d) = some ([], 8) ∨ (s11 (m, d) = some (m.map (cF d), 0) ∧ (chkM (m.map (cF d))).2 = 0) := by
 have e1 : wr (-100000) = -100000 := rfl
 have hE : s11 (m, d) = bif firstE [(chkM m).2, dErr d] != 0 then some ([], firstE [(chkM m).2, dErr d]) else optE (loopVal step11_0 ([], m, (m.length : Int), 0, d)) (fun e2 => sumE e2 (fun e3 => some e3) (fun e4 => some (e4, 0))) none := by
  unfold s11
  simp only [chk1, optE_some, e1, dErr, hm]
  cases win d.1 (-100000) 100000 <;> cases win d.2 (-100000) 100000 <;> cases decide (d.1 ≤ d.2) <;> rfl
 have hv := (chkE_zero mErr (0, 0, 0, 0, 0) 12 m).1 hm
 have h56 := loop56 m d hl hd hv.2 m.length 0 [] (by omega) rfl
 rw [show ((0 : Nat) : Int) = 0 from rfl, List.drop_zero] at h56
 rw [hd, hm, h56] at hE
 cases ho : co d m [] with
 | none => rw [ho] at hE; exact .inl hE
 | some o =>
   rw [ho] at hE
   obtain ⟨h1, h2⟩ := co_map d ho
   rw [List.nil_append] at h1
   subst h1
   refine .inr ⟨hE, (chkE_zero mErr (0, 0, 0, 0, 0) 12 _).2 ⟨by rw [List.length_map]; exact hv.1, fun y hy => ?_⟩⟩
   obtain ⟨x, hx, rfl⟩ := List.mem_map.1 hy
   have := cF_err hd (hv.2 x hx)
   rw [h2 x hx] at this
   simpa using this
theorem tl_bd {l : List Msr} (hv : ∀ m ∈ l, mErr m = 0) (T : List Tm) : ∀ (k : Nat) (s r : Int × Int × Int), Bd k s → tl l T s = .inr r → Bd (k + T.length) r := by
 induction T with
 | nil =>
   intro k s r hs h
   simp only [tl, Sum.inr.injEq] at h
   rw [← h, List.length_nil, Nat.add_zero]
   exact hs
 | cons t T ih =>
   intro k s r hs h
   simp only [tl] at h
   cases hb : tE l.length t != 0 with
   | true => rw [hb, cond_true] at h; cases h
   | false =>
     rw [hb, cond_false] at h
     have := ih (k + 1) _ r (hs.step hv (by simpa using hb)) h
     rw [List.length_cons, show k + (T.length + 1) = k + 1 + T.length by omega]
     exact this
theorem okP_facts' {l : List Msr} {c : Cl} (hc : clE c = 0) (hv : ∀ m ∈ l, mErr m = 0) {s : Int × Int × Int} (ht : tl l c.2.2.1 (0, 0, 0) = .inr s) : Bd 6 s := by
 obtain ⟨_, _, _, h4⟩ := clE_ok hc
 have h := tl_bd hv c.2.2.1 0 (0, 0, 0) s (by simp [Bd]) ht
 obtain ⟨h1, h2, h3⟩ := h
 unfold Bd
 omega
theorem check_z (l : List Msr) (c : Cl) (hl : l.length ≤ 1000) : s20 (l, c) = some (if (chkM l).2 ≠ 0 then (chkM l).2 else clV l c) := by
 unfold s20
 simp only [open_eq l hl, fracErr_eq, optE_some]
 by_cases hm : (chkM l).2 = 0
 ·have hv := (chkE_zero mErr (0, 0, 0, 0, 0) 12 l).1 hm
  rw [if_pos hm, if_neg (fun h => h hm)]
  dsimp only
  have hE : firstE [0, unl (win c.1.1 0 1000) 2, frE c.2.1 1000000000 1000000000, unl (win c.2.2.2 1 100000000) 2, unl (decide ((c.2.2.1.length : Int) ≤ 6)) 8] = clE c := rfl
  rw [hE]
  unfold clV
  by_cases hc : clE c = 0
  ·rw [if_neg (fun h => h hc), hc]
   obtain ⟨c1, ⟨_, c2, c3⟩, c4, c5⟩ := clE_ok hc
   have h65 := loop65 l c (by omega) hv.2 c.2.2.1 c5 c.2.2.1.length 0 (0, 0, 0) (by omega) (by simp [Bd])
   rw [show ((0 : Nat) : Int) = 0 from rfl, List.drop_zero] at h65
   simp only [bne_self_eq_false, cond_false, h65, optE_some]
   cases ht : tl l c.2.2.1 (0, 0, 0) with
   | inl e => rfl
   | inr s =>
     obtain ⟨b1, b2, b3⟩ := okP_facts' hc hv.2 ht
     simp only [sumE_r, asked_eq c1, optE_some]
     have m1 := mulB (a := sg c.1.2) (b := c.1.1) (A := 1) (B := 1000) (by unfold sg; split <;> omega) (by omega)
     have m2 := mulB (a := c.2.2.2) (b := sg c.1.2) (A := 100000000) (B := 1) (by omega) (by unfold sg; split <;> omega)
     have m3 := mulB (a := c.2.2.2) (b := sg c.1.2 * c.1.1) (A := 100000000) (B := 1000) (by omega) (by omega)
     rw [wr_id (n := c.2.2.2 * sg c.1.2) (by omega) (by omega), wr_id (n := c.2.2.2 * (sg c.1.2 * c.1.1)) (by omega) (by omega), wr_id (n := -c.2.1.1) (by omega) (by omega),
      exceeds_eq (a := s.2.2) (b := c.2.1.2) (c := -c.2.1.1) (d := c.2.2.2) (by omega) (by omega) (by omega) (by omega), exceeds_eq (a := s.2.2) (b := c.2.1.2) (c := c.2.1.1) (d := c.2.2.2) (by omega) (by omega) (by omega) (by omega)]
     simp only [optE_some]
     unfold okP
     rw [show sg c.1.2 * c.2.2.2 = c.2.2.2 * sg c.1.2 from Int.mul_comm _ _, show c.2.2.2 * sg c.1.2 * c.1.1 = c.2.2.2 * (sg c.1.2 * c.1.1) from Int.mul_assoc _ _ _]
     cases hu : c.1.2 with
     | false =>
       rw [show sg false * c.2.1.1 = -c.2.1.1 by unfold sg; simp]
       simp only [Bool.not_false, cond_true, Bool.and_true]
       cases s.1 == c.2.2.2 * sg false <;> cases s.2.1 == c.2.2.2 * (sg false * c.1.1) <;> cases decide (s.2.2 * c.2.1.2 > -c.2.1.1 * c.2.2.2) <;> rfl
     | true =>
       rw [show sg true * c.2.1.1 = c.2.1.1 by unfold sg; simp]
       simp only [Bool.not_true, cond_false, Bool.and_true]
       cases s.1 == c.2.2.2 * sg true <;> cases s.2.1 == c.2.2.2 * (sg true * c.1.1) <;> cases decide (s.2.2 * c.2.1.2 > c.2.1.1 * c.2.2.2) <;> rfl
  ·rw [if_pos hc, show (clE c != 0) = true by simpa using hc]
   rfl
 ·have hb : ((chkM l).2 != 0) = true := by simpa using hm
  have hh : ∀ r, firstE ((chkM l).2 :: r) = (chkM l).2 := fun r => by simp only [firstE, hb, cond_true]
  rw [if_neg hm, if_pos hm]
  simp only [hh, hb, cond_true]
def EncB (l : List Msr) (f : Vc) (y : (Fr × Int × Int) × Int) : Prop :=
 y.2 = 22 ∨ (y.2 = 0 ∧ ∃ c1 c2, bestF (-f.1, -f.2) (rwsF 0 l) (rwsF 0 l).length 0 none = some c1 ∧ bestF f (rwsF 0 l) (rwsF 0 l).length 0 none = some c2 ∧ some c1 ∈ candL (-f.1, -f.2) (rwsF 0 l) ∧ some c2 ∈ candL f (rwsF 0 l) ∧ y.1 = ((-(qOf c1).1, (qOf c1).2), qOf c2))
theorem enc_b (l : List Msr) (hl : l.length ≤ 100) (hv' : ∀ m ∈ l, mErr m = 0) {x : Fr × Fr} (hx : lnE x = 0) (hs : Sat x l) {f : Vc} (hf : Dir f) : ∃ y, s44 (l, f) = some y ∧ EncB l f y := by
 have hR := rws_ok hv' 0
 have hRw : ∀ r ∈ rwsF 0 l, RwOk r := fun r hr => rwOk_of (hR r hr)
 have hlen : (rwsF 0 l).length ≤ 1000 := by rw [rwsF_len]; omega
 obtain ⟨b1, e1, k1⟩ := possible_eq l hl hv'
 have hb1 : b1 = true := k1.2 (feas_not (hvs_ok hv') (feas_sat hx hs))
 subst hb1
 have hfo := opp_dir hf
 obtain ⟨s1, q1, _, g1⟩ := best_eq hfo.1 hRw hlen
 obtain ⟨s2, q2, _, g2⟩ := best_eq hf.1 hRw hlen
 have hop : s65 f = some (-f.1, -f.2) := opp_eq f (by have := hf.1.1; omega) (by have := hf.1.2; omega)
 have fr : ∀ c : Cd, CdOk c → 0 < c.2.1 → s67 (((c.1, c.2.1), c.2.2)) = some (qOf c) := fun c hc hp => by
  unfold s67
  obtain ⟨h1, h2⟩ := hc
  simp only [lowest1 (n := c.2.2) (d := c.2.1) hp (by omega) (by omega) (by omega), optE_some]
  rfl
 unfold s44
 simp only [e1, optE_some, rows_eq l (by omega) hv', hop, g1, g2, Bool.not_true, cond_false]
 rcases best_min (-f.1, -f.2) (rwsF 0 l) with ⟨z1, z2⟩ | ⟨c1, z1, z2, z3⟩
 ·rw [q1, z1]
  exact ⟨_, rfl, .inl rfl⟩
 ·rcases best_min f (rwsF 0 l) with ⟨y1, y2⟩ | ⟨c2, y1, y2, y3⟩
  ·rw [q1, z1, q2, y1]
   exact ⟨_, rfl, .inl rfl⟩
  ·have o1 := q_ok hv' hfo z2
   have w1 : wr (-(qOf c1).1) = -(qOf c1).1 := wr_id (by have := o1.1.1; omega) (by have := o1.1.1; omega)
   rw [q1, z1, q2, y1]
   simp only [encC, Bool.not_true, cond_false, fr c1 (cd_ok hv' hfo z2) (cand_pos z2), fr c2 (cd_ok hv' hf y2) (cand_pos y2), optE_some, w1]
   exact ⟨_, rfl, .inr ⟨rfl, c1, c2, z1, y1, z2, y2, rfl⟩⟩
theorem find_z (l : List Msr) (hl : l.length ≤ 12) (hc : (chkM l).2 = 0) (hv' : ∀ m ∈ l, mErr m = 0) {x : Fr × Fr} (hx : lnE x = 0) (hs : Sat x l) (q : Int × Bool) (ht : 0 ≤ q.1 ∧ q.1 ≤ 1000) {c : Cd}
 (hb : bestF (asF q) (rwsF 0 l) (rwsF 0 l).length 0 none = some c) : s19 (l, q) = some ((c.1, c.2.1), 0) := by
 have hR := rws_ok hv' 0
 have hRw : ∀ r ∈ rwsF 0 l, RwOk r := fun r hr => rwOk_of (hR r hr)
 have hlen : (rwsF 0 l).length ≤ 1000 := by rw [rwsF_len]; omega
 obtain ⟨b1, e1, k1⟩ := possible_eq l (by omega) hv'
 have hb1 : b1 = true := k1.2 (feas_not (hvs_ok hv') (feas_sat hx hs))
 subst hb1
 have hf := dir_asked ht
 obtain ⟨s2, q2, _, g2⟩ := best_eq hf.1 hRw hlen
 have hopen : s47 l = some (rwsF 0 l, 0) := by rw [open_eq l (by omega), if_pos hc]
 have hwin : win q.1 0 1000 = true := win_iff.2 (by omega)
 have hE : firstE [(0 : Int), unl true 2] = 0 := rfl
 have ha : s49 q = some (asF q) := asked_eq ht
 have he : encC s2 = (c, true) := by rw [q2, hb]; rfl
 unfold s19
 simp only [hopen, optE_some, hwin, hE, bne_self_eq_false, cond_false, e1, ha, g2, he, Bool.not_true]
end Go.Proofs.YtfpppijfkeidgaaGreatDoor
set_option linter.unusedSimpArgs false
set_option linter.unusedVariables false
set_option maxRecDepth 100000
namespace Go.Proofs.YtfpppijfkeidgaaGreatDoor
open Go.Ev
theorem fst_bad {α : Type} {f : α → Bool} {l : List α} (d : α) (h : l.all f = false) : ∃ j, j < l.length ∧ f (l.getD j d) = false ∧ ∀ i, i < j → f (l.getD i d) = true := by
 induction l with
 | nil => cases h
 | cons g l ih =>
   cases hg : f g with
   | false => exact ⟨0, by simp, by simpa using hg, fun j hj => by omega⟩
   | true =>
     rw [List.all_cons, hg, Bool.true_and] at h
     obtain ⟨i, h1, h2, h3⟩ := ih h
     refine ⟨i + 1, by simpa using h1, by simpa using h2, fun j hj => ?_⟩
     cases j with
     | zero => simpa using hg
     | succ j => simpa using h3 j (by omega)
theorem time_z (t : Int) : s7 t = some (bif win t 0 1000 then 0 else 2) := by
 unfold s7
 cases win t 0 1000 <;> rfl
theorem inT' {k n : Nat} (h : k < n) : inBounds (k : Int) n = true := by rw [inB_cast]; exact decide_eq_true h
abbrev Rp := Int × Int × Int × List (Int × Int) × List Int × List (Int × Int)
def Good (start speed delay : Int) (m : Msr) : Prop :=
 (m.1 = 0 ∧ m.2.2.2.1 ≤ start + m.2.2.1 * speed + delay ∧ start + m.2.2.1 * speed + delay ≤ m.2.2.2.2) ∨ (m.1 = 1 ∧ m.2.2.2.1 ≤ (m.2.2.1 - m.2.1) * speed ∧ (m.2.2.1 - m.2.1) * speed ≤ m.2.2.2.2)
structure Pass (x : Rp) : Prop where
 hs : 0 ≤ x.1 ∧ x.1 ≤ 20000
 hv : -20 ≤ x.2.1 ∧ x.2.1 ≤ 20
 hd : -100 ≤ x.2.2.1 ∧ x.2.2.1 ≤ 1000
 h0 : 0 < x.2.2.2.1.length
 h8 : x.2.2.2.1.length ≤ 8
 h4 : x.2.2.2.2.1.length ≤ 4
 h3 : x.2.2.2.2.2.length ≤ 3
def okE (e : Int × Int) : Bool := win e.1 0 1000 && win e.2 0 1000
theorem errs_loop (loops : List Lp) (time : Int) (x : Rp) (hl : x.2.2.2.1.length ≤ 8) : loopVal step3_0 (loops, time, 0, x) = some (bif x.2.2.2.1.all okE then .inr (loops, time, x) else .inl true) := by
 cases hall : x.2.2.2.1.all okE with
 | true =>
   have h := loop_for (step := step3_0) (st := fun k => (loops, time, (k : Int), x)) (n := x.2.2.2.1.length) (e := .inr (loops, time, x))
    (fun k hk => by
      have he := List.all_eq_true.1 hall _ (getD_mem (0, 0) hk)
      simp only [okE, Bool.and_eq_true] at he
      simp only [step3_0, lt_cast, inB_cast, decide_eq_true hk, cond_true, Int.toNat_natCast, he.1, he.2, Bool.not_true, cond_false, wr_succ (show k < 4611686018427387904 by omega)]) (by
      simp only [step3_0, lt_cast, Nat.lt_irrefl, decide_false, cond_false]) 0 (by omega)
   exact h
 | false =>
   obtain ⟨j, hj, hb, hg⟩ := fst_bad (0, 0) hall
   have h := loop_for (step := step3_0) (st := fun k => (loops, time, (k : Int), x)) (n := j) (e := .inl true)
    (fun k hk => by
      have he := hg k hk
      simp only [okE, Bool.and_eq_true] at he
      simp only [step3_0, lt_cast, inB_cast, decide_eq_true (show k < x.2.2.2.1.length by omega), cond_true, Int.toNat_natCast, he.1, he.2, Bool.not_true, cond_false, wr_succ (show k < 4611686018427387904 by omega)]) (by
      simp only [okE] at hb
      simp only [step3_0, lt_cast, inB_cast, decide_eq_true hj, cond_true, Int.toNat_natCast]
      cases h1 : win (x.2.2.2.1.getD j (0, 0)).1 0 1000 with
      | false => rfl
      | true =>
        rw [h1, Bool.true_and] at hb
        rw [hb]; rfl) 0 (by omega)
   exact h
def okL (delay : Int) (l : Lp) : Bool := win (wr (l.1 + delay)) l.2.1 l.2.2
theorem loops_loop (loops : List Lp) (time : Int) (x : Rp) (hl : loops.length ≤ 12) : loopVal step3_2 (loops, time, 0, x) = some (bif loops.all (okL x.2.2.1) then .inr (loops, time, x) else .inl true) := by
 cases hall : loops.all (okL x.2.2.1) with
 | true =>
   have h := loop_for (step := step3_2) (st := fun k => (loops, time, (k : Int), x)) (n := loops.length) (e := .inr (loops, time, x))
    (fun k hk => by
      have he := List.all_eq_true.1 hall _ (getD_mem (0, 0, 0) hk)
      simp only [okL] at he
      simp only [step3_2, lt_cast, inB_cast, decide_eq_true hk, cond_true, Int.toNat_natCast, he, Bool.not_true, cond_false, wr_succ (show k < 4611686018427387904 by omega)]) (by
      simp only [step3_2, lt_cast, Nat.lt_irrefl, decide_false, cond_false]) 0 (by omega)
   exact h
 | false =>
   obtain ⟨j, hj, hb, hg⟩ := fst_bad (0, 0, 0) hall
   have h := loop_for (step := step3_2) (st := fun k => (loops, time, (k : Int), x)) (n := j) (e := .inl true)
    (fun k hk => by
      have he := hg k hk
      simp only [okL] at he
      simp only [step3_2, lt_cast, inB_cast, decide_eq_true (show k < loops.length by omega), cond_true, Int.toNat_natCast, he, Bool.not_true, cond_false, wr_succ (show k < 4611686018427387904 by omega)]) (by
      simp only [okL] at hb
      simp only [step3_2, lt_cast, inB_cast, decide_eq_true hj, cond_true, Int.toNat_natCast, hb, Bool.not_false]) 0 (by omega)
   exact h
theorem err_at {x : Rp} (P : Pass x) (he : x.2.2.2.1.all okE = true) (i : Nat) (hi : i ≤ 100) : ∃ e : Int × Int, inBounds (Int.tmod (i : Int) (x.2.2.2.1.length : Int)) x.2.2.2.1.length = true ∧ x.2.2.2.1.getD (Int.tmod (i : Int) (x.2.2.2.1.length : Int)).toNat (0, 0) = e ∧ (0 ≤ e.1 ∧ e.1 ≤ 1000) ∧ 0 ≤ e.2 ∧ e.2 ≤ 1000 := by
 have h0 := P.h0
 have hm : Int.tmod (i : Int) (x.2.2.2.1.length : Int) = ((i % x.2.2.2.1.length : Nat) : Int) := by rw [Int.tmod_eq_emod_of_nonneg (by omega)]; rfl
 have hlt : i % x.2.2.2.1.length < x.2.2.2.1.length := Nat.mod_lt _ h0
 rw [hm]
 refine ⟨_, inT' hlt, rfl, ?_⟩
 rw [Int.toNat_natCast]
 have := List.all_eq_true.1 he _ (getD_mem (0, 0) hlt)
 simp only [okE, Bool.and_eq_true, win_iff] at this
 exact this
theorem dist_loop {x : Rp} (P : Pass x) (he : x.2.2.2.1.all okE = true) (loops : List Lp) (time : Int) : ∀ (n k : Nat) (raw : List Msr), k + n = x.2.2.2.2.1.length → raw.length = k → (∀ m ∈ raw, Good x.1 x.2.1 x.2.2.1 m) →
 ∃ e, loopVal step3_4 (loops, time, raw, (k : Int), x) = some e ∧ (e = .inl true ∨ ∃ r : List Msr, e = .inr (loops, time, r, x) ∧ r.length = x.2.2.2.2.1.length ∧ ∀ m ∈ r, Good x.1 x.2.1 x.2.2.1 m) := by
 intro n
 induction n with
 | zero =>
   intro k raw hk hr hg
   obtain rfl : k = x.2.2.2.2.1.length := by omega
   exact ⟨_, loopVal_last (e := .inr (loops, time, raw, x)) (by simp only [step3_4, lt_cast, Nat.lt_irrefl, decide_false, cond_false]), .inr ⟨raw, rfl, hr, hg⟩⟩
 | succ n ih =>
   intro k raw hk hr hg
   have hk' : k < x.2.2.2.2.1.length := by omega
   have h4 := P.h4
   obtain ⟨t, ht⟩ : ∃ t, x.2.2.2.2.1.getD k 0 = t := ⟨_, rfl⟩
   cases hw : win t 0 1000 with
   | false => exact ⟨_, loopVal_last (e := .inl true) (by
      simp only [step3_4, lt_cast, inB_cast, decide_eq_true hk', cond_true, Int.toNat_natCast, ht, time_z, hw, cond_false, optE_some]
      rfl), .inl rfl⟩
   | true =>
     have hw2 := win_iff.1 hw
     obtain ⟨e, e1, e2, e3, e4⟩ := err_at P he k (by omega)
     obtain ⟨s1, s2⟩ := P.hs
     obtain ⟨v1, v2⟩ := P.hv
     obtain ⟨d1, d2⟩ := P.hd
     have hp := mulB (a := t) (b := x.2.1) (A := 1000) (B := 20) (by omega) (by omega)
     have hl0 : ((x.2.2.2.1.length : Int) == 0) = false := beq_false_of_ne (by have := P.h0; omega)
     have hroom : room 40 (raw.length + 1) = true := room_true (by omega) (by omega)
     have hs : step3_4 (loops, time, raw, (k : Int), x) = some (.inl (loops, time, raw ++ [(0, 0, t, x.1 + t * x.2.1 + x.2.2.1 - e.1, x.1 + t * x.2.1 + x.2.2.1 + e.2)], ((k + 1 : Nat) : Int), x)) := by
      simp only [step3_4, lt_cast, inB_cast, decide_eq_true hk', cond_true, Int.toNat_natCast, ht, time_z, hw, optE_some, bne_self_eq_false, cond_false, hl0, Bool.not_false, e1, e2, hroom, wr_succ (show k < 4611686018427387904 by omega)]
      rw [wr_id (n := t * x.2.1) (by omega) (by omega), wr_id (n := x.1 + t * x.2.1) (by omega) (by omega), wr_id (n := x.1 + t * x.2.1 + x.2.2.1) (by omega) (by omega), wr_id (n := x.1 + t * x.2.1 + x.2.2.1 - e.1) (by omega) (by omega), wr_id (n := x.1 + t * x.2.1 + x.2.2.1 + e.2) (by omega) (by omega)]
     rw [loopVal_next hs]
     refine ih (k + 1) _ (by omega) (by simp; omega) fun m hm => ?_
     rcases List.mem_append.1 hm with hm | hm
     ·exact hg m hm
     ·obtain rfl := List.mem_singleton.1 hm
      exact .inl ⟨rfl, by simp only; omega, by simp only; omega⟩
theorem chg_loop {x : Rp} (P : Pass x) (he : x.2.2.2.1.all okE = true) (loops : List Lp) (time : Int) : ∀ (n k : Nat) (raw : List Msr), k + n = x.2.2.2.2.2.length → raw.length = x.2.2.2.2.1.length + k → (∀ m ∈ raw, Good x.1 x.2.1 x.2.2.1 m) →
 ∃ e, loopVal step3_6 (loops, time, raw, (k : Int), x) = some e ∧ (e = .inl true ∨ ∃ r : List Msr, e = .inr (loops, time, r, x) ∧ r.length ≤ 7 ∧ ∀ m ∈ r, Good x.1 x.2.1 x.2.2.1 m) := by
 intro n
 have h4 := P.h4
 have h3 := P.h3
 induction n with
 | zero =>
   intro k raw hk hr hg
   obtain rfl : k = x.2.2.2.2.2.length := by omega
   exact ⟨_, loopVal_last (e := .inr (loops, time, raw, x)) (by simp only [step3_6, lt_cast, Nat.lt_irrefl, decide_false, cond_false]), .inr ⟨raw, rfl, by omega, hg⟩⟩
 | succ n ih =>
   intro k raw hk hr hg
   have hk' : k < x.2.2.2.2.2.length := by omega
   obtain ⟨c, hc⟩ : ∃ c, x.2.2.2.2.2.getD k (0, 0) = c := ⟨_, rfl⟩
   cases hw : win c.1 0 1000 with
   | false => exact ⟨_, loopVal_last (e := .inl true) (by
      simp only [step3_6, lt_cast, inB_cast, decide_eq_true hk', cond_true, Int.toNat_natCast, hc, time_z, hw, cond_false, optE_some]
      rfl), .inl rfl⟩
   | true =>
   cases hw' : win c.2 0 1000 with
   | false => exact ⟨_, loopVal_last (e := .inl true) (by
      simp only [step3_6, lt_cast, inB_cast, decide_eq_true hk', cond_true, Int.toNat_natCast, hc, time_z, hw, hw', cond_false, optE_some, bne_self_eq_false]
      rfl), .inl rfl⟩
   | true =>
   by_cases hge : c.1 ≥ c.2
   ·exact ⟨_, loopVal_last (e := .inl true) (by
     simp only [step3_6, lt_cast, inB_cast, decide_eq_true hk', cond_true, Int.toNat_natCast, hc, time_z, hw, hw', cond_false, optE_some, bne_self_eq_false, decide_eq_true hge]), .inl rfl⟩
   ·have hw2 := win_iff.1 hw
    have hw3 := win_iff.1 hw'
    have wk : wr ((k : Int) + (x.2.2.2.2.1.length : Int)) = ((k + x.2.2.2.2.1.length : Nat) : Int) := by rw [wr_id (by omega) (by omega)]; omega
    obtain ⟨e, e1, e2, e3, e4⟩ := err_at P he (k + x.2.2.2.2.1.length) (by omega)
    obtain ⟨v1, v2⟩ := P.hv
    have hp := mulB (a := c.2 - c.1) (b := x.2.1) (A := 1000) (B := 20) (by omega) (by omega)
    have hl0 : ((x.2.2.2.1.length : Int) == 0) = false := beq_false_of_ne (by have := P.h0; omega)
    have hroom : room 40 (raw.length + 1) = true := room_true (by omega) (by omega)
    have hs : step3_6 (loops, time, raw, (k : Int), x) = some (.inl (loops, time, raw ++ [(1, c.1, c.2, (c.2 - c.1) * x.2.1 - e.1, (c.2 - c.1) * x.2.1 + e.2)], ((k + 1 : Nat) : Int), x)) := by
     simp only [step3_6, lt_cast, inB_cast, decide_eq_true hk', cond_true, Int.toNat_natCast, hc, time_z, hw, hw', optE_some, bne_self_eq_false, cond_false, decide_eq_false hge, hl0, Bool.not_false, wk, e1, e2, hroom, wr_succ (show k < 4611686018427387904 by omega)]
     rw [wr_id (n := c.2 - c.1) (by omega) (by omega), wr_id (n := (c.2 - c.1) * x.2.1) (by omega) (by omega), wr_id (n := (c.2 - c.1) * x.2.1 - e.1) (by omega) (by omega), wr_id (n := (c.2 - c.1) * x.2.1 + e.2) (by omega) (by omega)]
    rw [loopVal_next hs]
    refine ih (k + 1) _ (by omega) (by simp; omega) fun m hm => ?_
    rcases List.mem_append.1 hm with hm | hm
    ·exact hg m hm
    ·obtain rfl := List.mem_singleton.1 hm
     exact .inr ⟨rfl, by simp only; omega, by simp only; omega⟩
theorem str_loop {l : List Msr} (hl : l.length ≤ 1000) (hv : ∀ m ∈ l, mErr m = 0) (time : Int) (x : Rp) : loopVal step3_8 (time, l, 0, x) = some (.inr (time, l, x)) := by
 have h := loop_for (step := step3_8) (st := fun k => (time, l, (k : Int), x)) (n := l.length) (e := .inr (time, l, x))
  (fun k hk => by
    have hm := hv _ (getD_mem (0, 0, 0, 0, 0) hk)
    generalize hk2 : l.getD k (0, 0, 0, 0, 0) = m at hm
    have ho := mErr_ok.1 hm
    have hi : inM m := by unfold inM inI; omega
    have hf := s14_eq m hi
    have hp := s13_eq (fmtM m) (fmtM_size m hi)
    rw [meas_back hm] at hp
    simp only [step3_8, lt_cast, inB_cast, decide_eq_true hk, cond_true, Int.toNat_natCast, hk2, hf, hp, optE_some, bne_self_eq_false, cond_false, beq_self_eq_true, Bool.and_self, Bool.not_true, wr_succ (show k < 4611686018427387904 by omega)]) (by
    simp only [step3_8, lt_cast, Nat.lt_irrefl, decide_false, cond_false]) 0 (by omega)
 exact h
theorem whole_pt {n : Int} (h : -100000 ≤ n ∧ n ≤ 100000) : ptE (n, 1) = 0 := by
 have hl : isLow (n, 1) = true := isLow_of (by omega) (by omega) (by rw [show (1 : Int).natAbs = 1 from rfl]; exact Nat.gcd_one_right _)
 unfold ptE frE
 rw [hl, show wr (-100000) = -100000 from rfl, win_iff.2 h]
 rfl
theorem whole_ln {a b : Int} (ha : -100000 ≤ a ∧ a ≤ 100000) (hb : -100000 ≤ b ∧ b ≤ 100000) : lnE ((a, 1), (b, 1)) = 0 := by
 unfold lnE
 simp only [whole_pt ha, whole_pt hb]
 rfl
theorem sat_of {start speed delay : Int} {raw : List Msr} {d : Int × Int} (hg : ∀ m ∈ raw, Good start speed delay m) (h1 : d.1 ≤ delay) (h2 : delay ≤ d.2) : Sat ((start, 1), (speed, 1)) (raw.map (cF d)) := by
 intro m' hm'
 obtain ⟨m, hm, rfl⟩ := List.mem_map.1 hm'
 have hdn : dn ((start, 1), (speed, 1)) = 1 := rfl
 rw [hdn, Int.mul_one, Int.mul_one]
 rcases hg m hm with ⟨k, a, b⟩ | ⟨k, a, b⟩
 ·have hc : cF d m = (m.1, m.2.1, m.2.2.1, m.2.2.2.1 - d.2, m.2.2.2.2 - d.1) := by unfold cF; rw [if_pos k]
  rw [hc]
  unfold ms
  rw [if_neg (by simp only; omega)]
  simp only [Int.mul_one]
  omega
 ·have hc : cF d m = m := by unfold cF; rw [if_neg (by omega)]
  rw [hc]
  unfold ms
  rw [if_pos k]
  simp only [Int.mul_one]
  omega
theorem between_z {y : Fr × Fr} {n : Int} (h1 : FOk y.1) (h2 : FOk y.2) (l1 : isLow y.1 = true) (l2 : isLow y.2 = true) (hn : -100000000 ≤ n ∧ n ≤ 100000000) (a : y.1.1 ≤ n * y.1.2) (b : n * y.2.2 ≤ y.2.1) : s18 (y, n) = some true := by
 obtain ⟨u1, u2⟩ := h1
 obtain ⟨u3, u4⟩ := h2
 obtain ⟨r1, f1, _, f2⟩ := comp_le (n := y.1.1) (d := y.1.2) (m := n) (k := 1) (by omega) (by omega) (by omega) (by omega) (by rw [Int.mul_one]; exact a)
 obtain ⟨r2, f3, _, f4⟩ := comp_le (n := n) (d := 1) (m := y.2.1) (k := y.2.2) (by omega) (by omega) (by omega) (by omega) (by rw [Int.mul_one]; exact b)
 simp only [s18, isLowest_eq, l1, l2, optE_some, cond_true, f1, f2, f3, f4]
theorem enc_between {l : List Msr} (hl : l.length ≤ 100) (hv' : ∀ m ∈ l, mErr m = 0) {x : Fr × Fr} (hx : lnE x = 0) (hd1 : dn x = 1) (hs : Sat x l) {f : Vc} (hf : Dir f) {N : Int} (hN : lhs x f.1 f.2 = N) (hNb : -100000000 ≤ N ∧ N ≤ 100000000) :
 ∃ y, s44 (l, f) = some y ∧ (y.2 = 22 ∨ (y.2 = 0 ∧ s18 (y.1, N) = some true ∧ ∃ c1 c2, bestF (-f.1, -f.2) (rwsF 0 l) (rwsF 0 l).length 0 none = some c1 ∧ bestF f (rwsF 0 l) (rwsF 0 l).length 0 none = some c2 ∧ some c1 ∈ candL (-f.1, -f.2) (rwsF 0 l) ∧ some c2 ∈ candL f (rwsF 0 l) ∧ y.1 = ((-(qOf c1).1, (qOf c1).2), qOf c2))) := by
 obtain ⟨y, h1, h2⟩ := enc_b l hl hv' hx hs hf
 refine ⟨y, h1, ?_⟩
 rcases h2 with h | ⟨h, c1, c2, z1, z2, z3, z4, z5⟩
 ·exact .inl h
 ·refine .inr ⟨h, ?_, c1, c2, z1, z2, z3, z4, z5⟩
  obtain ⟨o1, o2, _⟩ := q_ok hv' (opp_dir hf) z3
  obtain ⟨o3, o4, _⟩ := q_ok hv' hf z4
  have b1 := bound_line hv' hs (opp_dir hf) z3
  have b2 := bound_line hv' hs hf z4
  simp only at b1 b2
  have lneg : lhs x (-f.1) (-f.2) = -N := by rw [← hN]; unfold lhs; grind
  rw [lneg, hd1, Int.mul_one, Int.neg_mul] at b1
  rw [hN, hd1, Int.mul_one] at b2
  have on : FOk (-(qOf c1).1, (qOf c1).2) := by obtain ⟨u1, u2⟩ := o1; unfold FOk; simp only; omega
  rw [z5]
  exact between_z on o3 (isLow_neg o2 (by have := o1.2; omega)) o4 hNb (by simp only; omega) b2
theorem proof_loop {l : List Msr} (hl : l.length ≤ 12) (hc : (chkM l).2 = 0) (hv' : ∀ m ∈ l, mErr m = 0) {x : Fr × Fr} (hx : lnE x = 0) (hs : Sat x l) {time : Int} (ht : 0 ≤ time ∧ time ≤ 1000) {c1 c2 : Cd}
 (z1 : bestF (-1, -time) (rwsF 0 l) (rwsF 0 l).length 0 none = some c1) (z2 : bestF (1, time) (rwsF 0 l) (rwsF 0 l).length 0 none = some c2) (z3 : some c1 ∈ candL (-1, -time) (rwsF 0 l)) (z4 : some c2 ∈ candL (1, time) (rwsF 0 l)) :
 loopVal step3_10 (time, l, 0, ((-(qOf c1).1, (qOf c1).2), qOf c2)) = some (.inr ()) := by
 have a0 : asF (time, false) = (-1, -time) := by simp [asF, sg]
 have a1 : asF (time, true) = (1, time) := by simp [asF, sg]
 rw [← a0] at z1 z3
 rw [← a1] at z2 z4
 have f0 := find_z l hl hc hv' hx hs (time, false) ht z1
 have f1 := find_z l hl hc hv' hx hs (time, true) ht z2
 obtain ⟨o1, o2, o3⟩ := q_ok hv' (dir_asked (q := (time, false)) ht) z3
 obtain ⟨o4, o5, o6⟩ := q_ok hv' (dir_asked (q := (time, true)) ht) z4
 have l0 := (cand_tl hv' (dir_asked (q := (time, false)) ht) z3).2
 have l1 := (cand_tl hv' (dir_asked (q := (time, true)) ht) z4).2
 have w0 := cl_own hv' (q := (time, false)) ht z3 o1 o2 o3.symm
 have w1 := cl_own hv' (q := (time, true)) ht z4 o4 o5 o6.symm
 simp only [show ∀ a : Int, sg false * a = -a from fun a => by unfold sg; simp] at w0
 simp only [show ∀ a : Int, sg true * a = a from fun a => by unfold sg; simp] at w1
 have cp := copyM l (by omega)
 have k0 : ∀ y, s20 (l, ((time, false), y, c1.1, c1.2.1)) = some (clV l ((time, false), y, c1.1, c1.2.1)) := fun y => by
  rw [check_z l _ (by omega), if_neg (fun h => h hc)]
 have k1 : ∀ y, s20 (l, ((time, true), y, c2.1, c2.2.1)) = some (clV l ((time, true), y, c2.1, c2.2.1)) := fun y => by
  rw [check_z l _ (by omega), if_neg (fun h => h hc)]
 have p0 := copyC ((time, false), (-(qOf c1).1, (qOf c1).2), c1.1, c1.2.1) (by simp only; omega)
 have p1 := copyC ((time, true), qOf c2, c2.1, c2.2.1) (by simp only; omega)
 have s0 : step3_10 (time, l, 0, ((-(qOf c1).1, (qOf c1).2), qOf c2)) = some (.inl (time, l, 1, ((-(qOf c1).1, (qOf c1).2), qOf c2))) := by
  simp only [step3_10, cp, optE_some, show ((0 : Int) == 1) = false from rfl, f0, bne_self_eq_false, cond_false, decide_eq_true (show (0 : Int) < 2 by omega), cond_true, decide_eq_false (show ¬ (c1.1.length : Int) > 2 by omega), show (inBounds 0 2 && true) = true from rfl, show ([((-(qOf c1).1, (qOf c1).2) : Fr), qOf c2].getD (Int.toNat 0) (0, 0)) = (-(qOf c1).1, (qOf c1).2) from rfl, p0, k0, w0, show wr (0 + 1) = 1 from rfl]
 have s1 : step3_10 (time, l, 1, ((-(qOf c1).1, (qOf c1).2), qOf c2)) = some (.inl (time, l, 2, ((-(qOf c1).1, (qOf c1).2), qOf c2))) := by
  simp only [step3_10, cp, optE_some, show ((1 : Int) == 1) = true from rfl, f1, bne_self_eq_false, cond_false, decide_eq_true (show (1 : Int) < 2 by omega), cond_true, decide_eq_false (show ¬ (c2.1.length : Int) > 2 by omega), show (inBounds 1 2 && true) = true from rfl, show ([((-(qOf c1).1, (qOf c1).2) : Fr), qOf c2].getD (Int.toNat 1) (0, 0)) = qOf c2 from rfl, p1, k1, w1, show wr (1 + 1) = 2 from rfl]
 rw [loopVal_next s0, loopVal_next s1]
 exact loopVal_last (by simp only [step3_10, decide_eq_false (show ¬ (2 : Int) < 2 by omega), cond_false])
theorem encl_true (x : Rp) (loops : List Lp) (time : Int) : s3 (x, loops, time) = some true := by
 unfold s3
 simp only [Bool.not_true, cond_false]
 cases w1 : win x.1 0 20000 with
 | false => rfl
 | true =>
 cases w2 : win x.2.1 (-20) 20 with
 | false => rfl
 | true =>
 cases w3 : win x.2.2.1 (-100) 1000 with
 | false => rfl
 | true =>
 simp only [Bool.not_true, cond_false]
 by_cases h0 : (x.2.2.2.1.length : Int) = 0
 ·rw [show ((x.2.2.2.1.length : Int) == 0) = true by simpa using h0]; rfl
 rw [show ((x.2.2.2.1.length : Int) == 0) = false by simpa using h0, cond_false]
 by_cases h8 : (x.2.2.2.1.length : Int) > 8
 ·rw [decide_eq_true h8]; rfl
 rw [decide_eq_false h8, cond_false]
 by_cases h4 : (x.2.2.2.2.1.length : Int) > 4
 ·rw [decide_eq_true h4]; rfl
 rw [decide_eq_false h4, cond_false]
 by_cases h3 : (x.2.2.2.2.2.length : Int) > 3
 ·rw [decide_eq_true h3]; rfl
 rw [decide_eq_false h3, cond_false]
 have P : Pass x := ⟨win_iff.1 w1, win_iff.1 w2, win_iff.1 w3, by omega, by omega, by omega, by omega⟩
 obtain ⟨e, l1, l2⟩ := loops_eq loops
 rw [l1]
 simp only [optE_some]
 by_cases he : e = 0
 case neg => rw [show (e != 0) = true by simpa using he]; rfl
 obtain ⟨k1, k2, k3⟩ := l2 he
 simp only [he, bne_self_eq_false, cond_false, time_z, optE_some]
 cases wt : win time 0 1000 with
 | false => rfl
 | true =>
 have ht := win_iff.1 wt
 simp only [cond_true, bne_self_eq_false, cond_false, errs_loop loops time x (by omega), optE_some]
 cases hE : x.2.2.2.1.all okE with
 | false => rfl
 | true =>
 simp only [cond_true, sumE_r, loops_loop loops time x k2, optE_some]
 cases hL : loops.all (okL x.2.2.1) with
 | false => rfl
 | true =>
 simp only [cond_true, sumE_r]
 obtain ⟨s1, s2⟩ := P.hs
 obtain ⟨v1, v2⟩ := P.hv
 obtain ⟨d1, d2⟩ := P.hd
 obtain ⟨r1, q1, g1⟩ := dist_loop P hE loops time x.2.2.2.2.1.length 0 [] (by omega) rfl (fun m hm => by cases hm)
 rw [show ((0 : Nat) : Int) = 0 from rfl] at q1
 rw [q1]
 rcases g1 with rfl | ⟨raw, rfl, g2, g3⟩
 ·rfl
 simp only [optE_some, sumE_r]
 obtain ⟨r2, q2, g4⟩ := chg_loop P hE loops time x.2.2.2.2.2.length 0 raw (by omega) (by omega) g3
 rw [show ((0 : Nat) : Int) = 0 from rfl] at q2
 rw [q2]
 rcases g4 with rfl | ⟨raw2, rfl, g5, g6⟩
 ·rfl
 simp only [optE_some, sumE_r, mErrs_eq]
 by_cases hm : (chkM raw2).2 = 0
 case neg => rw [show ((chkM raw2).2 != 0) = true by simpa using hm]; rfl
 obtain ⟨d, t1, t2, t3, t4⟩ := delay_eq k1 k2 ⟨d1, d2⟩ (fun y hy => by
  have a := k3 y hy
  obtain ⟨⟨b1, b2, b3⟩, b4⟩ := lErr_ok a
  have c := List.all_eq_true.1 hL y hy
  unfold okL at c
  rw [wr_id (by omega) (by omega)] at c
  have := win_iff.1 c
  exact ⟨a, by omega, by omega⟩)
 simp only [hm, bne_self_eq_false, cond_false, copyL loops (by omega), optE_some, t1, win_iff.2 ⟨t2, t3⟩, Bool.not_true, copyM raw2 (by omega)]
 rcases corr_eq (m := raw2) (d := d) (by omega) hm t4 with hc | ⟨hc, hv0⟩
 ·rw [hc]; rfl
 have hv := ((chkE_zero mErr (0, 0, 0, 0, 0) 12 (raw2.map (cF d))).1 hv0).2
 have hs := sat_of g6 t2 t3
 have hx := whole_ln (a := x.1) (b := x.2.1) (by omega) (by omega)
 have hlen : (raw2.map (cF d)).length = raw2.length := List.length_map _
 simp only [hc, optE_some, bne_self_eq_false, cond_false, hlen, hv0]
 have ho : ∀ l : List Msr, l = raw2.map (cF d) → l.length ≤ 7 := fun l h => by rw [h, hlen]; exact g5
 generalize hl : raw2.map (cF d) = l at hv0 hv hs hlen ho ⊢
 have hl7 := ho l rfl
 have d1 := dir_time ht
 have d2 := dir_speed
 have hp := mulB (a := time) (b := x.2.1) (A := 1000) (B := 20) (by omega) (by omega)
 have N1 : lhs ((x.1, 1), (x.2.1, 1)) 1 time = x.1 + time * x.2.1 := by unfold lhs; simp only [Int.mul_one, Int.one_mul]
 have N2 : lhs ((x.1, 1), (x.2.1, 1)) 0 1 = x.2.1 := by unfold lhs; simp only [Int.mul_one, Int.one_mul, Int.zero_mul, Int.zero_add]
 obtain ⟨y1, a1, r1⟩ := enc_between (by omega) hv hx rfl hs d1 N1 (by omega)
 obtain ⟨y2, a2, r2⟩ := enc_between (by omega) hv hx rfl hs d2 N2 (by omega)
 have e1 : s16 (l, time) = some y1 := by rw [distIn_good hv0 wt, a1]; rfl
 have e2 : s17 l = some y2 := by rw [speedOf_good hv0, a2]; rfl
 have e3 : s15 l = some ([], 12) := by
  obtain ⟨n1, n2⟩ := no_sets hx hv hs
  rw [contradicting_eq _ hv0, n1, n2]
 have u1 : wr (x.1 + wr (time * x.2.1)) = x.1 + time * x.2.1 := by rw [wr_id (n := time * x.2.1) (by omega) (by omega), wr_id (by omega) (by omega)]
 simp only [str_loop (show l.length ≤ 1000 by omega) hv time x, optE_some, sumE_r, copyM l (by omega), e1, e2, e3, bne_self_eq_false, cond_false, u1]
 have fin : (bif y1.2 != 0 then some (y1.2 == 22) else optE (s18 (y1.1, x.1 + time * x.2.1)) (fun r31 => bif !r31 then some false else optE (loopVal step3_10 (time, l, 0, y1.1)) (fun e32 => sumE e32 (fun e33 => some e33) (fun _ => some true)) none) none) = some true := by
  rcases r1 with h | ⟨h, b, c1, c2, z1, z2, z3, z4, z5⟩
  ·rw [h]; rfl
  ·have hpl := proof_loop (by omega) hv0 hv hx hs ht z1 z2 z3 z4
   rw [h, b]
   simp only [bne_self_eq_false, cond_false, optE_some, Bool.not_true]
   rw [z5, hpl]
   rfl
 rcases r2 with h | ⟨h, b, _⟩
 ·rw [h]
  simp only [show ((22 : Int) == 0) = false from rfl, show ((22 : Int) != 0) = true from rfl, cond_false, cond_true, bne_self_eq_false]
  exact fin
 ·rw [h, b]
  simp only [beq_self_eq_true, cond_true, optE_some, Bool.not_true, cond_false, bne_self_eq_false]
  exact fin
end Go.Proofs.YtfpppijfkeidgaaGreatDoor
