/- Motions are as specified. -/
import Derived.Test.YthabingkfmlbbaaRefInst
set_option linter.unusedSimpArgs false
set_option linter.unusedVariables false
set_option maxRecDepth 100000
namespace Go.Proofs.Ythabingkfmlbbaa
open Go.Ev
theorem ints_same (l : List Int) (hl : l.length ≤ 1000) : s14 (l, l) = some true := by
 have h := loop_for (step := step14_0) (st := fun k => (l, l, (k : Int))) (n := l.length) (e := .inr ())
  (fun k hk => by
    simp only [step14_0, lt_cast, inB_cast, dT hk, cond_true, Int.toNat_natCast, bne_self_eq_false, cond_false, wr_succ (show k < 4611686018427387904 by omega)])
  (by simp only [step14_0, lt_cast, Nat.lt_irrefl, decide_false, cond_false]) 0 (by omega)
 have h : loopVal step14_0 (l, l, 0) = some (.inr ()) := h
 simp only [s14, bne_self_eq_false, cond_false, h, optE_some, sumE_r]
theorem half_t {i j : Nat} (h : i + j < 4611686018427387904) : wr (Int.tdiv (wr ((i : Int) + (j : Int))) 2) = (((i + j) / 2 : Nat) : Int) := by
 rw [wr_id (n := (i : Int) + (j : Int)) (by omega) (by omega), tdiv_of (show (0 : Int) < 2 by omega), if_neg (by omega), wr_id (by omega) (by omega)]
 omega
section
variable {d : Dr} (hd : DOk d) {ts : List Int} (hA : AllT d ts) (hts : ts.length ≤ 12)
include hd hA hts
theorem ref_rate {r : Int} (h1 : 0 ≤ r) (h2 : r ≤ 40000) : ∃ x : List Int × Int × Bool, o13n12 (dr d r, ts) = some x ∧ (x.2.2 = true ↔ Feas d ts r) := by
 have hd' : DOk (dr d r) := hd.rate h1 h2
 have hT : TOk (dr d r) ts := TOk.of hd' hA
 have hv := feas_v hd' (ts := ts) (by omega)
 refine ⟨_, ref_z hd' hT hts, ?_⟩
 rcases refOut_spec hd' (ts := ts) (by omega) with ⟨a, out, _, b⟩ | ⟨a, b⟩
 ·rw [b]; exact ⟨fun _ => hv.1 a, fun _ => rfl⟩
 ·rw [b]; exact ⟨fun h => (by cases h), fun h => absurd (hv.2 h) a⟩
theorem rrate_loop {m : Nat} (hm : m ≤ 40000) (hf : ∀ k : Nat, k < 40001 → (m ≤ k ↔ Feas d ts k)) : ∀ (n i j : Nat) (r : Int), j - i = n → i ≤ m → m ≤ j → j ≤ 40000 → loopVal step15_0 (ts, (i : Int), (j : Int), dr d r) = some (m : Int) := by
 intro n
 induction n using Nat.strongRecOn with
 | _ n ih =>
   intro i j r hn hi hj hb
   by_cases hij : i < j
   ·obtain ⟨c, hc⟩ : ∃ c, (i + j) / 2 = c := ⟨_, rfl⟩
    have hmid := half_t (i := i) (j := j) (by omega)
    rw [hc] at hmid
    obtain ⟨x, x1, x2⟩ := ref_rate hd hA hts (r := (c : Int)) (by omega) (by omega)
    have g5 := hf c (by omega)
    by_cases hg : m ≤ c
    ·have hx : x.2.2 = true := x2.2 (g5.1 hg)
     have hs : step15_0 (ts, (i : Int), (j : Int), dr d r) = some (.inl (ts, (i : Int), ((c : Nat) : Int), dr d (c : Int))) := by
      simp only [step15_0, lt_cast, dT hij, cond_true, hmid, x1, optE_some, hx]
     rw [loopVal_next hs]
     exact ih (c - i) (by omega) i c _ rfl hi hg (by omega)
    ·have hx : x.2.2 = false := by
      cases h : x.2.2 with
      | false => rfl
      | true => exact absurd (g5.2 (x2.1 h)) hg
     have hs : step15_0 (ts, (i : Int), (j : Int), dr d r) = some (.inl (ts, ((c + 1 : Nat) : Int), (j : Int), dr d (c : Int))) := by
      simp only [step15_0, lt_cast, dT hij, cond_true, hmid, x1, optE_some, hx, cond_false, wr_succ (show c < 4611686018427387904 by omega)]
     rw [loopVal_next hs]
     exact ih (j - (c + 1)) (by omega) (c + 1) j _ rfl (by omega) hj hb
   ·have : i = m := by omega
    subst this
    have : j = i := by omega
    subst this
    refine loopVal_last ?_
    simp only [step15_0, lt_cast, Nat.lt_irrefl, decide_false, cond_false]
theorem rrate_z {m : Nat} (hm : m ≤ 40001) (hf : ∀ k : Nat, k < 40001 → (m ≤ k ↔ Feas d ts k)) : s15 (d, ts) = some (bif decide ((m : Int) > 40000) then (0, false) else ((m : Int), true)) := by
 obtain ⟨x, x1, x2⟩ := ref_rate hd hA hts (r := 40000) (by omega) (by omega)
 have x1 : o13n12 ((d.1, d.2.1, d.2.2.1, 40000), ts) = some x := x1
 have g := hf 40000 (by omega)
 by_cases h : m ≤ 40000
 ·have hx : x.2.2 = true := x2.2 (g.1 h)
  have hl := rrate_loop hd hA hts h hf 40000 0 40000 40000 rfl (by omega) h (Nat.le_refl _)
  have hl : loopVal step15_0 (ts, 0, 40000, (d.1, d.2.1, d.2.2.1, 40000)) = some (m : Int) := hl
  simp only [s15, x1, optE_some, hx, Bool.not_true, cond_false, hl, dF (show ¬ (m : Int) > 40000 by omega)]
 ·have hx : x.2.2 = false := by
   cases h' : x.2.2 with
   | false => rfl
   | true => exact absurd (g.2 (x2.1 h')) h
  simp only [s15, x1, optE_some, hx, Bool.not_false, cond_true, dT (show (m : Int) > 40000 by omega)]
end
theorem refused {d : Dr} {ts : List Int} {e : Int} (h : s28 (d, ts) = some e) (he : e ≠ 0) : s8 (d, ts) = some ([], 0, e) ∧ s10 (d, ts) = some (0, e) := by
 have hb : (e != 0) = true := bne_iff_ne.2 he
 exact ⟨by simp only [s8, h, optE_some, hb, cond_true], by simp only [s10, h, optE_some, hb, cond_true]⟩
theorem pathMotions_true (x : Dr × List Int) : s3 x = some true := by
 obtain ⟨d, ts⟩ := x
 have hz : ((0 : Int) != 0) = false := rfl
 have hz2 : ((0 : Int) == 0) = true := rfl
 have hroomy : ∃ b, s6 d = some b := by
  by_cases h0 : drvE d = 0
  ·have hd := DOk.of h0
   have hdz : (d.1 == 0) = false := beq_eq_false_iff_ne.2 (by have := hd.t1; omega)
   simp only [s6, s11_eq, optE_some, h0, hz, cond_false, hdz, Bool.not_false, cond_true]
   exact ⟨_, rfl⟩
  ·simp only [s6, s11_eq, optE_some, bne_iff_ne.2 h0, cond_true]
   exact ⟨_, rfl⟩
 obtain ⟨b, hb⟩ := hroomy
 unfold s3
 simp only [Bool.not_true, cond_false, hb, optE_some]
 cases b
 ·rfl
 simp only [Bool.not_true, cond_false]
 by_cases c1 : 12 < ts.length ∧ ts.length ≤ 40
 ·simp only [dT (show (ts.length : Int) > 12 by omega), dT (show (ts.length : Int) ≤ 40 by omega), cond_true]
 by_cases c2 : ts.length > 42
 ·simp only [dT (show (ts.length : Int) > 12 by omega), dF (show ¬ (ts.length : Int) ≤ 40 by omega), dT (show (ts.length : Int) > 42 by omega), cond_true, cond_false]
 have cts := s9_eq (l := ts) (by omega)
 have hDE := s11_eq d
 have hCD := s7_eq d
 have hd42 := dF (show ¬ (ts.length : Int) > 42 by omega)
 have hlen : (decide ((ts.length : Int) > 12) = true ∧ decide ((ts.length : Int) ≤ 40) = false) ∨ decide ((ts.length : Int) > 12) = false := by
  by_cases h : ts.length ≤ 12
  ·exact .inr (dF (by omega))
  ·exact .inl ⟨dT (by omega), dF (by omega)⟩
 obtain ⟨a1, a2, a3, a4⟩ := s28_eq (d := d) (l := ts) (by omega)
 obtain ⟨b1, b2, b3⟩ := s12_eq (d := d) (l := ts) (by omega)
 by_cases h0 : drvE d = 0
 case neg =>
  obtain ⟨p1, p2⟩ := refused (a1 h0) h0
  have e1 : (drvE d == 0) = false := beq_eq_false_iff_ne.2 h0
  have e2 : (drvE d != 0) = true := bne_iff_ne.2 h0
  rcases hlen with ⟨h1, h2⟩ | h1
  ·simp only [h1, h2, hd42, cond_true, cond_false, hCD, hDE, optE_some, cts, p1, p2, bne_self_eq_false, e1, e2, beq_self_eq_true, List.length_nil, Int.natCast_zero]
  ·simp only [h1, hd42, cond_true, cond_false, hCD, hDE, optE_some, cts, p1, p2, bne_self_eq_false, e1, e2, beq_self_eq_true, List.length_nil, Int.natCast_zero]
 have hd := DOk.of h0
 have bad : ∀ e : Int, e ≠ 0 → s28 (d, ts) = some e → s12 (d, ts) = some e → s3 (d, ts) = some true := by
  intro e he g1 g2
  obtain ⟨p1, p2⟩ := refused g1 he
  have e1 : (e == 0) = false := beq_eq_false_iff_ne.2 he
  have e2 : (e != 0) = true := bne_iff_ne.2 he
  unfold s3
  simp only [Bool.not_true, cond_false, hb, optE_some]
  rcases hlen with ⟨h1, h2⟩ | h1
  ·simp only [h1, h2, hd42, cond_true, cond_false, hCD, hDE, h0, optE_some, cts, p1, p2, g2, bne_self_eq_false, e1, e2, beq_self_eq_true, List.length_nil, Int.natCast_zero]
  ·simp only [h1, hd42, cond_true, cond_false, hCD, hDE, h0, optE_some, cts, p1, p2, g2, bne_self_eq_false, e1, e2, beq_self_eq_true, List.length_nil, Int.natCast_zero]
 have back : s3 (d, ts) = some true → _ := fun h => by
  unfold s3 at h
  simp only [Bool.not_true, cond_false, hb, optE_some] at h
  exact h
 refine back ?_
 by_cases hl : 40 < ts.length
 ·exact bad 8 (by omega) (a2 h0 hl) (b1 hl)
 by_cases hA : AllT d ts
 case neg => exact bad 2 (by omega) (a4 h0 (by omega) hA) (b3 (by omega) hA)
 have hts : ts.length ≤ 12 := by omega
 have hT := TOk.of hd hA
 have te := a3 h0 (by omega) hA
 have h1 : decide ((ts.length : Int) > 12) = false := dF (by omega)
 obtain ⟨m, m1, m2, m3⟩ := MinimumRate_z hd hA (by omega) te
 have m4 := rrate_z hd hA hts m1 m2
 have hR := ref_z hd hT hts
 unfold s3
 simp only [Bool.not_true, cond_false, cond_true, hb, optE_some, h1, hd42, hCD, hDE, h0, cts, bne_self_eq_false, beq_self_eq_true, b2 (by omega) hA, hz, m3, m4, hR]
 rcases Pointing_z hd hT (by omega) te with ⟨hv, hp⟩ | ⟨hv, out, hpath, hp⟩
 ·have hr : refOut d ts = ([], 0, false) := by
   rcases refOut_spec hd (ts := ts) (by omega) with ⟨a, _⟩ | ⟨_, b⟩
   ·omega
   ·exact b
  simp only [hp, hr, optE_some, cond_false, Bool.not_false, cond_true, bne_self_eq_false, List.length_nil, Int.natCast_zero, hz]
  cases decide ((m : Int) > 40000)
  ·simp
  ·simp
 ·have hr : refOut d ts = (out, VpD d ts d.2.2.1, true) := by
   rcases refOut_spec hd (ts := ts) (by omega) with ⟨a, out', hpath', b⟩ | ⟨a, _⟩
   ·rw [b, path_unique hpath' hpath]
   ·exact absurd hv a
  have hol : out.length ≤ 1000 := by have := Acc.len _ _ _ _ (path_acc hpath).1; omega
  simp only [hp, hr, optE_some, cond_true, hz, cond_false, ints_same out hol, Bool.not_true, bne_self_eq_false]
  cases decide ((m : Int) > 40000)
  ·simp
  ·simp
end Go.Proofs.Ythabingkfmlbbaa
