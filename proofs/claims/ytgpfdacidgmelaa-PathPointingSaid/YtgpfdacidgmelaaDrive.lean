/- Chapter 1: drives, and motions that are checked. -/
import Derived.Test.YtgpfdacidgmelaaTrack
import Derived.Test.YtgpfdacidgmelaaGb2
set_option linter.unusedSimpArgs false
namespace Go.Proofs.Ytgpfdacidgmelaa
open Go.Ev

abbrev Dr := Int × (Int × Int) × Int × Int
def dR (d : Dr) : Bool := win d.1 1 3600 && (win d.2.1.1 (-20000) 20000 && (win d.2.1.2 (-20000) 20000 && win d.2.2.2 0 40000))
def drvE (d : Dr) : Int := firstE [unl (dR d) 2, unl (decide (d.2.1.1 ≤ d.2.1.2)) 9, unl (win d.2.2.1 d.2.1.1 d.2.1.2) 2]

theorem s45_eq (a : Int) : s45 (a, 20000) = some (win a (-20000) 20000) := by
  unfold s45
  simp only [optE_some, s44_eq]
  rfl

theorem s11_eq (d : Dr) : s11 d = some (drvE d) := by
  unfold s11 drvE dR
  simp only [s44_eq, s45_eq, s47_eq, optE_some]
  cases win d.1 1 3600
  · simp only [cond_false, Bool.false_and]; rw [s46_eq _ (by simp)]; rfl
  · cases win d.2.1.1 (-20000) 20000
    · simp only [cond_false, cond_true, Bool.true_and, Bool.false_and]; rw [s46_eq _ (by simp)]; rfl
    · cases win d.2.1.2 (-20000) 20000
      · simp only [cond_false, cond_true, Bool.true_and, Bool.false_and]; rw [s46_eq _ (by simp)]; rfl
      · simp only [cond_true, Bool.true_and]; rw [s46_eq _ (by simp)]; rfl

theorem s15_eq (d : Dr) : s15 d = some (drvE d) := by
  unfold s15 drvE dR
  simp only [s33_eq, optE_some]
  cases win d.1 1 3600
  · rfl
  · cases win d.2.1.1 (-20000) 20000
    · rfl
    · cases win d.2.1.2 (-20000) 20000
      · rfl
      · cases win d.2.2.2 0 40000
        · rfl
        · simp only [Bool.and_true, Bool.not_true, cond_false, unl, cond_true, firstE, show ((0 : Int) != 0) = false from rfl]
          by_cases h : d.2.1.1 > d.2.1.2
          · rw [decide_eq_true h, decide_eq_false (show ¬ d.2.1.1 ≤ d.2.1.2 by omega)]; rfl
          · rw [decide_eq_false h, decide_eq_true (show d.2.1.1 ≤ d.2.1.2 by omega)]
            cases win d.2.2.1 d.2.1.1 d.2.1.2 <;> rfl

theorem drvE_ok {d : Dr} (h : drvE d = 0) : (1 ≤ d.1 ∧ d.1 ≤ 3600) ∧ (-20000 ≤ d.2.1.1 ∧ d.2.1.1 ≤ 20000) ∧ (-20000 ≤ d.2.1.2 ∧ d.2.1.2 ≤ 20000) ∧ (0 ≤ d.2.2.2 ∧ d.2.2.2 ≤ 40000) ∧ d.2.1.1 ≤ d.2.1.2 ∧ (d.2.1.1 ≤ d.2.2.1 ∧ d.2.2.1 ≤ d.2.1.2) := by
  have h := firstE_zero.1 h
  have h1 := unl_zero (by omega) (h _ (List.mem_cons_self))
  have h2 := unl_zero (by omega) (h _ (List.mem_cons_of_mem _ List.mem_cons_self))
  have h3 := unl_zero (by omega) (h _ (List.mem_cons_of_mem _ (List.mem_cons_of_mem _ List.mem_cons_self)))
  simp only [dR, Bool.and_eq_true, win_iff] at h1
  exact ⟨h1.1, h1.2.1, h1.2.2.1, h1.2.2.2, of_decide_eq_true h2, win_iff.1 h3⟩

/-- Are all targets on the turn? -/
def AllT (d : Dr) (l : List Int) : Prop := ∀ k, k < l.length → win (l.getD k 0) 0 (wr (d.1 - 1)) = true

theorem s48_eq {d : Dr} {l : List Int} (hl : l.length ≤ 1000) : (drvE d ≠ 0 → s48 (d, l) = some (drvE d)) ∧ (drvE d = 0 → 40 < l.length → s48 (d, l) = some 8) ∧ (drvE d = 0 → l.length ≤ 40 → AllT d l → s48 (d, l) = some 0) ∧ (drvE d = 0 → l.length ≤ 40 → ¬ AllT d l → s48 (d, l) = some 2) := by
  have hloop : loopVal step109_0 (l, ((d.1, d.2.1.1, d.2.1.2, d.2.2.1, d.2.2.2), ()), (l.length : Int), 0) = some (scan (fun k => bif win (l.getD k 0) 0 (wr (d.1 - 1)) then none else some (Sum.inl (k : Int) : Int ⊕ Unit)) (.inr ()) l.length 0) :=
    loop_scan (step := step109_0) (st := fun k => (l, ((d.1, d.2.1.1, d.2.1.2, d.2.2.1, d.2.2.2), ()), (l.length : Int), (k : Int))) (n := l.length)
      (fun k hk => by
        simp only [step109_0, lt_cast, inB_cast, hk, decide_true, cond_true, Int.toNat_natCast, s44_eq, optE_some, wr_succ (show k < 4611686018427387904 by omega)]
        cases win (l.getD k 0) 0 (wr (d.1 - 1)) <;> rfl)
      (by simp only [step109_0, lt_cast, Nat.lt_irrefl, decide_false, cond_false]) l.length 0 (by omega)
  have e46 : ∀ b, s46 [drvE d, unl b 8] = some (firstE [drvE d, unl b 8]) := fun b => s46_eq _ (by simp)
  unfold s48
  simp only [s11_eq, s47_eq, optE_some, e46]
  refine ⟨fun h => ?_, fun h h2 => ?_, fun h h2 h3 => ?_, fun h h2 h3 => ?_⟩
  · have hb : (drvE d != 0) = true := by simpa using h
    simp only [firstE, hb, cond_true]
  · rw [h, decide_eq_false (show ¬ (l.length : Int) ≤ 40 by omega)]; rfl
  · rw [h, decide_eq_true (show (l.length : Int) ≤ 40 by omega)]
    rcases scan_cases (fun k => bif win (l.getD k 0) 0 (wr (d.1 - 1)) then none else some (Sum.inl (k : Int) : Int ⊕ Unit)) (.inr ()) l.length 0 with ⟨hs, _⟩ | ⟨j, x, _, hj, hx, _⟩
    · rw [hs] at hloop
      simp only [firstE, unl, cond_true, show ((0 : Int) != 0) = false from rfl, cond_false, hloop, optE_some, sumE_r]
    · have := h3 j (by omega)
      rw [this] at hx; cases hx
  · rw [h, decide_eq_true (show (l.length : Int) ≤ 40 by omega)]
    rcases scan_cases (fun k => bif win (l.getD k 0) 0 (wr (d.1 - 1)) then none else some (Sum.inl (k : Int) : Int ⊕ Unit)) (.inr ()) l.length 0 with ⟨_, hn⟩ | ⟨j, x, _, hj, hx, hs⟩
    · refine absurd (fun k hk => ?_) h3
      have := hn k (by omega) (by omega)
      cases hw : win (l.getD k 0) 0 (wr (d.1 - 1)) with
      | true => rfl
      | false => rw [hw] at this; cases this
    · rw [hs] at hloop
      cases hw : win (l.getD j 0) 0 (wr (d.1 - 1)) with
      | true => rw [hw] at hx; cases hx
      | false =>
        rw [hw] at hx
        obtain rfl := Option.some.inj hx
        simp only [firstE, unl, cond_true, show ((0 : Int) != 0) = false from rfl, cond_false, hloop, optE_some, sumE_l, decide_eq_true (show (j : Int) ≥ 0 by omega), Bool.not_true]

theorem s16_eq {d : Dr} {l : List Int} (hl : l.length ≤ 1000) : (40 < l.length → s16 (d, l) = some 8) ∧ (l.length ≤ 40 → AllT d l → s16 (d, l) = some 0) ∧ (l.length ≤ 40 → ¬ AllT d l → s16 (d, l) = some 2) := by
  have hloop : loopVal step16_0 (l, 0, d) = some (scan (fun k => bif win (l.getD k 0) 0 (wr (d.1 - 1)) then none else some (Sum.inl 2 : Int ⊕ Unit)) (.inr ()) l.length 0) :=
    loop_scan (step := step16_0) (st := fun k => (l, (k : Int), d)) (n := l.length)
      (fun k hk => by
        simp only [step16_0, lt_cast, inB_cast, hk, decide_true, cond_true, Int.toNat_natCast, s33_eq, optE_some, wr_succ (show k < 4611686018427387904 by omega)]
        cases win (l.getD k 0) 0 (wr (d.1 - 1)) <;> rfl)
      (by simp only [step16_0, lt_cast, Nat.lt_irrefl, decide_false, cond_false]) l.length 0 (by omega)
  unfold s16
  refine ⟨fun h => ?_, fun h2 h3 => ?_, fun h2 h3 => ?_⟩
  · simp only [decide_eq_true (show (l.length : Int) > 40 by omega), cond_true]
  · rcases scan_cases (fun k => bif win (l.getD k 0) 0 (wr (d.1 - 1)) then none else some (Sum.inl 2 : Int ⊕ Unit)) (.inr ()) l.length 0 with ⟨hs, _⟩ | ⟨j, x, _, hj, hx, _⟩
    · rw [hs] at hloop
      simp only [decide_eq_false (show ¬ (l.length : Int) > 40 by omega), cond_false, hloop, optE_some, sumE_r]
    · have := h3 j (by omega)
      rw [this] at hx; cases hx
  · rcases scan_cases (fun k => bif win (l.getD k 0) 0 (wr (d.1 - 1)) then none else some (Sum.inl 2 : Int ⊕ Unit)) (.inr ()) l.length 0 with ⟨_, hn⟩ | ⟨j, x, _, hj, hx, hs⟩
    · refine absurd (fun k hk => ?_) h3
      have := hn k (by omega) (by omega)
      cases hw : win (l.getD k 0) 0 (wr (d.1 - 1)) with
      | true => rfl
      | false => rw [hw] at this; cases this
    · rw [hs] at hloop
      cases hw : win (l.getD j 0) 0 (wr (d.1 - 1)) with
      | true => rw [hw] at hx; cases hx
      | false =>
        rw [hw] at hx
        obtain rfl := Option.some.inj hx
        simp only [decide_eq_false (show ¬ (l.length : Int) > 40 by omega), cond_false, hloop, optE_some, sumE_l]

theorem wr_neg (n : Int) : wr (-(wr n)) = wr (-n) := by
  unfold wr
  simp [IntKind.wrap, IntKind.signed, IntKind.bits]
  omega
theorem tmod_zero {n m : Int} (h : 0 < m) : (Int.tmod n m == 0) = (n % m == 0) := by
  have h1 := Int.emod_nonneg n (show m ≠ 0 by omega)
  have h2 := Int.emod_lt_of_pos n h
  rw [tmod_neg_iff h]
  split
  · rename_i hc
    rw [beq_eq_false_iff_ne.2 (by omega), beq_eq_false_iff_ne.2 hc.2]
  · rfl

/-- A motion that is checked: so many rounds from a position on. -/
def ptg (d : Dr) (ts ps : List Int) : Nat → Nat → Int → Int → (Int × Int) ⊕ Int
  | 0, _, _, tr => .inr tr
  | m + 1, i, now, tr => bif !(win (ps.getD i 0) d.2.1.1 d.2.1.2) then .inl (0, 23) else bif wr (ps.getD i 0 - ts.getD i 0) % d.1 != 0 then .inl (0, 13) else
      bif decide (mx (wr (ps.getD i 0 - now)) (wr (now - ps.getD i 0)) > d.2.2.2) then .inl (0, 24) else ptg d ts ps m (i + 1) (ps.getD i 0) (wr (tr + mx (wr (ps.getD i 0 - now)) (wr (now - ps.getD i 0))))

theorem loop20 {d : Dr} (hd : 0 < d.1) (hd2 : d.1 ≤ 3600) {ts ps : List Int} (hl : ps.length = ts.length) (hs : ps.length ≤ 1000) : ∀ m i now tr, i + m = ps.length → loopVal step20_0 (ts, tr, now, ps, (ps.length : Int), (i : Int), d) = some (ptg d ts ps m i now tr)
  | 0, i, now, tr, hi => by
    have : i = ps.length := by omega
    subst this
    exact loopVal_last (by simp only [step20_0, lt_cast, Nat.lt_irrefl, decide_false, cond_false, ptg])
  | m + 1, i, now, tr, hi => by
    have hz : (d.1 == 0) = false := beq_eq_false_iff_ne.2 (by omega)
    have e46 : ∀ a b : Int, s46 [a, b] = some (firstE [a, b]) := fun a b => s46_eq _ (by simp)
    have hstep : step20_0 (ts, tr, now, ps, (ps.length : Int), (i : Int), d) = bif !(win (ps.getD i 0) d.2.1.1 d.2.1.2) then some (.inr (.inl (0, 23))) else bif wr (ps.getD i 0 - ts.getD i 0) % d.1 != 0 then some (.inr (.inl (0, 13))) else
        bif decide (mx (wr (ps.getD i 0 - now)) (wr (now - ps.getD i 0)) > d.2.2.2) then some (.inr (.inl (0, 24))) else some (.inl (ts, wr (tr + mx (wr (ps.getD i 0 - now)) (wr (now - ps.getD i 0))), ps.getD i 0, ps, (ps.length : Int), ((i + 1 : Nat) : Int), d)) := by
      simp only [step20_0, lt_cast, inB_cast, show i < ps.length by omega, show i < ts.length by omega, decide_true, cond_true, Int.toNat_natCast, s44_eq, s47_eq, optE_some, hz, Bool.not_false, e46, tmod_zero hd, wr_succ (show i < 4611686018427387904 by omega)]
      cases win (ps.getD i 0) d.2.1.1 d.2.1.2
      · rfl
      · simp only [Bool.not_true, cond_false]
        by_cases hm : wr (ps.getD i 0 - ts.getD i 0) % d.1 = 0
        · have hm1 : (wr (ps.getD i 0 - ts.getD i 0) % d.1 == 0) = true := by rw [hm]; rfl
          have hm2 : (wr (ps.getD i 0 - ts.getD i 0) % d.1 != 0) = false := by rw [hm]; rfl
          simp only [hm1, hm2, unl, cond_true, cond_false, firstE, show ((0 : Int) != 0) = false from rfl]
          by_cases hr : mx (wr (ps.getD i 0 - now)) (wr (now - ps.getD i 0)) ≤ d.2.2.2
          · rw [decide_eq_true hr, decide_eq_false (show ¬ mx (wr (ps.getD i 0 - now)) (wr (now - ps.getD i 0)) > d.2.2.2 by omega)]; rfl
          · rw [decide_eq_false hr, decide_eq_true (show mx (wr (ps.getD i 0 - now)) (wr (now - ps.getD i 0)) > d.2.2.2 by omega)]; rfl
        · have hm1 : (wr (ps.getD i 0 - ts.getD i 0) % d.1 == 0) = false := beq_eq_false_iff_ne.2 hm
          have hm2 : (wr (ps.getD i 0 - ts.getD i 0) % d.1 != 0) = true := by simpa using hm
          simp only [hm1, hm2, unl, cond_true, cond_false, firstE, show ((13 : Int) != 0) = true from rfl]
    have ih := loop20 hd hd2 hl hs m (i + 1) (ps.getD i 0) (wr (tr + mx (wr (ps.getD i 0 - now)) (wr (now - ps.getD i 0)))) (by omega)
    unfold ptg
    revert hstep
    cases win (ps.getD i 0) d.2.1.1 d.2.1.2
    · exact fun h => loopVal_last h
    · cases wr (ps.getD i 0 - ts.getD i 0) % d.1 != 0
      · cases decide (mx (wr (ps.getD i 0 - now)) (wr (now - ps.getD i 0)) > d.2.2.2)
        · exact fun h => (loopVal_next h).trans ih
        · exact fun h => loopVal_last h
      · exact fun h => loopVal_last h

theorem loop21 {d : Dr} (hd : 0 < d.1) (hd2 : d.1 ≤ 3600) {ts ps : List Int} (hl : ps.length = ts.length) (hs : ps.length ≤ 1000) : ∀ m i now tr, i + m = ps.length → loopVal step21_0 (ts, ps, now, tr, (i : Int), d) = some (ptg d ts ps m i now tr)
  | 0, i, now, tr, hi => by
    have : i = ps.length := by omega
    subst this
    exact loopVal_last (by simp only [step21_0, lt_cast, Nat.lt_irrefl, decide_false, cond_false, ptg])
  | m + 1, i, now, tr, hi => by
    have e56 : ∀ n, s56 (n, d.1) = some (n % d.1) := fun n => mod_law hd (by omega)
    have e57 : ∀ a b : Int, s57 (wr (a - b)) = some (mx (wr (a - b)) (wr (b - a))) := fun a b => by
      unfold s57; rw [wr_neg, show -(a - b) = b - a by omega]
    have hstep : step21_0 (ts, ps, now, tr, (i : Int), d) = bif !(win (ps.getD i 0) d.2.1.1 d.2.1.2) then some (.inr (.inl (0, 23))) else bif wr (ps.getD i 0 - ts.getD i 0) % d.1 != 0 then some (.inr (.inl (0, 13))) else
        bif decide (mx (wr (ps.getD i 0 - now)) (wr (now - ps.getD i 0)) > d.2.2.2) then some (.inr (.inl (0, 24))) else some (.inl (ts, ps, ps.getD i 0, wr (tr + mx (wr (ps.getD i 0 - now)) (wr (now - ps.getD i 0))), ((i + 1 : Nat) : Int), d)) := by
      simp only [step21_0, lt_cast, inB_cast, show i < ps.length by omega, show i < ts.length by omega, decide_true, cond_true, Int.toNat_natCast, s33_eq, optE_some, e56, e57, wr_succ (show i < 4611686018427387904 by omega)]
    have ih := loop21 hd hd2 hl hs m (i + 1) (ps.getD i 0) (wr (tr + mx (wr (ps.getD i 0 - now)) (wr (now - ps.getD i 0)))) (by omega)
    unfold ptg
    revert hstep
    cases win (ps.getD i 0) d.2.1.1 d.2.1.2
    · exact fun h => loopVal_last h
    · cases wr (ps.getD i 0 - ts.getD i 0) % d.1 != 0
      · cases decide (mx (wr (ps.getD i 0 - now)) (wr (now - ps.getD i 0)) > d.2.2.2)
        · exact fun h => (loopVal_next h).trans ih
        · exact fun h => loopVal_last h
      · exact fun h => loopVal_last h

def ptgE (d : Dr) (ts ps : List Int) : Int × Int := bif (ps.length : Int) != (ts.length : Int) then (0, 10) else sumE (ptg d ts ps ps.length 0 d.2.2.1 0) (fun e => e) (fun t => (t, 0))

theorem s20_eq {d : Dr} {ts ps : List Int} (hs : ps.length ≤ 1000) {e : Int} (h48 : s48 (d, ts) = some e) : (e ≠ 0 → s20 (d, ts, ps) = some (0, e)) ∧ (e = 0 → drvE d = 0 → s20 (d, ts, ps) = some (ptgE d ts ps)) := by
  have e46 : ∀ a b : Int, s46 [a, b] = some (firstE [a, b]) := fun a b => s46_eq _ (by simp)
  unfold s20
  simp only [h48, s47_eq, optE_some, e46]
  refine ⟨fun h => ?_, fun h h2 => ?_⟩
  · have hb : (e != 0) = true := by simpa using h
    simp only [firstE, hb, cond_true]
  · subst h
    obtain ⟨t, _⟩ := drvE_ok h2
    unfold ptgE
    by_cases hl : ps.length = ts.length
    · have h1 : ((ps.length : Int) == (ts.length : Int)) = true := by rw [hl]; simp
      have h3 : ((ps.length : Int) != (ts.length : Int)) = false := by rw [hl]; simp
      have := loop20 (d := d) (by omega) (by omega) hl hs ps.length 0 d.2.2.1 0 (by omega)
      have h' : loopVal step20_0 (ts, 0, d.2.2.1, ps, (ps.length : Int), 0, d) = _ := this
      simp only [h1, h3, unl, cond_true, cond_false, firstE, show ((0 : Int) != 0) = false from rfl, h', optE_some]
      cases ptg d ts ps ps.length 0 d.2.2.1 0 <;> rfl
    · have h1 : ((ps.length : Int) == (ts.length : Int)) = false := beq_eq_false_iff_ne.2 (by omega)
      have h3 : ((ps.length : Int) != (ts.length : Int)) = true := by simp only [bne, h1, Bool.not_false]
      simp only [h1, h3, unl, cond_true, cond_false, firstE, show ((0 : Int) != 0) = false from rfl, show ((10 : Int) != 0) = true from rfl]

theorem s21_eq {d : Dr} {ts ps : List Int} (hs : ps.length ≤ 1000) (h2 : drvE d = 0) : s21 (d, ts, ps) = some (ptgE d ts ps) := by
  obtain ⟨t, _⟩ := drvE_ok h2
  unfold s21 ptgE
  by_cases hl : ps.length = ts.length
  · have h3 : ((ps.length : Int) != (ts.length : Int)) = false := by rw [hl]; simp
    have := loop21 (d := d) (by omega) (by omega) hl hs ps.length 0 d.2.2.1 0 (by omega)
    have h' : loopVal step21_0 (ts, ps, d.2.2.1, 0, 0, d) = _ := this
    simp only [h3, cond_false, h', optE_some]
    cases ptg d ts ps ps.length 0 d.2.2.1 0 <;> rfl
  · have h3 : ((ps.length : Int) != (ts.length : Int)) = true := by simp only [bne, beq_eq_false_iff_ne.2 (show (ps.length : Int) ≠ (ts.length : Int) by omega), Bool.not_false]
    simp only [h3, cond_true]

theorem s13_eq {l : List Int} (h : l.length ≤ 1000) : s13 l = some l := by
  have hr : room 8 (0 + l.length) = true := room_true (by omega) (by omega)
  simp only [s13, hr, cond_true]

theorem pointing_true (x : Dr × List Int × List Int) : s4 x = some true := by
  obtain ⟨d, ts, ps⟩ := x
  unfold s4
  simp only [Bool.not_true, cond_false]
  have main : ts.length ≤ 42 → ps.length ≤ 22 → ∃ e c, s48 (d, ts) = some e ∧ s15 d = some (drvE d) ∧ (drvE d ≠ 0 → e = drvE d) ∧ (drvE d = 0 → s16 (d, ts) = some c ∧ e = c) := by
    intro h1 h2
    obtain ⟨a1, a2, a3, a4⟩ := s48_eq (d := d) (l := ts) (by omega)
    obtain ⟨b1, b2, b3⟩ := s16_eq (d := d) (l := ts) (by omega)
    by_cases h0 : drvE d = 0
    · by_cases hl : 40 < ts.length
      · exact ⟨8, 8, a2 h0 hl, s15_eq d, fun h => absurd h0 h, fun _ => ⟨b1 hl, rfl⟩⟩
      · by_cases hA : AllT d ts
        · exact ⟨0, 0, a3 h0 (by omega) hA, s15_eq d, fun h => absurd h0 h, fun _ => ⟨b2 (by omega) hA, rfl⟩⟩
        · exact ⟨2, 2, a4 h0 (by omega) hA, s15_eq d, fun h => absurd h0 h, fun _ => ⟨b3 (by omega) hA, rfl⟩⟩
    · exact ⟨drvE d, 0, a1 h0, s15_eq d, fun _ => rfl, fun h => absurd h h0⟩
  have fin : ts.length ≤ 42 → ps.length ≤ 22 → (optE (s13 ts) (fun r1 => optE (s13 ps) (fun r2 => optE (s20 (d, r1, r2)) (fun r3 => optE (s15 d) (fun r4 =>
      bif r4 == 0 then optE (s16 (d, ts)) (fun r5 => bif r5 == 0 then optE (s21 (d, ts, ps)) (fun r6 => bif r3.2 == r6.2 then some (r3.1 == r6.1) else some false) none
        else bif r3.2 == r5 then some (r3.1 == 0) else some false) none
      else bif r4 == 0 then optE (s21 (d, ts, ps)) (fun r7 => bif r3.2 == r7.2 then some (r3.1 == r7.1) else some false) none
        else bif r3.2 == r4 then some (r3.1 == 0) else some false) none) none) none) none : Option Bool) = some true := by
    intro h1 h2
    obtain ⟨e, c, g1, g2, g3, g4⟩ := main h1 h2
    obtain ⟨q1, q2⟩ := s20_eq (d := d) (ts := ts) (ps := ps) (by omega) g1
    simp only [s13_eq (show ts.length ≤ 1000 by omega), s13_eq (show ps.length ≤ 1000 by omega), g2, optE_some]
    by_cases h0 : drvE d = 0
    · obtain ⟨g5, rfl⟩ := g4 h0
      rw [h0]
      simp only [beq_self_eq_true, cond_true, g5, optE_some]
      by_cases he : e = 0
      · subst he
        rw [q2 rfl h0]
        simp only [beq_self_eq_true, cond_true, s21_eq (show ps.length ≤ 1000 by omega) h0, optE_some]
      · rw [q1 he]
        have hb : (e == 0) = false := beq_eq_false_iff_ne.2 he
        simp only [hb, cond_false, optE_some, beq_self_eq_true, cond_true]
    · have he := g3 h0
      subst he
      rw [q1 h0]
      have hb : (drvE d == 0) = false := beq_eq_false_iff_ne.2 h0
      simp only [hb, cond_false, optE_some, beq_self_eq_true, cond_true]
  by_cases c1 : ts.length > 20
  · rw [decide_eq_true (show (ts.length : Int) > 20 by omega)]
    simp only [cond_true]
    by_cases c2 : ts.length ≤ 40
    · rw [decide_eq_true (show (ts.length : Int) ≤ 40 by omega)]; rfl
    · rw [decide_eq_false (show ¬ (ts.length : Int) ≤ 40 by omega)]
      simp only [cond_false]
      by_cases c3 : ts.length > 42
      · rw [decide_eq_true (show (ts.length : Int) > 42 by omega)]; rfl
      · rw [decide_eq_false (show ¬ (ts.length : Int) > 42 by omega)]
        simp only [cond_false]
        by_cases c4 : ps.length > 22
        · rw [decide_eq_true (show (ps.length : Int) > 22 by omega)]; rfl
        · rw [decide_eq_false (show ¬ (ps.length : Int) > 22 by omega)]
          exact fin (by omega) (by omega)
  · rw [decide_eq_false (show ¬ (ts.length : Int) > 20 by omega)]
    simp only [cond_false]
    by_cases c3 : ts.length > 42
    · rw [decide_eq_true (show (ts.length : Int) > 42 by omega)]; rfl
    · rw [decide_eq_false (show ¬ (ts.length : Int) > 42 by omega)]
      simp only [cond_false]
      by_cases c4 : ps.length > 22
      · rw [decide_eq_true (show (ps.length : Int) > 22 by omega)]; rfl
      · rw [decide_eq_false (show ¬ (ps.length : Int) > 22 by omega)]
        exact fin (by omega) (by omega)
end Go.Proofs.Ytgpfdacidgmelaa
