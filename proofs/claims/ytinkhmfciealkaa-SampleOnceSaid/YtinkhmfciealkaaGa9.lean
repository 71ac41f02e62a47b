/- Printed by gen.py: specifications of functions. -/
import Derived.Test.YtinkhmfciealkaaGa8
set_option linter.unusedSimpArgs false
set_option maxRecDepth 100000
namespace Go.Proofs.Ytinkhmfciealkaa
open Go.Ev

/-! cassegrain sample.BinsOf -/
noncomputable def s51 : List (Int × Int) → Option (((Int × Int) × (Int × Int) × (Int × Int) × Int × Int) × Int) := fun x0 =>
  optE (p106 x0) (fun r1 =>
    bif r1 != 0 then
      some ((((0, 0), (0, 0), (0, 0), 0, 0), r1))
    else
      optE (p107 x0) (fun r2 =>
        optE (bin102_0 (0, (0, 0), r2, (r2.length : Int), 0)) (fun e3 =>
          optE (bin102_0 (1, (0, 0), r2, (r2.length : Int), 0)) (fun e4 =>
            optE (bin102_0 (2, (0, 0), r2, (r2.length : Int), 0)) (fun e5 =>
              optE (bin102_0 (3, (0, 0), r2, (r2.length : Int), 0)) (fun e6 =>
                some (((e3, e4, e5, e6.1, e6.2), 0)))
                (none))
              (none))
            (none))
          (none))
        (none))
    (none)
theorem i51 : ItemOk Try.prog (.fn 51 [.d (.slice (.agg (.pair (.int .i64) (.int .i64))))] [.d (.agg (.pair (.pair (.int .i64) (.int .i64)) (.pair (.pair (.int .i64) (.int .i64)) (.pair (.pair (.int .i64) (.int .i64)) (.pair (.int .i64) (.int .i64)))))), .d (.int .i64)] s51) := item_fn (U := 9) (n := 4) noSpecial mixed Ga8K1_ok (fun x => by kernel_rfl)
theorem law51 (x : List (Int × Int)) (hg : x.length ≤ 1000000) : s51 x = some (orE (smpE x) ((0, 0), (0, 0), (0, 0), 0, 0) (binsL x)) := by
  simp only [s51, p106_pos hg, optE, orE]
  cases hf : smpE x != 0
  · have hx := bne_eq_false_iff_eq.1 hf
    have hs := smp_sig hx
    simp only [cond_false, p107_pos hs, optE, bin102_0_pos (q := 0) rfl hs.1 hs.2, bin102_0_pos (q := 1) rfl hs.1 hs.2, bin102_0_pos (q := 2) rfl hs.1 hs.2, bin102_0_pos (q := 3) rfl hs.1 hs.2]
    rfl
  · rfl
noncomputable def p51 : List (Int × Int) → Option (((Int × Int) × (Int × Int) × (Int × Int) × Int × Int) × Int) := fun x => if x.length ≤ 1000000 then some (orE (smpE x) ((0, 0), (0, 0), (0, 0), 0, 0) (binsL x)) else none
theorem p51_pos {x : List (Int × Int)} (h : x.length ≤ 1000000) : p51 x = some (orE (smpE x) ((0, 0), (0, 0), (0, 0), 0, 0) (binsL x)) := if_pos h
theorem j51 : ItemOk Try.prog (.fn 51 [.d (.slice (.agg (.pair (.int .i64) (.int .i64))))] [.d (.agg (.pair (.pair (.int .i64) (.int .i64)) (.pair (.pair (.int .i64) (.int .i64)) (.pair (.pair (.int .i64) (.int .i64)) (.pair (.int .i64) (.int .i64)))))), .d (.int .i64)] (p51)) := item_imp i51 (by
  intro x y h
  unfold p51 at h
  split at h
  · rename_i hg
    rw [← h]
    exact law51 x hg
  · cases h)
noncomputable def Ga9K1 : List Ev.Item := .fn 51 [.d (.slice (.agg (.pair (.int .i64) (.int .i64))))] [.d (.agg (.pair (.pair (.int .i64) (.int .i64)) (.pair (.pair (.int .i64) (.int .i64)) (.pair (.pair (.int .i64) (.int .i64)) (.pair (.int .i64) (.int .i64)))))), .d (.int .i64)] (p51) :: Ga8K1
theorem Ga9K1_ok : ∀ q ∈ Ga9K1, ItemOk Try.prog q := items_cons j51 Ga8K1_ok

/-! cassegrain cassegrainref02.BinsOf -/
noncomputable def s55 : List (Int × Int) → Option ((Int × Int) × (Int × Int) × (Int × Int) × Int × Int) := fun x0 =>
  optE (p56 (x0, 0)) (fun r1 =>
    optE (p56 (x0, 1)) (fun r2 =>
      optE (p56 (x0, 2)) (fun r3 =>
        optE (p56 (x0, 3)) (fun r4 =>
          some ((r1, r2, r3, r4.1, r4.2)))
          (none))
        (none))
      (none))
    (none)
theorem i55 : ItemOk Try.prog (.fn 55 [.d (.slice (.agg (.pair (.int .i64) (.int .i64))))] [.d (.agg (.pair (.pair (.int .i64) (.int .i64)) (.pair (.pair (.int .i64) (.int .i64)) (.pair (.pair (.int .i64) (.int .i64)) (.pair (.int .i64) (.int .i64))))))] s55) := item_fn (U := 9) (n := 4) noSpecial mixed Ga9K1_ok (fun x => by kernel_rfl)
theorem law55 (x : List (Int × Int)) (hg : smpE x = 0) : s55 x = some (binsL x) := by
  have hs := smp_sig hg
  have h0 : p56 (x, 0) = some (binL rotB 0 x) := p56_pos (x := (x, 0)) ⟨hs.1, hs.2, rfl⟩
  have h1 : p56 (x, 1) = some (binL rotB 1 x) := p56_pos (x := (x, 1)) ⟨hs.1, hs.2, rfl⟩
  have h2 : p56 (x, 2) = some (binL rotB 2 x) := p56_pos (x := (x, 2)) ⟨hs.1, hs.2, rfl⟩
  have h3 : p56 (x, 3) = some (binL rotB 3 x) := p56_pos (x := (x, 3)) ⟨hs.1, hs.2, rfl⟩
  simp only [s55, h0, h1, h2, h3, optE]
  rfl
noncomputable def p55 : List (Int × Int) → Option ((Int × Int) × (Int × Int) × (Int × Int) × Int × Int) := fun x => if smpE x = 0 then some (binsL x) else none
theorem p55_pos {x : List (Int × Int)} (h : smpE x = 0) : p55 x = some (binsL x) := if_pos h
theorem j55 : ItemOk Try.prog (.fn 55 [.d (.slice (.agg (.pair (.int .i64) (.int .i64))))] [.d (.agg (.pair (.pair (.int .i64) (.int .i64)) (.pair (.pair (.int .i64) (.int .i64)) (.pair (.pair (.int .i64) (.int .i64)) (.pair (.int .i64) (.int .i64))))))] (p55)) := item_imp i55 (by
  intro x y h
  unfold p55 at h
  split at h
  · rename_i hg
    rw [← h]
    exact law55 x hg
  · cases h)
noncomputable def Ga9K2 : List Ev.Item := .fn 55 [.d (.slice (.agg (.pair (.int .i64) (.int .i64))))] [.d (.agg (.pair (.pair (.int .i64) (.int .i64)) (.pair (.pair (.int .i64) (.int .i64)) (.pair (.pair (.int .i64) (.int .i64)) (.pair (.int .i64) (.int .i64))))))] (p55) :: Ga9K1
theorem Ga9K2_ok : ∀ q ∈ Ga9K2, ItemOk Try.prog q := items_cons j55 Ga9K1_ok

/-! cassegrain cassegrainref02.BinsErr -/
noncomputable def s53 : (Int × Int) × (Int × Int) × (Int × Int) × Int × Int → Option (Int) := fun s =>
  bif (gErr 8000 s.1) != 0 then
    some (gErr 8000 s.1)
  else
    bif (gErr 8000 s.2.1) != 0 then
      some (gErr 8000 s.2.1)
    else
      bif (gErr 8000 s.2.2.1) != 0 then
        some (gErr 8000 s.2.2.1)
      else
        bif (gErr 8000 s.2.2.2) != 0 then
          some (gErr 8000 s.2.2.2)
        else
          some (0)
theorem i53 : ItemOk Try.prog (.fn 53 [.d (.agg (.pair (.pair (.int .i64) (.int .i64)) (.pair (.pair (.int .i64) (.int .i64)) (.pair (.pair (.int .i64) (.int .i64)) (.pair (.int .i64) (.int .i64))))))] [.d (.int .i64)] s53) := item_fn (U := 9) (n := 4) noSpecial mixed Ga9K2_ok (fun x => by kernel_rfl)
theorem law53 (s : (Int × Int) × (Int × Int) × (Int × Int) × Int × Int) : s53 s = some (unl (okFour s) 2) := by
  simp only [s53, gErr, okFour, unl]
  cases okG 8000 s.1 <;> cases okG 8000 s.2.1 <;> cases okG 8000 s.2.2.1 <;> cases okG 8000 s.2.2.2 <;> rfl
theorem j53 : ItemOk Try.prog (.fn 53 [.d (.agg (.pair (.pair (.int .i64) (.int .i64)) (.pair (.pair (.int .i64) (.int .i64)) (.pair (.pair (.int .i64) (.int .i64)) (.pair (.int .i64) (.int .i64))))))] [.d (.int .i64)] (fun x => some (unl (okFour x) 2))) := item_imp i53 (by
  intro x y h
  rw [← h]
  exact law53 x)
noncomputable def Ga9K3 : List Ev.Item := .fn 53 [.d (.agg (.pair (.pair (.int .i64) (.int .i64)) (.pair (.pair (.int .i64) (.int .i64)) (.pair (.pair (.int .i64) (.int .i64)) (.pair (.int .i64) (.int .i64))))))] [.d (.int .i64)] (fun x => some (unl (okFour x) 2)) :: Ga9K2
theorem Ga9K3_ok : ∀ q ∈ Ga9K3, ItemOk Try.prog q := items_cons j53 Ga9K2_ok

/-! cassegrain sample.Restored -/
@[reducible] def T102_0a : Tmpl := ⟨28, [(2, .fn 109)], [.val 1 (.int .i64), .val 7 .zc, .val 10 (.slice .zc), .val 11 (.int .i64), .val 12 (.int .i64)]⟩
@[reducible] def X102_0a : List (Ex × Tmpl) := [(.exit 0, ⟨28, [], [.val 7 .zc]⟩)]
/-- data: quarter, sum, t10, t11, t12; ends: exit 0: sum -/
noncomputable def step102_0a : Int × (Int × Int) × (List (Int × Int)) × Int × Int → Option ((Int × (Int × Int) × (List (Int × Int)) × Int × Int) ⊕ (Int × Int)) := fun (quarter, sum, t10, t11, t12) =>
  bif decide (t12 < t11) then
    bif inBounds t12 t10.length then
      optE (p109 (wr (quarter * t12))) (fun r2 =>
        bif (small24 (((t10.getD t12.toNat (0, 0)).1 * r2.1) - ((t10.getD t12.toNat (0, 0)).2 * r2.2))) && (small24 (((t10.getD t12.toNat (0, 0)).1 * r2.2) + ((t10.getD t12.toNat (0, 0)).2 * r2.1))) then
          bif (small24 (sum.1 + (((t10.getD t12.toNat (0, 0)).1 * r2.1) - ((t10.getD t12.toNat (0, 0)).2 * r2.2)))) && (small24 (sum.2 + (((t10.getD t12.toNat (0, 0)).1 * r2.2) + ((t10.getD t12.toNat (0, 0)).2 * r2.1)))) then
            some (.inl (quarter, (sum.1 + (((t10.getD t12.toNat (0, 0)).1 * r2.1) - ((t10.getD t12.toNat (0, 0)).2 * r2.2)), sum.2 + (((t10.getD t12.toNat (0, 0)).1 * r2.2) + ((t10.getD t12.toNat (0, 0)).2 * r2.1))), t10, t11, wr (t12 + 1)))
          else
            none
        else
          none)
        (none)
    else
      none
  else
    some (.inr sum)
theorem one102_0a : oneLoop Try.prog 102 0 = true := by kernel_rfl
theorem lp102_0a : ItemOk Try.prog (.loop 102 0 T102_0a X102_0a (loopVal step102_0a)) := item_loop (U := 9) (n := 2) noSpecial mixed Ga9K3_ok one102_0a (fun x => by kernel_rfl)
theorem binloop102_0a (q : Int) (x : List (Int × Int)) (hq : 0 ≤ q ∧ q ≤ 3) (hl : x.length ≤ 400) (hx : x.all (okG 8000) = true) : loopVal step102_0a (q, (0, 0), x, (x.length : Int), 0) = some (binL rotF q x) := by
  have hb := bin_bound rotF rotF_cases q x (fun g hg => okG_le (List.all_eq_true.1 hx g hg) (by omega))
  have h1 := loop_for (step := step102_0a) (st := fun k => (q, binTo rotF q x k, x, (x.length : Int), (k : Int))) (n := x.length) (e := binL rotF q x)
    (fun k hk => by
      have ho := okG_le (List.all_eq_true.1 hx _ (getD_mem (d := (0, 0)) hk)) (by omega)
      have hqk : 0 ≤ q * (k : Int) ∧ q * (k : Int) ≤ 1200 := by
        have : q = 0 ∨ q = 1 ∨ q = 2 ∨ q = 3 := by omega
        rcases this with e | e | e | e <;> rw [e] <;> omega
      have hs := small_rot (rotF_cases (q * k)) ho
      have hn := hb (k + 1) hk
      simp only [binTo, cadd, cmul] at hn
      simp only [step102_0a, lt_cast, inB_cast, hk, decide_true, cond_true, Int.toNat_natCast, wr_succ (show k < 4611686018427387904 by omega), wr_id (n := q * (k : Int)) (by omega) (by omega), p109_pos (show 0 ≤ q * (k : Int) from hqk.1), optE]
      rw [hs.1, hs.2]
      simp only [Bool.and_self, cond_true]
      rw [show small24 ((binTo rotF q x k).1 + ((x.getD k (0, 0)).1 * (rotF (q * ↑k)).1 - (x.getD k (0, 0)).2 * (rotF (q * ↑k)).2)) = true by simp only [small24, Bool.and_eq_true, decide_eq_true_eq]; omega,
        show small24 ((binTo rotF q x k).2 + ((x.getD k (0, 0)).1 * (rotF (q * ↑k)).2 + (x.getD k (0, 0)).2 * (rotF (q * ↑k)).1)) = true by simp only [small24, Bool.and_eq_true, decide_eq_true_eq]; omega]
      rfl) (by simp [step102_0a, binL]) 0 (by omega)
  rw [show ((0 : Nat) : Int) = 0 from rfl] at h1
  exact h1
noncomputable def bin102_0a : Int × (Int × Int) × List (Int × Int) × Int × Int → Option (Int × Int) := fun x => if x.2.1 = (0, 0) ∧ x.2.2.2.1 = (x.2.2.1.length : Int) ∧ x.2.2.2.2 = 0 ∧ win x.1 0 3 = true ∧ x.2.2.1.length ≤ 400 ∧ x.2.2.1.all (okG 8000) = true then some (binL rotF x.1 x.2.2.1) else none
theorem bin102_0a_pos {q : Int} {x : List (Int × Int)} (hq : win q 0 3 = true) (hl : x.length ≤ 400) (hx : x.all (okG 8000) = true) : bin102_0a (q, (0, 0), x, (x.length : Int), 0) = some (binL rotF q x) := if_pos ⟨rfl, rfl, rfl, hq, hl, hx⟩
theorem lq102_0a : ItemOk Try.prog (.loop 102 0 T102_0a X102_0a (bin102_0a)) := item_loop_imp lp102_0a (by
  rintro ⟨q, s, x, n, k⟩ y h
  unfold bin102_0a at h
  split at h
  · rename_i hg
    obtain ⟨h1, h2, h3, h4, h5, h6⟩ := hg
    rw [← h]
    have g1 : s = (0, 0) := h1
    have g2 : n = (List.length x : Int) := h2
    have g3 : k = 0 := h3
    clear h1 h2 h3
    subst g1
    subst g2
    subst g3
    exact binloop102_0a q x (win_iff.1 h4) h5 h6
  · cases h)
noncomputable def Ga9K4 : List Ev.Item := .loop 102 0 T102_0a X102_0a (bin102_0a) :: Ga9K3
theorem Ga9K4_ok : ∀ q ∈ Ga9K4, ItemOk Try.prog q := items_cons lq102_0a Ga9K3_ok
noncomputable def s52 : (Int × Int) × (Int × Int) × (Int × Int) × Int × Int → Option (((Int × Int) × (Int × Int) × (Int × Int) × Int × Int) × Int) := fun a0 =>
  bif !(okG 8000 a0.1) then
    some ((((0, 0), (0, 0), (0, 0), 0, 0), 2))
  else
    bif !(okG 8000 a0.2.1) then
      some ((((0, 0), (0, 0), (0, 0), 0, 0), 2))
    else
      bif !(okG 8000 a0.2.2.1) then
        some ((((0, 0), (0, 0), (0, 0), 0, 0), 2))
      else
        bif !(okG 8000 a0.2.2.2) then
          some ((((0, 0), (0, 0), (0, 0), 0, 0), 2))
        else
          optE (p107 [a0.1, a0.2.1, a0.2.2.1, a0.2.2.2]) (fun r1 =>
            optE (bin102_0a (0, (0, 0), r1, (r1.length : Int), 0)) (fun e2 =>
              bif (Int.tmod e2.1 4) == 0 then
                optE (bin102_0a (1, (0, 0), r1, (r1.length : Int), 0)) (fun e3 =>
                  bif (Int.tmod e2.2 4) == 0 then
                    bif (Int.tmod e3.1 4) == 0 then
                      bif okG 2000 (wr (Int.tdiv e2.1 4), wr (Int.tdiv e2.2 4)) then
                        optE (bin102_0a (2, (0, 0), r1, (r1.length : Int), 0)) (fun e4 =>
                          bif (Int.tmod e3.2 4) == 0 then
                            bif (Int.tmod e4.1 4) == 0 then
                              bif okG 2000 (wr (Int.tdiv e3.1 4), wr (Int.tdiv e3.2 4)) then
                                optE (bin102_0a (3, (0, 0), r1, (r1.length : Int), 0)) (fun e5 =>
                                  bif (Int.tmod e4.2 4) == 0 then
                                    bif (Int.tmod e5.1 4) == 0 then
                                      bif okG 2000 (wr (Int.tdiv e4.1 4), wr (Int.tdiv e4.2 4)) then
                                        bif (firstE [unl ((Int.tmod e5.2 4) == 0) 3, unl (okG 2000 (wr (Int.tdiv e5.1 4), wr (Int.tdiv e5.2 4))) 2]) != 0 then
                                          some ((((0, 0), (0, 0), (0, 0), 0, 0), firstE [unl ((Int.tmod e5.2 4) == 0) 3, unl (okG 2000 (wr (Int.tdiv e5.1 4), wr (Int.tdiv e5.2 4))) 2]))
                                        else
                                          some ((((wr (Int.tdiv e2.1 4), wr (Int.tdiv e2.2 4)), (wr (Int.tdiv e3.1 4), wr (Int.tdiv e3.2 4)), (wr (Int.tdiv e4.1 4), wr (Int.tdiv e4.2 4)), wr (Int.tdiv e5.1 4), wr (Int.tdiv e5.2 4)), 0))
                                      else
                                        bif (firstE [unl ((Int.tmod e5.2 4) == 0) 3, unl false 2]) != 0 then
                                          some ((((0, 0), (0, 0), (0, 0), 0, 0), firstE [unl ((Int.tmod e5.2 4) == 0) 3, unl false 2]))
                                        else
                                          some ((((wr (Int.tdiv e2.1 4), wr (Int.tdiv e2.2 4)), (wr (Int.tdiv e3.1 4), wr (Int.tdiv e3.2 4)), (wr (Int.tdiv e4.1 4), wr (Int.tdiv e4.2 4)), wr (Int.tdiv e5.1 4), wr (Int.tdiv e5.2 4)), 0))
                                    else
                                      bif okG 2000 (wr (Int.tdiv e4.1 4), wr (Int.tdiv e4.2 4)) then
                                        bif (firstE [unl false 3, unl (okG 2000 (wr (Int.tdiv e5.1 4), wr (Int.tdiv e5.2 4))) 2]) != 0 then
                                          some ((((0, 0), (0, 0), (0, 0), 0, 0), firstE [unl false 3, unl (okG 2000 (wr (Int.tdiv e5.1 4), wr (Int.tdiv e5.2 4))) 2]))
                                        else
                                          some ((((wr (Int.tdiv e2.1 4), wr (Int.tdiv e2.2 4)), (wr (Int.tdiv e3.1 4), wr (Int.tdiv e3.2 4)), (wr (Int.tdiv e4.1 4), wr (Int.tdiv e4.2 4)), wr (Int.tdiv e5.1 4), wr (Int.tdiv e5.2 4)), 0))
                                      else
                                        bif (firstE [unl false 3, unl false 2]) != 0 then
                                          some ((((0, 0), (0, 0), (0, 0), 0, 0), firstE [unl false 3, unl false 2]))
                                        else
                                          some ((((wr (Int.tdiv e2.1 4), wr (Int.tdiv e2.2 4)), (wr (Int.tdiv e3.1 4), wr (Int.tdiv e3.2 4)), (wr (Int.tdiv e4.1 4), wr (Int.tdiv e4.2 4)), wr (Int.tdiv e5.1 4), wr (Int.tdiv e5.2 4)), 0))
                                  else
                                    bif okG 2000 (wr (Int.tdiv e4.1 4), wr (Int.tdiv e4.2 4)) then
                                      bif (firstE [unl false 3, unl (okG 2000 (wr (Int.tdiv e5.1 4), wr (Int.tdiv e5.2 4))) 2]) != 0 then
                                        some ((((0, 0), (0, 0), (0, 0), 0, 0), firstE [unl false 3, unl (okG 2000 (wr (Int.tdiv e5.1 4), wr (Int.tdiv e5.2 4))) 2]))
                                      else
                                        some ((((wr (Int.tdiv e2.1 4), wr (Int.tdiv e2.2 4)), (wr (Int.tdiv e3.1 4), wr (Int.tdiv e3.2 4)), (wr (Int.tdiv e4.1 4), wr (Int.tdiv e4.2 4)), wr (Int.tdiv e5.1 4), wr (Int.tdiv e5.2 4)), 0))
                                    else
                                      bif (firstE [unl false 3, unl false 2]) != 0 then
                                        some ((((0, 0), (0, 0), (0, 0), 0, 0), firstE [unl false 3, unl false 2]))
                                      else
                                        some ((((wr (Int.tdiv e2.1 4), wr (Int.tdiv e2.2 4)), (wr (Int.tdiv e3.1 4), wr (Int.tdiv e3.2 4)), (wr (Int.tdiv e4.1 4), wr (Int.tdiv e4.2 4)), wr (Int.tdiv e5.1 4), wr (Int.tdiv e5.2 4)), 0)))
                                  (none)
                              else
                                optE (bin102_0a (3, (0, 0), r1, (r1.length : Int), 0)) (fun e6 =>
                                  bif (Int.tmod e4.2 4) == 0 then
                                    bif (Int.tmod e6.1 4) == 0 then
                                      bif (firstE [unl ((Int.tmod e6.2 4) == 0) 3, unl false 2]) != 0 then
                                        some ((((0, 0), (0, 0), (0, 0), 0, 0), firstE [unl ((Int.tmod e6.2 4) == 0) 3, unl false 2]))
                                      else
                                        some ((((wr (Int.tdiv e2.1 4), wr (Int.tdiv e2.2 4)), (wr (Int.tdiv e3.1 4), wr (Int.tdiv e3.2 4)), (wr (Int.tdiv e4.1 4), wr (Int.tdiv e4.2 4)), wr (Int.tdiv e6.1 4), wr (Int.tdiv e6.2 4)), 0))
                                    else
                                      bif (firstE [unl false 3, unl false 2]) != 0 then
                                        some ((((0, 0), (0, 0), (0, 0), 0, 0), firstE [unl false 3, unl false 2]))
                                      else
                                        some ((((wr (Int.tdiv e2.1 4), wr (Int.tdiv e2.2 4)), (wr (Int.tdiv e3.1 4), wr (Int.tdiv e3.2 4)), (wr (Int.tdiv e4.1 4), wr (Int.tdiv e4.2 4)), wr (Int.tdiv e6.1 4), wr (Int.tdiv e6.2 4)), 0))
                                  else
                                    bif (firstE [unl false 3, unl false 2]) != 0 then
                                      some ((((0, 0), (0, 0), (0, 0), 0, 0), firstE [unl false 3, unl false 2]))
                                    else
                                      some ((((wr (Int.tdiv e2.1 4), wr (Int.tdiv e2.2 4)), (wr (Int.tdiv e3.1 4), wr (Int.tdiv e3.2 4)), (wr (Int.tdiv e4.1 4), wr (Int.tdiv e4.2 4)), wr (Int.tdiv e6.1 4), wr (Int.tdiv e6.2 4)), 0)))
                                  (none)
                            else
                              bif okG 2000 (wr (Int.tdiv e3.1 4), wr (Int.tdiv e3.2 4)) then
                                optE (bin102_0a (3, (0, 0), r1, (r1.length : Int), 0)) (fun e7 =>
                                  bif okG 2000 (wr (Int.tdiv e4.1 4), wr (Int.tdiv e4.2 4)) then
                                    bif (firstE [unl false 3, unl (okG 2000 (wr (Int.tdiv e7.1 4), wr (Int.tdiv e7.2 4))) 2]) != 0 then
                                      some ((((0, 0), (0, 0), (0, 0), 0, 0), firstE [unl false 3, unl (okG 2000 (wr (Int.tdiv e7.1 4), wr (Int.tdiv e7.2 4))) 2]))
                                    else
                                      some ((((wr (Int.tdiv e2.1 4), wr (Int.tdiv e2.2 4)), (wr (Int.tdiv e3.1 4), wr (Int.tdiv e3.2 4)), (wr (Int.tdiv e4.1 4), wr (Int.tdiv e4.2 4)), wr (Int.tdiv e7.1 4), wr (Int.tdiv e7.2 4)), 0))
                                  else
                                    bif (firstE [unl false 3, unl false 2]) != 0 then
                                      some ((((0, 0), (0, 0), (0, 0), 0, 0), firstE [unl false 3, unl false 2]))
                                    else
                                      some ((((wr (Int.tdiv e2.1 4), wr (Int.tdiv e2.2 4)), (wr (Int.tdiv e3.1 4), wr (Int.tdiv e3.2 4)), (wr (Int.tdiv e4.1 4), wr (Int.tdiv e4.2 4)), wr (Int.tdiv e7.1 4), wr (Int.tdiv e7.2 4)), 0)))
                                  (none)
                              else
                                optE (bin102_0a (3, (0, 0), r1, (r1.length : Int), 0)) (fun e8 =>
                                  bif (firstE [unl false 3, unl false 2]) != 0 then
                                    some ((((0, 0), (0, 0), (0, 0), 0, 0), firstE [unl false 3, unl false 2]))
                                  else
                                    some ((((wr (Int.tdiv e2.1 4), wr (Int.tdiv e2.2 4)), (wr (Int.tdiv e3.1 4), wr (Int.tdiv e3.2 4)), (wr (Int.tdiv e4.1 4), wr (Int.tdiv e4.2 4)), wr (Int.tdiv e8.1 4), wr (Int.tdiv e8.2 4)), 0)))
                                  (none)
                          else
                            bif okG 2000 (wr (Int.tdiv e3.1 4), wr (Int.tdiv e3.2 4)) then
                              optE (bin102_0a (3, (0, 0), r1, (r1.length : Int), 0)) (fun e9 =>
                                bif okG 2000 (wr (Int.tdiv e4.1 4), wr (Int.tdiv e4.2 4)) then
                                  bif (firstE [unl false 3, unl (okG 2000 (wr (Int.tdiv e9.1 4), wr (Int.tdiv e9.2 4))) 2]) != 0 then
                                    some ((((0, 0), (0, 0), (0, 0), 0, 0), firstE [unl false 3, unl (okG 2000 (wr (Int.tdiv e9.1 4), wr (Int.tdiv e9.2 4))) 2]))
                                  else
                                    some ((((wr (Int.tdiv e2.1 4), wr (Int.tdiv e2.2 4)), (wr (Int.tdiv e3.1 4), wr (Int.tdiv e3.2 4)), (wr (Int.tdiv e4.1 4), wr (Int.tdiv e4.2 4)), wr (Int.tdiv e9.1 4), wr (Int.tdiv e9.2 4)), 0))
                                else
                                  bif (firstE [unl false 3, unl false 2]) != 0 then
                                    some ((((0, 0), (0, 0), (0, 0), 0, 0), firstE [unl false 3, unl false 2]))
                                  else
                                    some ((((wr (Int.tdiv e2.1 4), wr (Int.tdiv e2.2 4)), (wr (Int.tdiv e3.1 4), wr (Int.tdiv e3.2 4)), (wr (Int.tdiv e4.1 4), wr (Int.tdiv e4.2 4)), wr (Int.tdiv e9.1 4), wr (Int.tdiv e9.2 4)), 0)))
                                (none)
                            else
                              optE (bin102_0a (3, (0, 0), r1, (r1.length : Int), 0)) (fun e10 =>
                                bif (firstE [unl false 3, unl false 2]) != 0 then
                                  some ((((0, 0), (0, 0), (0, 0), 0, 0), firstE [unl false 3, unl false 2]))
                                else
                                  some ((((wr (Int.tdiv e2.1 4), wr (Int.tdiv e2.2 4)), (wr (Int.tdiv e3.1 4), wr (Int.tdiv e3.2 4)), (wr (Int.tdiv e4.1 4), wr (Int.tdiv e4.2 4)), wr (Int.tdiv e10.1 4), wr (Int.tdiv e10.2 4)), 0)))
                                (none))
                          (none)
                      else
                        optE (bin102_0a (2, (0, 0), r1, (r1.length : Int), 0)) (fun e11 =>
                          bif (Int.tmod e3.2 4) == 0 then
                            bif (Int.tmod e11.1 4) == 0 then
                              optE (bin102_0a (3, (0, 0), r1, (r1.length : Int), 0)) (fun e12 =>
                                bif (Int.tmod e11.2 4) == 0 then
                                  bif (Int.tmod e12.1 4) == 0 then
                                    bif (firstE [unl ((Int.tmod e12.2 4) == 0) 3, unl false 2]) != 0 then
                                      some ((((0, 0), (0, 0), (0, 0), 0, 0), firstE [unl ((Int.tmod e12.2 4) == 0) 3, unl false 2]))
                                    else
                                      some ((((wr (Int.tdiv e2.1 4), wr (Int.tdiv e2.2 4)), (wr (Int.tdiv e3.1 4), wr (Int.tdiv e3.2 4)), (wr (Int.tdiv e11.1 4), wr (Int.tdiv e11.2 4)), wr (Int.tdiv e12.1 4), wr (Int.tdiv e12.2 4)), 0))
                                  else
                                    bif (firstE [unl false 3, unl false 2]) != 0 then
                                      some ((((0, 0), (0, 0), (0, 0), 0, 0), firstE [unl false 3, unl false 2]))
                                    else
                                      some ((((wr (Int.tdiv e2.1 4), wr (Int.tdiv e2.2 4)), (wr (Int.tdiv e3.1 4), wr (Int.tdiv e3.2 4)), (wr (Int.tdiv e11.1 4), wr (Int.tdiv e11.2 4)), wr (Int.tdiv e12.1 4), wr (Int.tdiv e12.2 4)), 0))
                                else
                                  bif (firstE [unl false 3, unl false 2]) != 0 then
                                    some ((((0, 0), (0, 0), (0, 0), 0, 0), firstE [unl false 3, unl false 2]))
                                  else
                                    some ((((wr (Int.tdiv e2.1 4), wr (Int.tdiv e2.2 4)), (wr (Int.tdiv e3.1 4), wr (Int.tdiv e3.2 4)), (wr (Int.tdiv e11.1 4), wr (Int.tdiv e11.2 4)), wr (Int.tdiv e12.1 4), wr (Int.tdiv e12.2 4)), 0)))
                                (none)
                            else
                              optE (bin102_0a (3, (0, 0), r1, (r1.length : Int), 0)) (fun e13 =>
                                bif (firstE [unl false 3, unl false 2]) != 0 then
                                  some ((((0, 0), (0, 0), (0, 0), 0, 0), firstE [unl false 3, unl false 2]))
                                else
                                  some ((((wr (Int.tdiv e2.1 4), wr (Int.tdiv e2.2 4)), (wr (Int.tdiv e3.1 4), wr (Int.tdiv e3.2 4)), (wr (Int.tdiv e11.1 4), wr (Int.tdiv e11.2 4)), wr (Int.tdiv e13.1 4), wr (Int.tdiv e13.2 4)), 0)))
                                (none)
                          else
                            optE (bin102_0a (3, (0, 0), r1, (r1.length : Int), 0)) (fun e14 =>
                              bif (firstE [unl false 3, unl false 2]) != 0 then
                                some ((((0, 0), (0, 0), (0, 0), 0, 0), firstE [unl false 3, unl false 2]))
                              else
                                some ((((wr (Int.tdiv e2.1 4), wr (Int.tdiv e2.2 4)), (wr (Int.tdiv e3.1 4), wr (Int.tdiv e3.2 4)), (wr (Int.tdiv e11.1 4), wr (Int.tdiv e11.2 4)), wr (Int.tdiv e14.1 4), wr (Int.tdiv e14.2 4)), 0)))
                              (none))
                          (none)
                    else
                      bif okG 2000 (wr (Int.tdiv e2.1 4), wr (Int.tdiv e2.2 4)) then
                        optE (bin102_0a (2, (0, 0), r1, (r1.length : Int), 0)) (fun e15 =>
                          bif okG 2000 (wr (Int.tdiv e3.1 4), wr (Int.tdiv e3.2 4)) then
                            optE (bin102_0a (3, (0, 0), r1, (r1.length : Int), 0)) (fun e16 =>
                              bif okG 2000 (wr (Int.tdiv e15.1 4), wr (Int.tdiv e15.2 4)) then
                                bif (firstE [unl false 3, unl (okG 2000 (wr (Int.tdiv e16.1 4), wr (Int.tdiv e16.2 4))) 2]) != 0 then
                                  some ((((0, 0), (0, 0), (0, 0), 0, 0), firstE [unl false 3, unl (okG 2000 (wr (Int.tdiv e16.1 4), wr (Int.tdiv e16.2 4))) 2]))
                                else
                                  some ((((wr (Int.tdiv e2.1 4), wr (Int.tdiv e2.2 4)), (wr (Int.tdiv e3.1 4), wr (Int.tdiv e3.2 4)), (wr (Int.tdiv e15.1 4), wr (Int.tdiv e15.2 4)), wr (Int.tdiv e16.1 4), wr (Int.tdiv e16.2 4)), 0))
                              else
                                bif (firstE [unl false 3, unl false 2]) != 0 then
                                  some ((((0, 0), (0, 0), (0, 0), 0, 0), firstE [unl false 3, unl false 2]))
                                else
                                  some ((((wr (Int.tdiv e2.1 4), wr (Int.tdiv e2.2 4)), (wr (Int.tdiv e3.1 4), wr (Int.tdiv e3.2 4)), (wr (Int.tdiv e15.1 4), wr (Int.tdiv e15.2 4)), wr (Int.tdiv e16.1 4), wr (Int.tdiv e16.2 4)), 0)))
                              (none)
                          else
                            optE (bin102_0a (3, (0, 0), r1, (r1.length : Int), 0)) (fun e17 =>
                              bif (firstE [unl false 3, unl false 2]) != 0 then
                                some ((((0, 0), (0, 0), (0, 0), 0, 0), firstE [unl false 3, unl false 2]))
                              else
                                some ((((wr (Int.tdiv e2.1 4), wr (Int.tdiv e2.2 4)), (wr (Int.tdiv e3.1 4), wr (Int.tdiv e3.2 4)), (wr (Int.tdiv e15.1 4), wr (Int.tdiv e15.2 4)), wr (Int.tdiv e17.1 4), wr (Int.tdiv e17.2 4)), 0)))
                              (none))
                          (none)
                      else
                        optE (bin102_0a (2, (0, 0), r1, (r1.length : Int), 0)) (fun e18 =>
                          optE (bin102_0a (3, (0, 0), r1, (r1.length : Int), 0)) (fun e19 =>
                            bif (firstE [unl false 3, unl false 2]) != 0 then
                              some ((((0, 0), (0, 0), (0, 0), 0, 0), firstE [unl false 3, unl false 2]))
                            else
                              some ((((wr (Int.tdiv e2.1 4), wr (Int.tdiv e2.2 4)), (wr (Int.tdiv e3.1 4), wr (Int.tdiv e3.2 4)), (wr (Int.tdiv e18.1 4), wr (Int.tdiv e18.2 4)), wr (Int.tdiv e19.1 4), wr (Int.tdiv e19.2 4)), 0)))
                            (none))
                          (none)
                  else
                    bif okG 2000 (wr (Int.tdiv e2.1 4), wr (Int.tdiv e2.2 4)) then
                      optE (bin102_0a (2, (0, 0), r1, (r1.length : Int), 0)) (fun e20 =>
                        bif okG 2000 (wr (Int.tdiv e3.1 4), wr (Int.tdiv e3.2 4)) then
                          optE (bin102_0a (3, (0, 0), r1, (r1.length : Int), 0)) (fun e21 =>
                            bif okG 2000 (wr (Int.tdiv e20.1 4), wr (Int.tdiv e20.2 4)) then
                              bif (firstE [unl false 3, unl (okG 2000 (wr (Int.tdiv e21.1 4), wr (Int.tdiv e21.2 4))) 2]) != 0 then
                                some ((((0, 0), (0, 0), (0, 0), 0, 0), firstE [unl false 3, unl (okG 2000 (wr (Int.tdiv e21.1 4), wr (Int.tdiv e21.2 4))) 2]))
                              else
                                some ((((wr (Int.tdiv e2.1 4), wr (Int.tdiv e2.2 4)), (wr (Int.tdiv e3.1 4), wr (Int.tdiv e3.2 4)), (wr (Int.tdiv e20.1 4), wr (Int.tdiv e20.2 4)), wr (Int.tdiv e21.1 4), wr (Int.tdiv e21.2 4)), 0))
                            else
                              bif (firstE [unl false 3, unl false 2]) != 0 then
                                some ((((0, 0), (0, 0), (0, 0), 0, 0), firstE [unl false 3, unl false 2]))
                              else
                                some ((((wr (Int.tdiv e2.1 4), wr (Int.tdiv e2.2 4)), (wr (Int.tdiv e3.1 4), wr (Int.tdiv e3.2 4)), (wr (Int.tdiv e20.1 4), wr (Int.tdiv e20.2 4)), wr (Int.tdiv e21.1 4), wr (Int.tdiv e21.2 4)), 0)))
                            (none)
                        else
                          optE (bin102_0a (3, (0, 0), r1, (r1.length : Int), 0)) (fun e22 =>
                            bif (firstE [unl false 3, unl false 2]) != 0 then
                              some ((((0, 0), (0, 0), (0, 0), 0, 0), firstE [unl false 3, unl false 2]))
                            else
                              some ((((wr (Int.tdiv e2.1 4), wr (Int.tdiv e2.2 4)), (wr (Int.tdiv e3.1 4), wr (Int.tdiv e3.2 4)), (wr (Int.tdiv e20.1 4), wr (Int.tdiv e20.2 4)), wr (Int.tdiv e22.1 4), wr (Int.tdiv e22.2 4)), 0)))
                            (none))
                        (none)
                    else
                      optE (bin102_0a (2, (0, 0), r1, (r1.length : Int), 0)) (fun e23 =>
                        optE (bin102_0a (3, (0, 0), r1, (r1.length : Int), 0)) (fun e24 =>
                          bif (firstE [unl false 3, unl false 2]) != 0 then
                            some ((((0, 0), (0, 0), (0, 0), 0, 0), firstE [unl false 3, unl false 2]))
                          else
                            some ((((wr (Int.tdiv e2.1 4), wr (Int.tdiv e2.2 4)), (wr (Int.tdiv e3.1 4), wr (Int.tdiv e3.2 4)), (wr (Int.tdiv e23.1 4), wr (Int.tdiv e23.2 4)), wr (Int.tdiv e24.1 4), wr (Int.tdiv e24.2 4)), 0)))
                          (none))
                        (none))
                  (none)
              else
                optE (bin102_0a (1, (0, 0), r1, (r1.length : Int), 0)) (fun e25 =>
                  bif okG 2000 (wr (Int.tdiv e2.1 4), wr (Int.tdiv e2.2 4)) then
                    optE (bin102_0a (2, (0, 0), r1, (r1.length : Int), 0)) (fun e26 =>
                      bif okG 2000 (wr (Int.tdiv e25.1 4), wr (Int.tdiv e25.2 4)) then
                        optE (bin102_0a (3, (0, 0), r1, (r1.length : Int), 0)) (fun e27 =>
                          bif okG 2000 (wr (Int.tdiv e26.1 4), wr (Int.tdiv e26.2 4)) then
                            bif (firstE [unl false 3, unl (okG 2000 (wr (Int.tdiv e27.1 4), wr (Int.tdiv e27.2 4))) 2]) != 0 then
                              some ((((0, 0), (0, 0), (0, 0), 0, 0), firstE [unl false 3, unl (okG 2000 (wr (Int.tdiv e27.1 4), wr (Int.tdiv e27.2 4))) 2]))
                            else
                              some ((((wr (Int.tdiv e2.1 4), wr (Int.tdiv e2.2 4)), (wr (Int.tdiv e25.1 4), wr (Int.tdiv e25.2 4)), (wr (Int.tdiv e26.1 4), wr (Int.tdiv e26.2 4)), wr (Int.tdiv e27.1 4), wr (Int.tdiv e27.2 4)), 0))
                          else
                            bif (firstE [unl false 3, unl false 2]) != 0 then
                              some ((((0, 0), (0, 0), (0, 0), 0, 0), firstE [unl false 3, unl false 2]))
                            else
                              some ((((wr (Int.tdiv e2.1 4), wr (Int.tdiv e2.2 4)), (wr (Int.tdiv e25.1 4), wr (Int.tdiv e25.2 4)), (wr (Int.tdiv e26.1 4), wr (Int.tdiv e26.2 4)), wr (Int.tdiv e27.1 4), wr (Int.tdiv e27.2 4)), 0)))
                          (none)
                      else
                        optE (bin102_0a (3, (0, 0), r1, (r1.length : Int), 0)) (fun e28 =>
                          bif (firstE [unl false 3, unl false 2]) != 0 then
                            some ((((0, 0), (0, 0), (0, 0), 0, 0), firstE [unl false 3, unl false 2]))
                          else
                            some ((((wr (Int.tdiv e2.1 4), wr (Int.tdiv e2.2 4)), (wr (Int.tdiv e25.1 4), wr (Int.tdiv e25.2 4)), (wr (Int.tdiv e26.1 4), wr (Int.tdiv e26.2 4)), wr (Int.tdiv e28.1 4), wr (Int.tdiv e28.2 4)), 0)))
                          (none))
                      (none)
                  else
                    optE (bin102_0a (2, (0, 0), r1, (r1.length : Int), 0)) (fun e29 =>
                      optE (bin102_0a (3, (0, 0), r1, (r1.length : Int), 0)) (fun e30 =>
                        bif (firstE [unl false 3, unl false 2]) != 0 then
                          some ((((0, 0), (0, 0), (0, 0), 0, 0), firstE [unl false 3, unl false 2]))
                        else
                          some ((((wr (Int.tdiv e2.1 4), wr (Int.tdiv e2.2 4)), (wr (Int.tdiv e25.1 4), wr (Int.tdiv e25.2 4)), (wr (Int.tdiv e29.1 4), wr (Int.tdiv e29.2 4)), wr (Int.tdiv e30.1 4), wr (Int.tdiv e30.2 4)), 0)))
                        (none))
                      (none))
                  (none))
              (none))
            (none)
theorem i52 : ItemOk Try.prog (.fn 52 [.d (.agg (.pair (.pair (.int .i64) (.int .i64)) (.pair (.pair (.int .i64) (.int .i64)) (.pair (.pair (.int .i64) (.int .i64)) (.pair (.int .i64) (.int .i64))))))] [.d (.agg (.pair (.pair (.int .i64) (.int .i64)) (.pair (.pair (.int .i64) (.int .i64)) (.pair (.pair (.int .i64) (.int .i64)) (.pair (.int .i64) (.int .i64)))))), .d (.int .i64)] s52) := item_fn (U := 9) (n := 4) noSpecial mixed Ga9K4_ok (fun x => by kernel_rfl)
theorem law52 (s : (Int × Int) × (Int × Int) × (Int × Int) × Int × Int) : s52 s = some (restR s) := by
  simp only [s52, restR, okFour]
  cases h1 : okG 8000 s.1
  · rfl
  cases h2 : okG 8000 s.2.1
  · rfl
  cases h3 : okG 8000 s.2.2.1
  · rfl
  cases h4 : okG 8000 s.2.2.2
  · rfl
  have hs : [s.1, s.2.1, s.2.2.1, s.2.2.2].length ≤ 400 ∧ [s.1, s.2.1, s.2.2.1, s.2.2.2].all (okG 8000) = true := ⟨by simp, by simp [h1, h2, h3, h4]⟩
  simp only [Bool.not_true, cond_false, Bool.and_self, cond_true, p107_pos hs, optE, bin102_0a_pos (q := 0) rfl hs.1 hs.2, bin102_0a_pos (q := 1) rfl hs.1 hs.2, bin102_0a_pos (q := 2) rfl hs.1 hs.2, bin102_0a_pos (q := 3) rfl hs.1 hs.2]
  clear hs h1 h2 h3 h4
  simp only [restOf, quart]
  generalize binL rotF 0 [s.1, s.2.1, s.2.2.1, s.2.2.2] = b0
  generalize binL rotF 1 [s.1, s.2.1, s.2.2.1, s.2.2.2] = b1
  generalize binL rotF 2 [s.1, s.2.1, s.2.2.1, s.2.2.2] = b2
  generalize binL rotF 3 [s.1, s.2.1, s.2.2.1, s.2.2.2] = b3
  generalize okG 2000 (wr (Int.tdiv b0.1 4), wr (Int.tdiv b0.2 4)) = o0
  generalize okG 2000 (wr (Int.tdiv b1.1 4), wr (Int.tdiv b1.2 4)) = o1
  generalize okG 2000 (wr (Int.tdiv b2.1 4), wr (Int.tdiv b2.2 4)) = o2
  generalize okG 2000 (wr (Int.tdiv b3.1 4), wr (Int.tdiv b3.2 4)) = o3
  generalize (Int.tmod b0.1 4 == 0) = t1
  generalize (Int.tmod b0.2 4 == 0) = t2
  generalize (Int.tmod b1.1 4 == 0) = t3
  generalize (Int.tmod b1.2 4 == 0) = t4
  generalize (Int.tmod b2.1 4 == 0) = t5
  generalize (Int.tmod b2.2 4 == 0) = t6
  generalize (Int.tmod b3.1 4 == 0) = t7
  generalize (Int.tmod b3.2 4 == 0) = t8
  cases t1
  · cases o0 <;> cases o1 <;> cases o2 <;> cases o3 <;> rfl
  cases t2
  · cases o0 <;> cases o1 <;> cases o2 <;> cases o3 <;> rfl
  cases t3
  · cases o0 <;> cases o1 <;> cases o2 <;> cases o3 <;> rfl
  cases t4
  · cases o0 <;> cases o1 <;> cases o2 <;> cases o3 <;> rfl
  cases t5
  · cases o0 <;> cases o1 <;> cases o2 <;> cases o3 <;> rfl
  cases t6
  · cases o0 <;> cases o1 <;> cases o2 <;> cases o3 <;> rfl
  cases t7
  · cases o0 <;> cases o1 <;> cases o2 <;> cases o3 <;> rfl
  cases t8
  · cases o0 <;> cases o1 <;> cases o2 <;> cases o3 <;> rfl
  cases o0 <;> cases o1 <;> cases o2 <;> cases o3 <;> rfl
theorem j52 : ItemOk Try.prog (.fn 52 [.d (.agg (.pair (.pair (.int .i64) (.int .i64)) (.pair (.pair (.int .i64) (.int .i64)) (.pair (.pair (.int .i64) (.int .i64)) (.pair (.int .i64) (.int .i64))))))] [.d (.agg (.pair (.pair (.int .i64) (.int .i64)) (.pair (.pair (.int .i64) (.int .i64)) (.pair (.pair (.int .i64) (.int .i64)) (.pair (.int .i64) (.int .i64)))))), .d (.int .i64)] (fun x => some (restR x))) := item_imp i52 (by
  intro x y h
  rw [← h]
  exact law52 x)
noncomputable def Ga9K5 : List Ev.Item := .fn 52 [.d (.agg (.pair (.pair (.int .i64) (.int .i64)) (.pair (.pair (.int .i64) (.int .i64)) (.pair (.pair (.int .i64) (.int .i64)) (.pair (.int .i64) (.int .i64))))))] [.d (.agg (.pair (.pair (.int .i64) (.int .i64)) (.pair (.pair (.int .i64) (.int .i64)) (.pair (.pair (.int .i64) (.int .i64)) (.pair (.int .i64) (.int .i64)))))), .d (.int .i64)] (fun x => some (restR x)) :: Ga9K4
theorem Ga9K5_ok : ∀ q ∈ Ga9K5, ItemOk Try.prog q := items_cons j52 Ga9K4_ok

/-! cassegrain cassegrainref02.Restored -/
noncomputable def s54 : (Int × Int) × (Int × Int) × (Int × Int) × Int × Int → Option (((Int × Int) × (Int × Int) × (Int × Int) × Int × Int) × Int) := fun s =>
  bif (Int.tmod (gaddW (gaddW (gaddW (gaddW (0, 0) (gmulW s.1 (rotF 0))) (gmulW s.2.1 (rotF 0))) (gmulW s.2.2.1 (rotF 0))) (gmulW s.2.2.2 (rotF 0))).1 4) != 0 then
    some ((((0, 0), (0, 0), (0, 0), 0, 0), 3))
  else
    bif (Int.tmod (gaddW (gaddW (gaddW (gaddW (0, 0) (gmulW s.1 (rotF 0))) (gmulW s.2.1 (rotF 0))) (gmulW s.2.2.1 (rotF 0))) (gmulW s.2.2.2 (rotF 0))).2 4) != 0 then
      some ((((0, 0), (0, 0), (0, 0), 0, 0), 3))
    else
      bif (Int.tmod (gaddW (gaddW (gaddW (gaddW (0, 0) (gmulW s.1 (rotF 0))) (gmulW s.2.1 (rotF 1))) (gmulW s.2.2.1 (rotF 2))) (gmulW s.2.2.2 (rotF 3))).1 4) != 0 then
        some ((((0, 0), (0, 0), (0, 0), 0, 0), 3))
      else
        bif (Int.tmod (gaddW (gaddW (gaddW (gaddW (0, 0) (gmulW s.1 (rotF 0))) (gmulW s.2.1 (rotF 1))) (gmulW s.2.2.1 (rotF 2))) (gmulW s.2.2.2 (rotF 3))).2 4) != 0 then
          some ((((0, 0), (0, 0), (0, 0), 0, 0), 3))
        else
          bif (Int.tmod (gaddW (gaddW (gaddW (gaddW (0, 0) (gmulW s.1 (rotF 0))) (gmulW s.2.1 (rotF 2))) (gmulW s.2.2.1 (rotF 4))) (gmulW s.2.2.2 (rotF 6))).1 4) != 0 then
            some ((((0, 0), (0, 0), (0, 0), 0, 0), 3))
          else
            bif (Int.tmod (gaddW (gaddW (gaddW (gaddW (0, 0) (gmulW s.1 (rotF 0))) (gmulW s.2.1 (rotF 2))) (gmulW s.2.2.1 (rotF 4))) (gmulW s.2.2.2 (rotF 6))).2 4) != 0 then
              some ((((0, 0), (0, 0), (0, 0), 0, 0), 3))
            else
              bif (Int.tmod (gaddW (gaddW (gaddW (gaddW (0, 0) (gmulW s.1 (rotF 0))) (gmulW s.2.1 (rotF 3))) (gmulW s.2.2.1 (rotF 6))) (gmulW s.2.2.2 (rotF 9))).1 4) != 0 then
                some ((((0, 0), (0, 0), (0, 0), 0, 0), 3))
              else
                bif (Int.tmod (gaddW (gaddW (gaddW (gaddW (0, 0) (gmulW s.1 (rotF 0))) (gmulW s.2.1 (rotF 3))) (gmulW s.2.2.1 (rotF 6))) (gmulW s.2.2.2 (rotF 9))).2 4) != 0 then
                  some ((((0, 0), (0, 0), (0, 0), 0, 0), 3))
                else
                  bif (gErr 2000 (wr (Int.tdiv (gaddW (gaddW (gaddW (gaddW (0, 0) (gmulW s.1 (rotF 0))) (gmulW s.2.1 (rotF 0))) (gmulW s.2.2.1 (rotF 0))) (gmulW s.2.2.2 (rotF 0))).1 4), wr (Int.tdiv (gaddW (gaddW (gaddW (gaddW (0, 0) (gmulW s.1 (rotF 0))) (gmulW s.2.1 (rotF 0))) (gmulW s.2.2.1 (rotF 0))) (gmulW s.2.2.2 (rotF 0))).2 4))) != 0 then
                    some ((((0, 0), (0, 0), (0, 0), 0, 0), gErr 2000 (wr (Int.tdiv (gaddW (gaddW (gaddW (gaddW (0, 0) (gmulW s.1 (rotF 0))) (gmulW s.2.1 (rotF 0))) (gmulW s.2.2.1 (rotF 0))) (gmulW s.2.2.2 (rotF 0))).1 4), wr (Int.tdiv (gaddW (gaddW (gaddW (gaddW (0, 0) (gmulW s.1 (rotF 0))) (gmulW s.2.1 (rotF 0))) (gmulW s.2.2.1 (rotF 0))) (gmulW s.2.2.2 (rotF 0))).2 4))))
                  else
                    bif (gErr 2000 (wr (Int.tdiv (gaddW (gaddW (gaddW (gaddW (0, 0) (gmulW s.1 (rotF 0))) (gmulW s.2.1 (rotF 1))) (gmulW s.2.2.1 (rotF 2))) (gmulW s.2.2.2 (rotF 3))).1 4), wr (Int.tdiv (gaddW (gaddW (gaddW (gaddW (0, 0) (gmulW s.1 (rotF 0))) (gmulW s.2.1 (rotF 1))) (gmulW s.2.2.1 (rotF 2))) (gmulW s.2.2.2 (rotF 3))).2 4))) != 0 then
                      some ((((0, 0), (0, 0), (0, 0), 0, 0), gErr 2000 (wr (Int.tdiv (gaddW (gaddW (gaddW (gaddW (0, 0) (gmulW s.1 (rotF 0))) (gmulW s.2.1 (rotF 1))) (gmulW s.2.2.1 (rotF 2))) (gmulW s.2.2.2 (rotF 3))).1 4), wr (Int.tdiv (gaddW (gaddW (gaddW (gaddW (0, 0) (gmulW s.1 (rotF 0))) (gmulW s.2.1 (rotF 1))) (gmulW s.2.2.1 (rotF 2))) (gmulW s.2.2.2 (rotF 3))).2 4))))
                    else
                      bif (gErr 2000 (wr (Int.tdiv (gaddW (gaddW (gaddW (gaddW (0, 0) (gmulW s.1 (rotF 0))) (gmulW s.2.1 (rotF 2))) (gmulW s.2.2.1 (rotF 4))) (gmulW s.2.2.2 (rotF 6))).1 4), wr (Int.tdiv (gaddW (gaddW (gaddW (gaddW (0, 0) (gmulW s.1 (rotF 0))) (gmulW s.2.1 (rotF 2))) (gmulW s.2.2.1 (rotF 4))) (gmulW s.2.2.2 (rotF 6))).2 4))) != 0 then
                        some ((((0, 0), (0, 0), (0, 0), 0, 0), gErr 2000 (wr (Int.tdiv (gaddW (gaddW (gaddW (gaddW (0, 0) (gmulW s.1 (rotF 0))) (gmulW s.2.1 (rotF 2))) (gmulW s.2.2.1 (rotF 4))) (gmulW s.2.2.2 (rotF 6))).1 4), wr (Int.tdiv (gaddW (gaddW (gaddW (gaddW (0, 0) (gmulW s.1 (rotF 0))) (gmulW s.2.1 (rotF 2))) (gmulW s.2.2.1 (rotF 4))) (gmulW s.2.2.2 (rotF 6))).2 4))))
                      else
                        bif (gErr 2000 (wr (Int.tdiv (gaddW (gaddW (gaddW (gaddW (0, 0) (gmulW s.1 (rotF 0))) (gmulW s.2.1 (rotF 3))) (gmulW s.2.2.1 (rotF 6))) (gmulW s.2.2.2 (rotF 9))).1 4), wr (Int.tdiv (gaddW (gaddW (gaddW (gaddW (0, 0) (gmulW s.1 (rotF 0))) (gmulW s.2.1 (rotF 3))) (gmulW s.2.2.1 (rotF 6))) (gmulW s.2.2.2 (rotF 9))).2 4))) != 0 then
                          some ((((0, 0), (0, 0), (0, 0), 0, 0), gErr 2000 (wr (Int.tdiv (gaddW (gaddW (gaddW (gaddW (0, 0) (gmulW s.1 (rotF 0))) (gmulW s.2.1 (rotF 3))) (gmulW s.2.2.1 (rotF 6))) (gmulW s.2.2.2 (rotF 9))).1 4), wr (Int.tdiv (gaddW (gaddW (gaddW (gaddW (0, 0) (gmulW s.1 (rotF 0))) (gmulW s.2.1 (rotF 3))) (gmulW s.2.2.1 (rotF 6))) (gmulW s.2.2.2 (rotF 9))).2 4))))
                        else
                          some ((((wr (Int.tdiv (gaddW (gaddW (gaddW (gaddW (0, 0) (gmulW s.1 (rotF 0))) (gmulW s.2.1 (rotF 0))) (gmulW s.2.2.1 (rotF 0))) (gmulW s.2.2.2 (rotF 0))).1 4), wr (Int.tdiv (gaddW (gaddW (gaddW (gaddW (0, 0) (gmulW s.1 (rotF 0))) (gmulW s.2.1 (rotF 0))) (gmulW s.2.2.1 (rotF 0))) (gmulW s.2.2.2 (rotF 0))).2 4)), (wr (Int.tdiv (gaddW (gaddW (gaddW (gaddW (0, 0) (gmulW s.1 (rotF 0))) (gmulW s.2.1 (rotF 1))) (gmulW s.2.2.1 (rotF 2))) (gmulW s.2.2.2 (rotF 3))).1 4), wr (Int.tdiv (gaddW (gaddW (gaddW (gaddW (0, 0) (gmulW s.1 (rotF 0))) (gmulW s.2.1 (rotF 1))) (gmulW s.2.2.1 (rotF 2))) (gmulW s.2.2.2 (rotF 3))).2 4)), (wr (Int.tdiv (gaddW (gaddW (gaddW (gaddW (0, 0) (gmulW s.1 (rotF 0))) (gmulW s.2.1 (rotF 2))) (gmulW s.2.2.1 (rotF 4))) (gmulW s.2.2.2 (rotF 6))).1 4), wr (Int.tdiv (gaddW (gaddW (gaddW (gaddW (0, 0) (gmulW s.1 (rotF 0))) (gmulW s.2.1 (rotF 2))) (gmulW s.2.2.1 (rotF 4))) (gmulW s.2.2.2 (rotF 6))).2 4)), wr (Int.tdiv (gaddW (gaddW (gaddW (gaddW (0, 0) (gmulW s.1 (rotF 0))) (gmulW s.2.1 (rotF 3))) (gmulW s.2.2.1 (rotF 6))) (gmulW s.2.2.2 (rotF 9))).1 4), wr (Int.tdiv (gaddW (gaddW (gaddW (gaddW (0, 0) (gmulW s.1 (rotF 0))) (gmulW s.2.1 (rotF 3))) (gmulW s.2.2.1 (rotF 6))) (gmulW s.2.2.2 (rotF 9))).2 4)), 0))
theorem i54 : ItemOk Try.prog (.fn 54 [.d (.agg (.pair (.pair (.int .i64) (.int .i64)) (.pair (.pair (.int .i64) (.int .i64)) (.pair (.pair (.int .i64) (.int .i64)) (.pair (.int .i64) (.int .i64))))))] [.d (.agg (.pair (.pair (.int .i64) (.int .i64)) (.pair (.pair (.int .i64) (.int .i64)) (.pair (.pair (.int .i64) (.int .i64)) (.pair (.int .i64) (.int .i64)))))), .d (.int .i64)] s54) := item_fn (U := 9) (n := 4) noSpecial mixed Ga9K5_ok (fun x => by kernel_rfl)
theorem law54 (s : (Int × Int) × (Int × Int) × (Int × Int) × Int × Int) (hg : okFour s = true) : s54 s = some (restOf (binL rotF 0 [s.1, s.2.1, s.2.2.1, s.2.2.2]) (binL rotF 1 [s.1, s.2.1, s.2.2.1, s.2.2.2]) (binL rotF 2 [s.1, s.2.1, s.2.2.1, s.2.2.2]) (binL rotF 3 [s.1, s.2.1, s.2.2.1, s.2.2.2])) := by
  simp only [s54]
  rw [four_sum hg 0 0 0 0 0 rfl, four_sum hg 1 0 1 2 3 rfl, four_sum hg 2 0 2 4 6 rfl, four_sum hg 3 0 3 6 9 rfl]
  simp only [restOf, quart, gErr]
  generalize binL rotF 0 [s.1, s.2.1, s.2.2.1, s.2.2.2] = b0
  generalize binL rotF 1 [s.1, s.2.1, s.2.2.1, s.2.2.2] = b1
  generalize binL rotF 2 [s.1, s.2.1, s.2.2.1, s.2.2.2] = b2
  generalize binL rotF 3 [s.1, s.2.1, s.2.2.1, s.2.2.2] = b3
  generalize okG 2000 (wr (Int.tdiv b0.1 4), wr (Int.tdiv b0.2 4)) = o0
  generalize okG 2000 (wr (Int.tdiv b1.1 4), wr (Int.tdiv b1.2 4)) = o1
  generalize okG 2000 (wr (Int.tdiv b2.1 4), wr (Int.tdiv b2.2 4)) = o2
  generalize okG 2000 (wr (Int.tdiv b3.1 4), wr (Int.tdiv b3.2 4)) = o3
  simp only [bne]
  generalize (Int.tmod b0.1 4 == 0) = t1
  generalize (Int.tmod b0.2 4 == 0) = t2
  generalize (Int.tmod b1.1 4 == 0) = t3
  generalize (Int.tmod b1.2 4 == 0) = t4
  generalize (Int.tmod b2.1 4 == 0) = t5
  generalize (Int.tmod b2.2 4 == 0) = t6
  generalize (Int.tmod b3.1 4 == 0) = t7
  generalize (Int.tmod b3.2 4 == 0) = t8
  cases t1
  · rfl
  cases t2
  · rfl
  cases t3
  · rfl
  cases t4
  · rfl
  cases t5
  · rfl
  cases t6
  · rfl
  cases t7
  · rfl
  cases t8
  · rfl
  cases o0 <;> cases o1 <;> cases o2 <;> cases o3 <;> rfl
noncomputable def p54 : (Int × Int) × (Int × Int) × (Int × Int) × Int × Int → Option (((Int × Int) × (Int × Int) × (Int × Int) × Int × Int) × Int) := fun x => if okFour x = true then some (restOf (binL rotF 0 [x.1, x.2.1, x.2.2.1, x.2.2.2]) (binL rotF 1 [x.1, x.2.1, x.2.2.1, x.2.2.2]) (binL rotF 2 [x.1, x.2.1, x.2.2.1, x.2.2.2]) (binL rotF 3 [x.1, x.2.1, x.2.2.1, x.2.2.2])) else none
theorem p54_pos {x : (Int × Int) × (Int × Int) × (Int × Int) × Int × Int} (h : okFour x = true) : p54 x = some (restOf (binL rotF 0 [x.1, x.2.1, x.2.2.1, x.2.2.2]) (binL rotF 1 [x.1, x.2.1, x.2.2.1, x.2.2.2]) (binL rotF 2 [x.1, x.2.1, x.2.2.1, x.2.2.2]) (binL rotF 3 [x.1, x.2.1, x.2.2.1, x.2.2.2])) := if_pos h
theorem j54 : ItemOk Try.prog (.fn 54 [.d (.agg (.pair (.pair (.int .i64) (.int .i64)) (.pair (.pair (.int .i64) (.int .i64)) (.pair (.pair (.int .i64) (.int .i64)) (.pair (.int .i64) (.int .i64))))))] [.d (.agg (.pair (.pair (.int .i64) (.int .i64)) (.pair (.pair (.int .i64) (.int .i64)) (.pair (.pair (.int .i64) (.int .i64)) (.pair (.int .i64) (.int .i64)))))), .d (.int .i64)] (p54)) := item_imp i54 (by
  intro x y h
  unfold p54 at h
  split at h
  · rename_i hg
    rw [← h]
    exact law54 x hg
  · cases h)
noncomputable def Ga9K6 : List Ev.Item := .fn 54 [.d (.agg (.pair (.pair (.int .i64) (.int .i64)) (.pair (.pair (.int .i64) (.int .i64)) (.pair (.pair (.int .i64) (.int .i64)) (.pair (.int .i64) (.int .i64))))))] [.d (.agg (.pair (.pair (.int .i64) (.int .i64)) (.pair (.pair (.int .i64) (.int .i64)) (.pair (.pair (.int .i64) (.int .i64)) (.pair (.int .i64) (.int .i64)))))), .d (.int .i64)] (p54) :: Ga9K5
theorem Ga9K6_ok : ∀ q ∈ Ga9K6, ItemOk Try.prog q := items_cons j54 Ga9K5_ok
end Go.Proofs.Ytinkhmfciealkaa
