/- Printed by motlaw.py: the reference's motions at so many targets. -/
import Derived.Test.YthabingkfmlbbaaRefMath
set_option linter.unusedSimpArgs false
set_option linter.unusedVariables false
set_option maxRecDepth 100000
namespace Go.Proofs.Ythabingkfmlbbaa
open Go.Ev
theorem optE_none {β R : Type} (f : β → R) (g : R) : optE (none : Option β) f g = g := rfl
theorem P0 {d : Dr} (hd : DOk d) (hT : TOk d ([] : List Int)) : p13n0 d = some (refOut d ([] : List Int)) := by
 have hst : -20000 ≤ d.2.2.1 ∧ d.2.2.1 ≤ 20000 := by
  have := hd.l1; have := hd.l3; have := hd.a1; have := hd.a2
  omega
 have hb := best_z (d := d) RB.nil hst true
 simp only [p13n0, hb, optE_some]
 rfl
theorem P1 {d : Dr} (hd : DOk d) {t0 : Int} (hT : TOk d ([t0] : List Int)) : p13n1 (d, t0) = some (refOut d ([t0] : List Int)) := by
 have hst : -20000 ≤ d.2.2.1 ∧ d.2.2.1 ≤ 20000 := by
  have := hd.l1; have := hd.l3; have := hd.a1; have := hd.a2
  omega
 have b0 := hT t0 (by simp)
 have q0 := rpos_z hd b0.1 b0.2
 have a0 := posD_all hd t0
 obtain ⟨R0, h0⟩ : ∃ R, mkRow d (posD d t0) [] true = R := ⟨_, rfl⟩
 have hm : mkRows d ([t0] : List Int) = [R0] := by
  rw [← h0]; rfl
 have hrb := rows_rb hd (ts := ([t0] : List Int)) (by simp) (rows_ok hd (by simp))
 rw [hm] at hrb
 have B0 := hrb R0 (by simp)
 have hs := ref_steps hd (ts := ([t0] : List Int)) (by simp)
 have hB : refB d ([t0] : List Int) = bstV d R0 d.2.2.1 false := by
  unfold refB; rw [hm]; rfl
 have hbz := best_z (d := d) B0 hst false
 unfold refOut
 rw [hB, hm]
 rw [hB, hm] at hs
 have hp : padV 1 (.int .i64) ([t0] : List Int) = ([t0] : List Int) := rfl
 have g0 : ([t0] : List Int).getD 0 0 = t0 := rfl
 have l0 := row_gen 1 (step := step13_2b) (d := d) (l := ([t0] : List Int)) (next := []) (e := true) (fun r => (r, [])) rfl (fun _ _ => rfl) a0 RB.nil
 simp only [h0] at l0
 simp only [p13n1, optE_some, hp, hbz, q0, g0, l0]
 generalize bstV d R0 d.2.2.1 false = b at hs ⊢
 cases hb : b.2 with
 | false => rfl
 | true =>
   obtain ⟨s0, _⟩ := hs hb
   simp only [Bool.not_true, cond_false, cond_true, s0, walk]
theorem P2 {d : Dr} (hd : DOk d) {t0 t1 : Int} (hT : TOk d ([t0, t1] : List Int)) : p13n2 (d, t0, t1) = some (refOut d ([t0, t1] : List Int)) := by
 have hst : -20000 ≤ d.2.2.1 ∧ d.2.2.1 ≤ 20000 := by
  have := hd.l1; have := hd.l3; have := hd.a1; have := hd.a2
  omega
 have b0 := hT t0 (by simp)
 have q0 := rpos_z hd b0.1 b0.2
 have a0 := posD_all hd t0
 have b1 := hT t1 (by simp)
 have q1 := rpos_z hd b1.1 b1.2
 have a1 := posD_all hd t1
 obtain ⟨R1, h1⟩ : ∃ R, mkRow d (posD d t1) [] true = R := ⟨_, rfl⟩
 obtain ⟨R0, h0⟩ : ∃ R, mkRow d (posD d t0) R1 false = R := ⟨_, rfl⟩
 have hm : mkRows d ([t0, t1] : List Int) = [R0, R1] := by
  rw [← h0, ← h1]; rfl
 have hrb := rows_rb hd (ts := ([t0, t1] : List Int)) (by simp) (rows_ok hd (by simp))
 rw [hm] at hrb
 have B0 := hrb R0 (by simp)
 have B1 := hrb R1 (by simp)
 have hs := ref_steps hd (ts := ([t0, t1] : List Int)) (by simp)
 have hB : refB d ([t0, t1] : List Int) = bstV d R0 d.2.2.1 false := by
  unfold refB; rw [hm]; rfl
 have hbz := best_z (d := d) B0 hst false
 unfold refOut
 rw [hB, hm]
 rw [hB, hm] at hs
 have hp : padV 2 (.int .i64) ([t0, t1] : List Int) = ([t0, t1] : List Int) := rfl
 have g0 : ([t0, t1] : List Int).getD 0 0 = t0 := rfl
 have g1 : ([t0, t1] : List Int).getD 1 0 = t1 := rfl
 have l1 := row_gen 2 (step := step13_2c) (d := d) (l := ([t0, t1] : List Int)) (next := []) (e := true) (fun r => ([], r, [])) rfl (fun _ _ => rfl) a1 RB.nil
 simp only [h1] at l1
 have l0 := row_gen 2 (step := step13_2ca) (d := d) (l := ([t0, t1] : List Int)) (next := R1) (e := false) (fun r => (r, R1, [])) rfl (fun _ _ => rfl) a0 B1
 simp only [h0] at l0
 simp only [p13n2, optE_some, hp, hbz, q0, g0, l0, q1, g1, l1]
 generalize bstV d R0 d.2.2.1 false = b at hs ⊢
 cases hb : b.2 with
 | false => rfl
 | true =>
   obtain ⟨s0, s1, _⟩ := hs hb
   simp only [Bool.not_true, cond_false, cond_true, s0, s1, walk]
theorem P3 {d : Dr} (hd : DOk d) {t0 t1 t2 : Int} (hT : TOk d ([t0, t1, t2] : List Int)) : p13n3 (d, t0, t1, t2) = some (refOut d ([t0, t1, t2] : List Int)) := by
 have hst : -20000 ≤ d.2.2.1 ∧ d.2.2.1 ≤ 20000 := by
  have := hd.l1; have := hd.l3; have := hd.a1; have := hd.a2
  omega
 have b0 := hT t0 (by simp)
 have q0 := rpos_z hd b0.1 b0.2
 have a0 := posD_all hd t0
 have b1 := hT t1 (by simp)
 have q1 := rpos_z hd b1.1 b1.2
 have a1 := posD_all hd t1
 have b2 := hT t2 (by simp)
 have q2 := rpos_z hd b2.1 b2.2
 have a2 := posD_all hd t2
 obtain ⟨R2, h2⟩ : ∃ R, mkRow d (posD d t2) [] true = R := ⟨_, rfl⟩
 obtain ⟨R1, h1⟩ : ∃ R, mkRow d (posD d t1) R2 false = R := ⟨_, rfl⟩
 obtain ⟨R0, h0⟩ : ∃ R, mkRow d (posD d t0) R1 false = R := ⟨_, rfl⟩
 have hm : mkRows d ([t0, t1, t2] : List Int) = [R0, R1, R2] := by
  rw [← h0, ← h1, ← h2]; rfl
 have hrb := rows_rb hd (ts := ([t0, t1, t2] : List Int)) (by simp) (rows_ok hd (by simp))
 rw [hm] at hrb
 have B0 := hrb R0 (by simp)
 have B1 := hrb R1 (by simp)
 have B2 := hrb R2 (by simp)
 have hs := ref_steps hd (ts := ([t0, t1, t2] : List Int)) (by simp)
 have hB : refB d ([t0, t1, t2] : List Int) = bstV d R0 d.2.2.1 false := by
  unfold refB; rw [hm]; rfl
 have hbz := best_z (d := d) B0 hst false
 unfold refOut
 rw [hB, hm]
 rw [hB, hm] at hs
 have hp : padV 3 (.int .i64) ([t0, t1, t2] : List Int) = ([t0, t1, t2] : List Int) := rfl
 have g0 : ([t0, t1, t2] : List Int).getD 0 0 = t0 := rfl
 have g1 : ([t0, t1, t2] : List Int).getD 1 0 = t1 := rfl
 have g2 : ([t0, t1, t2] : List Int).getD 2 0 = t2 := rfl
 have l2 := row_gen 3 (step := step13_2d) (d := d) (l := ([t0, t1, t2] : List Int)) (next := []) (e := true) (fun r => ([], [], r, [])) rfl (fun _ _ => rfl) a2 RB.nil
 simp only [h2] at l2
 have l1 := row_gen 3 (step := step13_2da) (d := d) (l := ([t0, t1, t2] : List Int)) (next := R2) (e := false) (fun r => ([], r, R2, [])) rfl (fun _ _ => rfl) a1 B2
 simp only [h1] at l1
 have l0 := row_gen 3 (step := step13_2db) (d := d) (l := ([t0, t1, t2] : List Int)) (next := R1) (e := false) (fun r => (r, R1, R2, [])) rfl (fun _ _ => rfl) a0 B1
 simp only [h0] at l0
 simp only [p13n3, optE_some, hp, hbz, q0, g0, l0, q1, g1, l1, q2, g2, l2]
 generalize bstV d R0 d.2.2.1 false = b at hs ⊢
 cases hb : b.2 with
 | false => rfl
 | true =>
   obtain ⟨s0, s1, s2, _⟩ := hs hb
   simp only [Bool.not_true, cond_false, cond_true, s0, s1, s2, walk]
theorem P4 {d : Dr} (hd : DOk d) {t0 t1 t2 t3 : Int} (hT : TOk d ([t0, t1, t2, t3] : List Int)) : p13n4 (d, t0, t1, t2, t3) = some (refOut d ([t0, t1, t2, t3] : List Int)) := by
 have hst : -20000 ≤ d.2.2.1 ∧ d.2.2.1 ≤ 20000 := by
  have := hd.l1; have := hd.l3; have := hd.a1; have := hd.a2
  omega
 have b0 := hT t0 (by simp)
 have q0 := rpos_z hd b0.1 b0.2
 have a0 := posD_all hd t0
 have b1 := hT t1 (by simp)
 have q1 := rpos_z hd b1.1 b1.2
 have a1 := posD_all hd t1
 have b2 := hT t2 (by simp)
 have q2 := rpos_z hd b2.1 b2.2
 have a2 := posD_all hd t2
 have b3 := hT t3 (by simp)
 have q3 := rpos_z hd b3.1 b3.2
 have a3 := posD_all hd t3
 obtain ⟨R3, h3⟩ : ∃ R, mkRow d (posD d t3) [] true = R := ⟨_, rfl⟩
 obtain ⟨R2, h2⟩ : ∃ R, mkRow d (posD d t2) R3 false = R := ⟨_, rfl⟩
 obtain ⟨R1, h1⟩ : ∃ R, mkRow d (posD d t1) R2 false = R := ⟨_, rfl⟩
 obtain ⟨R0, h0⟩ : ∃ R, mkRow d (posD d t0) R1 false = R := ⟨_, rfl⟩
 have hm : mkRows d ([t0, t1, t2, t3] : List Int) = [R0, R1, R2, R3] := by
  rw [← h0, ← h1, ← h2, ← h3]; rfl
 have hrb := rows_rb hd (ts := ([t0, t1, t2, t3] : List Int)) (by simp) (rows_ok hd (by simp))
 rw [hm] at hrb
 have B0 := hrb R0 (by simp)
 have B1 := hrb R1 (by simp)
 have B2 := hrb R2 (by simp)
 have B3 := hrb R3 (by simp)
 have hs := ref_steps hd (ts := ([t0, t1, t2, t3] : List Int)) (by simp)
 have hB : refB d ([t0, t1, t2, t3] : List Int) = bstV d R0 d.2.2.1 false := by
  unfold refB; rw [hm]; rfl
 have hbz := best_z (d := d) B0 hst false
 unfold refOut
 rw [hB, hm]
 rw [hB, hm] at hs
 have hp : padV 4 (.int .i64) ([t0, t1, t2, t3] : List Int) = ([t0, t1, t2, t3] : List Int) := rfl
 have g0 : ([t0, t1, t2, t3] : List Int).getD 0 0 = t0 := rfl
 have g1 : ([t0, t1, t2, t3] : List Int).getD 1 0 = t1 := rfl
 have g2 : ([t0, t1, t2, t3] : List Int).getD 2 0 = t2 := rfl
 have g3 : ([t0, t1, t2, t3] : List Int).getD 3 0 = t3 := rfl
 have l3 := row_gen 4 (step := step13_2e) (d := d) (l := ([t0, t1, t2, t3] : List Int)) (next := []) (e := true) (fun r => ([], [], [], r, [])) rfl (fun _ _ => rfl) a3 RB.nil
 simp only [h3] at l3
 have l2 := row_gen 4 (step := step13_2ea) (d := d) (l := ([t0, t1, t2, t3] : List Int)) (next := R3) (e := false) (fun r => ([], [], r, R3, [])) rfl (fun _ _ => rfl) a2 B3
 simp only [h2] at l2
 have l1 := row_gen 4 (step := step13_2eb) (d := d) (l := ([t0, t1, t2, t3] : List Int)) (next := R2) (e := false) (fun r => ([], r, R2, R3, [])) rfl (fun _ _ => rfl) a1 B2
 simp only [h1] at l1
 have l0 := row_gen 4 (step := step13_2ec) (d := d) (l := ([t0, t1, t2, t3] : List Int)) (next := R1) (e := false) (fun r => (r, R1, R2, R3, [])) rfl (fun _ _ => rfl) a0 B1
 simp only [h0] at l0
 simp only [p13n4, optE_some, hp, hbz, q0, g0, l0, q1, g1, l1, q2, g2, l2, q3, g3, l3]
 generalize bstV d R0 d.2.2.1 false = b at hs ⊢
 cases hb : b.2 with
 | false => rfl
 | true =>
   obtain ⟨s0, s1, s2, s3, _⟩ := hs hb
   simp only [Bool.not_true, cond_false, cond_true, s0, s1, s2, s3, walk]
theorem P5 {d : Dr} (hd : DOk d) {t0 t1 t2 t3 t4 : Int} (hT : TOk d ([t0, t1, t2, t3, t4] : List Int)) : p13n5 (d, t0, t1, t2, t3, t4) = some (refOut d ([t0, t1, t2, t3, t4] : List Int)) := by
 have hst : -20000 ≤ d.2.2.1 ∧ d.2.2.1 ≤ 20000 := by
  have := hd.l1; have := hd.l3; have := hd.a1; have := hd.a2
  omega
 have b0 := hT t0 (by simp)
 have q0 := rpos_z hd b0.1 b0.2
 have a0 := posD_all hd t0
 have b1 := hT t1 (by simp)
 have q1 := rpos_z hd b1.1 b1.2
 have a1 := posD_all hd t1
 have b2 := hT t2 (by simp)
 have q2 := rpos_z hd b2.1 b2.2
 have a2 := posD_all hd t2
 have b3 := hT t3 (by simp)
 have q3 := rpos_z hd b3.1 b3.2
 have a3 := posD_all hd t3
 have b4 := hT t4 (by simp)
 have q4 := rpos_z hd b4.1 b4.2
 have a4 := posD_all hd t4
 obtain ⟨R4, h4⟩ : ∃ R, mkRow d (posD d t4) [] true = R := ⟨_, rfl⟩
 obtain ⟨R3, h3⟩ : ∃ R, mkRow d (posD d t3) R4 false = R := ⟨_, rfl⟩
 obtain ⟨R2, h2⟩ : ∃ R, mkRow d (posD d t2) R3 false = R := ⟨_, rfl⟩
 obtain ⟨R1, h1⟩ : ∃ R, mkRow d (posD d t1) R2 false = R := ⟨_, rfl⟩
 obtain ⟨R0, h0⟩ : ∃ R, mkRow d (posD d t0) R1 false = R := ⟨_, rfl⟩
 have hm : mkRows d ([t0, t1, t2, t3, t4] : List Int) = [R0, R1, R2, R3, R4] := by
  rw [← h0, ← h1, ← h2, ← h3, ← h4]; rfl
 have hrb := rows_rb hd (ts := ([t0, t1, t2, t3, t4] : List Int)) (by simp) (rows_ok hd (by simp))
 rw [hm] at hrb
 have B0 := hrb R0 (by simp)
 have B1 := hrb R1 (by simp)
 have B2 := hrb R2 (by simp)
 have B3 := hrb R3 (by simp)
 have B4 := hrb R4 (by simp)
 have hs := ref_steps hd (ts := ([t0, t1, t2, t3, t4] : List Int)) (by simp)
 have hB : refB d ([t0, t1, t2, t3, t4] : List Int) = bstV d R0 d.2.2.1 false := by
  unfold refB; rw [hm]; rfl
 have hbz := best_z (d := d) B0 hst false
 unfold refOut
 rw [hB, hm]
 rw [hB, hm] at hs
 have hp : padV 5 (.int .i64) ([t0, t1, t2, t3, t4] : List Int) = ([t0, t1, t2, t3, t4] : List Int) := rfl
 have g0 : ([t0, t1, t2, t3, t4] : List Int).getD 0 0 = t0 := rfl
 have g1 : ([t0, t1, t2, t3, t4] : List Int).getD 1 0 = t1 := rfl
 have g2 : ([t0, t1, t2, t3, t4] : List Int).getD 2 0 = t2 := rfl
 have g3 : ([t0, t1, t2, t3, t4] : List Int).getD 3 0 = t3 := rfl
 have g4 : ([t0, t1, t2, t3, t4] : List Int).getD 4 0 = t4 := rfl
 have l4 := row_gen 5 (step := step13_2f) (d := d) (l := ([t0, t1, t2, t3, t4] : List Int)) (next := []) (e := true) (fun r => ([], [], [], [], r, [])) rfl (fun _ _ => rfl) a4 RB.nil
 simp only [h4] at l4
 have l3 := row_gen 5 (step := step13_2fa) (d := d) (l := ([t0, t1, t2, t3, t4] : List Int)) (next := R4) (e := false) (fun r => ([], [], [], r, R4, [])) rfl (fun _ _ => rfl) a3 B4
 simp only [h3] at l3
 have l2 := row_gen 5 (step := step13_2fb) (d := d) (l := ([t0, t1, t2, t3, t4] : List Int)) (next := R3) (e := false) (fun r => ([], [], r, R3, R4, [])) rfl (fun _ _ => rfl) a2 B3
 simp only [h2] at l2
 have l1 := row_gen 5 (step := step13_2fc) (d := d) (l := ([t0, t1, t2, t3, t4] : List Int)) (next := R2) (e := false) (fun r => ([], r, R2, R3, R4, [])) rfl (fun _ _ => rfl) a1 B2
 simp only [h1] at l1
 have l0 := row_gen 5 (step := step13_2fd) (d := d) (l := ([t0, t1, t2, t3, t4] : List Int)) (next := R1) (e := false) (fun r => (r, R1, R2, R3, R4, [])) rfl (fun _ _ => rfl) a0 B1
 simp only [h0] at l0
 simp only [p13n5, optE_some, hp, hbz, q0, g0, l0, q1, g1, l1, q2, g2, l2, q3, g3, l3, q4, g4, l4]
 generalize bstV d R0 d.2.2.1 false = b at hs ⊢
 cases hb : b.2 with
 | false => rfl
 | true =>
   obtain ⟨s0, s1, s2, s3, s4, _⟩ := hs hb
   simp only [Bool.not_true, cond_false, cond_true, s0, s1, s2, s3, s4, walk]
theorem P6 {d : Dr} (hd : DOk d) {t0 t1 t2 t3 t4 t5 : Int} (hT : TOk d ([t0, t1, t2, t3, t4, t5] : List Int)) : p13n6 (d, t0, t1, t2, t3, t4, t5) = some (refOut d ([t0, t1, t2, t3, t4, t5] : List Int)) := by
 have hst : -20000 ≤ d.2.2.1 ∧ d.2.2.1 ≤ 20000 := by
  have := hd.l1; have := hd.l3; have := hd.a1; have := hd.a2
  omega
 have b0 := hT t0 (by simp)
 have q0 := rpos_z hd b0.1 b0.2
 have a0 := posD_all hd t0
 have b1 := hT t1 (by simp)
 have q1 := rpos_z hd b1.1 b1.2
 have a1 := posD_all hd t1
 have b2 := hT t2 (by simp)
 have q2 := rpos_z hd b2.1 b2.2
 have a2 := posD_all hd t2
 have b3 := hT t3 (by simp)
 have q3 := rpos_z hd b3.1 b3.2
 have a3 := posD_all hd t3
 have b4 := hT t4 (by simp)
 have q4 := rpos_z hd b4.1 b4.2
 have a4 := posD_all hd t4
 have b5 := hT t5 (by simp)
 have q5 := rpos_z hd b5.1 b5.2
 have a5 := posD_all hd t5
 obtain ⟨R5, h5⟩ : ∃ R, mkRow d (posD d t5) [] true = R := ⟨_, rfl⟩
 obtain ⟨R4, h4⟩ : ∃ R, mkRow d (posD d t4) R5 false = R := ⟨_, rfl⟩
 obtain ⟨R3, h3⟩ : ∃ R, mkRow d (posD d t3) R4 false = R := ⟨_, rfl⟩
 obtain ⟨R2, h2⟩ : ∃ R, mkRow d (posD d t2) R3 false = R := ⟨_, rfl⟩
 obtain ⟨R1, h1⟩ : ∃ R, mkRow d (posD d t1) R2 false = R := ⟨_, rfl⟩
 obtain ⟨R0, h0⟩ : ∃ R, mkRow d (posD d t0) R1 false = R := ⟨_, rfl⟩
 have hm : mkRows d ([t0, t1, t2, t3, t4, t5] : List Int) = [R0, R1, R2, R3, R4, R5] := by
  rw [← h0, ← h1, ← h2, ← h3, ← h4, ← h5]; rfl
 have hrb := rows_rb hd (ts := ([t0, t1, t2, t3, t4, t5] : List Int)) (by simp) (rows_ok hd (by simp))
 rw [hm] at hrb
 have B0 := hrb R0 (by simp)
 have B1 := hrb R1 (by simp)
 have B2 := hrb R2 (by simp)
 have B3 := hrb R3 (by simp)
 have B4 := hrb R4 (by simp)
 have B5 := hrb R5 (by simp)
 have hs := ref_steps hd (ts := ([t0, t1, t2, t3, t4, t5] : List Int)) (by simp)
 have hB : refB d ([t0, t1, t2, t3, t4, t5] : List Int) = bstV d R0 d.2.2.1 false := by
  unfold refB; rw [hm]; rfl
 have hbz := best_z (d := d) B0 hst false
 unfold refOut
 rw [hB, hm]
 rw [hB, hm] at hs
 have hp : padV 6 (.int .i64) ([t0, t1, t2, t3, t4, t5] : List Int) = ([t0, t1, t2, t3, t4, t5] : List Int) := rfl
 have g0 : ([t0, t1, t2, t3, t4, t5] : List Int).getD 0 0 = t0 := rfl
 have g1 : ([t0, t1, t2, t3, t4, t5] : List Int).getD 1 0 = t1 := rfl
 have g2 : ([t0, t1, t2, t3, t4, t5] : List Int).getD 2 0 = t2 := rfl
 have g3 : ([t0, t1, t2, t3, t4, t5] : List Int).getD 3 0 = t3 := rfl
 have g4 : ([t0, t1, t2, t3, t4, t5] : List Int).getD 4 0 = t4 := rfl
 have g5 : ([t0, t1, t2, t3, t4, t5] : List Int).getD 5 0 = t5 := rfl
 have l5 := row_gen 6 (step := step13_2g) (d := d) (l := ([t0, t1, t2, t3, t4, t5] : List Int)) (next := []) (e := true) (fun r => ([], [], [], [], [], r, [])) rfl (fun _ _ => rfl) a5 RB.nil
 simp only [h5] at l5
 have l4 := row_gen 6 (step := step13_2ga) (d := d) (l := ([t0, t1, t2, t3, t4, t5] : List Int)) (next := R5) (e := false) (fun r => ([], [], [], [], r, R5, [])) rfl (fun _ _ => rfl) a4 B5
 simp only [h4] at l4
 have l3 := row_gen 6 (step := step13_2gb) (d := d) (l := ([t0, t1, t2, t3, t4, t5] : List Int)) (next := R4) (e := false) (fun r => ([], [], [], r, R4, R5, [])) rfl (fun _ _ => rfl) a3 B4
 simp only [h3] at l3
 have l2 := row_gen 6 (step := step13_2gc) (d := d) (l := ([t0, t1, t2, t3, t4, t5] : List Int)) (next := R3) (e := false) (fun r => ([], [], r, R3, R4, R5, [])) rfl (fun _ _ => rfl) a2 B3
 simp only [h2] at l2
 have l1 := row_gen 6 (step := step13_2gd) (d := d) (l := ([t0, t1, t2, t3, t4, t5] : List Int)) (next := R2) (e := false) (fun r => ([], r, R2, R3, R4, R5, [])) rfl (fun _ _ => rfl) a1 B2
 simp only [h1] at l1
 have l0 := row_gen 6 (step := step13_2ge) (d := d) (l := ([t0, t1, t2, t3, t4, t5] : List Int)) (next := R1) (e := false) (fun r => (r, R1, R2, R3, R4, R5, [])) rfl (fun _ _ => rfl) a0 B1
 simp only [h0] at l0
 simp only [p13n6, optE_some, hp, hbz, q0, g0, l0, q1, g1, l1, q2, g2, l2, q3, g3, l3, q4, g4, l4, q5, g5, l5]
 generalize bstV d R0 d.2.2.1 false = b at hs ⊢
 cases hb : b.2 with
 | false => rfl
 | true =>
   obtain ⟨s0, s1, s2, s3, s4, s5, _⟩ := hs hb
   simp only [Bool.not_true, cond_false, cond_true, s0, s1, s2, s3, s4, s5, walk]
theorem P7 {d : Dr} (hd : DOk d) {t0 t1 t2 t3 t4 t5 t6 : Int} (hT : TOk d ([t0, t1, t2, t3, t4, t5, t6] : List Int)) : p13n7 (d, t0, t1, t2, t3, t4, t5, t6) = some (refOut d ([t0, t1, t2, t3, t4, t5, t6] : List Int)) := by
 have hst : -20000 ≤ d.2.2.1 ∧ d.2.2.1 ≤ 20000 := by
  have := hd.l1; have := hd.l3; have := hd.a1; have := hd.a2
  omega
 have b0 := hT t0 (by simp)
 have q0 := rpos_z hd b0.1 b0.2
 have a0 := posD_all hd t0
 have b1 := hT t1 (by simp)
 have q1 := rpos_z hd b1.1 b1.2
 have a1 := posD_all hd t1
 have b2 := hT t2 (by simp)
 have q2 := rpos_z hd b2.1 b2.2
 have a2 := posD_all hd t2
 have b3 := hT t3 (by simp)
 have q3 := rpos_z hd b3.1 b3.2
 have a3 := posD_all hd t3
 have b4 := hT t4 (by simp)
 have q4 := rpos_z hd b4.1 b4.2
 have a4 := posD_all hd t4
 have b5 := hT t5 (by simp)
 have q5 := rpos_z hd b5.1 b5.2
 have a5 := posD_all hd t5
 have b6 := hT t6 (by simp)
 have q6 := rpos_z hd b6.1 b6.2
 have a6 := posD_all hd t6
 obtain ⟨R6, h6⟩ : ∃ R, mkRow d (posD d t6) [] true = R := ⟨_, rfl⟩
 obtain ⟨R5, h5⟩ : ∃ R, mkRow d (posD d t5) R6 false = R := ⟨_, rfl⟩
 obtain ⟨R4, h4⟩ : ∃ R, mkRow d (posD d t4) R5 false = R := ⟨_, rfl⟩
 obtain ⟨R3, h3⟩ : ∃ R, mkRow d (posD d t3) R4 false = R := ⟨_, rfl⟩
 obtain ⟨R2, h2⟩ : ∃ R, mkRow d (posD d t2) R3 false = R := ⟨_, rfl⟩
 obtain ⟨R1, h1⟩ : ∃ R, mkRow d (posD d t1) R2 false = R := ⟨_, rfl⟩
 obtain ⟨R0, h0⟩ : ∃ R, mkRow d (posD d t0) R1 false = R := ⟨_, rfl⟩
 have hm : mkRows d ([t0, t1, t2, t3, t4, t5, t6] : List Int) = [R0, R1, R2, R3, R4, R5, R6] := by
  rw [← h0, ← h1, ← h2, ← h3, ← h4, ← h5, ← h6]; rfl
 have hrb := rows_rb hd (ts := ([t0, t1, t2, t3, t4, t5, t6] : List Int)) (by simp) (rows_ok hd (by simp))
 rw [hm] at hrb
 have B0 := hrb R0 (by simp)
 have B1 := hrb R1 (by simp)
 have B2 := hrb R2 (by simp)
 have B3 := hrb R3 (by simp)
 have B4 := hrb R4 (by simp)
 have B5 := hrb R5 (by simp)
 have B6 := hrb R6 (by simp)
 have hs := ref_steps hd (ts := ([t0, t1, t2, t3, t4, t5, t6] : List Int)) (by simp)
 have hB : refB d ([t0, t1, t2, t3, t4, t5, t6] : List Int) = bstV d R0 d.2.2.1 false := by
  unfold refB; rw [hm]; rfl
 have hbz := best_z (d := d) B0 hst false
 unfold refOut
 rw [hB, hm]
 rw [hB, hm] at hs
 have hp : padV 7 (.int .i64) ([t0, t1, t2, t3, t4, t5, t6] : List Int) = ([t0, t1, t2, t3, t4, t5, t6] : List Int) := rfl
 have g0 : ([t0, t1, t2, t3, t4, t5, t6] : List Int).getD 0 0 = t0 := rfl
 have g1 : ([t0, t1, t2, t3, t4, t5, t6] : List Int).getD 1 0 = t1 := rfl
 have g2 : ([t0, t1, t2, t3, t4, t5, t6] : List Int).getD 2 0 = t2 := rfl
 have g3 : ([t0, t1, t2, t3, t4, t5, t6] : List Int).getD 3 0 = t3 := rfl
 have g4 : ([t0, t1, t2, t3, t4, t5, t6] : List Int).getD 4 0 = t4 := rfl
 have g5 : ([t0, t1, t2, t3, t4, t5, t6] : List Int).getD 5 0 = t5 := rfl
 have g6 : ([t0, t1, t2, t3, t4, t5, t6] : List Int).getD 6 0 = t6 := rfl
 have l6 := row_gen 7 (step := step13_2h) (d := d) (l := ([t0, t1, t2, t3, t4, t5, t6] : List Int)) (next := []) (e := true) (fun r => ([], [], [], [], [], [], r, [])) rfl (fun _ _ => rfl) a6 RB.nil
 simp only [h6] at l6
 have l5 := row_gen 7 (step := step13_2ha) (d := d) (l := ([t0, t1, t2, t3, t4, t5, t6] : List Int)) (next := R6) (e := false) (fun r => ([], [], [], [], [], r, R6, [])) rfl (fun _ _ => rfl) a5 B6
 simp only [h5] at l5
 have l4 := row_gen 7 (step := step13_2hb) (d := d) (l := ([t0, t1, t2, t3, t4, t5, t6] : List Int)) (next := R5) (e := false) (fun r => ([], [], [], [], r, R5, R6, [])) rfl (fun _ _ => rfl) a4 B5
 simp only [h4] at l4
 have l3 := row_gen 7 (step := step13_2hc) (d := d) (l := ([t0, t1, t2, t3, t4, t5, t6] : List Int)) (next := R4) (e := false) (fun r => ([], [], [], r, R4, R5, R6, [])) rfl (fun _ _ => rfl) a3 B4
 simp only [h3] at l3
 have l2 := row_gen 7 (step := step13_2hd) (d := d) (l := ([t0, t1, t2, t3, t4, t5, t6] : List Int)) (next := R3) (e := false) (fun r => ([], [], r, R3, R4, R5, R6, [])) rfl (fun _ _ => rfl) a2 B3
 simp only [h2] at l2
 have l1 := row_gen 7 (step := step13_2he) (d := d) (l := ([t0, t1, t2, t3, t4, t5, t6] : List Int)) (next := R2) (e := false) (fun r => ([], r, R2, R3, R4, R5, R6, [])) rfl (fun _ _ => rfl) a1 B2
 simp only [h1] at l1
 have l0 := row_gen 7 (step := step13_2hf) (d := d) (l := ([t0, t1, t2, t3, t4, t5, t6] : List Int)) (next := R1) (e := false) (fun r => (r, R1, R2, R3, R4, R5, R6, [])) rfl (fun _ _ => rfl) a0 B1
 simp only [h0] at l0
 simp only [p13n7, optE_some, hp, hbz, q0, g0, l0, q1, g1, l1, q2, g2, l2, q3, g3, l3, q4, g4, l4, q5, g5, l5, q6, g6, l6]
 generalize bstV d R0 d.2.2.1 false = b at hs ⊢
 cases hb : b.2 with
 | false => rfl
 | true =>
   obtain ⟨s0, s1, s2, s3, s4, s5, s6, _⟩ := hs hb
   simp only [Bool.not_true, cond_false, cond_true, s0, s1, s2, s3, s4, s5, s6, walk]
theorem P8 {d : Dr} (hd : DOk d) {t0 t1 t2 t3 t4 t5 t6 t7 : Int} (hT : TOk d ([t0, t1, t2, t3, t4, t5, t6, t7] : List Int)) : p13n8 (d, t0, t1, t2, t3, t4, t5, t6, t7) = some (refOut d ([t0, t1, t2, t3, t4, t5, t6, t7] : List Int)) := by
 have hst : -20000 ≤ d.2.2.1 ∧ d.2.2.1 ≤ 20000 := by
  have := hd.l1; have := hd.l3; have := hd.a1; have := hd.a2
  omega
 have b0 := hT t0 (by simp)
 have q0 := rpos_z hd b0.1 b0.2
 have a0 := posD_all hd t0
 have b1 := hT t1 (by simp)
 have q1 := rpos_z hd b1.1 b1.2
 have a1 := posD_all hd t1
 have b2 := hT t2 (by simp)
 have q2 := rpos_z hd b2.1 b2.2
 have a2 := posD_all hd t2
 have b3 := hT t3 (by simp)
 have q3 := rpos_z hd b3.1 b3.2
 have a3 := posD_all hd t3
 have b4 := hT t4 (by simp)
 have q4 := rpos_z hd b4.1 b4.2
 have a4 := posD_all hd t4
 have b5 := hT t5 (by simp)
 have q5 := rpos_z hd b5.1 b5.2
 have a5 := posD_all hd t5
 have b6 := hT t6 (by simp)
 have q6 := rpos_z hd b6.1 b6.2
 have a6 := posD_all hd t6
 have b7 := hT t7 (by simp)
 have q7 := rpos_z hd b7.1 b7.2
 have a7 := posD_all hd t7
 obtain ⟨R7, h7⟩ : ∃ R, mkRow d (posD d t7) [] true = R := ⟨_, rfl⟩
 obtain ⟨R6, h6⟩ : ∃ R, mkRow d (posD d t6) R7 false = R := ⟨_, rfl⟩
 obtain ⟨R5, h5⟩ : ∃ R, mkRow d (posD d t5) R6 false = R := ⟨_, rfl⟩
 obtain ⟨R4, h4⟩ : ∃ R, mkRow d (posD d t4) R5 false = R := ⟨_, rfl⟩
 obtain ⟨R3, h3⟩ : ∃ R, mkRow d (posD d t3) R4 false = R := ⟨_, rfl⟩
 obtain ⟨R2, h2⟩ : ∃ R, mkRow d (posD d t2) R3 false = R := ⟨_, rfl⟩
 obtain ⟨R1, h1⟩ : ∃ R, mkRow d (posD d t1) R2 false = R := ⟨_, rfl⟩
 obtain ⟨R0, h0⟩ : ∃ R, mkRow d (posD d t0) R1 false = R := ⟨_, rfl⟩
 have hm : mkRows d ([t0, t1, t2, t3, t4, t5, t6, t7] : List Int) = [R0, R1, R2, R3, R4, R5, R6, R7] := by
  rw [← h0, ← h1, ← h2, ← h3, ← h4, ← h5, ← h6, ← h7]; rfl
 have hrb := rows_rb hd (ts := ([t0, t1, t2, t3, t4, t5, t6, t7] : List Int)) (by simp) (rows_ok hd (by simp))
 rw [hm] at hrb
 have B0 := hrb R0 (by simp)
 have B1 := hrb R1 (by simp)
 have B2 := hrb R2 (by simp)
 have B3 := hrb R3 (by simp)
 have B4 := hrb R4 (by simp)
 have B5 := hrb R5 (by simp)
 have B6 := hrb R6 (by simp)
 have B7 := hrb R7 (by simp)
 have hs := ref_steps hd (ts := ([t0, t1, t2, t3, t4, t5, t6, t7] : List Int)) (by simp)
 have hB : refB d ([t0, t1, t2, t3, t4, t5, t6, t7] : List Int) = bstV d R0 d.2.2.1 false := by
  unfold refB; rw [hm]; rfl
 have hbz := best_z (d := d) B0 hst false
 unfold refOut
 rw [hB, hm]
 rw [hB, hm] at hs
 have hp : padV 8 (.int .i64) ([t0, t1, t2, t3, t4, t5, t6, t7] : List Int) = ([t0, t1, t2, t3, t4, t5, t6, t7] : List Int) := rfl
 have g0 : ([t0, t1, t2, t3, t4, t5, t6, t7] : List Int).getD 0 0 = t0 := rfl
 have g1 : ([t0, t1, t2, t3, t4, t5, t6, t7] : List Int).getD 1 0 = t1 := rfl
 have g2 : ([t0, t1, t2, t3, t4, t5, t6, t7] : List Int).getD 2 0 = t2 := rfl
 have g3 : ([t0, t1, t2, t3, t4, t5, t6, t7] : List Int).getD 3 0 = t3 := rfl
 have g4 : ([t0, t1, t2, t3, t4, t5, t6, t7] : List Int).getD 4 0 = t4 := rfl
 have g5 : ([t0, t1, t2, t3, t4, t5, t6, t7] : List Int).getD 5 0 = t5 := rfl
 have g6 : ([t0, t1, t2, t3, t4, t5, t6, t7] : List Int).getD 6 0 = t6 := rfl
 have g7 : ([t0, t1, t2, t3, t4, t5, t6, t7] : List Int).getD 7 0 = t7 := rfl
 have l7 := row_gen 8 (step := step13_2i) (d := d) (l := ([t0, t1, t2, t3, t4, t5, t6, t7] : List Int)) (next := []) (e := true) (fun r => ([], [], [], [], [], [], [], r, [])) rfl (fun _ _ => rfl) a7 RB.nil
 simp only [h7] at l7
 have l6 := row_gen 8 (step := step13_2ia) (d := d) (l := ([t0, t1, t2, t3, t4, t5, t6, t7] : List Int)) (next := R7) (e := false) (fun r => ([], [], [], [], [], [], r, R7, [])) rfl (fun _ _ => rfl) a6 B7
 simp only [h6] at l6
 have l5 := row_gen 8 (step := step13_2ib) (d := d) (l := ([t0, t1, t2, t3, t4, t5, t6, t7] : List Int)) (next := R6) (e := false) (fun r => ([], [], [], [], [], r, R6, R7, [])) rfl (fun _ _ => rfl) a5 B6
 simp only [h5] at l5
 have l4 := row_gen 8 (step := step13_2ic) (d := d) (l := ([t0, t1, t2, t3, t4, t5, t6, t7] : List Int)) (next := R5) (e := false) (fun r => ([], [], [], [], r, R5, R6, R7, [])) rfl (fun _ _ => rfl) a4 B5
 simp only [h4] at l4
 have l3 := row_gen 8 (step := step13_2id) (d := d) (l := ([t0, t1, t2, t3, t4, t5, t6, t7] : List Int)) (next := R4) (e := false) (fun r => ([], [], [], r, R4, R5, R6, R7, [])) rfl (fun _ _ => rfl) a3 B4
 simp only [h3] at l3
 have l2 := row_gen 8 (step := step13_2ie) (d := d) (l := ([t0, t1, t2, t3, t4, t5, t6, t7] : List Int)) (next := R3) (e := false) (fun r => ([], [], r, R3, R4, R5, R6, R7, [])) rfl (fun _ _ => rfl) a2 B3
 simp only [h2] at l2
 have l1 := row_gen 8 (step := step13_2if) (d := d) (l := ([t0, t1, t2, t3, t4, t5, t6, t7] : List Int)) (next := R2) (e := false) (fun r => ([], r, R2, R3, R4, R5, R6, R7, [])) rfl (fun _ _ => rfl) a1 B2
 simp only [h1] at l1
 have l0 := row_gen 8 (step := step13_2ig) (d := d) (l := ([t0, t1, t2, t3, t4, t5, t6, t7] : List Int)) (next := R1) (e := false) (fun r => (r, R1, R2, R3, R4, R5, R6, R7, [])) rfl (fun _ _ => rfl) a0 B1
 simp only [h0] at l0
 simp only [p13n8, optE_some, hp, hbz, q0, g0, l0, q1, g1, l1, q2, g2, l2, q3, g3, l3, q4, g4, l4, q5, g5, l5, q6, g6, l6, q7, g7, l7]
 generalize bstV d R0 d.2.2.1 false = b at hs ⊢
 cases hb : b.2 with
 | false => rfl
 | true =>
   obtain ⟨s0, s1, s2, s3, s4, s5, s6, s7, _⟩ := hs hb
   simp only [Bool.not_true, cond_false, cond_true, s0, s1, s2, s3, s4, s5, s6, s7, walk]
theorem P9 {d : Dr} (hd : DOk d) {t0 t1 t2 t3 t4 t5 t6 t7 t8 : Int} (hT : TOk d ([t0, t1, t2, t3, t4, t5, t6, t7, t8] : List Int)) : p13n9 (d, t0, t1, t2, t3, t4, t5, t6, t7, t8) = some (refOut d ([t0, t1, t2, t3, t4, t5, t6, t7, t8] : List Int)) := by
 have hst : -20000 ≤ d.2.2.1 ∧ d.2.2.1 ≤ 20000 := by
  have := hd.l1; have := hd.l3; have := hd.a1; have := hd.a2
  omega
 have b0 := hT t0 (by simp)
 have q0 := rpos_z hd b0.1 b0.2
 have a0 := posD_all hd t0
 have b1 := hT t1 (by simp)
 have q1 := rpos_z hd b1.1 b1.2
 have a1 := posD_all hd t1
 have b2 := hT t2 (by simp)
 have q2 := rpos_z hd b2.1 b2.2
 have a2 := posD_all hd t2
 have b3 := hT t3 (by simp)
 have q3 := rpos_z hd b3.1 b3.2
 have a3 := posD_all hd t3
 have b4 := hT t4 (by simp)
 have q4 := rpos_z hd b4.1 b4.2
 have a4 := posD_all hd t4
 have b5 := hT t5 (by simp)
 have q5 := rpos_z hd b5.1 b5.2
 have a5 := posD_all hd t5
 have b6 := hT t6 (by simp)
 have q6 := rpos_z hd b6.1 b6.2
 have a6 := posD_all hd t6
 have b7 := hT t7 (by simp)
 have q7 := rpos_z hd b7.1 b7.2
 have a7 := posD_all hd t7
 have b8 := hT t8 (by simp)
 have q8 := rpos_z hd b8.1 b8.2
 have a8 := posD_all hd t8
 obtain ⟨R8, h8⟩ : ∃ R, mkRow d (posD d t8) [] true = R := ⟨_, rfl⟩
 obtain ⟨R7, h7⟩ : ∃ R, mkRow d (posD d t7) R8 false = R := ⟨_, rfl⟩
 obtain ⟨R6, h6⟩ : ∃ R, mkRow d (posD d t6) R7 false = R := ⟨_, rfl⟩
 obtain ⟨R5, h5⟩ : ∃ R, mkRow d (posD d t5) R6 false = R := ⟨_, rfl⟩
 obtain ⟨R4, h4⟩ : ∃ R, mkRow d (posD d t4) R5 false = R := ⟨_, rfl⟩
 obtain ⟨R3, h3⟩ : ∃ R, mkRow d (posD d t3) R4 false = R := ⟨_, rfl⟩
 obtain ⟨R2, h2⟩ : ∃ R, mkRow d (posD d t2) R3 false = R := ⟨_, rfl⟩
 obtain ⟨R1, h1⟩ : ∃ R, mkRow d (posD d t1) R2 false = R := ⟨_, rfl⟩
 obtain ⟨R0, h0⟩ : ∃ R, mkRow d (posD d t0) R1 false = R := ⟨_, rfl⟩
 have hm : mkRows d ([t0, t1, t2, t3, t4, t5, t6, t7, t8] : List Int) = [R0, R1, R2, R3, R4, R5, R6, R7, R8] := by
  rw [← h0, ← h1, ← h2, ← h3, ← h4, ← h5, ← h6, ← h7, ← h8]; rfl
 have hrb := rows_rb hd (ts := ([t0, t1, t2, t3, t4, t5, t6, t7, t8] : List Int)) (by simp) (rows_ok hd (by simp))
 rw [hm] at hrb
 have B0 := hrb R0 (by simp)
 have B1 := hrb R1 (by simp)
 have B2 := hrb R2 (by simp)
 have B3 := hrb R3 (by simp)
 have B4 := hrb R4 (by simp)
 have B5 := hrb R5 (by simp)
 have B6 := hrb R6 (by simp)
 have B7 := hrb R7 (by simp)
 have B8 := hrb R8 (by simp)
 have hs := ref_steps hd (ts := ([t0, t1, t2, t3, t4, t5, t6, t7, t8] : List Int)) (by simp)
 have hB : refB d ([t0, t1, t2, t3, t4, t5, t6, t7, t8] : List Int) = bstV d R0 d.2.2.1 false := by
  unfold refB; rw [hm]; rfl
 have hbz := best_z (d := d) B0 hst false
 unfold refOut
 rw [hB, hm]
 rw [hB, hm] at hs
 have hp : padV 9 (.int .i64) ([t0, t1, t2, t3, t4, t5, t6, t7, t8] : List Int) = ([t0, t1, t2, t3, t4, t5, t6, t7, t8] : List Int) := rfl
 have g0 : ([t0, t1, t2, t3, t4, t5, t6, t7, t8] : List Int).getD 0 0 = t0 := rfl
 have g1 : ([t0, t1, t2, t3, t4, t5, t6, t7, t8] : List Int).getD 1 0 = t1 := rfl
 have g2 : ([t0, t1, t2, t3, t4, t5, t6, t7, t8] : List Int).getD 2 0 = t2 := rfl
 have g3 : ([t0, t1, t2, t3, t4, t5, t6, t7, t8] : List Int).getD 3 0 = t3 := rfl
 have g4 : ([t0, t1, t2, t3, t4, t5, t6, t7, t8] : List Int).getD 4 0 = t4 := rfl
 have g5 : ([t0, t1, t2, t3, t4, t5, t6, t7, t8] : List Int).getD 5 0 = t5 := rfl
 have g6 : ([t0, t1, t2, t3, t4, t5, t6, t7, t8] : List Int).getD 6 0 = t6 := rfl
 have g7 : ([t0, t1, t2, t3, t4, t5, t6, t7, t8] : List Int).getD 7 0 = t7 := rfl
 have g8 : ([t0, t1, t2, t3, t4, t5, t6, t7, t8] : List Int).getD 8 0 = t8 := rfl
 have l8 := row_gen 9 (step := step13_2j) (d := d) (l := ([t0, t1, t2, t3, t4, t5, t6, t7, t8] : List Int)) (next := []) (e := true) (fun r => ([], [], [], [], [], [], [], [], r, [])) rfl (fun _ _ => rfl) a8 RB.nil
 simp only [h8] at l8
 have l7 := row_gen 9 (step := step13_2ja) (d := d) (l := ([t0, t1, t2, t3, t4, t5, t6, t7, t8] : List Int)) (next := R8) (e := false) (fun r => ([], [], [], [], [], [], [], r, R8, [])) rfl (fun _ _ => rfl) a7 B8
 simp only [h7] at l7
 have l6 := row_gen 9 (step := step13_2jb) (d := d) (l := ([t0, t1, t2, t3, t4, t5, t6, t7, t8] : List Int)) (next := R7) (e := false) (fun r => ([], [], [], [], [], [], r, R7, R8, [])) rfl (fun _ _ => rfl) a6 B7
 simp only [h6] at l6
 have l5 := row_gen 9 (step := step13_2jc) (d := d) (l := ([t0, t1, t2, t3, t4, t5, t6, t7, t8] : List Int)) (next := R6) (e := false) (fun r => ([], [], [], [], [], r, R6, R7, R8, [])) rfl (fun _ _ => rfl) a5 B6
 simp only [h5] at l5
 have l4 := row_gen 9 (step := step13_2jd) (d := d) (l := ([t0, t1, t2, t3, t4, t5, t6, t7, t8] : List Int)) (next := R5) (e := false) (fun r => ([], [], [], [], r, R5, R6, R7, R8, [])) rfl (fun _ _ => rfl) a4 B5
 simp only [h4] at l4
 have l3 := row_gen 9 (step := step13_2je) (d := d) (l := ([t0, t1, t2, t3, t4, t5, t6, t7, t8] : List Int)) (next := R4) (e := false) (fun r => ([], [], [], r, R4, R5, R6, R7, R8, [])) rfl (fun _ _ => rfl) a3 B4
 simp only [h3] at l3
 have l2 := row_gen 9 (step := step13_2jf) (d := d) (l := ([t0, t1, t2, t3, t4, t5, t6, t7, t8] : List Int)) (next := R3) (e := false) (fun r => ([], [], r, R3, R4, R5, R6, R7, R8, [])) rfl (fun _ _ => rfl) a2 B3
 simp only [h2] at l2
 have l1 := row_gen 9 (step := step13_2jg) (d := d) (l := ([t0, t1, t2, t3, t4, t5, t6, t7, t8] : List Int)) (next := R2) (e := false) (fun r => ([], r, R2, R3, R4, R5, R6, R7, R8, [])) rfl (fun _ _ => rfl) a1 B2
 simp only [h1] at l1
 have l0 := row_gen 9 (step := step13_2jh) (d := d) (l := ([t0, t1, t2, t3, t4, t5, t6, t7, t8] : List Int)) (next := R1) (e := false) (fun r => (r, R1, R2, R3, R4, R5, R6, R7, R8, [])) rfl (fun _ _ => rfl) a0 B1
 simp only [h0] at l0
 simp only [p13n9, optE_some, hp, hbz, q0, g0, l0, q1, g1, l1, q2, g2, l2, q3, g3, l3, q4, g4, l4, q5, g5, l5, q6, g6, l6, q7, g7, l7, q8, g8, l8]
 generalize bstV d R0 d.2.2.1 false = b at hs ⊢
 cases hb : b.2 with
 | false => rfl
 | true =>
   obtain ⟨s0, s1, s2, s3, s4, s5, s6, s7, s8, _⟩ := hs hb
   simp only [Bool.not_true, cond_false, cond_true, s0, s1, s2, s3, s4, s5, s6, s7, s8, walk]
theorem P10 {d : Dr} (hd : DOk d) {t0 t1 t2 t3 t4 t5 t6 t7 t8 t9 : Int} (hT : TOk d ([t0, t1, t2, t3, t4, t5, t6, t7, t8, t9] : List Int)) : p13n10 (d, t0, t1, t2, t3, t4, t5, t6, t7, t8, t9) = some (refOut d ([t0, t1, t2, t3, t4, t5, t6, t7, t8, t9] : List Int)) := by
 have hst : -20000 ≤ d.2.2.1 ∧ d.2.2.1 ≤ 20000 := by
  have := hd.l1; have := hd.l3; have := hd.a1; have := hd.a2
  omega
 have b0 := hT t0 (by simp)
 have q0 := rpos_z hd b0.1 b0.2
 have a0 := posD_all hd t0
 have b1 := hT t1 (by simp)
 have q1 := rpos_z hd b1.1 b1.2
 have a1 := posD_all hd t1
 have b2 := hT t2 (by simp)
 have q2 := rpos_z hd b2.1 b2.2
 have a2 := posD_all hd t2
 have b3 := hT t3 (by simp)
 have q3 := rpos_z hd b3.1 b3.2
 have a3 := posD_all hd t3
 have b4 := hT t4 (by simp)
 have q4 := rpos_z hd b4.1 b4.2
 have a4 := posD_all hd t4
 have b5 := hT t5 (by simp)
 have q5 := rpos_z hd b5.1 b5.2
 have a5 := posD_all hd t5
 have b6 := hT t6 (by simp)
 have q6 := rpos_z hd b6.1 b6.2
 have a6 := posD_all hd t6
 have b7 := hT t7 (by simp)
 have q7 := rpos_z hd b7.1 b7.2
 have a7 := posD_all hd t7
 have b8 := hT t8 (by simp)
 have q8 := rpos_z hd b8.1 b8.2
 have a8 := posD_all hd t8
 have b9 := hT t9 (by simp)
 have q9 := rpos_z hd b9.1 b9.2
 have a9 := posD_all hd t9
 obtain ⟨R9, h9⟩ : ∃ R, mkRow d (posD d t9) [] true = R := ⟨_, rfl⟩
 obtain ⟨R8, h8⟩ : ∃ R, mkRow d (posD d t8) R9 false = R := ⟨_, rfl⟩
 obtain ⟨R7, h7⟩ : ∃ R, mkRow d (posD d t7) R8 false = R := ⟨_, rfl⟩
 obtain ⟨R6, h6⟩ : ∃ R, mkRow d (posD d t6) R7 false = R := ⟨_, rfl⟩
 obtain ⟨R5, h5⟩ : ∃ R, mkRow d (posD d t5) R6 false = R := ⟨_, rfl⟩
 obtain ⟨R4, h4⟩ : ∃ R, mkRow d (posD d t4) R5 false = R := ⟨_, rfl⟩
 obtain ⟨R3, h3⟩ : ∃ R, mkRow d (posD d t3) R4 false = R := ⟨_, rfl⟩
 obtain ⟨R2, h2⟩ : ∃ R, mkRow d (posD d t2) R3 false = R := ⟨_, rfl⟩
 obtain ⟨R1, h1⟩ : ∃ R, mkRow d (posD d t1) R2 false = R := ⟨_, rfl⟩
 obtain ⟨R0, h0⟩ : ∃ R, mkRow d (posD d t0) R1 false = R := ⟨_, rfl⟩
 have hm : mkRows d ([t0, t1, t2, t3, t4, t5, t6, t7, t8, t9] : List Int) = [R0, R1, R2, R3, R4, R5, R6, R7, R8, R9] := by
  rw [← h0, ← h1, ← h2, ← h3, ← h4, ← h5, ← h6, ← h7, ← h8, ← h9]; rfl
 have hrb := rows_rb hd (ts := ([t0, t1, t2, t3, t4, t5, t6, t7, t8, t9] : List Int)) (by simp) (rows_ok hd (by simp))
 rw [hm] at hrb
 have B0 := hrb R0 (by simp)
 have B1 := hrb R1 (by simp)
 have B2 := hrb R2 (by simp)
 have B3 := hrb R3 (by simp)
 have B4 := hrb R4 (by simp)
 have B5 := hrb R5 (by simp)
 have B6 := hrb R6 (by simp)
 have B7 := hrb R7 (by simp)
 have B8 := hrb R8 (by simp)
 have B9 := hrb R9 (by simp)
 have hs := ref_steps hd (ts := ([t0, t1, t2, t3, t4, t5, t6, t7, t8, t9] : List Int)) (by simp)
 have hB : refB d ([t0, t1, t2, t3, t4, t5, t6, t7, t8, t9] : List Int) = bstV d R0 d.2.2.1 false := by
  unfold refB; rw [hm]; rfl
 have hbz := best_z (d := d) B0 hst false
 unfold refOut
 rw [hB, hm]
 rw [hB, hm] at hs
 have hp : padV 10 (.int .i64) ([t0, t1, t2, t3, t4, t5, t6, t7, t8, t9] : List Int) = ([t0, t1, t2, t3, t4, t5, t6, t7, t8, t9] : List Int) := rfl
 have g0 : ([t0, t1, t2, t3, t4, t5, t6, t7, t8, t9] : List Int).getD 0 0 = t0 := rfl
 have g1 : ([t0, t1, t2, t3, t4, t5, t6, t7, t8, t9] : List Int).getD 1 0 = t1 := rfl
 have g2 : ([t0, t1, t2, t3, t4, t5, t6, t7, t8, t9] : List Int).getD 2 0 = t2 := rfl
 have g3 : ([t0, t1, t2, t3, t4, t5, t6, t7, t8, t9] : List Int).getD 3 0 = t3 := rfl
 have g4 : ([t0, t1, t2, t3, t4, t5, t6, t7, t8, t9] : List Int).getD 4 0 = t4 := rfl
 have g5 : ([t0, t1, t2, t3, t4, t5, t6, t7, t8, t9] : List Int).getD 5 0 = t5 := rfl
 have g6 : ([t0, t1, t2, t3, t4, t5, t6, t7, t8, t9] : List Int).getD 6 0 = t6 := rfl
 have g7 : ([t0, t1, t2, t3, t4, t5, t6, t7, t8, t9] : List Int).getD 7 0 = t7 := rfl
 have g8 : ([t0, t1, t2, t3, t4, t5, t6, t7, t8, t9] : List Int).getD 8 0 = t8 := rfl
 have g9 : ([t0, t1, t2, t3, t4, t5, t6, t7, t8, t9] : List Int).getD 9 0 = t9 := rfl
 have l9 := row_gen 10 (step := step13_2k) (d := d) (l := ([t0, t1, t2, t3, t4, t5, t6, t7, t8, t9] : List Int)) (next := []) (e := true) (fun r => ([], [], [], [], [], [], [], [], [], r, [])) rfl (fun _ _ => rfl) a9 RB.nil
 simp only [h9] at l9
 have l8 := row_gen 10 (step := step13_2ka) (d := d) (l := ([t0, t1, t2, t3, t4, t5, t6, t7, t8, t9] : List Int)) (next := R9) (e := false) (fun r => ([], [], [], [], [], [], [], [], r, R9, [])) rfl (fun _ _ => rfl) a8 B9
 simp only [h8] at l8
 have l7 := row_gen 10 (step := step13_2kb) (d := d) (l := ([t0, t1, t2, t3, t4, t5, t6, t7, t8, t9] : List Int)) (next := R8) (e := false) (fun r => ([], [], [], [], [], [], [], r, R8, R9, [])) rfl (fun _ _ => rfl) a7 B8
 simp only [h7] at l7
 have l6 := row_gen 10 (step := step13_2kc) (d := d) (l := ([t0, t1, t2, t3, t4, t5, t6, t7, t8, t9] : List Int)) (next := R7) (e := false) (fun r => ([], [], [], [], [], [], r, R7, R8, R9, [])) rfl (fun _ _ => rfl) a6 B7
 simp only [h6] at l6
 have l5 := row_gen 10 (step := step13_2kd) (d := d) (l := ([t0, t1, t2, t3, t4, t5, t6, t7, t8, t9] : List Int)) (next := R6) (e := false) (fun r => ([], [], [], [], [], r, R6, R7, R8, R9, [])) rfl (fun _ _ => rfl) a5 B6
 simp only [h5] at l5
 have l4 := row_gen 10 (step := step13_2ke) (d := d) (l := ([t0, t1, t2, t3, t4, t5, t6, t7, t8, t9] : List Int)) (next := R5) (e := false) (fun r => ([], [], [], [], r, R5, R6, R7, R8, R9, [])) rfl (fun _ _ => rfl) a4 B5
 simp only [h4] at l4
 have l3 := row_gen 10 (step := step13_2kf) (d := d) (l := ([t0, t1, t2, t3, t4, t5, t6, t7, t8, t9] : List Int)) (next := R4) (e := false) (fun r => ([], [], [], r, R4, R5, R6, R7, R8, R9, [])) rfl (fun _ _ => rfl) a3 B4
 simp only [h3] at l3
 have l2 := row_gen 10 (step := step13_2kg) (d := d) (l := ([t0, t1, t2, t3, t4, t5, t6, t7, t8, t9] : List Int)) (next := R3) (e := false) (fun r => ([], [], r, R3, R4, R5, R6, R7, R8, R9, [])) rfl (fun _ _ => rfl) a2 B3
 simp only [h2] at l2
 have l1 := row_gen 10 (step := step13_2kh) (d := d) (l := ([t0, t1, t2, t3, t4, t5, t6, t7, t8, t9] : List Int)) (next := R2) (e := false) (fun r => ([], r, R2, R3, R4, R5, R6, R7, R8, R9, [])) rfl (fun _ _ => rfl) a1 B2
 simp only [h1] at l1
 have l0 := row_gen 10 (step := step13_2ki8) (d := d) (l := ([t0, t1, t2, t3, t4, t5, t6, t7, t8, t9] : List Int)) (next := R1) (e := false) (fun r => (r, R1, R2, R3, R4, R5, R6, R7, R8, R9, [])) rfl (fun _ _ => rfl) a0 B1
 simp only [h0] at l0
 simp only [p13n10, optE_some, hp, hbz, q0, g0, l0, q1, g1, l1, q2, g2, l2, q3, g3, l3, q4, g4, l4, q5, g5, l5, q6, g6, l6, q7, g7, l7, q8, g8, l8, q9, g9, l9]
 generalize bstV d R0 d.2.2.1 false = b at hs ⊢
 cases hb : b.2 with
 | false => rfl
 | true =>
   obtain ⟨s0, s1, s2, s3, s4, s5, s6, s7, s8, s9, _⟩ := hs hb
   simp only [Bool.not_true, cond_false, cond_true, s0, s1, s2, s3, s4, s5, s6, s7, s8, s9, walk]
theorem P11 {d : Dr} (hd : DOk d) {t0 t1 t2 t3 t4 t5 t6 t7 t8 t9 t10 : Int} (hT : TOk d ([t0, t1, t2, t3, t4, t5, t6, t7, t8, t9, t10] : List Int)) : p13n11 (d, t0, t1, t2, t3, t4, t5, t6, t7, t8, t9, t10) = some (refOut d ([t0, t1, t2, t3, t4, t5, t6, t7, t8, t9, t10] : List Int)) := by
 have hst : -20000 ≤ d.2.2.1 ∧ d.2.2.1 ≤ 20000 := by
  have := hd.l1; have := hd.l3; have := hd.a1; have := hd.a2
  omega
 have b0 := hT t0 (by simp)
 have q0 := rpos_z hd b0.1 b0.2
 have a0 := posD_all hd t0
 have b1 := hT t1 (by simp)
 have q1 := rpos_z hd b1.1 b1.2
 have a1 := posD_all hd t1
 have b2 := hT t2 (by simp)
 have q2 := rpos_z hd b2.1 b2.2
 have a2 := posD_all hd t2
 have b3 := hT t3 (by simp)
 have q3 := rpos_z hd b3.1 b3.2
 have a3 := posD_all hd t3
 have b4 := hT t4 (by simp)
 have q4 := rpos_z hd b4.1 b4.2
 have a4 := posD_all hd t4
 have b5 := hT t5 (by simp)
 have q5 := rpos_z hd b5.1 b5.2
 have a5 := posD_all hd t5
 have b6 := hT t6 (by simp)
 have q6 := rpos_z hd b6.1 b6.2
 have a6 := posD_all hd t6
 have b7 := hT t7 (by simp)
 have q7 := rpos_z hd b7.1 b7.2
 have a7 := posD_all hd t7
 have b8 := hT t8 (by simp)
 have q8 := rpos_z hd b8.1 b8.2
 have a8 := posD_all hd t8
 have b9 := hT t9 (by simp)
 have q9 := rpos_z hd b9.1 b9.2
 have a9 := posD_all hd t9
 have b10 := hT t10 (by simp)
 have q10 := rpos_z hd b10.1 b10.2
 have a10 := posD_all hd t10
 obtain ⟨R10, h10⟩ : ∃ R, mkRow d (posD d t10) [] true = R := ⟨_, rfl⟩
 obtain ⟨R9, h9⟩ : ∃ R, mkRow d (posD d t9) R10 false = R := ⟨_, rfl⟩
 obtain ⟨R8, h8⟩ : ∃ R, mkRow d (posD d t8) R9 false = R := ⟨_, rfl⟩
 obtain ⟨R7, h7⟩ : ∃ R, mkRow d (posD d t7) R8 false = R := ⟨_, rfl⟩
 obtain ⟨R6, h6⟩ : ∃ R, mkRow d (posD d t6) R7 false = R := ⟨_, rfl⟩
 obtain ⟨R5, h5⟩ : ∃ R, mkRow d (posD d t5) R6 false = R := ⟨_, rfl⟩
 obtain ⟨R4, h4⟩ : ∃ R, mkRow d (posD d t4) R5 false = R := ⟨_, rfl⟩
 obtain ⟨R3, h3⟩ : ∃ R, mkRow d (posD d t3) R4 false = R := ⟨_, rfl⟩
 obtain ⟨R2, h2⟩ : ∃ R, mkRow d (posD d t2) R3 false = R := ⟨_, rfl⟩
 obtain ⟨R1, h1⟩ : ∃ R, mkRow d (posD d t1) R2 false = R := ⟨_, rfl⟩
 obtain ⟨R0, h0⟩ : ∃ R, mkRow d (posD d t0) R1 false = R := ⟨_, rfl⟩
 have hm : mkRows d ([t0, t1, t2, t3, t4, t5, t6, t7, t8, t9, t10] : List Int) = [R0, R1, R2, R3, R4, R5, R6, R7, R8, R9, R10] := by
  rw [← h0, ← h1, ← h2, ← h3, ← h4, ← h5, ← h6, ← h7, ← h8, ← h9, ← h10]; rfl
 have hrb := rows_rb hd (ts := ([t0, t1, t2, t3, t4, t5, t6, t7, t8, t9, t10] : List Int)) (by simp) (rows_ok hd (by simp))
 rw [hm] at hrb
 have B0 := hrb R0 (by simp)
 have B1 := hrb R1 (by simp)
 have B2 := hrb R2 (by simp)
 have B3 := hrb R3 (by simp)
 have B4 := hrb R4 (by simp)
 have B5 := hrb R5 (by simp)
 have B6 := hrb R6 (by simp)
 have B7 := hrb R7 (by simp)
 have B8 := hrb R8 (by simp)
 have B9 := hrb R9 (by simp)
 have B10 := hrb R10 (by simp)
 have hs := ref_steps hd (ts := ([t0, t1, t2, t3, t4, t5, t6, t7, t8, t9, t10] : List Int)) (by simp)
 have hB : refB d ([t0, t1, t2, t3, t4, t5, t6, t7, t8, t9, t10] : List Int) = bstV d R0 d.2.2.1 false := by
  unfold refB; rw [hm]; rfl
 have hbz := best_z (d := d) B0 hst false
 unfold refOut
 rw [hB, hm]
 rw [hB, hm] at hs
 have hp : padV 11 (.int .i64) ([t0, t1, t2, t3, t4, t5, t6, t7, t8, t9, t10] : List Int) = ([t0, t1, t2, t3, t4, t5, t6, t7, t8, t9, t10] : List Int) := rfl
 have g0 : ([t0, t1, t2, t3, t4, t5, t6, t7, t8, t9, t10] : List Int).getD 0 0 = t0 := rfl
 have g1 : ([t0, t1, t2, t3, t4, t5, t6, t7, t8, t9, t10] : List Int).getD 1 0 = t1 := rfl
 have g2 : ([t0, t1, t2, t3, t4, t5, t6, t7, t8, t9, t10] : List Int).getD 2 0 = t2 := rfl
 have g3 : ([t0, t1, t2, t3, t4, t5, t6, t7, t8, t9, t10] : List Int).getD 3 0 = t3 := rfl
 have g4 : ([t0, t1, t2, t3, t4, t5, t6, t7, t8, t9, t10] : List Int).getD 4 0 = t4 := rfl
 have g5 : ([t0, t1, t2, t3, t4, t5, t6, t7, t8, t9, t10] : List Int).getD 5 0 = t5 := rfl
 have g6 : ([t0, t1, t2, t3, t4, t5, t6, t7, t8, t9, t10] : List Int).getD 6 0 = t6 := rfl
 have g7 : ([t0, t1, t2, t3, t4, t5, t6, t7, t8, t9, t10] : List Int).getD 7 0 = t7 := rfl
 have g8 : ([t0, t1, t2, t3, t4, t5, t6, t7, t8, t9, t10] : List Int).getD 8 0 = t8 := rfl
 have g9 : ([t0, t1, t2, t3, t4, t5, t6, t7, t8, t9, t10] : List Int).getD 9 0 = t9 := rfl
 have g10 : ([t0, t1, t2, t3, t4, t5, t6, t7, t8, t9, t10] : List Int).getD 10 0 = t10 := rfl
 have l10 := row_gen 11 (step := step13_2l) (d := d) (l := ([t0, t1, t2, t3, t4, t5, t6, t7, t8, t9, t10] : List Int)) (next := []) (e := true) (fun r => ([], [], [], [], [], [], [], [], [], [], r, [])) rfl (fun _ _ => rfl) a10 RB.nil
 simp only [h10] at l10
 have l9 := row_gen 11 (step := step13_2la) (d := d) (l := ([t0, t1, t2, t3, t4, t5, t6, t7, t8, t9, t10] : List Int)) (next := R10) (e := false) (fun r => ([], [], [], [], [], [], [], [], [], r, R10, [])) rfl (fun _ _ => rfl) a9 B10
 simp only [h9] at l9
 have l8 := row_gen 11 (step := step13_2lb) (d := d) (l := ([t0, t1, t2, t3, t4, t5, t6, t7, t8, t9, t10] : List Int)) (next := R9) (e := false) (fun r => ([], [], [], [], [], [], [], [], r, R9, R10, [])) rfl (fun _ _ => rfl) a8 B9
 simp only [h8] at l8
 have l7 := row_gen 11 (step := step13_2lc) (d := d) (l := ([t0, t1, t2, t3, t4, t5, t6, t7, t8, t9, t10] : List Int)) (next := R8) (e := false) (fun r => ([], [], [], [], [], [], [], r, R8, R9, R10, [])) rfl (fun _ _ => rfl) a7 B8
 simp only [h7] at l7
 have l6 := row_gen 11 (step := step13_2ld) (d := d) (l := ([t0, t1, t2, t3, t4, t5, t6, t7, t8, t9, t10] : List Int)) (next := R7) (e := false) (fun r => ([], [], [], [], [], [], r, R7, R8, R9, R10, [])) rfl (fun _ _ => rfl) a6 B7
 simp only [h6] at l6
 have l5 := row_gen 11 (step := step13_2le) (d := d) (l := ([t0, t1, t2, t3, t4, t5, t6, t7, t8, t9, t10] : List Int)) (next := R6) (e := false) (fun r => ([], [], [], [], [], r, R6, R7, R8, R9, R10, [])) rfl (fun _ _ => rfl) a5 B6
 simp only [h5] at l5
 have l4 := row_gen 11 (step := step13_2lf) (d := d) (l := ([t0, t1, t2, t3, t4, t5, t6, t7, t8, t9, t10] : List Int)) (next := R5) (e := false) (fun r => ([], [], [], [], r, R5, R6, R7, R8, R9, R10, [])) rfl (fun _ _ => rfl) a4 B5
 simp only [h4] at l4
 have l3 := row_gen 11 (step := step13_2lg) (d := d) (l := ([t0, t1, t2, t3, t4, t5, t6, t7, t8, t9, t10] : List Int)) (next := R4) (e := false) (fun r => ([], [], [], r, R4, R5, R6, R7, R8, R9, R10, [])) rfl (fun _ _ => rfl) a3 B4
 simp only [h3] at l3
 have l2 := row_gen 11 (step := step13_2lh) (d := d) (l := ([t0, t1, t2, t3, t4, t5, t6, t7, t8, t9, t10] : List Int)) (next := R3) (e := false) (fun r => ([], [], r, R3, R4, R5, R6, R7, R8, R9, R10, [])) rfl (fun _ _ => rfl) a2 B3
 simp only [h2] at l2
 have l1 := row_gen 11 (step := step13_2li8) (d := d) (l := ([t0, t1, t2, t3, t4, t5, t6, t7, t8, t9, t10] : List Int)) (next := R2) (e := false) (fun r => ([], r, R2, R3, R4, R5, R6, R7, R8, R9, R10, [])) rfl (fun _ _ => rfl) a1 B2
 simp only [h1] at l1
 have l0 := row_gen 11 (step := step13_2li9) (d := d) (l := ([t0, t1, t2, t3, t4, t5, t6, t7, t8, t9, t10] : List Int)) (next := R1) (e := false) (fun r => (r, R1, R2, R3, R4, R5, R6, R7, R8, R9, R10, [])) rfl (fun _ _ => rfl) a0 B1
 simp only [h0] at l0
 simp only [p13n11, optE_some, hp, hbz, q0, g0, l0, q1, g1, l1, q2, g2, l2, q3, g3, l3, q4, g4, l4, q5, g5, l5, q6, g6, l6, q7, g7, l7, q8, g8, l8, q9, g9, l9, q10, g10, l10]
 generalize bstV d R0 d.2.2.1 false = b at hs ⊢
 cases hb : b.2 with
 | false => rfl
 | true =>
   obtain ⟨s0, s1, s2, s3, s4, s5, s6, s7, s8, s9, s10, _⟩ := hs hb
   simp only [Bool.not_true, cond_false, cond_true, s0, s1, s2, s3, s4, s5, s6, s7, s8, s9, s10, walk]
theorem P12 {d : Dr} (hd : DOk d) {t0 t1 t2 t3 t4 t5 t6 t7 t8 t9 t10 t11 : Int} (hT : TOk d ([t0, t1, t2, t3, t4, t5, t6, t7, t8, t9, t10, t11] : List Int)) : p13n12 (d, t0, t1, t2, t3, t4, t5, t6, t7, t8, t9, t10, t11) = some (refOut d ([t0, t1, t2, t3, t4, t5, t6, t7, t8, t9, t10, t11] : List Int)) := by
 have hst : -20000 ≤ d.2.2.1 ∧ d.2.2.1 ≤ 20000 := by
  have := hd.l1; have := hd.l3; have := hd.a1; have := hd.a2
  omega
 have b0 := hT t0 (by simp)
 have q0 := rpos_z hd b0.1 b0.2
 have a0 := posD_all hd t0
 have b1 := hT t1 (by simp)
 have q1 := rpos_z hd b1.1 b1.2
 have a1 := posD_all hd t1
 have b2 := hT t2 (by simp)
 have q2 := rpos_z hd b2.1 b2.2
 have a2 := posD_all hd t2
 have b3 := hT t3 (by simp)
 have q3 := rpos_z hd b3.1 b3.2
 have a3 := posD_all hd t3
 have b4 := hT t4 (by simp)
 have q4 := rpos_z hd b4.1 b4.2
 have a4 := posD_all hd t4
 have b5 := hT t5 (by simp)
 have q5 := rpos_z hd b5.1 b5.2
 have a5 := posD_all hd t5
 have b6 := hT t6 (by simp)
 have q6 := rpos_z hd b6.1 b6.2
 have a6 := posD_all hd t6
 have b7 := hT t7 (by simp)
 have q7 := rpos_z hd b7.1 b7.2
 have a7 := posD_all hd t7
 have b8 := hT t8 (by simp)
 have q8 := rpos_z hd b8.1 b8.2
 have a8 := posD_all hd t8
 have b9 := hT t9 (by simp)
 have q9 := rpos_z hd b9.1 b9.2
 have a9 := posD_all hd t9
 have b10 := hT t10 (by simp)
 have q10 := rpos_z hd b10.1 b10.2
 have a10 := posD_all hd t10
 have b11 := hT t11 (by simp)
 have q11 := rpos_z hd b11.1 b11.2
 have a11 := posD_all hd t11
 obtain ⟨R11, h11⟩ : ∃ R, mkRow d (posD d t11) [] true = R := ⟨_, rfl⟩
 obtain ⟨R10, h10⟩ : ∃ R, mkRow d (posD d t10) R11 false = R := ⟨_, rfl⟩
 obtain ⟨R9, h9⟩ : ∃ R, mkRow d (posD d t9) R10 false = R := ⟨_, rfl⟩
 obtain ⟨R8, h8⟩ : ∃ R, mkRow d (posD d t8) R9 false = R := ⟨_, rfl⟩
 obtain ⟨R7, h7⟩ : ∃ R, mkRow d (posD d t7) R8 false = R := ⟨_, rfl⟩
 obtain ⟨R6, h6⟩ : ∃ R, mkRow d (posD d t6) R7 false = R := ⟨_, rfl⟩
 obtain ⟨R5, h5⟩ : ∃ R, mkRow d (posD d t5) R6 false = R := ⟨_, rfl⟩
 obtain ⟨R4, h4⟩ : ∃ R, mkRow d (posD d t4) R5 false = R := ⟨_, rfl⟩
 obtain ⟨R3, h3⟩ : ∃ R, mkRow d (posD d t3) R4 false = R := ⟨_, rfl⟩
 obtain ⟨R2, h2⟩ : ∃ R, mkRow d (posD d t2) R3 false = R := ⟨_, rfl⟩
 obtain ⟨R1, h1⟩ : ∃ R, mkRow d (posD d t1) R2 false = R := ⟨_, rfl⟩
 obtain ⟨R0, h0⟩ : ∃ R, mkRow d (posD d t0) R1 false = R := ⟨_, rfl⟩
 have hm : mkRows d ([t0, t1, t2, t3, t4, t5, t6, t7, t8, t9, t10, t11] : List Int) = [R0, R1, R2, R3, R4, R5, R6, R7, R8, R9, R10, R11] := by
  rw [← h0, ← h1, ← h2, ← h3, ← h4, ← h5, ← h6, ← h7, ← h8, ← h9, ← h10, ← h11]; rfl
 have hrb := rows_rb hd (ts := ([t0, t1, t2, t3, t4, t5, t6, t7, t8, t9, t10, t11] : List Int)) (by simp) (rows_ok hd (by simp))
 rw [hm] at hrb
 have B0 := hrb R0 (by simp)
 have B1 := hrb R1 (by simp)
 have B2 := hrb R2 (by simp)
 have B3 := hrb R3 (by simp)
 have B4 := hrb R4 (by simp)
 have B5 := hrb R5 (by simp)
 have B6 := hrb R6 (by simp)
 have B7 := hrb R7 (by simp)
 have B8 := hrb R8 (by simp)
 have B9 := hrb R9 (by simp)
 have B10 := hrb R10 (by simp)
 have B11 := hrb R11 (by simp)
 have hs := ref_steps hd (ts := ([t0, t1, t2, t3, t4, t5, t6, t7, t8, t9, t10, t11] : List Int)) (by simp)
 have hB : refB d ([t0, t1, t2, t3, t4, t5, t6, t7, t8, t9, t10, t11] : List Int) = bstV d R0 d.2.2.1 false := by
  unfold refB; rw [hm]; rfl
 have hbz := best_z (d := d) B0 hst false
 unfold refOut
 rw [hB, hm]
 rw [hB, hm] at hs
 have hp : padV 12 (.int .i64) ([t0, t1, t2, t3, t4, t5, t6, t7, t8, t9, t10, t11] : List Int) = ([t0, t1, t2, t3, t4, t5, t6, t7, t8, t9, t10, t11] : List Int) := rfl
 have g0 : ([t0, t1, t2, t3, t4, t5, t6, t7, t8, t9, t10, t11] : List Int).getD 0 0 = t0 := rfl
 have g1 : ([t0, t1, t2, t3, t4, t5, t6, t7, t8, t9, t10, t11] : List Int).getD 1 0 = t1 := rfl
 have g2 : ([t0, t1, t2, t3, t4, t5, t6, t7, t8, t9, t10, t11] : List Int).getD 2 0 = t2 := rfl
 have g3 : ([t0, t1, t2, t3, t4, t5, t6, t7, t8, t9, t10, t11] : List Int).getD 3 0 = t3 := rfl
 have g4 : ([t0, t1, t2, t3, t4, t5, t6, t7, t8, t9, t10, t11] : List Int).getD 4 0 = t4 := rfl
 have g5 : ([t0, t1, t2, t3, t4, t5, t6, t7, t8, t9, t10, t11] : List Int).getD 5 0 = t5 := rfl
 have g6 : ([t0, t1, t2, t3, t4, t5, t6, t7, t8, t9, t10, t11] : List Int).getD 6 0 = t6 := rfl
 have g7 : ([t0, t1, t2, t3, t4, t5, t6, t7, t8, t9, t10, t11] : List Int).getD 7 0 = t7 := rfl
 have g8 : ([t0, t1, t2, t3, t4, t5, t6, t7, t8, t9, t10, t11] : List Int).getD 8 0 = t8 := rfl
 have g9 : ([t0, t1, t2, t3, t4, t5, t6, t7, t8, t9, t10, t11] : List Int).getD 9 0 = t9 := rfl
 have g10 : ([t0, t1, t2, t3, t4, t5, t6, t7, t8, t9, t10, t11] : List Int).getD 10 0 = t10 := rfl
 have g11 : ([t0, t1, t2, t3, t4, t5, t6, t7, t8, t9, t10, t11] : List Int).getD 11 0 = t11 := rfl
 have l11 := row_gen 12 (step := step13_2m) (d := d) (l := ([t0, t1, t2, t3, t4, t5, t6, t7, t8, t9, t10, t11] : List Int)) (next := []) (e := true) (fun r => ([], [], [], [], [], [], [], [], [], [], [], r, [])) rfl (fun _ _ => rfl) a11 RB.nil
 simp only [h11] at l11
 have l10 := row_gen 12 (step := step13_2ma) (d := d) (l := ([t0, t1, t2, t3, t4, t5, t6, t7, t8, t9, t10, t11] : List Int)) (next := R11) (e := false) (fun r => ([], [], [], [], [], [], [], [], [], [], r, R11, [])) rfl (fun _ _ => rfl) a10 B11
 simp only [h10] at l10
 have l9 := row_gen 12 (step := step13_2mb) (d := d) (l := ([t0, t1, t2, t3, t4, t5, t6, t7, t8, t9, t10, t11] : List Int)) (next := R10) (e := false) (fun r => ([], [], [], [], [], [], [], [], [], r, R10, R11, [])) rfl (fun _ _ => rfl) a9 B10
 simp only [h9] at l9
 have l8 := row_gen 12 (step := step13_2mc) (d := d) (l := ([t0, t1, t2, t3, t4, t5, t6, t7, t8, t9, t10, t11] : List Int)) (next := R9) (e := false) (fun r => ([], [], [], [], [], [], [], [], r, R9, R10, R11, [])) rfl (fun _ _ => rfl) a8 B9
 simp only [h8] at l8
 have l7 := row_gen 12 (step := step13_2md) (d := d) (l := ([t0, t1, t2, t3, t4, t5, t6, t7, t8, t9, t10, t11] : List Int)) (next := R8) (e := false) (fun r => ([], [], [], [], [], [], [], r, R8, R9, R10, R11, [])) rfl (fun _ _ => rfl) a7 B8
 simp only [h7] at l7
 have l6 := row_gen 12 (step := step13_2me) (d := d) (l := ([t0, t1, t2, t3, t4, t5, t6, t7, t8, t9, t10, t11] : List Int)) (next := R7) (e := false) (fun r => ([], [], [], [], [], [], r, R7, R8, R9, R10, R11, [])) rfl (fun _ _ => rfl) a6 B7
 simp only [h6] at l6
 have l5 := row_gen 12 (step := step13_2mf) (d := d) (l := ([t0, t1, t2, t3, t4, t5, t6, t7, t8, t9, t10, t11] : List Int)) (next := R6) (e := false) (fun r => ([], [], [], [], [], r, R6, R7, R8, R9, R10, R11, [])) rfl (fun _ _ => rfl) a5 B6
 simp only [h5] at l5
 have l4 := row_gen 12 (step := step13_2mg) (d := d) (l := ([t0, t1, t2, t3, t4, t5, t6, t7, t8, t9, t10, t11] : List Int)) (next := R5) (e := false) (fun r => ([], [], [], [], r, R5, R6, R7, R8, R9, R10, R11, [])) rfl (fun _ _ => rfl) a4 B5
 simp only [h4] at l4
 have l3 := row_gen 12 (step := step13_2mh) (d := d) (l := ([t0, t1, t2, t3, t4, t5, t6, t7, t8, t9, t10, t11] : List Int)) (next := R4) (e := false) (fun r => ([], [], [], r, R4, R5, R6, R7, R8, R9, R10, R11, [])) rfl (fun _ _ => rfl) a3 B4
 simp only [h3] at l3
 have l2 := row_gen 12 (step := step13_2mi8) (d := d) (l := ([t0, t1, t2, t3, t4, t5, t6, t7, t8, t9, t10, t11] : List Int)) (next := R3) (e := false) (fun r => ([], [], r, R3, R4, R5, R6, R7, R8, R9, R10, R11, [])) rfl (fun _ _ => rfl) a2 B3
 simp only [h2] at l2
 have l1 := row_gen 12 (step := step13_2mi9) (d := d) (l := ([t0, t1, t2, t3, t4, t5, t6, t7, t8, t9, t10, t11] : List Int)) (next := R2) (e := false) (fun r => ([], r, R2, R3, R4, R5, R6, R7, R8, R9, R10, R11, [])) rfl (fun _ _ => rfl) a1 B2
 simp only [h1] at l1
 have l0 := row_gen 12 (step := step13_2mi10) (d := d) (l := ([t0, t1, t2, t3, t4, t5, t6, t7, t8, t9, t10, t11] : List Int)) (next := R1) (e := false) (fun r => (r, R1, R2, R3, R4, R5, R6, R7, R8, R9, R10, R11, [])) rfl (fun _ _ => rfl) a0 B1
 simp only [h0] at l0
 simp only [p13n12, optE_some, hp, hbz, q0, g0, l0, q1, g1, l1, q2, g2, l2, q3, g3, l3, q4, g4, l4, q5, g5, l5, q6, g6, l6, q7, g7, l7, q8, g8, l8, q9, g9, l9, q10, g10, l10, q11, g11, l11]
 generalize bstV d R0 d.2.2.1 false = b at hs ⊢
 cases hb : b.2 with
 | false => rfl
 | true =>
   obtain ⟨s0, s1, s2, s3, s4, s5, s6, s7, s8, s9, s10, s11, _⟩ := hs hb
   simp only [Bool.not_true, cond_false, cond_true, s0, s1, s2, s3, s4, s5, s6, s7, s8, s9, s10, s11, walk]
theorem ref_z {d : Dr} (hd : DOk d) {ts : List Int} (hT : TOk d ts) (hl : ts.length ≤ 12) : o13n12 (d, ts) = some (refOut d ts) := by
 match ts, hT, hl with
 | [], hT, _ =>
   simp only [o13n1, o13n2, o13n3, o13n4, o13n5, o13n6, o13n7, o13n8, o13n9, o13n10, o13n11, o13n12, s13n0, s13n1, s13n2, s13n3, s13n4, s13n5, s13n6, s13n7, s13n8, s13n9, s13n10, s13n11, s13n12, P0 hd hT, optE_some, optE_none]
 | [t0], hT, _ =>
   simp only [o13n1, o13n2, o13n3, o13n4, o13n5, o13n6, o13n7, o13n8, o13n9, o13n10, o13n11, o13n12, s13n0, s13n1, s13n2, s13n3, s13n4, s13n5, s13n6, s13n7, s13n8, s13n9, s13n10, s13n11, s13n12, P1 hd hT, optE_some, optE_none]
 | [t0, t1], hT, _ =>
   simp only [o13n1, o13n2, o13n3, o13n4, o13n5, o13n6, o13n7, o13n8, o13n9, o13n10, o13n11, o13n12, s13n0, s13n1, s13n2, s13n3, s13n4, s13n5, s13n6, s13n7, s13n8, s13n9, s13n10, s13n11, s13n12, P2 hd hT, optE_some, optE_none]
 | [t0, t1, t2], hT, _ =>
   simp only [o13n1, o13n2, o13n3, o13n4, o13n5, o13n6, o13n7, o13n8, o13n9, o13n10, o13n11, o13n12, s13n0, s13n1, s13n2, s13n3, s13n4, s13n5, s13n6, s13n7, s13n8, s13n9, s13n10, s13n11, s13n12, P3 hd hT, optE_some, optE_none]
 | [t0, t1, t2, t3], hT, _ =>
   simp only [o13n1, o13n2, o13n3, o13n4, o13n5, o13n6, o13n7, o13n8, o13n9, o13n10, o13n11, o13n12, s13n0, s13n1, s13n2, s13n3, s13n4, s13n5, s13n6, s13n7, s13n8, s13n9, s13n10, s13n11, s13n12, P4 hd hT, optE_some, optE_none]
 | [t0, t1, t2, t3, t4], hT, _ =>
   simp only [o13n1, o13n2, o13n3, o13n4, o13n5, o13n6, o13n7, o13n8, o13n9, o13n10, o13n11, o13n12, s13n0, s13n1, s13n2, s13n3, s13n4, s13n5, s13n6, s13n7, s13n8, s13n9, s13n10, s13n11, s13n12, P5 hd hT, optE_some, optE_none]
 | [t0, t1, t2, t3, t4, t5], hT, _ =>
   simp only [o13n1, o13n2, o13n3, o13n4, o13n5, o13n6, o13n7, o13n8, o13n9, o13n10, o13n11, o13n12, s13n0, s13n1, s13n2, s13n3, s13n4, s13n5, s13n6, s13n7, s13n8, s13n9, s13n10, s13n11, s13n12, P6 hd hT, optE_some, optE_none]
 | [t0, t1, t2, t3, t4, t5, t6], hT, _ =>
   simp only [o13n1, o13n2, o13n3, o13n4, o13n5, o13n6, o13n7, o13n8, o13n9, o13n10, o13n11, o13n12, s13n0, s13n1, s13n2, s13n3, s13n4, s13n5, s13n6, s13n7, s13n8, s13n9, s13n10, s13n11, s13n12, P7 hd hT, optE_some, optE_none]
 | [t0, t1, t2, t3, t4, t5, t6, t7], hT, _ =>
   simp only [o13n1, o13n2, o13n3, o13n4, o13n5, o13n6, o13n7, o13n8, o13n9, o13n10, o13n11, o13n12, s13n0, s13n1, s13n2, s13n3, s13n4, s13n5, s13n6, s13n7, s13n8, s13n9, s13n10, s13n11, s13n12, P8 hd hT, optE_some, optE_none]
 | [t0, t1, t2, t3, t4, t5, t6, t7, t8], hT, _ =>
   simp only [o13n1, o13n2, o13n3, o13n4, o13n5, o13n6, o13n7, o13n8, o13n9, o13n10, o13n11, o13n12, s13n0, s13n1, s13n2, s13n3, s13n4, s13n5, s13n6, s13n7, s13n8, s13n9, s13n10, s13n11, s13n12, P9 hd hT, optE_some, optE_none]
 | [t0, t1, t2, t3, t4, t5, t6, t7, t8, t9], hT, _ =>
   simp only [o13n1, o13n2, o13n3, o13n4, o13n5, o13n6, o13n7, o13n8, o13n9, o13n10, o13n11, o13n12, s13n0, s13n1, s13n2, s13n3, s13n4, s13n5, s13n6, s13n7, s13n8, s13n9, s13n10, s13n11, s13n12, P10 hd hT, optE_some, optE_none]
 | [t0, t1, t2, t3, t4, t5, t6, t7, t8, t9, t10], hT, _ =>
   simp only [o13n1, o13n2, o13n3, o13n4, o13n5, o13n6, o13n7, o13n8, o13n9, o13n10, o13n11, o13n12, s13n0, s13n1, s13n2, s13n3, s13n4, s13n5, s13n6, s13n7, s13n8, s13n9, s13n10, s13n11, s13n12, P11 hd hT, optE_some, optE_none]
 | [t0, t1, t2, t3, t4, t5, t6, t7, t8, t9, t10, t11], hT, _ =>
   simp only [o13n1, o13n2, o13n3, o13n4, o13n5, o13n6, o13n7, o13n8, o13n9, o13n10, o13n11, o13n12, s13n0, s13n1, s13n2, s13n3, s13n4, s13n5, s13n6, s13n7, s13n8, s13n9, s13n10, s13n11, s13n12, P12 hd hT, optE_some, optE_none]
 | _ :: _ :: _ :: _ :: _ :: _ :: _ :: _ :: _ :: _ :: _ :: _ :: _ :: l, _, hl => simp only [List.length_cons] at hl; omega
end Go.Proofs.Ythabingkfmlbbaa
