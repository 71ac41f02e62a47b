/- Chapter 2: nothing is lost in bins, in plain Lean. -/
import Derived.Test.YtinkhmfciealkaaPure02c
set_option linter.unusedSimpArgs false
namespace Go.Proofs.Ytinkhmfciealkaa
open Go.Ev

section
variable (s : Four)
def fourL : List (Int × Int) := [s.1, s.2.1, s.2.2.1, s.2.2.2]
theorem bin0 : binL rotB 0 (fourL s) = (s.1.1 + s.2.1.1 + s.2.2.1.1 + s.2.2.2.1, s.1.2 + s.2.1.2 + s.2.2.1.2 + s.2.2.2.2) := by
  show cadd (cadd (cadd (cadd (0, 0) (cmul s.1 (1, 0))) (cmul s.2.1 (1, 0))) (cmul s.2.2.1 (1, 0))) (cmul s.2.2.2 (1, 0)) = _
  simp only [cadd, cmul, Prod.mk.injEq]; omega
theorem bin1 : binL rotB 1 (fourL s) = (s.1.1 + s.2.1.2 - s.2.2.1.1 - s.2.2.2.2, s.1.2 - s.2.1.1 - s.2.2.1.2 + s.2.2.2.1) := by
  show cadd (cadd (cadd (cadd (0, 0) (cmul s.1 (1, 0))) (cmul s.2.1 (0, -1))) (cmul s.2.2.1 (-1, 0))) (cmul s.2.2.2 (0, 1)) = _
  simp only [cadd, cmul, Prod.mk.injEq]; omega
theorem bin2 : binL rotB 2 (fourL s) = (s.1.1 - s.2.1.1 + s.2.2.1.1 - s.2.2.2.1, s.1.2 - s.2.1.2 + s.2.2.1.2 - s.2.2.2.2) := by
  show cadd (cadd (cadd (cadd (0, 0) (cmul s.1 (rotB (2 * 0)))) (cmul s.2.1 (rotB (2 * 1)))) (cmul s.2.2.1 (rotB (2 * 2)))) (cmul s.2.2.2 (rotB (2 * 3))) = _
  rw [show rotB (2 * 0) = (1, 0) by decide, show rotB (2 * 1) = (-1, 0) by decide, show rotB (2 * 2) = (1, 0) by decide, show rotB (2 * 3) = (-1, 0) by decide]
  simp only [cadd, cmul, Prod.mk.injEq]; omega
theorem bin3 : binL rotB 3 (fourL s) = (s.1.1 - s.2.1.2 - s.2.2.1.1 + s.2.2.2.2, s.1.2 + s.2.1.1 - s.2.2.1.2 - s.2.2.2.1) := by
  show cadd (cadd (cadd (cadd (0, 0) (cmul s.1 (rotB (3 * 0)))) (cmul s.2.1 (rotB (3 * 1)))) (cmul s.2.2.1 (rotB (3 * 2)))) (cmul s.2.2.2 (rotB (3 * 3))) = _
  rw [show rotB (3 * 0) = (1, 0) by decide, show rotB (3 * 1) = (0, 1) by decide, show rotB (3 * 2) = (-1, 0) by decide, show rotB (3 * 3) = (0, -1) by decide]
  simp only [cadd, cmul, Prod.mk.injEq]; omega
theorem unbin0 : binL rotF 0 (fourL s) = (s.1.1 + s.2.1.1 + s.2.2.1.1 + s.2.2.2.1, s.1.2 + s.2.1.2 + s.2.2.1.2 + s.2.2.2.2) := by
  show cadd (cadd (cadd (cadd (0, 0) (cmul s.1 (1, 0))) (cmul s.2.1 (1, 0))) (cmul s.2.2.1 (1, 0))) (cmul s.2.2.2 (1, 0)) = _
  simp only [cadd, cmul, Prod.mk.injEq]; omega
theorem unbin1 : binL rotF 1 (fourL s) = (s.1.1 - s.2.1.2 - s.2.2.1.1 + s.2.2.2.2, s.1.2 + s.2.1.1 - s.2.2.1.2 - s.2.2.2.1) := by
  show cadd (cadd (cadd (cadd (0, 0) (cmul s.1 (1, 0))) (cmul s.2.1 (0, 1))) (cmul s.2.2.1 (-1, 0))) (cmul s.2.2.2 (0, -1)) = _
  simp only [cadd, cmul, Prod.mk.injEq]; omega
theorem unbin2 : binL rotF 2 (fourL s) = (s.1.1 - s.2.1.1 + s.2.2.1.1 - s.2.2.2.1, s.1.2 - s.2.1.2 + s.2.2.1.2 - s.2.2.2.2) := by
  show cadd (cadd (cadd (cadd (0, 0) (cmul s.1 (rotF (2 * 0)))) (cmul s.2.1 (rotF (2 * 1)))) (cmul s.2.2.1 (rotF (2 * 2)))) (cmul s.2.2.2 (rotF (2 * 3))) = _
  rw [show rotF (2 * 0) = (1, 0) by decide, show rotF (2 * 1) = (-1, 0) by decide, show rotF (2 * 2) = (1, 0) by decide, show rotF (2 * 3) = (-1, 0) by decide]
  simp only [cadd, cmul, Prod.mk.injEq]; omega
theorem unbin3 : binL rotF 3 (fourL s) = (s.1.1 + s.2.1.2 - s.2.2.1.1 - s.2.2.2.2, s.1.2 - s.2.1.1 - s.2.2.1.2 + s.2.2.2.1) := by
  show cadd (cadd (cadd (cadd (0, 0) (cmul s.1 (rotF (3 * 0)))) (cmul s.2.1 (rotF (3 * 1)))) (cmul s.2.2.1 (rotF (3 * 2)))) (cmul s.2.2.2 (rotF (3 * 3))) = _
  rw [show rotF (3 * 0) = (1, 0) by decide, show rotF (3 * 1) = (0, -1) by decide, show rotF (3 * 2) = (-1, 0) by decide, show rotF (3 * 3) = (0, 1) by decide]
  simp only [cadd, cmul, Prod.mk.injEq]; omega
end

theorem parseval (a0 b0 a1 b1 a2 b2 a3 b3 : Int) :
    ((a0 + a1 + a2 + a3) * (a0 + a1 + a2 + a3) + (b0 + b1 + b2 + b3) * (b0 + b1 + b2 + b3)) + ((a0 + b1 - a2 - b3) * (a0 + b1 - a2 - b3) + (b0 - a1 - b2 + a3) * (b0 - a1 - b2 + a3)) +
      ((a0 - a1 + a2 - a3) * (a0 - a1 + a2 - a3) + (b0 - b1 + b2 - b3) * (b0 - b1 + b2 - b3)) + ((a0 - b1 - a2 + b3) * (a0 - b1 - a2 + b3) + (b0 + a1 - b2 - a3) * (b0 + a1 - b2 - a3)) =
    4 * ((a0 * a0 + b0 * b0) + (a1 * a1 + b1 * b1) + (a2 * a2 + b2 * b2) + (a3 * a3 + b3 * b3)) := by grind

theorem tmod4 (n : Int) : Int.tmod (4 * n) 4 = 0 := Int.mul_tmod_right 4 n
theorem tdiv4 (n : Int) : Int.tdiv (4 * n) 4 = n := Int.mul_tdiv_cancel_left n (by omega)

theorem quart4 {a b : Int} (ha : -2000 ≤ a ∧ a ≤ 2000) (hb : -2000 ≤ b ∧ b ≤ 2000) : quart (4 * a, 4 * b) = (a, b) := by
  unfold quart
  dsimp only
  rw [tdiv4, tdiv4, wr_id (by omega) (by omega), wr_id (by omega) (by omega)]

theorem restored {s : Four} (h : smpE (fourL s) = 0) : okFour (binsL (fourL s)) = true ∧ restR (binsL (fourL s)) = (s, 0) := by
  have h' := smpE_zero.1 h
  have g0 := okG_le (h'.2 s.1 (by simp [fourL])) (by omega)
  have g1 := okG_le (h'.2 s.2.1 (by simp [fourL])) (by omega)
  have g2 := okG_le (h'.2 s.2.2.1 (by simp [fourL])) (by omega)
  have g3 := okG_le (h'.2 s.2.2.2 (by simp [fourL])) (by omega)
  have hok : okFour (binsL (fourL s)) = true := by
    unfold binsL okFour
    rw [bin0, bin1, bin2, bin3]
    simp only [Bool.and_eq_true]
    refine ⟨(okG_iff (by omega)).2 ?_, (okG_iff (by omega)).2 ?_, (okG_iff (by omega)).2 ?_, (okG_iff (by omega)).2 ?_⟩ <;> dsimp only <;> omega
  refine ⟨hok, ?_⟩
  unfold restR
  rw [hok, cond_true]
  have e : ∀ t : Four, [t.1, t.2.1, t.2.2.1, t.2.2.2] = fourL t := fun _ => rfl
  rw [e, unbin0, unbin1, unbin2, unbin3]
  unfold binsL
  rw [bin0, bin1, bin2, bin3]
  dsimp only
  obtain ⟨⟨a0, b0⟩, ⟨a1, b1⟩, ⟨a2, b2⟩, ⟨a3, b3⟩⟩ := s
  dsimp only at g0 g1 g2 g3 ⊢
  rw [show (a0 + a1 + a2 + a3 + (a0 + b1 - a2 - b3) + (a0 - a1 + a2 - a3) + (a0 - b1 - a2 + b3), b0 + b1 + b2 + b3 + (b0 - a1 - b2 + a3) + (b0 - b1 + b2 - b3) + (b0 + a1 - b2 - a3)) = (4 * a0, 4 * b0) by simp only [Prod.mk.injEq]; omega,
    show (a0 + a1 + a2 + a3 - (b0 - a1 - b2 + a3) - (a0 - a1 + a2 - a3) + (b0 + a1 - b2 - a3), b0 + b1 + b2 + b3 + (a0 + b1 - a2 - b3) - (b0 - b1 + b2 - b3) - (a0 - b1 - a2 + b3)) = (4 * a1, 4 * b1) by simp only [Prod.mk.injEq]; omega,
    show (a0 + a1 + a2 + a3 - (a0 + b1 - a2 - b3) + (a0 - a1 + a2 - a3) - (a0 - b1 - a2 + b3), b0 + b1 + b2 + b3 - (b0 - a1 - b2 + a3) + (b0 - b1 + b2 - b3) - (b0 + a1 - b2 - a3)) = (4 * a2, 4 * b2) by simp only [Prod.mk.injEq]; omega,
    show (a0 + a1 + a2 + a3 + (b0 - a1 - b2 + a3) - (a0 - a1 + a2 - a3) - (b0 + a1 - b2 - a3), b0 + b1 + b2 + b3 - (a0 + b1 - a2 - b3) - (b0 - b1 + b2 - b3) + (a0 - b1 - a2 + b3)) = (4 * a3, 4 * b3) by simp only [Prod.mk.injEq]; omega]
  unfold restOf
  rw [quart4 (by omega) (by omega), quart4 (by omega) (by omega), quart4 (by omega) (by omega), quart4 (by omega) (by omega)]
  dsimp only
  rw [(okG_iff (g := (a0, b0)) (by omega)).2 g0, (okG_iff (g := (a1, b1)) (by omega)).2 g1, (okG_iff (g := (a2, b2)) (by omega)).2 g2, (okG_iff (g := (a3, b3)) (by omega)).2 g3]
  simp only [tmod4]
  rfl

theorem energies {s : Four} (h : smpE (fourL s) = 0) : wr (wr (wr (wr (0 + normW (binsL (fourL s)).1) + normW (binsL (fourL s)).2.1) + normW (binsL (fourL s)).2.2.1) + normW (binsL (fourL s)).2.2.2) = wr (4 * energyW (fourL s)) := by
  have h' := smpE_zero.1 h
  have g0 := okG_le (h'.2 s.1 (by simp [fourL])) (by omega)
  have g1 := okG_le (h'.2 s.2.1 (by simp [fourL])) (by omega)
  have g2 := okG_le (h'.2 s.2.2.1 (by simp [fourL])) (by omega)
  have g3 := okG_le (h'.2 s.2.2.2 (by simp [fourL])) (by omega)
  have hE : energyW (fourL s) = wr (wr (wr (wr (0 + normW s.1) + normW s.2.1) + normW s.2.2.1) + normW s.2.2.2) := rfl
  rw [hE]
  obtain ⟨n0, p0⟩ := normW_eq (m := 2000) (by omega) g0
  obtain ⟨n1, p1⟩ := normW_eq (m := 2000) (by omega) g1
  obtain ⟨n2, p2⟩ := normW_eq (m := 2000) (by omega) g2
  obtain ⟨n3, p3⟩ := normW_eq (m := 2000) (by omega) g3
  have hb0 : -8000 ≤ (binsL (fourL s)).1.1 ∧ (binsL (fourL s)).1.1 ≤ 8000 ∧ -8000 ≤ (binsL (fourL s)).1.2 ∧ (binsL (fourL s)).1.2 ≤ 8000 := by unfold binsL; rw [bin0]; dsimp only; omega
  have hb1 : -8000 ≤ (binsL (fourL s)).2.1.1 ∧ (binsL (fourL s)).2.1.1 ≤ 8000 ∧ -8000 ≤ (binsL (fourL s)).2.1.2 ∧ (binsL (fourL s)).2.1.2 ≤ 8000 := by unfold binsL; dsimp only; rw [bin1]; dsimp only; omega
  have hb2 : -8000 ≤ (binsL (fourL s)).2.2.1.1 ∧ (binsL (fourL s)).2.2.1.1 ≤ 8000 ∧ -8000 ≤ (binsL (fourL s)).2.2.1.2 ∧ (binsL (fourL s)).2.2.1.2 ≤ 8000 := by unfold binsL; dsimp only; rw [bin2]; dsimp only; omega
  have hb3 : -8000 ≤ (binsL (fourL s)).2.2.2.1 ∧ (binsL (fourL s)).2.2.2.1 ≤ 8000 ∧ -8000 ≤ (binsL (fourL s)).2.2.2.2 ∧ (binsL (fourL s)).2.2.2.2 ≤ 8000 := by unfold binsL; dsimp only; rw [bin3]; dsimp only; omega
  obtain ⟨m0, q0⟩ := normW_eq (m := 8000) (by omega) hb0
  obtain ⟨m1, q1⟩ := normW_eq (m := 8000) (by omega) hb1
  obtain ⟨m2, q2⟩ := normW_eq (m := 8000) (by omega) hb2
  obtain ⟨m3, q3⟩ := normW_eq (m := 8000) (by omega) hb3
  have hp := parseval s.1.1 s.1.2 s.2.1.1 s.2.1.2 s.2.2.1.1 s.2.2.1.2 s.2.2.2.1 s.2.2.2.2
  have hsum : normW (binsL (fourL s)).1 + normW (binsL (fourL s)).2.1 + normW (binsL (fourL s)).2.2.1 + normW (binsL (fourL s)).2.2.2 = 4 * (normW s.1 + normW s.2.1 + normW s.2.2.1 + normW s.2.2.2) := by
    rw [m0, m1, m2, m3, n0, n1, n2, n3]
    unfold binsL
    rw [bin0, bin1, bin2, bin3]
    exact hp
  generalize normW (binsL (fourL s)).1 = B0 at *
  generalize normW (binsL (fourL s)).2.1 = B1 at *
  generalize normW (binsL (fourL s)).2.2.1 = B2 at *
  generalize normW (binsL (fourL s)).2.2.2 = B3 at *
  generalize normW s.1 = A0 at *
  generalize normW s.2.1 = A1 at *
  generalize normW s.2.2.1 = A2 at *
  generalize normW s.2.2.2 = A3 at *
  rw [wr_id (n := 0 + B0) (by omega) (by omega), wr_id (n := 0 + B0 + B1) (by omega) (by omega), wr_id (n := 0 + B0 + B1 + B2) (by omega) (by omega),
    wr_id (n := 0 + A0) (by omega) (by omega), wr_id (n := 0 + A0 + A1) (by omega) (by omega), wr_id (n := 0 + A0 + A1 + A2) (by omega) (by omega), wr_id (n := 0 + A0 + A1 + A2 + A3) (by omega) (by omega)]
  congr 1
  omega

theorem rotB_mod {a b : Int} (h : a % 4 = b % 4) : rotB a = rotB b := by unfold rotB; rw [h]
theorem quarter_turn {q : Int} (hq : 0 ≤ q ∧ q ≤ 3) {k : Nat} (hk : k ≤ 1000) : turnOf (0, q * 1024, 0) k % 4 = (q * k) % 4 := by
  have hp : progE (0, q * 1024, 0) = 0 := progE_zero.2 ⟨by dsimp only; omega, by dsimp only; omega, by dsimp only; omega⟩
  unfold turnOf
  rw [phaseOf_eq hp (by omega) (by omega)]
  unfold phaseX
  dsimp only
  rw [Int.mul_zero, show (k : Int) * (q * 1024) = 1024 * (q * k) by rw [Int.mul_comm, Int.mul_assoc, Int.mul_comm 1024, ← Int.mul_assoc, Int.mul_comm]]
  have : 0 ≤ q * (k : Int) := Int.mul_nonneg hq.1 (by omega)
  omega
theorem bin_quarter {q : Int} (hq : 0 ≤ q ∧ q ≤ 3) {x : List (Int × Int)} (hx : x.length ≤ 1000) : binL rotB 0 (mixL rotB (0, q * 1024, 0) x) = binL rotB q x := by
  have key : ∀ k : Nat, k ≤ x.length → binTo rotB 0 (mixL rotB (0, q * 1024, 0) x) k = binTo rotB q x k := by
    intro k
    induction k with
    | zero => intro _; rfl
    | succ k ih =>
      intro hk
      rw [binTo, binTo, ih (by omega), mixL_getD (by omega), Int.zero_mul, rotB_zero, rotB_mod (quarter_turn hq (show k ≤ 1000 by omega))]
      simp [cmul]
  unfold binL
  rw [mixL_length, key _ (Nat.le_refl _)]
end Go.Proofs.Ytinkhmfciealkaa
