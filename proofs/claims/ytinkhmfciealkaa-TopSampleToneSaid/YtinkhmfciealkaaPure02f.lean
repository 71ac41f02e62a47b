/- Chapter 2: a tone, in plain Lean. -/
import Derived.Test.YtinkhmfciealkaaPure02e
set_option linter.unusedSimpArgs false
namespace Go.Proofs.Ytinkhmfciealkaa
open Go.Ev

theorem rotF_mod {a b : Int} (h : a % 4 = b % 4) : rotF a = rotF b := by unfold rotF; rw [h]
theorem rotF_val {t : Int} : (t % 4 = 0 → rotF t = (1, 0)) ∧ (t % 4 = 1 → rotF t = (0, 1)) ∧ (t % 4 = 2 → rotF t = (-1, 0)) ∧ (t % 4 = 3 → rotF t = (0, -1)) := by
  unfold rotF
  refine ⟨fun h => ?_, fun h => ?_, fun h => ?_, fun h => ?_⟩ <;> rw [h] <;> rfl
theorem rotB_val {t : Int} : (t % 4 = 0 → rotB t = (1, 0)) ∧ (t % 4 = 1 → rotB t = (0, -1)) ∧ (t % 4 = 2 → rotB t = (-1, 0)) ∧ (t % 4 = 3 → rotB t = (0, 1)) := by
  unfold rotB
  refine ⟨fun h => ?_, fun h => ?_, fun h => ?_, fun h => ?_⟩ <;> rw [h] <;> rfl
theorem rot_prod (A : Int × Int) (s t : Int) : cmul (cmul A (rotF s)) (rotB t) = cmul A (rotF (s - t)) := by
  have h : s % 4 = 0 ∨ s % 4 = 1 ∨ s % 4 = 2 ∨ s % 4 = 3 := by omega
  have g : t % 4 = 0 ∨ t % 4 = 1 ∨ t % 4 = 2 ∨ t % 4 = 3 := by omega
  obtain ⟨a, b⟩ := A
  rcases h with h | h | h | h <;> rcases g with g | g | g | g
  · rw [rotF_val.1 h, rotB_val.1 g, rotF_val.1 (show (s - t) % 4 = 0 by omega)]; simp [cmul]
  · rw [rotF_val.1 h, rotB_val.2.1 g, rotF_val.2.2.2 (show (s - t) % 4 = 3 by omega)]; simp [cmul]
  · rw [rotF_val.1 h, rotB_val.2.2.1 g, rotF_val.2.2.1 (show (s - t) % 4 = 2 by omega)]; simp [cmul]
  · rw [rotF_val.1 h, rotB_val.2.2.2 g, rotF_val.2.1 (show (s - t) % 4 = 1 by omega)]; simp [cmul]
  · rw [rotF_val.2.1 h, rotB_val.1 g, rotF_val.2.1 (show (s - t) % 4 = 1 by omega)]; simp [cmul]
  · rw [rotF_val.2.1 h, rotB_val.2.1 g, rotF_val.1 (show (s - t) % 4 = 0 by omega)]; simp [cmul]
  · rw [rotF_val.2.1 h, rotB_val.2.2.1 g, rotF_val.2.2.2 (show (s - t) % 4 = 3 by omega)]; simp [cmul]
  · rw [rotF_val.2.1 h, rotB_val.2.2.2 g, rotF_val.2.2.1 (show (s - t) % 4 = 2 by omega)]; simp [cmul]
  · rw [rotF_val.2.2.1 h, rotB_val.1 g, rotF_val.2.2.1 (show (s - t) % 4 = 2 by omega)]; simp [cmul]
  · rw [rotF_val.2.2.1 h, rotB_val.2.1 g, rotF_val.2.1 (show (s - t) % 4 = 1 by omega)]; simp [cmul]
  · rw [rotF_val.2.2.1 h, rotB_val.2.2.1 g, rotF_val.1 (show (s - t) % 4 = 0 by omega)]; simp [cmul]
  · rw [rotF_val.2.2.1 h, rotB_val.2.2.2 g, rotF_val.2.2.2 (show (s - t) % 4 = 3 by omega)]; simp [cmul]
  · rw [rotF_val.2.2.2 h, rotB_val.1 g, rotF_val.2.2.2 (show (s - t) % 4 = 3 by omega)]; simp [cmul]
  · rw [rotF_val.2.2.2 h, rotB_val.2.1 g, rotF_val.2.2.1 (show (s - t) % 4 = 2 by omega)]; simp [cmul]
  · rw [rotF_val.2.2.2 h, rotB_val.2.2.1 g, rotF_val.2.1 (show (s - t) % 4 = 1 by omega)]; simp [cmul]
  · rw [rotF_val.2.2.2 h, rotB_val.2.2.2 g, rotF_val.1 (show (s - t) % 4 = 0 by omega)]; simp [cmul]

/-- A tone. -/
def tone (A : Int × Int) (q : Int) (n : Nat) : List (Int × Int) := mixL rotF (0, q * 1024, 0) (List.replicate n A)
theorem tone_length (A : Int × Int) (q : Int) (n : Nat) : (tone A q n).length = n := by simp [tone, mixL]
theorem tone_getD {A : Int × Int} {q : Int} (hq : 0 ≤ q ∧ q ≤ 3) {n k : Nat} (hk : k < n) (hn : n ≤ 1000) : (tone A q n).getD k (0, 0) = cmul A (rotF (q * k)) := by
  unfold tone
  rw [mixL_getD (by simpa using hk), rotF_mod (quarter_turn hq (show k ≤ 1000 by omega))]
  congr 1
  rw [List.getD_eq_getElem?_getD, List.getElem?_replicate, if_pos hk]; rfl
theorem tone_bin {A : Int × Int} {q k : Int} (hq : 0 ≤ q ∧ q ≤ 3) (hk : 0 ≤ k ∧ k ≤ 3) {n : Nat} (hn : 4 * n ≤ 1000) : ∀ m : Nat, m ≤ n → binTo rotB k (tone A q (4 * n)) (4 * m) = if k = q then (4 * (m : Int) * A.1, 4 * (m : Int) * A.2) else (0, 0)
  | 0, _ => by simp [binTo]
  | m + 1, hm => by
    have ih := tone_bin (A := A) hq hk hn m (by omega)
    have term : ∀ j : Nat, j < 4 → cmul ((tone A q (4 * n)).getD (4 * m + j) (0, 0)) (rotB (k * ((4 * m + j : Nat) : Int))) = cmul A (rotF ((q - k) * j)) := fun j hj => by
      rw [tone_getD hq (by omega) hn, rot_prod]
      congr 1
      refine rotF_mod ?_
      have e : q * ((4 * m + j : Nat) : Int) - k * ((4 * m + j : Nat) : Int) = 4 * ((q - k) * m) + (q - k) * j := by
        rw [← Int.sub_mul, Int.natCast_add, Int.mul_add, Int.natCast_mul, Int.mul_left_comm]; rfl
      rw [e]; omega
    rw [show 4 * (m + 1) = 4 * m + 1 + 1 + 1 + 1 by omega]
    simp only [binTo]
    have t0 := term 0 (by omega)
    have t1 := term 1 (by omega)
    have t2 := term 2 (by omega)
    have t3 := term 3 (by omega)
    rw [Nat.add_zero] at t0
    rw [t0, t1, t2, t3, ih]
    have hd : (q - k) % 4 = 0 ∧ k = q ∨ ((q - k) % 4 = 1 ∨ (q - k) % 4 = 2 ∨ (q - k) % 4 = 3) ∧ k ≠ q := by omega
    rw [rotF_val.1 (show (q - k) * ((0 : Nat) : Int) % 4 = 0 by simp)]
    rcases hd with ⟨h, e⟩ | ⟨h | h | h, e⟩
    · rw [if_pos e, if_pos e, rotF_val.1 (show (q - k) * ((1 : Nat) : Int) % 4 = 0 by omega), rotF_val.1 (show (q - k) * ((2 : Nat) : Int) % 4 = 0 by omega), rotF_val.1 (show (q - k) * ((3 : Nat) : Int) % 4 = 0 by omega)]
      simp only [cadd, cmul, Prod.mk.injEq]
      have e1 : ∀ a : Int, 4 * ((m + 1 : Nat) : Int) * a = 4 * (m : Int) * a + 4 * a := fun a => by
        rw [Int.natCast_add, Int.mul_add, Int.add_mul]; rfl
      rw [e1, e1]
      omega
    · rw [if_neg e, if_neg e, rotF_val.2.1 (show (q - k) * ((1 : Nat) : Int) % 4 = 1 by omega), rotF_val.2.2.1 (show (q - k) * ((2 : Nat) : Int) % 4 = 2 by omega), rotF_val.2.2.2 (show (q - k) * ((3 : Nat) : Int) % 4 = 3 by omega)]
      simp only [cadd, cmul, Prod.mk.injEq]; omega
    · rw [if_neg e, if_neg e, rotF_val.2.2.1 (show (q - k) * ((1 : Nat) : Int) % 4 = 2 by omega), rotF_val.1 (show (q - k) * ((2 : Nat) : Int) % 4 = 0 by omega), rotF_val.2.2.1 (show (q - k) * ((3 : Nat) : Int) % 4 = 2 by omega)]
      simp only [cadd, cmul, Prod.mk.injEq]; omega
    · rw [if_neg e, if_neg e, rotF_val.2.2.2 (show (q - k) * ((1 : Nat) : Int) % 4 = 3 by omega), rotF_val.2.2.1 (show (q - k) * ((2 : Nat) : Int) % 4 = 2 by omega), rotF_val.2.1 (show (q - k) * ((3 : Nat) : Int) % 4 = 1 by omega)]
      simp only [cadd, cmul, Prod.mk.injEq]; omega
theorem tone_bins {A : Int × Int} {q k : Int} (hq : 0 ≤ q ∧ q ≤ 3) (hk : 0 ≤ k ∧ k ≤ 3) {n : Nat} (hn : 4 * n ≤ 1000) : binL rotB k (tone A q (4 * n)) = if k = q then (4 * (n : Int) * A.1, 4 * (n : Int) * A.2) else (0, 0) := by
  unfold binL
  rw [tone_length]
  exact tone_bin hq hk hn n (Nat.le_refl _)
theorem tone_before {A : Int × Int} {q : Int} (hq : 0 ≤ q ∧ q ≤ 3) {n k j : Nat} (hk : k < n) (hn : n ≤ 1000) (hj : j ≤ k) : (tone A q n).getD (k - j) (0, 0) = cmul ((tone A q n).getD k (0, 0)) (rotB (q * j)) := by
  rw [tone_getD hq (by omega) hn, tone_getD hq hk hn, rot_prod]
  congr 2
  rw [← Int.mul_sub]
  congr 1
  omega
theorem tone_filter {A : Int × Int} {q : Int} (hq : 0 ≤ q ∧ q ≤ 3) {n k : Nat} (hk : k < n) (hn : n ≤ 1000) (h3 : 3 ≤ k) : outTo [3, -1, 2, 5] (tone A q n) k 4 = cmul (binL rotB q [(3, 0), (-1, 0), (2, 0), (5, 0)]) ((tone A q n).getD k (0, 0)) := by
  have e1 := tone_before (A := A) hq hk hn (show 1 ≤ k by omega)
  have e2 := tone_before (A := A) hq hk hn (show 2 ≤ k by omega)
  have e3 := tone_before (A := A) hq hk hn h3
  have ho : outTo [3, -1, 2, 5] (tone A q n) k 4 = (0 + 3 * ((tone A q n).getD (k - 0) (0, 0)).1 + -1 * ((tone A q n).getD (k - 1) (0, 0)).1 + 2 * ((tone A q n).getD (k - 2) (0, 0)).1 + 5 * ((tone A q n).getD (k - 3) (0, 0)).1,
      0 + 3 * ((tone A q n).getD (k - 0) (0, 0)).2 + -1 * ((tone A q n).getD (k - 1) (0, 0)).2 + 2 * ((tone A q n).getD (k - 2) (0, 0)).2 + 5 * ((tone A q n).getD (k - 3) (0, 0)).2) := by
    simp only [outTo]
    rw [if_pos (show 3 ≤ k by omega), if_pos (show 2 ≤ k by omega), if_pos (show 1 ≤ k by omega), if_pos (show 0 ≤ k by omega)]
    rfl
  rw [ho, Nat.sub_zero, e1, e2, e3]
  generalize (tone A q n).getD k (0, 0) = x
  have hc : q = 0 ∨ q = 1 ∨ q = 2 ∨ q = 3 := by omega
  rcases hc with rfl | rfl | rfl | rfl
  · rw [show binL rotB 0 [(3, 0), (-1, 0), (2, 0), (5, 0)] = (9, 0) by decide, show rotB (0 * ((1 : Nat) : Int)) = (1, 0) by decide, show rotB (0 * ((2 : Nat) : Int)) = (1, 0) by decide, show rotB (0 * ((3 : Nat) : Int)) = (1, 0) by decide]
    simp only [cmul, Prod.mk.injEq]; omega
  · rw [show binL rotB 1 [(3, 0), (-1, 0), (2, 0), (5, 0)] = (1, 6) by decide, show rotB (1 * ((1 : Nat) : Int)) = (0, -1) by decide, show rotB (1 * ((2 : Nat) : Int)) = (-1, 0) by decide, show rotB (1 * ((3 : Nat) : Int)) = (0, 1) by decide]
    simp only [cmul, Prod.mk.injEq]; omega
  · rw [show binL rotB 2 [(3, 0), (-1, 0), (2, 0), (5, 0)] = (1, 0) by decide, show rotB (2 * ((1 : Nat) : Int)) = (-1, 0) by decide, show rotB (2 * ((2 : Nat) : Int)) = (1, 0) by decide, show rotB (2 * ((3 : Nat) : Int)) = (-1, 0) by decide]
    simp only [cmul, Prod.mk.injEq]; omega
  · rw [show binL rotB 3 [(3, 0), (-1, 0), (2, 0), (5, 0)] = (1, -6) by decide, show rotB (3 * ((1 : Nat) : Int)) = (0, 1) by decide, show rotB (3 * ((2 : Nat) : Int)) = (-1, 0) by decide, show rotB (3 * ((3 : Nat) : Int)) = (0, -1) by decide]
    simp only [cmul, Prod.mk.injEq]; omega
end Go.Proofs.Ytinkhmfciealkaa
