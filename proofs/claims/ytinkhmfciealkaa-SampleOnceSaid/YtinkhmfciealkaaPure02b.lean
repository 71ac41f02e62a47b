/- Chapter 2: filters, in plain Lean. -/
import Derived.Test.YtinkhmfciealkaaPure02
set_option linter.unusedSimpArgs false
namespace Go.Proofs.Ytinkhmfciealkaa
open Go.Ev

theorem map_getD {α β : Type} (f : α → β) (l : List α) (d : α) {e : β} {k : Nat} (h : k < l.length) : (l.map f).getD k e = f (l.getD k d) := by
  rw [List.getD_eq_getElem?_getD, List.getElem?_map, List.getD_eq_getElem?_getD, List.getElem?_eq_getElem h]; rfl
theorem mul_bound {a b : Int} (h1 : -100 ≤ a) (h2 : a ≤ 100) (h3 : -2000 ≤ b) (h4 : b ≤ 2000) : -200000 ≤ a * b ∧ a * b ≤ 200000 := by
  have e : (a * b).natAbs ≤ 100 * 2000 := by rw [Int.natAbs_mul]; exact Nat.mul_le_mul (by omega) (by omega)
  omega
/-- The output of coefficients at an index: of so many. -/
def outTo (f : List Int) (x : List (Int × Int)) (n : Nat) : Nat → Int × Int
  | 0 => (0, 0)
  | k + 1 => if k ≤ n then ((outTo f x n k).1 + f.getD k 0 * (x.getD (n - k) (0, 0)).1, (outTo f x n k).2 + f.getD k 0 * (x.getD (n - k) (0, 0)).2) else outTo f x n k
theorem out_bound (f : List Int) (x : List (Int × Int)) (hf : ∀ c ∈ f, -100 ≤ c ∧ c ≤ 100) (hx : ∀ g ∈ x, -2000 ≤ g.1 ∧ g.1 ≤ 2000 ∧ -2000 ≤ g.2 ∧ g.2 ≤ 2000) (n : Nat) :
    ∀ k : Nat, k ≤ f.length → -(200000 * (k : Int)) ≤ (outTo f x n k).1 ∧ (outTo f x n k).1 ≤ 200000 * (k : Int) ∧ -(200000 * (k : Int)) ≤ (outTo f x n k).2 ∧ (outTo f x n k).2 ≤ 200000 * (k : Int)
  | 0, _ => by simp [outTo]
  | k + 1, h => by
    have ih := out_bound f x hf hx n k (by omega)
    have hc := hf _ (getD_mem (d := 0) (show k < f.length by omega))
    have hg : -2000 ≤ (x.getD (n - k) (0, 0)).1 ∧ (x.getD (n - k) (0, 0)).1 ≤ 2000 ∧ -2000 ≤ (x.getD (n - k) (0, 0)).2 ∧ (x.getD (n - k) (0, 0)).2 ≤ 2000 := by
      by_cases hn : n - k < x.length
      · exact hx _ (getD_mem hn)
      · rw [List.getD_eq_getElem?_getD, List.getElem?_eq_none (by omega)]; simp
    have p1 := mul_bound hc.1 hc.2 hg.1 hg.2.1
    have p2 := mul_bound hc.1 hc.2 hg.2.2.1 hg.2.2.2
    simp only [outTo]
    split <;> omega
theorem out_stay (f : List Int) (x : List (Int × Int)) (n : Nat) : ∀ k : Nat, n + 1 ≤ k → outTo f x n k = outTo f x n (n + 1)
  | 0, h => by omega
  | k + 1, h => by
    by_cases e : k = n
    · rw [e]
    · rw [outTo, if_neg (by omega)]; exact out_stay f x n k (by omega)
theorem div_bound {n d : Int} (hd : 1 ≤ d) {m : Int} (h1 : -m ≤ n) (h2 : n ≤ m) : -m ≤ n / d ∧ n / d ≤ m := by
  have h3 := Int.mul_ediv_add_emod n d
  have h4 := Int.emod_nonneg n (show d ≠ 0 by omega)
  have h5 := Int.emod_lt_of_pos n (show 0 < d by omega)
  constructor
  · by_cases hq : 0 ≤ n / d
    · omega
    · have : d * (n / d) ≤ 1 * (n / d) := Int.mul_le_mul_of_nonpos_right hd (by omega)
      have hn : n < 0 := by
        by_cases hn : 0 ≤ n
        · have := Int.ediv_nonneg hn (show 0 ≤ d by omega); omega
        · omega
      have : n ≤ n / d := by
        have hle : d * (n / d) ≤ n := by omega
        have h6 : n / d * d ≤ n := by rw [Int.mul_comm]; exact hle
        have h7 := (Int.le_ediv_iff_mul_le (a := n) (b := n) (c := d) (by omega)).2 (by
          have : n * d ≤ n * 1 := Int.mul_le_mul_of_nonpos_left (by omega) hd
          omega)
        exact h7
      omega
  · by_cases hq : n / d ≤ 0
    · omega
    · have : n / d ≤ n := by
        have hle : d * (n / d) ≤ n := by omega
        have : 1 * (n / d) ≤ d * (n / d) := Int.mul_le_mul_of_nonneg_right hd (by omega)
        omega
      omega
theorem neg_floor {n d : Int} (hd : 1 ≤ d) : (d - 1 - n) / d = -(n / d) := by
  have h3 := Int.mul_ediv_add_emod n d
  have h4 := Int.emod_nonneg n (show d ≠ 0 by omega)
  have h5 := Int.emod_lt_of_pos n (show 0 < d by omega)
  have e : d - 1 - n = (d - 1 - n % d) + d * (-(n / d)) := by rw [Int.mul_neg]; omega
  rw [e, Int.add_mul_ediv_left _ _ (by omega), Int.ediv_eq_zero_of_lt (by omega) (by omega)]
  omega
def filtAt (f : List Int × Int) (x : List (Int × Int)) (n : Nat) : Int × Int := ((outTo f.1 x n f.1.length).1 / f.2, (outTo f.1 x n f.1.length).2 / f.2)
def filtL (f : List Int × Int) (x : List (Int × Int)) : List (Int × Int) := (List.range x.length).map (filtAt f x)
/-- The outputs at the multiples of a number. -/
def decim (f : List Int × Int) (x : List (Int × Int)) (b : Nat) : List (Int × Int) := (List.range ((x.length + b - 1) / b)).map fun j => filtAt f x (j * b)
theorem decim_lt {L b k : Nat} (hb : 1 ≤ b) : k < (L + b - 1) / b ↔ k * b < L := by
  rw [← Nat.succ_le_iff, Nat.le_div_iff_mul_le (by omega), Nat.succ_mul]
  omega
theorem decim_one (f : List Int × Int) (x : List (Int × Int)) : decim f x 1 = filtL f x := by
  simp [decim, filtL]
theorem decim_length (f : List Int × Int) (x : List (Int × Int)) (b : Nat) : (decim f x b).length ≤ x.length + b := by
  simp only [decim, List.length_map, List.length_range]
  exact Nat.le_trans (Nat.div_le_self _ _) (by omega)
end Go.Proofs.Ytinkhmfciealkaa
