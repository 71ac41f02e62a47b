/- Chapter 2: one filter after the other, in plain Lean. -/
import Derived.Test.YtinkhmfciealkaaPure02d
set_option linter.unusedSimpArgs false
namespace Go.Proofs.Ytinkhmfciealkaa
open Go.Ev

/-- A sum. -/
def sumN (h : Nat → Int) : Nat → Int
  | 0 => 0
  | n + 1 => sumN h n + h n
theorem sumN_congr {h g : Nat → Int} : ∀ {n : Nat}, (∀ k, k < n → h k = g k) → sumN h n = sumN g n
  | 0, _ => rfl
  | n + 1, e => by rw [sumN, sumN, sumN_congr (fun k hk => e k (by omega)), e n (by omega)]
theorem sumN_add (h g : Nat → Int) : ∀ n, sumN (fun k => h k + g k) n = sumN h n + sumN g n
  | 0 => rfl
  | n + 1 => by simp only [sumN]; rw [sumN_add h g n]; omega
theorem sumN_sub (h g : Nat → Int) : ∀ n, sumN (fun k => h k - g k) n = sumN h n - sumN g n
  | 0 => rfl
  | n + 1 => by simp only [sumN]; rw [sumN_sub h g n]; omega
theorem sumN_mul (a : Int) (h : Nat → Int) : ∀ n, sumN (fun k => a * h k) n = a * sumN h n
  | 0 => by simp [sumN]
  | n + 1 => by simp only [sumN]; rw [sumN_mul a h n, Int.mul_add]
theorem sumN_zero : ∀ n, sumN (fun _ => 0) n = 0
  | 0 => rfl
  | n + 1 => by simp only [sumN]; rw [sumN_zero n]; omega
theorem sumN_swap (h : Nat → Nat → Int) : ∀ m n, sumN (fun i => sumN (fun j => h i j) n) m = sumN (fun j => sumN (fun i => h i j) m) n
  | 0, n => by simp only [sumN]; rw [sumN_zero]
  | m + 1, n => by simp only [sumN]; rw [sumN_swap h m n, ← sumN_add]

/-- A linear form of a row of numbers. -/
def lin (φ : Nat → Int) (l : List Int) : Int := sumN (fun k => l.getD k 0 * φ k) l.length
theorem getD_set (l : List Int) (i k : Nat) (v : Int) (hi : i < l.length) : (l.set i v).getD k 0 = if k = i then v else l.getD k 0 := by
  rw [List.getD_eq_getElem?_getD, List.getD_eq_getElem?_getD, List.getElem?_set]
  by_cases h : i = k
  · subst h; simp [hi]
  · rw [if_neg h, if_neg (fun e => h e.symm)]
theorem sumN_set (φ : Nat → Int) (l : List Int) (i : Nat) (v : Int) (hi : i < l.length) : ∀ n, sumN (fun k => (l.set i v).getD k 0 * φ k) n = sumN (fun k => l.getD k 0 * φ k) n + if i < n then (v - l.getD i 0) * φ i else 0
  | 0 => by simp [sumN]
  | n + 1 => by
    simp only [sumN]
    rw [sumN_set φ l i v hi n, getD_set l i n v hi]
    by_cases h : n = i
    · subst h
      rw [if_pos rfl, if_neg (by omega), if_pos (by omega), Int.sub_mul]; omega
    · rw [if_neg h]
      by_cases h2 : i < n
      · rw [if_pos h2, if_pos (by omega)]; omega
      · rw [if_neg h2, if_neg (by omega)]; omega
theorem lin_set (φ : Nat → Int) (l : List Int) (i : Nat) (v : Int) (hi : i < l.length) : lin φ (l.set i v) = lin φ l + (v - l.getD i 0) * φ i := by
  unfold lin
  rw [List.length_set, sumN_set φ l i v hi, if_pos hi]

def small (m : Int) (l : List Int) : Prop := ∀ k, -m ≤ l.getD k 0 ∧ l.getD k 0 ≤ m
theorem prod_bound {a b : Int} (h1 : -100 ≤ a) (h2 : a ≤ 100) (h3 : -100 ≤ b) (h4 : b ≤ 100) : -10000 ≤ a * b ∧ a * b ≤ 10000 := by
  have e : (a * b).natAbs ≤ 100 * 100 := by rw [Int.natAbs_mul]; exact Nat.mul_le_mul (by omega) (by omega)
  omega
/-- A row of products is added: what a linear form becomes, and how great the numbers are. -/
theorem row_lin (φ : Nat → Int) (l : List Int) (i : Nat) (a : Int) (g : List Int) {m : Int} (hm : 0 ≤ m ∧ m ≤ 1000000000) (hl : small m l) (ha : -100 ≤ a ∧ a ≤ 100) (hg : small 100 g) : ∀ n : Nat, i + n ≤ l.length → n ≤ 1000 →
    lin φ (rowTo l i a g n) = lin φ l + a * sumN (fun k => g.getD k 0 * φ (i + k)) n ∧ small (m + 10000 * n) (rowTo l i a g n)
  | 0, _, _ => ⟨by simp [rowTo, sumN], by intro k; have := hl k; simp only [rowTo]; omega⟩
  | n + 1, h, hn => by
    obtain ⟨h1, h2⟩ := row_lin φ l i a g hm hl ha hg n (by omega) (by omega)
    have hp := prod_bound ha.1 ha.2 (hg n).1 (hg n).2
    have hc := h2 (i + n)
    have hlen : i + n < (rowTo l i a g n).length := by rw [rowTo_length]; omega
    have hw : wr ((rowTo l i a g n).getD (i + n) 0 + wr (a * g.getD n 0)) = (rowTo l i a g n).getD (i + n) 0 + a * g.getD n 0 := by
      rw [wr_id (n := a * g.getD n 0) (by omega) (by omega), wr_id (by omega) (by omega)]
    simp only [rowTo, hw]
    constructor
    · rw [lin_set _ _ _ _ hlen, h1]
      simp only [sumN]
      rw [show (rowTo l i a g n).getD (i + n) 0 + a * g.getD n 0 - (rowTo l i a g n).getD (i + n) 0 = a * g.getD n 0 by omega, Int.mul_add, Int.mul_assoc]
      omega
    · intro k
      rw [getD_set _ _ _ _ hlen]
      split
      · omega
      · have := h2 k; omega
theorem prod_lin (φ : Nat → Int) (f g : List Int) (hf : small 100 f) (hg : small 100 g) (hgl : g.length ≤ 8) (l : List Int) (hl : small 0 l) : ∀ n : Nat, n ≤ 8 → n + g.length ≤ l.length + 1 →
    lin φ (prodTo f g l n) = lin φ l + sumN (fun i => f.getD i 0 * sumN (fun k => g.getD k 0 * φ (i + k)) g.length) n ∧ small (80000 * n) (prodTo f g l n)
  | 0, _, _ => ⟨by simp [prodTo, sumN], by intro k; have := hl k; simp only [prodTo]; omega⟩
  | n + 1, h, hn => by
    obtain ⟨h1, h2⟩ := prod_lin φ f g hf hg hgl l hl n (by omega) (by omega)
    have hr := row_lin φ (prodTo f g l n) n (f.getD n 0) g (m := 80000 * n) (by omega) h2 (hf n) hg g.length (by rw [prodTo_length]; omega) (by omega)
    simp only [prodTo]
    refine ⟨by rw [hr.1, h1]; simp only [sumN]; omega, fun k => ?_⟩
    have := hr.2 k
    omega
theorem small_of {l : List Int} {m : Int} (hm : 0 ≤ m) (h : ∀ c ∈ l, -m ≤ c ∧ c ≤ m) : small m l := fun k => by
  by_cases hk : k < l.length
  · exact h _ (getD_mem hk)
  · rw [List.getD_eq_getElem?_getD, List.getElem?_eq_none (by omega)]; simp; omega
theorem lin_replicate (φ : Nat → Int) (n : Nat) : lin φ (List.replicate n 0) = 0 := by
  unfold lin
  rw [sumN_congr (g := fun _ => 0) (fun k hk => by
    rw [List.getD_eq_getElem?_getD, List.getElem?_replicate]
    split <;> simp)]
  exact sumN_zero _
theorem small_replicate (n : Nat) : small 0 (List.replicate n 0) := fun k => by
  rw [List.getD_eq_getElem?_getD, List.getElem?_replicate]
  split <;> simp
/-- WHAT A LINEAR FORM SAYS OF A PRODUCT. -/
theorem lin_prod (φ : Nat → Int) {f g : List Int} (hf : ∀ c ∈ f, -100 ≤ c ∧ c ≤ 100) (hg : ∀ c ∈ g, -100 ≤ c ∧ c ≤ 100) (h1 : 1 ≤ f.length ∧ f.length ≤ 8) (h2 : 1 ≤ g.length ∧ g.length ≤ 8) :
    lin φ (prodW f g) = sumN (fun i => f.getD i 0 * sumN (fun k => g.getD k 0 * φ (i + k)) g.length) f.length := by
  unfold prodW
  rw [(prod_lin φ f g (small_of (by omega) hf) (small_of (by omega) hg) h2.2 _ (small_replicate _) f.length h1.2 (by rw [List.length_replicate]; omega)).1, lin_replicate, Int.zero_add]
theorem lin_delta (l : List Int) (m : Nat) : lin (fun k => if k = m then 1 else 0) l = l.getD m 0 := by
  unfold lin
  have key : ∀ n, sumN (fun k => l.getD k 0 * if k = m then 1 else 0) n = if m < n then l.getD m 0 else 0 := by
    intro n
    induction n with
    | zero => simp [sumN]
    | succ n ih =>
      simp only [sumN, ih]
      by_cases h : n = m
      · subst h; simp
      · rw [if_neg h]
        by_cases h2 : m < n
        · rw [if_pos h2, if_pos (by omega)]; simp
        · rw [if_neg h2, if_neg (by omega)]; simp
  rw [key]
  split
  · rfl
  · rw [List.getD_eq_getElem?_getD, List.getElem?_eq_none (by omega)]; rfl
theorem prod_comm {f g : List Int} (hf : ∀ c ∈ f, -100 ≤ c ∧ c ≤ 100) (hg : ∀ c ∈ g, -100 ≤ c ∧ c ≤ 100) (h1 : 1 ≤ f.length ∧ f.length ≤ 8) (h2 : 1 ≤ g.length ∧ g.length ≤ 8) : prodW f g = prodW g f := by
  have key : ∀ m : Nat, (prodW f g).getD m 0 = (prodW g f).getD m 0 := fun m => by
    rw [← lin_delta, ← lin_delta, lin_prod _ hf hg h1 h2, lin_prod _ hg hf h2 h1]
    rw [sumN_congr (g := fun i => sumN (fun k => f.getD i 0 * (g.getD k 0 * if i + k = m then 1 else 0)) g.length) (fun i _ => (sumN_mul _ _ _).symm), sumN_swap]
    refine sumN_congr fun k _ => ?_
    rw [← sumN_mul]
    refine sumN_congr fun i _ => ?_
    rw [Int.mul_left_comm, Nat.add_comm]
  apply List.ext_getElem
  · rw [prodW_length, prodW_length]; omega
  · intro i g1 g2
    have := key i
    rwa [List.getD_eq_getElem?_getD, List.getD_eq_getElem?_getD, List.getElem?_eq_getElem g1, List.getElem?_eq_getElem g2] at this

/-! Outputs and bins as linear forms -/

theorem outTo_lin (f : List Int) (x : List (Int × Int)) (n : Nat) : ∀ k, outTo f x n k = (sumN (fun j => f.getD j 0 * if j ≤ n then (x.getD (n - j) (0, 0)).1 else 0) k, sumN (fun j => f.getD j 0 * if j ≤ n then (x.getD (n - j) (0, 0)).2 else 0) k)
  | 0 => rfl
  | k + 1 => by
    simp only [outTo, sumN]
    rw [outTo_lin f x n k]
    split <;> simp
theorem out_lin (f : List Int) (x : List (Int × Int)) (n : Nat) : outTo f x n f.length = (lin (fun j => if j ≤ n then (x.getD (n - j) (0, 0)).1 else 0) f, lin (fun j => if j ≤ n then (x.getD (n - j) (0, 0)).2 else 0) f) := outTo_lin f x n f.length

theorem binTo_lin (r : Int → Int × Int) (q : Int) (f : List Int) : ∀ k, k ≤ f.length → binTo r q (f.map fun c => (c, 0)) k = (sumN (fun j => f.getD j 0 * (r (q * j)).1) k, sumN (fun j => f.getD j 0 * (r (q * j)).2) k)
  | 0, _ => rfl
  | k + 1, h => by
    simp only [binTo, sumN]
    rw [binTo_lin r q f k (by omega), map_getD (fun c : Int => (c, (0 : Int))) f 0 (by omega)]
    simp [cadd, cmul]
theorem bin_lin (r : Int → Int × Int) (q : Int) (f : List Int) : binL r q (f.map fun c => (c, 0)) = (lin (fun j => (r (q * j)).1) f, lin (fun j => (r (q * j)).2) f) := by
  unfold binL
  rw [List.length_map, binTo_lin r q f _ (Nat.le_refl _)]
  rfl
theorem rotB_add (s t : Int) : rotB (s + t) = cmul (rotB s) (rotB t) := by
  have h : s % 4 = 0 ∨ s % 4 = 1 ∨ s % 4 = 2 ∨ s % 4 = 3 := by omega
  have g : t % 4 = 0 ∨ t % 4 = 1 ∨ t % 4 = 2 ∨ t % 4 = 3 := by omega
  unfold rotB
  rcases h with h | h | h | h <;> rcases g with g | g | g | g
  · rw [h, g, show (s + t) % 4 = 0 by omega]; rfl
  · rw [h, g, show (s + t) % 4 = 1 by omega]; rfl
  · rw [h, g, show (s + t) % 4 = 2 by omega]; rfl
  · rw [h, g, show (s + t) % 4 = 3 by omega]; rfl
  · rw [h, g, show (s + t) % 4 = 1 by omega]; rfl
  · rw [h, g, show (s + t) % 4 = 2 by omega]; rfl
  · rw [h, g, show (s + t) % 4 = 3 by omega]; rfl
  · rw [h, g, show (s + t) % 4 = 0 by omega]; rfl
  · rw [h, g, show (s + t) % 4 = 2 by omega]; rfl
  · rw [h, g, show (s + t) % 4 = 3 by omega]; rfl
  · rw [h, g, show (s + t) % 4 = 0 by omega]; rfl
  · rw [h, g, show (s + t) % 4 = 1 by omega]; rfl
  · rw [h, g, show (s + t) % 4 = 3 by omega]; rfl
  · rw [h, g, show (s + t) % 4 = 0 by omega]; rfl
  · rw [h, g, show (s + t) % 4 = 1 by omega]; rfl
  · rw [h, g, show (s + t) % 4 = 2 by omega]; rfl

section
variable {f g : List Int} (hf : ∀ c ∈ f, -100 ≤ c ∧ c ≤ 100) (hg : ∀ c ∈ g, -100 ≤ c ∧ c ≤ 100) (h1 : 1 ≤ f.length ∧ f.length ≤ 8) (h2 : 1 ≤ g.length ∧ g.length ≤ 8)
include hf hg h1 h2
/-- The responses are multiplied. -/
theorem bin_prod (q : Int) : binL rotB q ((prodW f g).map fun c => (c, 0)) = cmul (binL rotB q (f.map fun c => (c, 0))) (binL rotB q (g.map fun c => (c, 0))) := by
  rw [bin_lin, bin_lin, bin_lin, lin_prod _ hf hg h1 h2, lin_prod _ hf hg h1 h2]
  have e : ∀ i k : Nat, rotB (q * ((i + k : Nat) : Int)) = cmul (rotB (q * i)) (rotB (q * k)) := fun i k => by
    rw [Int.natCast_add, Int.mul_add, rotB_add]
  simp only [e, cmul]
  have inner1 : ∀ i : Nat, sumN (fun k => g.getD k 0 * ((rotB (q * i)).1 * (rotB (q * k)).1 - (rotB (q * i)).2 * (rotB (q * k)).2)) g.length = (rotB (q * i)).1 * lin (fun j => (rotB (q * j)).1) g - (rotB (q * i)).2 * lin (fun j => (rotB (q * j)).2) g := fun i => by
    unfold lin
    rw [← sumN_mul, ← sumN_mul, ← sumN_sub]
    refine sumN_congr fun k _ => ?_
    rw [Int.mul_sub, Int.mul_left_comm, Int.mul_left_comm (g.getD k 0)]
  have inner2 : ∀ i : Nat, sumN (fun k => g.getD k 0 * ((rotB (q * i)).1 * (rotB (q * k)).2 + (rotB (q * i)).2 * (rotB (q * k)).1)) g.length = (rotB (q * i)).1 * lin (fun j => (rotB (q * j)).2) g + (rotB (q * i)).2 * lin (fun j => (rotB (q * j)).1) g := fun i => by
    unfold lin
    rw [← sumN_mul, ← sumN_mul, ← sumN_add]
    refine sumN_congr fun k _ => ?_
    rw [Int.mul_add, Int.mul_left_comm, Int.mul_left_comm (g.getD k 0)]
  simp only [inner1, inner2]
  generalize lin (fun j => (rotB (q * j)).1) g = G1
  generalize lin (fun j => (rotB (q * j)).2) g = G2
  unfold lin
  rw [Int.mul_comm (sumN _ _) G1, Int.mul_comm (sumN _ _) G2, Int.mul_comm (sumN _ _) G2, Int.mul_comm (sumN _ _) G1, ← sumN_mul, ← sumN_mul, ← sumN_mul, ← sumN_mul, ← sumN_sub, ← sumN_add]
  rw [Prod.mk.injEq]
  constructor
  · refine sumN_congr fun i _ => ?_
    rw [Int.mul_sub, ← Int.mul_assoc, ← Int.mul_assoc, Int.mul_comm G1, Int.mul_comm G2]
  · refine sumN_congr fun i _ => ?_
    rw [Int.mul_add, ← Int.mul_assoc, ← Int.mul_assoc, Int.mul_comm G1, Int.mul_comm G2]
/-- Filtering twice is filtering with the product. -/
theorem out_prod (x y : List (Int × Int)) (n : Nat) (hy : ∀ j, j ≤ n → y.getD j (0, 0) = outTo f x j f.length) : outTo (prodW f g) x n (prodW f g).length = outTo g y n g.length := by
  rw [prod_comm hf hg h1 h2, out_lin, out_lin, lin_prod _ hg hf h2 h1, lin_prod _ hg hf h2 h1]
  unfold lin
  rw [Prod.mk.injEq]
  constructor
  · refine sumN_congr fun i _ => ?_
    congr 1
    show _ = if i ≤ n then _ else _
    by_cases hi : i ≤ n
    · rw [if_pos hi, hy _ (by omega), out_lin]
      refine sumN_congr fun k _ => ?_
      congr 1
      show _ = if k ≤ n - i then _ else _
      by_cases hk : k ≤ n - i
      · rw [if_pos hk, if_pos (by omega), Nat.sub_sub]
      · rw [if_neg hk, if_neg (by omega)]
    · rw [if_neg hi, sumN_congr (g := fun _ => 0) (fun k _ => by rw [if_neg (by omega), Int.mul_zero]), sumN_zero]
  · refine sumN_congr fun i _ => ?_
    congr 1
    show _ = if i ≤ n then _ else _
    by_cases hi : i ≤ n
    · rw [if_pos hi, hy _ (by omega), out_lin]
      refine sumN_congr fun k _ => ?_
      congr 1
      show _ = if k ≤ n - i then _ else _
      by_cases hk : k ≤ n - i
      · rw [if_pos hk, if_pos (by omega), Nat.sub_sub]
      · rw [if_neg hk, if_neg (by omega)]
    · rw [if_neg hi, sumN_congr (g := fun _ => 0) (fun k _ => by rw [if_neg (by omega), Int.mul_zero]), sumN_zero]
end
/-- A later start gives a later output. -/
theorem out_late (f : List Int) (x : List (Int × Int)) (n : Nat) : outTo f ((0, 0) :: x) (n + 1) f.length = outTo f x n f.length := by
  rw [out_lin, out_lin]
  unfold lin
  rw [Prod.mk.injEq]
  constructor
  · refine sumN_congr fun k _ => ?_
    congr 1
    show (if k ≤ n + 1 then _ else _) = if k ≤ n then _ else _
    by_cases hk : k ≤ n
    · rw [if_pos hk, if_pos (by omega), show n + 1 - k = (n - k) + 1 by omega]; rfl
    · rw [if_neg hk]
      by_cases e : k = n + 1
      · subst e; rw [if_pos (Nat.le_refl _), Nat.sub_self]; rfl
      · rw [if_neg (by omega)]
  · refine sumN_congr fun k _ => ?_
    congr 1
    show (if k ≤ n + 1 then _ else _) = if k ≤ n then _ else _
    by_cases hk : k ≤ n
    · rw [if_pos hk, if_pos (by omega), show n + 1 - k = (n - k) + 1 by omega]; rfl
    · rw [if_neg hk]
      by_cases e : k = n + 1
      · subst e; rw [if_pos (Nat.le_refl _), Nat.sub_self]; rfl
      · rw [if_neg (by omega)]
theorem out_first (f : List Int) (x : List (Int × Int)) : outTo f ((0, 0) :: x) 0 f.length = (0, 0) := by
  rw [out_lin]
  unfold lin
  have : ∀ k : Nat, (if k ≤ 0 then (((0, 0) :: x : List (Int × Int)).getD (0 - k) (0, 0)).1 else 0) = 0 ∧ (if k ≤ 0 then (((0, 0) :: x : List (Int × Int)).getD (0 - k) (0, 0)).2 else 0) = 0 := fun k => by
    rw [Nat.zero_sub]
    split <;> simp
  rw [Prod.mk.injEq]
  exact ⟨(sumN_congr (g := fun _ => 0) (fun k _ => by show _ * (if k ≤ 0 then _ else _) = 0; rw [(this k).1, Int.mul_zero])).trans (sumN_zero _),
    (sumN_congr (g := fun _ => 0) (fun k _ => by show _ * (if k ≤ 0 then _ else _) = 0; rw [(this k).2, Int.mul_zero])).trans (sumN_zero _)⟩
theorem filt_one (f : List Int) (x : List (Int × Int)) (n : Nat) : filtAt (f, 1) x n = outTo f x n f.length := by
  unfold filtAt
  simp
theorem filt_late (f : List Int) (x : List (Int × Int)) : filtL (f, 1) ((0, 0) :: x) = (0, 0) :: filtL (f, 1) x := by
  unfold filtL
  rw [List.length_cons, List.range_succ_eq_map, List.map_cons, filt_one, out_first, List.map_map]
  congr 1
  refine List.map_congr_left fun k _ => ?_
  show filtAt (f, 1) ((0, 0) :: x) (k + 1) = filtAt (f, 1) x k
  rw [filt_one, filt_one, out_late]
end Go.Proofs.Ytinkhmfciealkaa
