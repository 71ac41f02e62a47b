/- Chapter 2: what its functions compute, in plain Lean. -/
import Derived.Test.YtinkhmfciealkaaLoops
set_option linter.unusedSimpArgs false
namespace Go.Proofs.Ytinkhmfciealkaa
open Go.Ev

theorem scan_find (f : Nat → Bool) : ∀ m k, (scan (fun k => bif f k then some (Sum.inl (k : Int)) else none) (Sum.inr () : Int ⊕ Unit) m k = .inr () ∧ ∀ j, k ≤ j → j < k + m → f j = false) ∨
    ∃ j, k ≤ j ∧ j < k + m ∧ f j = true ∧ scan (fun k => bif f k then some (Sum.inl (k : Int)) else none) (Sum.inr () : Int ⊕ Unit) m k = .inl (j : Int)
  | 0, k => .inl ⟨rfl, fun j h1 h2 => by omega⟩
  | m + 1, k => by
    simp only [scan]
    cases hf : f k with
    | true => exact .inr ⟨k, by omega, by omega, hf, rfl⟩
    | false =>
      rcases scan_find f m (k + 1) with ⟨h1, h2⟩ | ⟨j, h1, h2, h3, h4⟩
      · refine .inl ⟨h1, fun j g1 g2 => ?_⟩
        by_cases e : j = k
        · rw [e]; exact hf
        · exact h2 j (by omega) (by omega)
      · exact .inr ⟨j, by omega, by omega, h3, h4⟩

theorem getD_mem {α : Type} {l : List α} {d : α} {k : Nat} (h : k < l.length) : l.getD k d ∈ l := by
  rw [List.getD_eq_getElem?_getD, List.getElem?_eq_getElem h]
  exact List.getElem_mem h
theorem all_getD {α : Type} {f : α → Bool} {l : List α} {d : α} : l.all f = true ↔ ∀ j, j < l.length → f (l.getD j d) = true := by
  rw [List.all_eq_true]
  constructor
  · intro h j hj; exact h _ (getD_mem hj)
  · intro h x hx
    obtain ⟨i, hi, rfl⟩ := List.mem_iff_getElem.1 hx
    have := h i hi
    rwa [List.getD_eq_getElem?_getD, List.getElem?_eq_getElem hi] at this

/-- The error of samples. -/
def smpE (x : List (Int × Int)) : Int := if 400 < x.length then 8 else if x.all (okG 2000) then 0 else 2
theorem smpE_zero {x : List (Int × Int)} : smpE x = 0 ↔ x.length ≤ 400 ∧ ∀ g ∈ x, okG 2000 g = true := by
  unfold smpE
  by_cases h : 400 < x.length
  · rw [if_pos h]; simp; omega
  · rw [if_neg h]
    cases ha : x.all (okG 2000)
    · have : ¬ ∀ g ∈ x, okG 2000 g = true := fun e => by rw [List.all_eq_true.2 e] at ha; cases ha
      exact ⟨fun e => by simp at e, fun e => absurd e.2 this⟩
    · have := List.all_eq_true.1 ha
      simp; exact ⟨by omega, fun a b hab => this (a, b) hab⟩
theorem okG_iff {m : Int} {g : Int × Int} (hm : 0 ≤ m ∧ m < 4611686018427387904) : okG m g = true ↔ -m ≤ g.1 ∧ g.1 ≤ m ∧ -m ≤ g.2 ∧ g.2 ≤ m := by
  simp only [okG, Bool.and_eq_true, win_iff, wr_id (n := -m) (by omega) (by omega)]
  omega
theorem okG_le {m : Int} {g : Int × Int} (h : okG m g = true) (hm : 0 ≤ m ∧ m < 4611686018427387904) : -m ≤ g.1 ∧ g.1 ≤ m ∧ -m ≤ g.2 ∧ g.2 ≤ m := (okG_iff hm).1 h

/-- Powers of -i and of i. -/
def rotB (t : Int) : Int × Int := [((1 : Int), (0 : Int)), (0, -1), (-1, 0), (0, 1)].getD (t % 4).toNat (0, 0)
def rotF (t : Int) : Int × Int := [((1 : Int), (0 : Int)), (0, 1), (-1, 0), (0, -1)].getD (t % 4).toNat (0, 0)
/-- Arithmetic of points as the machine does it. -/
def gmulW (a b : Int × Int) : Int × Int := (wr (wr (a.1 * b.1) - wr (a.2 * b.2)), wr (wr (a.1 * b.2) + wr (a.2 * b.1)))
def gaddW (a b : Int × Int) : Int × Int := (wr (a.1 + b.1), wr (a.2 + b.2))
def normW (a : Int × Int) : Int := wr (wr (a.1 * a.1) + wr (a.2 * a.2))
def sizeW (n : Int) : Int := mx n (wr (-n))
def shortB (x : List (Int × Int)) : Bool := decide (x.length ≤ 60) || (decide (400 < x.length) && decide (x.length ≤ 404))

theorem rotB_cases (t : Int) : rotB t = (1, 0) ∨ rotB t = (0, -1) ∨ rotB t = (-1, 0) ∨ rotB t = (0, 1) := by
  have h : t % 4 = 0 ∨ t % 4 = 1 ∨ t % 4 = 2 ∨ t % 4 = 3 := by omega
  unfold rotB
  rcases h with h | h | h | h <;> rw [h] <;> simp
theorem rotF_cases (t : Int) : rotF t = (1, 0) ∨ rotF t = (0, -1) ∨ rotF t = (-1, 0) ∨ rotF t = (0, 1) := by
  have h : t % 4 = 0 ∨ t % 4 = 1 ∨ t % 4 = 2 ∨ t % 4 = 3 := by omega
  unfold rotF
  rcases h with h | h | h | h <;> rw [h] <;> simp
theorem turnOf_range (p : Int × Int × Int) (n : Int) : 0 ≤ turnOf p n ∧ turnOf p n < 4 := ⟨Int.emod_nonneg _ (by omega), Int.emod_lt_of_pos _ (by omega)⟩

def cmul (a b : Int × Int) : Int × Int := (a.1 * b.1 - a.2 * b.2, a.1 * b.2 + a.2 * b.1)
theorem small_rot {r g : Int × Int} (hr : r = (1, 0) ∨ r = (0, -1) ∨ r = (-1, 0) ∨ r = (0, 1)) {m : Int} (hb : -m ≤ g.1 ∧ g.1 ≤ m ∧ -m ≤ g.2 ∧ g.2 ≤ m) (hm : m ≤ 8000000 := by omega) : small24 (g.1 * r.1 - g.2 * r.2) = true ∧ small24 (g.1 * r.2 + g.2 * r.1) = true := by
  rcases hr with rfl | rfl | rfl | rfl <;> simp [small24] <;> omega
theorem gmul_rot {r g : Int × Int} (hr : r = (1, 0) ∨ r = (0, -1) ∨ r = (-1, 0) ∨ r = (0, 1)) {m : Int} (hb : -m ≤ g.1 ∧ g.1 ≤ m ∧ -m ≤ g.2 ∧ g.2 ≤ m) (hm : m ≤ 8000000 := by omega) : gmulW g r = cmul g r := by
  obtain ⟨h1, h2, h3, h4⟩ := hb
  unfold gmulW cmul
  rcases hr with rfl | rfl | rfl | rfl <;> simp only [Int.mul_one, Int.mul_zero, Int.mul_neg, Int.sub_zero, Int.zero_sub, Int.add_zero, Int.zero_add, Int.neg_neg, Int.sub_neg] <;>
    simp only [wr_id (n := g.1) (by omega) (by omega), wr_id (n := g.2) (by omega) (by omega), wr_id (n := 0) (by omega) (by omega), wr_id (n := -g.1) (by omega) (by omega), wr_id (n := -g.2) (by omega) (by omega), Int.sub_zero, Int.zero_sub, Int.add_zero, Int.zero_add, Int.neg_neg, Int.sub_neg]

/-- Samples multiplied by a function of their turns. -/
def mixL (r : Int → Int × Int) (p : Int × Int × Int) (x : List (Int × Int)) : List (Int × Int) := (List.range x.length).map fun k : Nat => cmul (x.getD k (0, 0)) (r (turnOf p k))
/-- So many of them are multiplied. -/
def mixTo (r : Int → Int × Int) (p : Int × Int × Int) (x : List (Int × Int)) (n : Nat) : List (Int × Int) := (List.range x.length).map fun k : Nat => if k < n then cmul (x.getD k (0, 0)) (r (turnOf p k)) else x.getD k (0, 0)
theorem range_getD {β : Type} (f : Nat → β) (d : β) {k n : Nat} (h : k < n) : ((List.range n).map f).getD k d = f k := by
  rw [List.getD_eq_getElem?_getD, List.getElem?_map, List.getElem?_range h]; rfl
theorem map_getD_self {α : Type} (x : List α) (d : α) : (List.range x.length).map (fun k => x.getD k d) = x := by
  apply List.ext_getElem
  · simp
  · intro i h1 h2
    rw [List.getElem_map, List.getElem_range, List.getD_eq_getElem?_getD, List.getElem?_eq_getElem h2]
    rfl
section
variable (r : Int → Int × Int) (p : Int × Int × Int) (x : List (Int × Int))
theorem mixTo_length {n : Nat} : (mixTo r p x n).length = x.length := by simp [mixTo]
theorem mixTo_zero : mixTo r p x 0 = x := by
  unfold mixTo
  simp only [Nat.not_lt_zero, if_false, map_getD_self]
theorem mixTo_all : mixTo r p x x.length = mixL r p x := by
  unfold mixTo mixL
  refine List.map_congr_left fun k hk => ?_
  rw [if_pos (by simpa using hk)]
theorem mixTo_get {k : Nat} (h : k < x.length) : (mixTo r p x k).getD k (0, 0) = x.getD k (0, 0) := by
  unfold mixTo
  rw [range_getD _ _ h, if_neg (by omega)]
theorem mixTo_set {k : Nat} (_ : k < x.length) : (mixTo r p x k).set k ((x.getD k (0, 0)).1 * (r (turnOf p k)).1 - (x.getD k (0, 0)).2 * (r (turnOf p k)).2, (x.getD k (0, 0)).1 * (r (turnOf p k)).2 + (x.getD k (0, 0)).2 * (r (turnOf p k)).1) = mixTo r p x (k + 1) := by
  apply List.ext_getElem
  · simp [mixTo]
  · intro i h1 h2
    rw [List.getElem_set]
    simp only [mixTo, List.getElem_map, List.getElem_range]
    by_cases e : k = i
    · subst e; rw [if_pos rfl, if_pos (by omega)]; rfl
    · rw [if_neg e]
      by_cases hi : i < k
      · rw [if_pos hi, if_pos (by omega)]
      · rw [if_neg hi, if_neg (by omega)]
end

/-- The indices of saturated samples. -/
def satTo (x : List (Int × Int)) (n : Nat) : List Int := ((List.range n).filter fun k => !(okG 1999 (x.getD k (0, 0)))).map fun k : Nat => (k : Int)
def satOf (x : List (Int × Int)) : List Int := satTo x x.length
theorem satTo_length (x : List (Int × Int)) (n : Nat) : (satTo x n).length ≤ n := by
  unfold satTo
  rw [List.length_map]
  exact Nat.le_trans (List.length_filter_le _ _) (by simp)
theorem satTo_succ (x : List (Int × Int)) (n : Nat) : satTo x (n + 1) = if okG 1999 (x.getD n (0, 0)) = true then satTo x n else satTo x n ++ [(n : Int)] := by
  unfold satTo
  rw [List.range_succ, List.filter_append, List.map_append]
  cases h : okG 1999 (x.getD n (0, 0))
  · rw [List.filter_cons_of_pos (by simpa using h)]; simp
  · rw [List.filter_cons_of_neg (by simpa using h)]; simp
theorem sat_iff {g : Int × Int} (h : okG 2000 g = true) : (mx (sizeW g.1) (sizeW g.2) == 2000) = !(okG 1999 g) := by
  have h1 := okG_le h (by omega)
  have hs : ∀ n : Int, -2000 ≤ n → n ≤ 2000 → sizeW n = if 0 ≤ n then n else -n := fun n a b => by
    unfold sizeW mx
    rw [wr_id (by omega) (by omega)]
    split <;> split <;> omega
  rw [hs _ h1.1 h1.2.1, hs _ h1.2.2.1 h1.2.2.2]
  cases h2 : okG 1999 g
  · have h3 : ¬ (-1999 ≤ g.1 ∧ g.1 ≤ 1999 ∧ -1999 ≤ g.2 ∧ g.2 ≤ 1999) := fun e => by rw [(okG_iff (by omega)).2 e] at h2; cases h2
    simp only [Bool.not_false, beq_iff_eq]
    unfold mx
    split <;> split <;> split <;> omega
  · have h3 := okG_le h2 (by omega)
    simp only [Bool.not_true, beq_eq_false_iff_ne, ne_eq]
    unfold mx
    split <;> split <;> split <;> omega

def energyW (x : List (Int × Int)) : Int := x.foldl (fun s g => wr (s + normW g)) 0

theorem rot_neg (t : Int) : rotF (-1 * t) = rotB t := by
  have h : t % 4 = 0 ∨ t % 4 = 1 ∨ t % 4 = 2 ∨ t % 4 = 3 := by omega
  unfold rotF rotB
  rcases h with h | h | h | h
  · rw [h, show (-1 * t) % 4 = 0 by omega]; rfl
  · rw [h, show (-1 * t) % 4 = 3 by omega]; rfl
  · rw [h, show (-1 * t) % 4 = 2 by omega]; rfl
  · rw [h, show (-1 * t) % 4 = 1 by omega]; rfl
theorem okG_mono {g : Int × Int} (h : okG 2000 g = true) : okG 8000 g = true := by
  have := okG_le h (by omega)
  exact (okG_iff (by omega)).2 (by omega)

/-- The error of a filter. -/
def filtE (f : List Int × Int) : Int := if f.1.length = 0 then 10 else if 8 < f.1.length then 8 else if (f.1.all (fun c => win c (-100) 100) && win f.2 1 100) = true then 0 else 2
theorem filtE_zero {f : List Int × Int} : filtE f = 0 ↔ f.1.length ≠ 0 ∧ f.1.length ≤ 8 ∧ (∀ c ∈ f.1, -100 ≤ c ∧ c ≤ 100) ∧ (1 ≤ f.2 ∧ f.2 ≤ 100) := by
  unfold filtE
  by_cases h0 : f.1.length = 0
  · rw [if_pos h0]; exact ⟨fun e => by simp at e, fun e => absurd h0 e.1⟩
  · rw [if_neg h0]
    by_cases h8 : 8 < f.1.length
    · rw [if_pos h8]; exact ⟨fun e => by simp at e, fun e => by omega⟩
    · rw [if_neg h8]
      by_cases hc : (f.1.all (fun c => win c (-100) 100) && win f.2 1 100) = true
      · rw [if_pos hc]
        simp only [Bool.and_eq_true, List.all_eq_true, win_iff] at hc
        exact ⟨fun _ => ⟨h0, by omega, hc.1, hc.2⟩, fun _ => rfl⟩
      · rw [if_neg hc]
        refine ⟨fun e => by simp at e, fun e => absurd ?_ hc⟩
        simp only [Bool.and_eq_true, List.all_eq_true, win_iff]
        exact ⟨e.2.2.1, e.2.2.2⟩
theorem taps_ok {f : List Int × Int} (h : filtE f = 0) : (f.1.map fun c => (c, (0 : Int))).all (okG 8000) = true := by
  have h' := filtE_zero.1 h
  rw [List.all_eq_true]
  intro g hg
  obtain ⟨c, hc, rfl⟩ := List.mem_map.1 hg
  have := h'.2.2.1 c hc
  exact (okG_iff (by omega)).2 ⟨by show -8000 ≤ c; omega, by show c ≤ 8000; omega, by show (-8000 : Int) ≤ 0; omega, by show (0 : Int) ≤ 8000; omega⟩

def cadd (a b : Int × Int) : Int × Int := (a.1 + b.1, a.2 + b.2)
/-- The sum of samples, turned by a function of their index times a number. -/
def binTo (r : Int → Int × Int) (q : Int) (x : List (Int × Int)) : Nat → Int × Int
  | 0 => (0, 0)
  | k + 1 => cadd (binTo r q x k) (cmul (x.getD k (0, 0)) (r (q * k)))
def binL (r : Int → Int × Int) (q : Int) (x : List (Int × Int)) : Int × Int := binTo r q x x.length
theorem cmul_bound {r g : Int × Int} (hr : r = (1, 0) ∨ r = (0, -1) ∨ r = (-1, 0) ∨ r = (0, 1)) {m : Int} (hb : -m ≤ g.1 ∧ g.1 ≤ m ∧ -m ≤ g.2 ∧ g.2 ≤ m) : -m ≤ (cmul g r).1 ∧ (cmul g r).1 ≤ m ∧ -m ≤ (cmul g r).2 ∧ (cmul g r).2 ≤ m := by
  unfold cmul
  rcases hr with rfl | rfl | rfl | rfl <;> simp <;> omega
theorem bin_bound (r : Int → Int × Int) (hr : ∀ t, r t = (1, 0) ∨ r t = (0, -1) ∨ r t = (-1, 0) ∨ r t = (0, 1)) (q : Int) (x : List (Int × Int)) {m : Int} (hb : ∀ g ∈ x, -m ≤ g.1 ∧ g.1 ≤ m ∧ -m ≤ g.2 ∧ g.2 ≤ m) :
    ∀ k : Nat, k ≤ x.length → -(m * k) ≤ (binTo r q x k).1 ∧ (binTo r q x k).1 ≤ m * k ∧ -(m * k) ≤ (binTo r q x k).2 ∧ (binTo r q x k).2 ≤ m * k
  | 0, _ => by simp [binTo]
  | k + 1, h => by
    have ih := bin_bound r hr q x hb k (by omega)
    have hc := cmul_bound (hr (q * k)) (hb _ (getD_mem (d := (0, 0)) (show k < x.length by omega)))
    simp only [binTo, cadd]
    have e : m * ((k + 1 : Nat) : Int) = m * k + m := by rw [Int.natCast_add, Int.mul_add]; simp
    rw [e]
    omega

/-- A number's multiples of other numbers are added to a list from a place on: so many of them. -/
def rowTo (l : List Int) (i : Nat) (a : Int) (g : List Int) : Nat → List Int
  | 0 => l
  | k + 1 => (rowTo l i a g k).set (i + k) (wr ((rowTo l i a g k).getD (i + k) 0 + wr (a * g.getD k 0)))
def prodTo (f g : List Int) (l : List Int) : Nat → List Int
  | 0 => l
  | i + 1 => rowTo (prodTo f g l i) i (f.getD i 0) g g.length
/-- The product of two rows of coefficients. -/
def prodW (f g : List Int) : List Int := prodTo f g (List.replicate (f.length + g.length - 1) 0) f.length
theorem rowTo_length (l : List Int) (i : Nat) (a : Int) (g : List Int) : ∀ k, (rowTo l i a g k).length = l.length
  | 0 => rfl
  | k + 1 => by simp [rowTo, rowTo_length l i a g k]
theorem prodTo_length (f g l : List Int) : ∀ k, (prodTo f g l k).length = l.length
  | 0 => rfl
  | k + 1 => by simp [prodTo, rowTo_length, prodTo_length f g l k]
theorem prodW_length (f g : List Int) : (prodW f g).length = f.length + g.length - 1 := by simp [prodW, prodTo_length]
def compF (f g : List Int × Int) : List Int × Int := (prodW f.1 g.1, wr (f.2 * g.2))
def compR (f g : List Int × Int) : (List Int × Int) × Int :=
  bif firstE [filtE f, filtE g] != 0 then (([], 0), firstE [filtE f, filtE g]) else bif filtE (compF f g) != 0 then (([], 0), 8) else (compF f g, 0)

theorem smp_sig {x : List (Int × Int)} (h : smpE x = 0) : x.length ≤ 400 ∧ x.all (okG 8000) = true :=
  ⟨(smpE_zero.1 h).1, List.all_eq_true.2 fun g hg => okG_mono ((smpE_zero.1 h).2 g hg)⟩

abbrev Four := (Int × Int) × (Int × Int) × (Int × Int) × Int × Int
def binsL (x : List (Int × Int)) : Four := (binL rotB 0 x, binL rotB 1 x, binL rotB 2 x, binL rotB 3 x)
def okFour (s : Four) : Bool := okG 8000 s.1 && (okG 8000 s.2.1 && (okG 8000 s.2.2.1 && okG 8000 s.2.2.2))
def quart (b : Int × Int) : Int × Int := (wr (Int.tdiv b.1 4), wr (Int.tdiv b.2 4))
/-- Samples out of four times them. -/
def restOf (b0 b1 b2 b3 : Int × Int) : Four × Int :=
  bif Int.tmod b0.1 4 == 0 && (Int.tmod b0.2 4 == 0 && (Int.tmod b1.1 4 == 0 && (Int.tmod b1.2 4 == 0 && (Int.tmod b2.1 4 == 0 && (Int.tmod b2.2 4 == 0 && (Int.tmod b3.1 4 == 0 && Int.tmod b3.2 4 == 0)))))) then
    (bif okG 2000 (quart b0) && (okG 2000 (quart b1) && (okG 2000 (quart b2) && okG 2000 (quart b3))) then ((quart b0, quart b1, quart b2, quart b3), 0) else (((0, 0), (0, 0), (0, 0), 0, 0), 2))
  else (((0, 0), (0, 0), (0, 0), 0, 0), 3)
def restR (s : Four) : Four × Int :=
  bif okFour s then restOf (binL rotF 0 [s.1, s.2.1, s.2.2.1, s.2.2.2]) (binL rotF 1 [s.1, s.2.1, s.2.2.1, s.2.2.2]) (binL rotF 2 [s.1, s.2.1, s.2.2.1, s.2.2.2]) (binL rotF 3 [s.1, s.2.1, s.2.2.1, s.2.2.2]) else (((0, 0), (0, 0), (0, 0), 0, 0), 2)
theorem gaddW_eq {a b : Int × Int} {m : Int} (hm : m ≤ 1000000000) (ha : -m ≤ a.1 ∧ a.1 ≤ m ∧ -m ≤ a.2 ∧ a.2 ≤ m) (hb : -m ≤ b.1 ∧ b.1 ≤ m ∧ -m ≤ b.2 ∧ b.2 ≤ m) : gaddW a b = cadd a b := by
  unfold gaddW cadd
  rw [wr_id (by omega) (by omega), wr_id (by omega) (by omega)]
theorem four_sum {s : Four} (h : okFour s = true) (q a b c d : Int) (e : (a, b, c, d) = (q * 0, q * 1, q * 2, q * 3)) :
    gaddW (gaddW (gaddW (gaddW (0, 0) (gmulW s.1 (rotF a))) (gmulW s.2.1 (rotF b))) (gmulW s.2.2.1 (rotF c))) (gmulW s.2.2.2 (rotF d)) = binL rotF q [s.1, s.2.1, s.2.2.1, s.2.2.2] := by
  simp only [okFour, Bool.and_eq_true] at h
  obtain ⟨h1, h2, h3, h4⟩ := h
  obtain ⟨e1, e2, e3, e4⟩ : a = q * 0 ∧ b = q * 1 ∧ c = q * 2 ∧ d = q * 3 := by simpa using e
  have g1 := okG_le h1 (by omega)
  have g2 := okG_le h2 (by omega)
  have g3 := okG_le h3 (by omega)
  have g4 := okG_le h4 (by omega)
  have hb := bin_bound rotF rotF_cases q [s.1, s.2.1, s.2.2.1, s.2.2.2] (m := 8000) (fun g hg => by
    simp only [List.mem_cons, List.not_mem_nil, or_false] at hg
    rcases hg with rfl | rfl | rfl | rfl <;> assumption)
  have b1 := hb 1 (by simp)
  have b2 := hb 2 (by simp)
  have b3 := hb 3 (by simp)
  rw [gmul_rot (rotF_cases a) g1, gmul_rot (rotF_cases b) g2, gmul_rot (rotF_cases c) g3, gmul_rot (rotF_cases d) g4]
  have c1 := cmul_bound (rotF_cases a) g1
  have c2 := cmul_bound (rotF_cases b) g2
  have c3 := cmul_bound (rotF_cases c) g3
  have c4 := cmul_bound (rotF_cases d) g4
  have s1 : gaddW (0, 0) (cmul s.1 (rotF a)) = binTo rotF q [s.1, s.2.1, s.2.2.1, s.2.2.2] 1 := by
    rw [gaddW_eq (m := 8000) (by omega) (by simp) c1, e1]; rfl
  have s2 : gaddW (binTo rotF q [s.1, s.2.1, s.2.2.1, s.2.2.2] 1) (cmul s.2.1 (rotF b)) = binTo rotF q [s.1, s.2.1, s.2.2.1, s.2.2.2] 2 := by
    rw [gaddW_eq (m := 8000) (by omega) (by omega) c2, e2]; rfl
  have s3 : gaddW (binTo rotF q [s.1, s.2.1, s.2.2.1, s.2.2.2] 2) (cmul s.2.2.1 (rotF c)) = binTo rotF q [s.1, s.2.1, s.2.2.1, s.2.2.2] 3 := by
    rw [gaddW_eq (m := 16000) (by omega) (by omega) (by omega), e3]; rfl
  have s4 : gaddW (binTo rotF q [s.1, s.2.1, s.2.2.1, s.2.2.2] 3) (cmul s.2.2.2 (rotF d)) = binTo rotF q [s.1, s.2.1, s.2.2.1, s.2.2.2] 4 := by
    rw [gaddW_eq (m := 24000) (by omega) (by omega) (by omega), e4]; rfl
  rw [s1, s2, s3, s4]; rfl
end Go.Proofs.Ytinkhmfciealkaa
