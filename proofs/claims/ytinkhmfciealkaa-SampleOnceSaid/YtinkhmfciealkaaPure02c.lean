/- Chapter 2: nothing is hidden; turned back; in plain Lean. -/
import Derived.Test.YtinkhmfciealkaaPure02b
set_option linter.unusedSimpArgs false
namespace Go.Proofs.Ytinkhmfciealkaa
open Go.Ev

/-- The bound of a bin's norm. -/
def minV (a c : Int) : Int := wr (Int.tdiv (wr (wr (wr (wr (c * c) * a) * a) + 1)) 2)
def minR (a c : Int) : Int × Int := bif !(win a 0 2000) then (0, 2) else bif !(win c 0 400) then (0, 2) else (minV a c, 0)

theorem sq_le_of_le {a b : Int} (ha : 0 ≤ a) (h : a ≤ b) : a * a ≤ b * b := Int.mul_le_mul h h ha (by omega)
theorem le_of_sq {a b : Int} (hb : 0 ≤ b) (h : a * a ≤ b * b) : a ≤ b := by
  by_cases hab : a ≤ b
  · exact hab
  · have h1 : b + 1 ≤ a := by omega
    have h2 : (b + 1) * (b + 1) ≤ a * a := sq_le_of_le (by omega) h1
    have h3 : (b + 1) * (b + 1) = b * b + 2 * b + 1 := by rw [Int.add_mul, Int.mul_add]; omega
    omega
theorem min_parts {a c : Int} (ha : 0 ≤ a ∧ a ≤ 2000) (hc : 0 ≤ c ∧ c ≤ 400) : 0 ≤ c * c ∧ c * c ≤ 160000 ∧ 0 ≤ c * c * a ∧ c * c * a ≤ 320000000 ∧ 0 ≤ c * c * a * a ∧ c * c * a * a ≤ 640000000000 := by
  have h1 : c * c ≤ 400 * 400 := Int.mul_le_mul hc.2 hc.2 hc.1 (by omega)
  have h2 : 0 ≤ c * c := Int.mul_nonneg hc.1 hc.1
  have h3 : c * c * a ≤ 160000 * 2000 := Int.mul_le_mul (by omega) ha.2 ha.1 (by omega)
  have h4 : 0 ≤ c * c * a := Int.mul_nonneg h2 ha.1
  have h5 : c * c * a * a ≤ 320000000 * 2000 := Int.mul_le_mul (by omega) ha.2 ha.1 (by omega)
  have h6 : 0 ≤ c * c * a * a := Int.mul_nonneg h4 ha.1
  omega
theorem minV_eq {a c : Int} (ha : 0 ≤ a ∧ a ≤ 2000) (hc : 0 ≤ c ∧ c ≤ 400) : minV a c = (c * c * a * a + 1) / 2 := by
  have h := min_parts ha hc
  unfold minV
  rw [wr_id (n := c * c) (by omega) (by omega), wr_id (n := c * c * a) (by omega) (by omega), wr_id (n := c * c * a * a) (by omega) (by omega), wr_id (n := c * c * a * a + 1) (by omega) (by omega), Int.tdiv_eq_ediv_of_nonneg (by omega), wr_id (by omega) (by omega)]
theorem minRef_eq {a c : Int} (ha : 0 ≤ a ∧ a ≤ 2000) (hc : 0 ≤ c ∧ c ≤ 400) : wr (-(wr (wr (-(wr (wr (wr (c * c) * a) * a))) / 2))) = minV a c := by
  have h := min_parts ha hc
  rw [minV_eq ha hc, wr_id (n := c * c) (by omega) (by omega), wr_id (n := c * c * a) (by omega) (by omega), wr_id (n := c * c * a * a) (by omega) (by omega), wr_id (n := -(c * c * a * a)) (by omega) (by omega), wr_id (n := -(c * c * a * a) / 2) (by omega) (by omega), wr_id (by omega) (by omega)]
  omega

/-- The real parts and what they add up to. -/
def sumTo (x : List (Int × Int)) : Nat → Int × Int
  | 0 => (0, 0)
  | k + 1 => cadd (sumTo x k) (x.getD k (0, 0))
theorem rotB_zero : rotB 0 = (1, 0) := rfl
theorem binTo_zero (x : List (Int × Int)) : ∀ k, binTo rotB 0 x k = sumTo x k
  | 0 => rfl
  | k + 1 => by
    rw [binTo, sumTo, binTo_zero x k, Int.zero_mul, rotB_zero]
    simp [cmul]
theorem hidden {x : List (Int × Int)} {a : Int} (ha : 0 ≤ a) (h : ∀ g ∈ x, 0 ≤ g.1 ∧ a * a ≤ 2 * (g.1 * g.1)) : ∀ k : Nat, k ≤ x.length → 0 ≤ (sumTo x k).1 ∧ (k : Int) * k * (a * a) ≤ 2 * ((sumTo x k).1 * (sumTo x k).1)
  | 0, _ => by simp [sumTo]
  | k + 1, hk => by
    obtain ⟨h1, h2⟩ := hidden ha h k (by omega)
    obtain ⟨g1, g2⟩ := h _ (getD_mem (d := (0, 0)) (show k < x.length by omega))
    simp only [sumTo, cadd]
    generalize (sumTo x k).1 = R at h1 h2 ⊢
    generalize (x.getD k (0, 0)).1 = r at g1 g2 ⊢
    refine ⟨by omega, ?_⟩
    have haa : 0 ≤ a * a := Int.mul_nonneg ha ha
    have hRr : 0 ≤ R * r := Int.mul_nonneg h1 g1
    have hkk : (0 : Int) ≤ k := by omega
    -- 2 R r is at least k a a
    have key : (k : Int) * (a * a) ≤ 2 * (R * r) := by
      refine le_of_sq (by omega) ?_
      have e1 : (k : Int) * (a * a) * ((k : Int) * (a * a)) = ((k : Int) * k * (a * a)) * (a * a) := by
        simp only [Int.mul_assoc, Int.mul_left_comm]
      have e2 : 2 * (R * r) * (2 * (R * r)) = (2 * (R * R)) * (2 * (r * r)) := by
        simp only [Int.mul_assoc, Int.mul_left_comm]
      rw [e1, e2]
      exact Int.mul_le_mul h2 g2 haa (Int.le_trans (Int.mul_nonneg (Int.mul_nonneg hkk hkk) haa) h2)
    have e3 : ((k + 1 : Nat) : Int) * ((k + 1 : Nat) : Int) * (a * a) = (k : Int) * k * (a * a) + 2 * ((k : Int) * (a * a)) + a * a := by
      rw [Int.natCast_add]
      simp only [Int.add_mul, Int.mul_add, Int.natCast_one, Int.one_mul, Int.mul_one]
      omega
    have e4 : 2 * ((R + r) * (R + r)) = 2 * (R * R) + 2 * (2 * (R * r)) + 2 * (r * r) := by
      simp only [Int.add_mul, Int.mul_add, Int.mul_comm r R]
      omega
    rw [e3, e4]
    omega

/-! Rotations -/

theorem cmul_back (g : Int × Int) (t : Int) : cmul (cmul g (rotB t)) (rotF t) = g ∧ cmul (cmul g (rotF t)) (rotB t) = g := by
  have h : t % 4 = 0 ∨ t % 4 = 1 ∨ t % 4 = 2 ∨ t % 4 = 3 := by omega
  obtain ⟨a, b⟩ := g
  unfold rotF rotB cmul
  rcases h with h | h | h | h <;> rw [h] <;> simp
theorem mixL_getD {r : Int → Int × Int} {p : Int × Int × Int} {x : List (Int × Int)} {k : Nat} (h : k < x.length) : (mixL r p x).getD k (0, 0) = cmul (x.getD k (0, 0)) (r (turnOf p k)) := range_getD _ _ h
theorem mixL_length (r : Int → Int × Int) (p : Int × Int × Int) (x : List (Int × Int)) : (mixL r p x).length = x.length := by simp [mixL]
theorem mixL_back {r r' : Int → Int × Int} (h : ∀ g t, cmul (cmul g (r t)) (r' t) = g) (p : Int × Int × Int) (x : List (Int × Int)) : mixL r' p (mixL r p x) = x := by
  have : ∀ k ∈ List.range (mixL r p x).length, cmul ((mixL r p x).getD k (0, 0)) (r' (turnOf p k)) = x.getD k (0, 0) := fun k hk => by
    rw [List.mem_range, mixL_length] at hk
    rw [mixL_getD hk, h]
  rw [mixL, List.map_congr_left this, mixL_length, map_getD_self]
theorem mixL_okG {r : Int → Int × Int} (hr : ∀ t, r t = (1, 0) ∨ r t = (0, -1) ∨ r t = (-1, 0) ∨ r t = (0, 1)) {p : Int × Int × Int} {x : List (Int × Int)} (h : smpE x = 0) : smpE (mixL r p x) = 0 := by
  have h' := smpE_zero.1 h
  refine smpE_zero.2 ⟨by rw [mixL_length]; exact h'.1, fun g hg => ?_⟩
  obtain ⟨k, hk, rfl⟩ := List.mem_map.1 hg
  rw [List.mem_range] at hk
  exact (okG_iff (by omega)).2 (cmul_bound (hr _) (okG_le (h'.2 _ (getD_mem hk)) (by omega)))
theorem normW_eq {g : Int × Int} {m : Int} (hm : 0 ≤ m ∧ m ≤ 1000000) (h : -m ≤ g.1 ∧ g.1 ≤ m ∧ -m ≤ g.2 ∧ g.2 ≤ m) : normW g = g.1 * g.1 + g.2 * g.2 ∧ 0 ≤ g.1 * g.1 ∧ 0 ≤ g.2 * g.2 ∧ g.1 * g.1 ≤ m * m ∧ g.2 * g.2 ≤ m * m ∧ m * m ≤ 1000000000000 := by
  have sq : ∀ a : Int, -m ≤ a → a ≤ m → 0 ≤ a * a ∧ a * a ≤ m * m := fun a h1 h2 => by
    have e : a * a = (a.natAbs * a.natAbs : Nat) := by rw [Int.natAbs_mul_self]
    have e2 : m * m = (m.natAbs * m.natAbs : Nat) := by rw [Int.natAbs_mul_self]
    have : a.natAbs * a.natAbs ≤ m.natAbs * m.natAbs := Nat.mul_le_mul (by omega) (by omega)
    omega
  have h1 := sq g.1 h.1 h.2.1
  have h2 := sq g.2 h.2.2.1 h.2.2.2
  have h3 : m * m ≤ 1000000 * 1000000 := Int.mul_le_mul hm.2 hm.2 hm.1 (by omega)
  refine ⟨?_, h1.1, h2.1, h1.2, h2.2, by omega⟩
  unfold normW
  rw [wr_id (n := g.1 * g.1) (by omega) (by omega), wr_id (n := g.2 * g.2) (by omega) (by omega), wr_id (by omega) (by omega)]
theorem norm_rot {r g : Int × Int} (hr : r = (1, 0) ∨ r = (0, -1) ∨ r = (-1, 0) ∨ r = (0, 1)) (h : -2000 ≤ g.1 ∧ g.1 ≤ 2000 ∧ -2000 ≤ g.2 ∧ g.2 ≤ 2000) : normW (cmul g r) = normW g := by
  have h1 := (normW_eq (m := 2000) (by omega) h).1
  have h2 := (normW_eq (m := 2000) (by omega) (cmul_bound hr h)).1
  rw [h1, h2]
  unfold cmul
  rcases hr with rfl | rfl | rfl | rfl <;> simp [Int.neg_mul_neg] <;> omega
theorem energy_mix {r : Int → Int × Int} (hr : ∀ t, r t = (1, 0) ∨ r t = (0, -1) ∨ r t = (-1, 0) ∨ r t = (0, 1)) {p : Int × Int × Int} {x : List (Int × Int)} (h : smpE x = 0) : energyW (mixL r p x) = energyW x := by
  have h' := smpE_zero.1 h
  have key : ∀ k, k ≤ x.length → ((mixL r p x).take k).foldl (fun s g => wr (s + normW g)) 0 = (x.take k).foldl (fun s g => wr (s + normW g)) 0 := by
    intro k
    induction k with
    | zero => intro _; simp
    | succ k ih =>
      intro hk
      rw [← foldl_take_succ _ 0 (mixL r p x) (0, 0) (by rw [mixL_length]; omega), ← foldl_take_succ _ 0 x (0, 0) (by omega), ih (by omega), mixL_getD (by omega), norm_rot (hr _) (okG_le (h'.2 _ (getD_mem (by omega))) (by omega))]
  have h1 := key x.length (Nat.le_refl _)
  rw [List.take_length] at h1
  rw [List.take_of_length_le (by rw [mixL_length]; omega)] at h1
  exact h1

/-! A program that begins later -/

def phaseX (p : Int × Int × Int) (n : Int) : Int := p.1 + n * p.2.1 + n * (n - 1) / 2 * p.2.2
theorem progE_zero {p : Int × Int × Int} : progE p = 0 ↔ (0 ≤ p.1 ∧ p.1 ≤ 4095) ∧ (-4096 ≤ p.2.1 ∧ p.2.1 ≤ 4096) ∧ (-4096 ≤ p.2.2 ∧ p.2.2 ≤ 4096) := by
  unfold progE
  constructor
  · intro h
    have := unl_zero (by decide) h
    simpa only [Bool.and_eq_true, win_iff] using this
  · intro h
    have : (win p.1 0 4095 && (win p.2.1 (-4096) 4096 && win p.2.2 (-4096) 4096)) = true := by simpa only [Bool.and_eq_true, win_iff] using h
    rw [this]; rfl
theorem abs_mul {a b m n : Int} (h1 : -m ≤ a) (h2 : a ≤ m) (h3 : -n ≤ b) (h4 : b ≤ n) : -(m * n) ≤ a * b ∧ a * b ≤ m * n := by
  have e : (a * b).natAbs ≤ m.natAbs * n.natAbs := by rw [Int.natAbs_mul]; exact Nat.mul_le_mul (by omega) (by omega)
  have e2 : ((m.natAbs * n.natAbs : Nat) : Int) = m * n := by
    rw [Int.natCast_mul]
    have : ((m.natAbs : Nat) : Int) = m := by omega
    have : ((n.natAbs : Nat) : Int) = n := by omega
    simp [*]
  omega
theorem phaseOf_eq {p : Int × Int × Int} (hp : progE p = 0) {n : Int} (h0 : 0 ≤ n) (h1 : n ≤ 1000000) : phaseOf p n = phaseX p n % 4096 := by
  obtain ⟨hp1, hp2, hp3⟩ := progE_zero.1 hp
  have b1 := abs_mul (m := 1000000) (n := 4096) (show -1000000 ≤ n by omega) h1 hp2.1 hp2.2
  have b2 := abs_mul (m := 1000000) (n := 1000000) (show -1000000 ≤ n by omega) h1 (show -1000000 ≤ n - 1 by omega) (by omega)
  have b3 : 0 ≤ n * (n - 1) := by
    by_cases hn : n = 0
    · subst hn; simp
    · exact Int.mul_nonneg h0 (by omega)
  have b4 := abs_mul (a := n * (n - 1) / 2) (m := 500000000000) (n := 4096) (by omega) (by omega) hp3.1 hp3.2
  unfold phaseOf phaseX
  rw [wr_id (n := n * p.2.1) (by omega) (by omega), wr_id (n := n - 1) (by omega) (by omega), wr_id (n := n * (n - 1)) (by omega) (by omega), Int.tdiv_eq_ediv_of_nonneg b3, wr_id (n := n * (n - 1) / 2) (by omega) (by omega),
    wr_id (n := n * (n - 1) / 2 * p.2.2) (by omega) (by omega), wr_id (n := p.1 + n * p.2.1) (by omega) (by omega), wr_id (by omega) (by omega)]
theorem later_eq {p : Int × Int × Int} (hp : progE p = 0) {n : Int} (h0 : 0 ≤ n) (h1 : n ≤ 1000000) : laterOf p n = (phaseX p n % 4096, (p.2.1 + n * p.2.2) % 4096, p.2.2) := by
  obtain ⟨hp1, hp2, hp3⟩ := progE_zero.1 hp
  have b1 := abs_mul (m := 1000000) (n := 4096) (show -1000000 ≤ n by omega) h1 hp3.1 hp3.2
  unfold laterOf
  rw [phaseOf_eq hp h0 h1, wr_id (n := n * p.2.2) (by omega) (by omega), wr_id (by omega) (by omega)]
theorem later_ok {p : Int × Int × Int} (hp : progE p = 0) {n : Int} (h0 : 0 ≤ n) (h1 : n ≤ 1000000) : progE (laterOf p n) = 0 := by
  rw [later_eq hp h0 h1]
  obtain ⟨hp1, hp2, hp3⟩ := progE_zero.1 hp
  refine progE_zero.2 ⟨?_, ?_, hp3⟩ <;> dsimp only <;> omega
/-- Triangular numbers. -/
theorem tri_add (n k : Int) : (n + k) * (n + k - 1) / 2 = n * (n - 1) / 2 + n * k + k * (k - 1) / 2 := by
  have even : ∀ m : Int, m * (m - 1) % 2 = 0 := fun m => by
    have h : m % 2 = 0 ∨ m % 2 = 1 := by omega
    rcases h with h | h
    · rw [Int.mul_emod, h]; simp
    · rw [Int.mul_emod, show (m - 1) % 2 = 0 by omega]; simp
  have h1 := even n
  have h2 := even k
  have e : (n + k) * (n + k - 1) = n * (n - 1) + 2 * (n * k) + k * (k - 1) := by
    simp only [Int.add_mul, Int.mul_add, Int.mul_sub, Int.mul_one, Int.mul_comm k n]
    omega
  rw [e]
  omega
theorem mod_lin (a b k c m : Int) : (a % m + k * (b % m) + c) % m = (a + k * b + c) % m := by
  have e1 := Int.mul_ediv_add_emod a m
  have e2 := Int.mul_ediv_add_emod b m
  have e : a % m + k * (b % m) + c = (a + k * b + c) + m * (-(a / m) - k * (b / m)) := by
    have h1 : a % m = a - m * (a / m) := by omega
    have h2 : b % m = b - m * (b / m) := by omega
    rw [h1, h2]
    simp only [Int.mul_sub, Int.mul_neg, Int.mul_left_comm k m]
    omega
  rw [e, Int.add_mul_emod_self_left]
theorem phase_later {p : Int × Int × Int} (hp : progE p = 0) {n k : Int} (hn : 0 ≤ n) (hn' : n ≤ 1000000) (hk : 0 ≤ k) (hnk : n + k ≤ 1000000) : phaseOf (laterOf p n) k = phaseOf p (n + k) := by
  rw [phaseOf_eq (later_ok hp hn hn') hk (by omega), phaseOf_eq hp (by omega) hnk, later_eq hp hn hn']
  unfold phaseX
  dsimp only
  rw [tri_add n k]
  generalize hA : n * (n - 1) / 2 = A
  generalize hB : k * (k - 1) / 2 = B
  rw [mod_lin]
  congr 1
  simp only [Int.add_mul, Int.mul_add, ← Int.mul_assoc, Int.mul_comm k n]
  omega
theorem turn_later {p : Int × Int × Int} (hp : progE p = 0) {n k : Int} (hn : 0 ≤ n) (hn' : n ≤ 1000000) (hk : 0 ≤ k) (hnk : n + k ≤ 1000000) : turnOf (laterOf p n) k = turnOf p (n + k) := by
  unfold turnOf
  rw [phase_later hp hn hn' hk hnk]
theorem mix_parts {r : Int → Int × Int} {p : Int × Int × Int} (hp : progE p = 0) (x : List (Int × Int)) (n : Nat) (hn : n ≤ x.length) (hx : x.length ≤ 1000000) : mixL r p (x.take n) ++ mixL r (laterOf p n) (x.drop n) = mixL r p x := by
  apply List.ext_getElem
  · simp [mixL]; omega
  · intro i h1 h2
    rw [mixL_length] at h2
    rw [List.getElem_append]
    split
    · rename_i hi
      rw [mixL_length] at hi
      simp only [mixL, List.getElem_map, List.getElem_range]
      have hi' : i < n := by simpa [Nat.min_eq_left hn] using hi
      congr 1
      rw [List.getD_eq_getElem?_getD, List.getElem?_take, if_pos hi', List.getD_eq_getElem?_getD]
    · rename_i hi
      have hl : (mixL r p (x.take n)).length = n := by rw [mixL_length, List.length_take]; omega
      rw [hl] at hi
      simp only [mixL, List.getElem_map, List.getElem_range, List.length_map, List.length_range, List.length_take, Nat.min_eq_left hn]
      rw [turn_later hp (by omega) (by omega) (by omega) (by omega), List.getD_eq_getElem?_getD, List.getElem?_drop, List.getD_eq_getElem?_getD, show n + (i - n) = i by omega, show ((n : Nat) : Int) + ((i - n : Nat) : Int) = (i : Int) by omega]
end Go.Proofs.Ytinkhmfciealkaa
