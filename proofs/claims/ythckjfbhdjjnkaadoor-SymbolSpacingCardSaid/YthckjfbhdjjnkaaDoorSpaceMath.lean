import Derived.Test.YthckjfbhdjjnkaaDoorFindLaw
set_option linter.unusedSimpArgs false
namespace Go.Proofs.YthckjfbhdjjnkaaDoor
open Go.Ev
def cntB (f : Nat → Bool) : Nat → Nat
 | 0 => 0
 | k + 1 => cntB f k + (bif f k then 1 else 0)
theorem cntB_le (f : Nat → Bool) : ∀ k, cntB f k ≤ k
 | 0 => Nat.le_refl _
 | k + 1 => by
   have := cntB_le f k
   unfold cntB
   cases f k <;> simp <;> omega
theorem cntB_mono (f : Nat → Bool) {a b : Nat} (h : a ≤ b) : cntB f a ≤ cntB f b := by
 induction b with
 | zero => have : a = 0 := by omega
           rw [this]; exact Nat.le_refl _
 | succ b ih =>
   by_cases e : a = b + 1
   ·rw [e]; exact Nat.le_refl _
   ·have := ih (by omega)
    rw [cntB]
    omega
theorem cntB_shift (f : Nat → Bool) (d : Nat) : ∀ n, cntB f (d + n) = cntB f d + cntB (fun j => f (d + j)) n
 | 0 => rfl
 | n + 1 => by
   show cntB f (d + n) + _ = _
   rw [cntB_shift f d n, cntB, Nat.add_assoc]
   rfl
theorem cntB_sum {f g h : Nat → Bool} : ∀ n, (∀ j, j < n → f j = true → g j = true ∨ h j = true) → cntB f n ≤ cntB g n + cntB h n
 | 0, _ => Nat.le_refl _
 | n + 1, hh => by
   have h1 := cntB_sum n fun j hj => hh j (by omega)
   have h2 := hh n (by omega)
   simp only [cntB]
   cases hf : f n with
   | false => simp only [cond_false]; omega
   | true =>
     rcases h2 hf with e | e
     ·rw [e]; simp only [cond_true]; omega
     ·rw [e]; simp only [cond_true]; omega
theorem cntB_not (f : Nat → Bool) : ∀ n, cntB f n + cntB (fun j => !f j) n = n
 | 0 => rfl
 | n + 1 => by
   have := cntB_not f n
   simp only [cntB]
   cases f n <;> simp <;> omega
section
variable (m l : List Int)
def w1 (a j : Nat) : Bool := decide (¬ hardV (l.getD (a + j) 0) = m.getD j 0)
def w2 (a j : Nat) : Bool := decide (¬ hardV (l.getD (a + j) 0) = 1 - m.getD j 0)
theorem hardV_in (n : Int) : -1 ≤ hardV n ∧ hardV n ≤ 1 := by
 unfold hardV
 cases decide (n > 0) <;> cases decide (n < 0) <;> decide
theorem wrongN_cnt (a : Nat) : ∀ k, k ≤ 1000 → (∀ j, j < k → m.getD j 0 = 0 ∨ m.getD j 0 = 1) → wrongN m l a k = ((cntB (w1 m l a) k : Int), (cntB (w2 m l a) k : Int))
 | 0, _, _ => rfl
 | k + 1, hk, hb => by
   have ih := wrongN_cnt a k (by omega) fun j hj => hb j (by omega)
   have c1 := cntB_le (w1 m l a) k
   have c2 := cntB_le (w2 m l a) k
   have hm := hb k (by omega)
   have e1 : wr (1 - m.getD k 0) = 1 - m.getD k 0 := wr_id (by omega) (by omega)
   rw [show wrongN m l a (k + 1) = nxW (hardV (l.getD (a + k) 0)) (m.getD k 0) (wrongN m l a k) from rfl, ih]
   unfold nxW
   simp only [e1, cntB, w1, w2]
   rw [wr_id (by omega) (by omega), wr_id (by omega) (by omega)]
   by_cases g1 : hardV (l.getD (a + k) 0) = m.getD k 0 <;> by_cases g2 : hardV (l.getD (a + k) 0) = 1 - m.getD k 0
   ·rw [if_pos g1, if_pos g2, decide_eq_false (fun h => h g1), decide_eq_false (fun h => h g2)]; rfl
   ·rw [if_pos g1, if_neg g2, decide_eq_false (fun h => h g1), decide_eq_true g2]; rfl
   ·rw [if_neg g1, if_pos g2, decide_eq_true g1, decide_eq_false (fun h => h g2)]; rfl
   ·rw [if_neg g1, if_neg g2, decide_eq_true g1, decide_eq_true g2]; rfl
theorem misN_cnt (s : Nat) : ∀ k, misN m s k = (cntB (fun j => decide (¬ m.getD (s + j) 0 = m.getD j 0)) k : Int)
 | 0 => rfl
 | k + 1 => by
   rw [misN, misN_cnt s k, cntB]
   by_cases g : m.getD (s + k) 0 = m.getD k 0
   ·rw [if_pos g, decide_eq_false (fun h => h g)]; rfl
   ·rw [if_neg g, decide_eq_true g]; rfl
end
section
variable {m l : List Int} {a d : Nat}
theorem at_shift (l : List Int) (a d j : Nat) : l.getD (a + d + j) 0 = l.getD (a + (d + j)) 0 := by rw [Nat.add_assoc]
theorem tail_le (f : Nat → Bool) {d n M : Nat} (h : d + n = M) : cntB (fun j => f (d + j)) n ≤ cntB f M := by
 rw [← h, cntB_shift]; omega
theorem over_11 {M : Nat} (hd : d ≤ M) : cntB (fun j => decide (¬ m.getD (d + j) 0 = m.getD j 0)) (M - d) ≤ cntB (w1 m l (a + d)) M + cntB (w1 m l a) M := by
 refine Nat.le_trans (cntB_sum (g := w1 m l (a + d)) (h := fun j => w1 m l a (d + j)) (M - d) fun j hj hf => ?_) (Nat.add_le_add (cntB_mono _ (by omega)) (tail_le (w1 m l a) (show d + (M - d) = M by omega)))
 have hf := of_decide_eq_true hf
 unfold w1
 rw [at_shift]
 by_cases g : hardV (l.getD (a + (d + j)) 0) = m.getD j 0
 ·right; refine decide_eq_true fun e => hf ?_; rw [← e, g]
 ·left; exact decide_eq_true g
theorem over_22 {M : Nat} (hd : d ≤ M) : cntB (fun j => decide (¬ m.getD (d + j) 0 = m.getD j 0)) (M - d) ≤ cntB (w2 m l (a + d)) M + cntB (w2 m l a) M := by
 refine Nat.le_trans (cntB_sum (g := w2 m l (a + d)) (h := fun j => w2 m l a (d + j)) (M - d) fun j hj hf => ?_) (Nat.add_le_add (cntB_mono _ (by omega)) (tail_le (w2 m l a) (show d + (M - d) = M by omega)))
 have hf := of_decide_eq_true hf
 unfold w2
 rw [at_shift]
 by_cases g : hardV (l.getD (a + (d + j)) 0) = 1 - m.getD j 0
 ·right; refine decide_eq_true fun e => hf ?_; omega
 ·left; exact decide_eq_true g
theorem over_12 {M : Nat} (hd : d ≤ M) : (M - d) - cntB (fun j => decide (¬ m.getD (d + j) 0 = m.getD j 0)) (M - d) ≤ cntB (w1 m l (a + d)) M + cntB (w2 m l a) M := by
 have hn := cntB_not (fun j => decide (¬ m.getD (d + j) 0 = m.getD j 0)) (M - d)
 have := Nat.le_trans (cntB_sum (f := fun j => !decide (¬ m.getD (d + j) 0 = m.getD j 0)) (g := w1 m l (a + d)) (h := fun j => w2 m l a (d + j)) (M - d) fun j hj hf => by
  have hf : m.getD (d + j) 0 = m.getD j 0 := by simpa only [Bool.not_eq_true', decide_eq_false_iff_not, Classical.not_not] using hf
  unfold w1 w2
  rw [at_shift]
  by_cases g : hardV (l.getD (a + (d + j)) 0) = m.getD j 0
  ·right; refine decide_eq_true fun e => ?_; omega
  ·left; exact decide_eq_true g) (Nat.add_le_add (cntB_mono (w1 m l (a + d)) (show M - d ≤ M by omega)) (tail_le (w2 m l a) (show d + (M - d) = M by omega)))
 omega
theorem over_21 {M : Nat} (hd : d ≤ M) : (M - d) - cntB (fun j => decide (¬ m.getD (d + j) 0 = m.getD j 0)) (M - d) ≤ cntB (w2 m l (a + d)) M + cntB (w1 m l a) M := by
 have hn := cntB_not (fun j => decide (¬ m.getD (d + j) 0 = m.getD j 0)) (M - d)
 have := Nat.le_trans (cntB_sum (f := fun j => !decide (¬ m.getD (d + j) 0 = m.getD j 0)) (g := w2 m l (a + d)) (h := fun j => w1 m l a (d + j)) (M - d) fun j hj hf => by
  have hf : m.getD (d + j) 0 = m.getD j 0 := by simpa only [Bool.not_eq_true', decide_eq_false_iff_not, Classical.not_not] using hf
  unfold w1 w2
  rw [at_shift]
  by_cases g : hardV (l.getD (a + (d + j)) 0) = 1 - m.getD j 0
  ·right; refine decide_eq_true fun e => ?_; omega
  ·left; exact decide_eq_true g) (Nat.add_le_add (cntB_mono (w2 m l (a + d)) (show M - d ≤ M by omega)) (tail_le (w1 m l a) (show d + (M - d) = M by omega)))
 omega
theorem cntB_all : ∀ n, cntB (fun _ => true) n = n
 | 0 => rfl
 | n + 1 => by rw [cntB, cntB_all n]; rfl
theorem both_wrong (M : Nat) : M ≤ cntB (w1 m l a) M + cntB (w2 m l a) M := by
 have := cntB_sum (f := fun _ => true) (g := w1 m l a) (h := w2 m l a) M fun j _ _ => by
  unfold w1 w2
  by_cases g : hardV (l.getD (a + j) 0) = m.getD j 0
  ·right; refine decide_eq_true fun e => ?_; omega
  ·left; exact decide_eq_true g
 rw [cntB_all] at this
 exact this
end
def spF (m a : List Int) (e : Int) : Nat → Int × Int → Int × Int
 | 0, out => out
 | k + 1, out => spF m a e k (nxS m a e (k : Int) out)
theorem spF_1 (m a : List Int) (e : Int) : ∀ (k : Nat) (out : Int × Int), k ≤ 1000 → ((∀ i, i < k → a.getD i 0 ≤ wr (2 * e) → (spF m a e k out).1 ≤ (i : Int) + 1) ∧ (((spF m a e k out).1 = out.1) ∨ (1 ≤ (spF m a e k out).1 ∧ (spF m a e k out).1 ≤ k)))
 | 0, out, _ => ⟨fun i h => by omega, .inl rfl⟩
 | k + 1, out, hk => by
   obtain ⟨h1, h2⟩ := spF_1 m a e k (nxS m a e (k : Int) out) (by omega)
   have e1 : wr ((k : Int) + 1) = (k : Int) + 1 := wr_id (by omega) (by omega)
   have hx : (nxS m a e (k : Int) out).1 = if a.getD k 0 ≤ wr (2 * e) then (k : Int) + 1 else out.1 := by
    unfold nxS
    rw [e1, Int.toNat_natCast]
   rw [hx] at h2
   show _ ∧ ((spF m a e k (nxS m a e (k : Int) out)).1 = out.1 ∨ (1 ≤ (spF m a e k (nxS m a e (k : Int) out)).1 ∧ (spF m a e k (nxS m a e (k : Int) out)).1 ≤ ((k + 1 : Nat) : Int)))
   refine ⟨fun i hi hc => ?_, ?_⟩
   ·show (spF m a e k (nxS m a e (k : Int) out)).1 ≤ (i : Int) + 1
    by_cases ei : i = k
    ·subst ei
     rw [if_pos hc] at h2
     rcases h2 with h2 | h2 <;> omega
    ·exact h1 i (by omega) hc
   ·by_cases g : a.getD k 0 ≤ wr (2 * e)
    ·rw [if_pos g] at h2
     rcases h2 with h2 | h2
     ·right; omega
     ·right; omega
    ·rw [if_neg g] at h2
     rcases h2 with h2 | h2
     ·exact .inl h2
     ·right; omega
end Go.Proofs.YthckjfbhdjjnkaaDoor
