/- Counting: wrong symbols of two overlapping markers, and mismatches. -/
import Derived.Test.YthckjfbhdjjnkaaDoorFindLaw
set_option linter.unusedSimpArgs false
namespace Go.Proofs.YthckjfbhdjjnkaaDoor
open Go.Ev
def cntB (f : Nat → Bool) : Nat → Nat
 | 0 => 0
 | k + 1 => cntB f k + (bif f k then 1 else 0)
theorem cntB_le (f : Nat → Bool) : ∀ k, cntB f k ≤ k
 | 0 => Nat.le_refl _
 | k + 1 => by
   have := cntB_le f k
   unfold cntB
   cases f k <;> simp <;> omega
theorem cntB_sum {f g h : Nat → Bool} : ∀ n, (∀ j, j < n → f j = true → g j = true ∨ h j = true) → cntB f n ≤ cntB g n + cntB h n
 | 0, _ => Nat.le_refl _
 | n + 1, hh => by
   have h1 := cntB_sum n fun j hj => hh j (by omega)
   have h2 := hh n (by omega)
   simp only [cntB]
   cases hf : f n with
   | false => simp only [cond_false]; omega
   | true =>
     rcases h2 hf with e | e
     ·rw [e]; simp only [cond_true]; omega
     ·rw [e]; simp only [cond_true]; omega
section
variable (m l : List Int)
def w1 (a j : Nat) : Bool := decide (¬ hardV (l.getD (a + j) 0) = m.getD j 0)
def w2 (a j : Nat) : Bool := decide (¬ hardV (l.getD (a + j) 0) = 1 - m.getD j 0)
theorem wrongN_cnt (a : Nat) : ∀ k, k ≤ 1000 → (∀ j, j < k → m.getD j 0 = 0 ∨ m.getD j 0 = 1) → wrongN m l a k = ((cntB (w1 m l a) k : Int), (cntB (w2 m l a) k : Int))
 | 0, _, _ => rfl
 | k + 1, hk, hb => by
   have ih := wrongN_cnt a k (by omega) fun j hj => hb j (by omega)
   have c1 := cntB_le (w1 m l a) k
   have c2 := cntB_le (w2 m l a) k
   have hm := hb k (by omega)
   have e1 : wr (1 - m.getD k 0) = 1 - m.getD k 0 := wr_id (by omega) (by omega)
   rw [show wrongN m l a (k + 1) = nxW (hardV (l.getD (a + k) 0)) (m.getD k 0) (wrongN m l a k) from rfl, ih]
   unfold nxW
   simp only [e1, cntB, w1, w2]
   rw [wr_id (by omega) (by omega), wr_id (by omega) (by omega)]
   by_cases g1 : hardV (l.getD (a + k) 0) = m.getD k 0 <;> by_cases g2 : hardV (l.getD (a + k) 0) = 1 - m.getD k 0
   ·rw [if_pos g1, if_pos g2, decide_eq_false (fun h => h g1), decide_eq_false (fun h => h g2)]; rfl
   ·rw [if_pos g1, if_neg g2, decide_eq_false (fun h => h g1), decide_eq_true g2]; rfl
   ·rw [if_neg g1, if_pos g2, decide_eq_true g1, decide_eq_false (fun h => h g2)]; rfl
   ·rw [if_neg g1, if_neg g2, decide_eq_true g1, decide_eq_true g2]; rfl
end
section
variable {m l : List Int} {a d : Nat}
theorem cntB_all : ∀ n, cntB (fun _ => true) n = n
 | 0 => rfl
 | n + 1 => by rw [cntB, cntB_all n]; rfl
theorem both_wrong (M : Nat) : M ≤ cntB (w1 m l a) M + cntB (w2 m l a) M := by
 have := cntB_sum (f := fun _ => true) (g := w1 m l a) (h := w2 m l a) M fun j _ _ => by
  unfold w1 w2
  by_cases g : hardV (l.getD (a + j) 0) = m.getD j 0
  ·right; refine decide_eq_true fun e => ?_; omega
  ·left; exact decide_eq_true g
 rw [cntB_all] at this
 exact this
end
end Go.Proofs.YthckjfbhdjjnkaaDoor
