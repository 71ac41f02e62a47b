/- Laws of loops on typed data. -/
import Derived.Test.YthabingkfmlbbaaBase
set_option linter.unusedSimpArgs false
namespace Go.Proofs.Ythabingkfmlbbaa
open Go.Ev
section
variable {σ E : Type} {step : σ → Option (σ ⊕ E)}
theorem loop_for {st : Nat → σ} {n : Nat} {e : E} (h : ∀ k, k < n → step (st k) = some (.inl (st (k + 1)))) (hl : step (st n) = some (.inr e)) : ∀ k, k ≤ n → loopVal step (st k) = some e := by
 intro k hk
 induction hm : n - k generalizing k with
 | zero =>
   have : k = n := by omega
   subst this
   exact loopVal_last hl
 | succ m ih =>
   rw [loopVal_next (h k (by omega))]
   exact ih (k + 1) (by omega) (by omega)
def scan (hit : Nat → Option E) (e : E) : Nat → Nat → E
 | 0, _ => e
 | m + 1, k => match hit k with
   | some x => x
   | none => scan hit e m (k + 1)
theorem loop_scan {st : Nat → σ} {hit : Nat → Option E} {n : Nat} {e : E} (h : ∀ k, k < n → step (st k) = match hit k with | some x => some (.inr x) | none => some (.inl (st (k + 1)))) (hl : step (st n) = some (.inr e)) :
 ∀ m k, k + m = n → loopVal step (st k) = some (scan hit e m k) := by
 intro m
 induction m with
 | zero =>
   intro k hk
   have : k = n := by omega
   subst this
   exact loopVal_last hl
 | succ m ih =>
   intro k hk
   have h1 := h k (by omega)
   simp only [scan]
   cases hh : hit k with
   | some x => rw [hh] at h1; exact loopVal_last h1
   | none => rw [hh] at h1; rw [loopVal_next h1]; exact ih (k + 1) (by omega)
end
def scanL {α E : Type} (f : α → Option E) (e : E) : List α → E
 | [] => e
 | x :: l => match f x with
   | some y => y
   | none => scanL f e l
theorem getD_drop {α : Type} (l : List α) (d : α) {k : Nat} (h : k < l.length) : l.drop k = l.getD k d :: l.drop (k + 1) := by
 rw [List.drop_eq_getElem_cons h, List.getD_eq_getElem?_getD, List.getElem?_eq_getElem h]
 rfl
theorem scan_list {α E : Type} (f : α → Option E) (e : E) (l : List α) (d : α) : ∀ m k, k + m = l.length → scan (fun k => f (l.getD k d)) e m k = scanL f e (l.drop k)
 | 0, k, h => by rw [List.drop_eq_nil_of_le (by omega)]; rfl
 | m + 1, k, h => by
   rw [getD_drop l d (by omega), scan, scanL, scan_list f e l d m (k + 1) (by omega)]
theorem scan_list0 {α E : Type} (f : α → Option E) (e : E) (l : List α) (d : α) : scan (fun k => f (l.getD k d)) e l.length 0 = scanL f e l := by
 rw [scan_list f e l d l.length 0 (by omega), List.drop_zero]
theorem take_map_succ {α β : Type} (f : α → β) (l : List α) (d : α) {k : Nat} (h : k < l.length) : (l.take k).map f ++ [f (l.getD k d)] = (l.take (k + 1)).map f := by
 rw [List.take_add_one, List.getElem?_eq_getElem h, List.map_append, List.getD_eq_getElem?_getD, List.getElem?_eq_getElem h]
 rfl
theorem take_succ_getD {α : Type} (l : List α) (d : α) {k : Nat} (h : k < l.length) : l.take k ++ [l.getD k d] = l.take (k + 1) := by
 have := take_map_succ id l d h
 simpa using this
theorem range_map_succ {β : Type} (f : Nat → β) (k : Nat) : (List.range k).map f ++ [f k] = (List.range (k + 1)).map f := by
 rw [List.range_succ, List.map_append]; rfl
def win (a b c : Int) : Bool := decide (b ≤ a) && decide (a ≤ c)
def unl (b : Bool) (e : Int) : Int := bif b then 0 else e
def firstE : List Int → Int
 | [] => 0
 | e :: l => bif e != 0 then e else firstE l
theorem scanL_first : ∀ l : List Int, scanL (fun x => bif x != 0 then some (Sum.inl x) else none) (Sum.inr () : Int ⊕ Unit) l = bif firstE l != 0 then .inl (firstE l) else .inr ()
 | [] => rfl
 | x :: l => by
   simp only [scanL, firstE, scanL_first l]
   cases h : x != 0 <;> simp [h]
theorem firstE_zero : ∀ {l : List Int}, firstE l = 0 ↔ ∀ e ∈ l, e = 0
 | [] => by simp [firstE]
 | x :: l => by
   by_cases hx : x = 0
   ·subst hx; simp [firstE, firstE_zero (l := l)]
   ·have h : (x != 0) = true := by simpa using hx
    simp only [firstE, h, cond_true, List.mem_cons, forall_eq_or_imp]
    exact ⟨fun e => absurd e hx, fun e => absurd e.1 hx⟩
theorem unl_zero {b : Bool} {e : Int} (h : e ≠ 0) (hu : unl b e = 0) : b = true := by
 cases b
 ·exact absurd hu h
 ·rfl
theorem win_iff {a b c : Int} : win a b c = true ↔ b ≤ a ∧ a ≤ c := by simp [win]
theorem wr_succ {k : Nat} (h : k < 4611686018427387904) : wr ((k : Int) + 1) = ((k + 1 : Nat) : Int) := by
 rw [wr_id (by omega) (by omega)]; rfl
theorem lt_cast (a b : Nat) : decide ((a : Int) < (b : Int)) = decide (a < b) := by
 by_cases h : a < b <;> simp [h]
theorem inB_cast {k n : Nat} : inBounds (k : Int) n = decide (k < n) := by
 unfold inBounds
 by_cases h : k < n <;> simp [h]
theorem room_true {b n : Nat} (h : n * b ≤ 140737488355328) (h2 : n ≤ 140737488355328) : room b n = true := by simp [room, h, h2]
theorem tmod_of {n m : Int} : n.tmod m = if 0 ≤ n then n % m else -((-n) % m) := by
 split
 ·rename_i hn; exact Int.tmod_eq_emod_of_nonneg hn
 ·rename_i hn
  have h1 : (-n).tmod m = (-n) % m := Int.tmod_eq_emod_of_nonneg (by omega)
  rw [Int.neg_tmod] at h1
  omega
theorem neg_mod {n m : Int} (h : 0 < m) : (-n) % m = if n % m = 0 then 0 else m - n % m := by
 have h1 := Int.emod_nonneg n (show m ≠ 0 by omega)
 have h2 := Int.emod_lt_of_pos n h
 have h3 := Int.mul_ediv_add_emod n m
 split
 ·rename_i h0
  have : -n = m * (-(n / m)) := by rw [Int.mul_neg]; omega
  rw [this]; exact Int.mul_emod_right _ _
 ·rename_i h0
  have : -n = (m - n % m) + m * (-(n / m) - 1) := by rw [Int.mul_sub, Int.mul_neg, Int.mul_one]; omega
  rw [this, Int.add_mul_emod_self_left]
  exact Int.emod_eq_of_lt (by omega) (by omega)
theorem tmod_neg_iff {n m : Int} (h : 0 < m) : n.tmod m = (if n < 0 ∧ n % m ≠ 0 then n % m - m else n % m) := by
 have h1 := Int.emod_nonneg n (show m ≠ 0 by omega)
 rw [tmod_of]
 by_cases hn : 0 ≤ n
 ·rw [if_pos hn, if_neg (fun h => by omega)]
 ·rw [if_neg hn, neg_mod h]
  by_cases h0 : n % m = 0
  ·simp [h0]
  ·rw [if_neg h0, if_pos ⟨by omega, h0⟩]; omega
theorem mod_law {n m : Int} (h : 0 < m) (h2 : m < 4611686018427387904) : (bif !(m == 0) then bif decide (Int.tmod n m < 0) then some (wr (Int.tmod n m + m)) else some (Int.tmod n m) else none) = some (n % m) := by
 have hm : (m == 0) = false := by simp; omega
 have h1 := Int.emod_nonneg n (show m ≠ 0 by omega)
 have h3 := Int.emod_lt_of_pos n h
 rw [hm]
 simp only [Bool.not_false, cond_true]
 rw [tmod_neg_iff h]
 split
 ·rw [decide_eq_true (by omega), cond_true, wr_id (by omega) (by omega)]
  congr 1; omega
 ·rw [decide_eq_false (by omega), cond_false]
theorem tdiv_of {n m : Int} (h : 0 < m) : n.tdiv m = if n < 0 ∧ n % m ≠ 0 then n / m + 1 else n / m := by
 have h1 := Int.mul_tdiv_add_tmod n m
 have h2 := Int.mul_ediv_add_emod n m
 rw [tmod_neg_iff h] at h1
 have hm : m ≠ 0 := by omega
 split
 ·rename_i hc
  rw [if_pos hc] at h1
  have : m * n.tdiv m = m * (n / m + 1) := by rw [Int.mul_add, Int.mul_one]; omega
  exact Int.eq_of_mul_eq_mul_left hm this
 ·rename_i hc
  rw [if_neg hc] at h1
  exact Int.eq_of_mul_eq_mul_left hm (by omega)
end Go.Proofs.Ythabingkfmlbbaa
