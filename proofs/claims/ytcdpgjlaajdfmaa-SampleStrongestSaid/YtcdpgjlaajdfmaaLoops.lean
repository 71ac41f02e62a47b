/- Laws of loops on typed data. -/
import Derived.Test.YtcdpgjlaajdfmaaBase
set_option linter.unusedSimpArgs false
namespace Go.Proofs.Ytcdpgjlaajdfmaa
open Go.Ev
section
variable {σ E : Type} {step : σ → Option (σ ⊕ E)}
theorem loop_for {st : Nat → σ} {n : Nat} {e : E} (h : ∀ k, k < n → step (st k) = some (.inl (st (k + 1)))) (hl : step (st n) = some (.inr e)) : ∀ k, k ≤ n → loopVal step (st k) = some e := by
 intro k hk
 induction hm : n - k generalizing k with
 | zero =>
   have : k = n := by omega
   subst this
   exact loopVal_last hl
 | succ m ih =>
   rw [loopVal_next (h k (by omega))]
   exact ih (k + 1) (by omega) (by omega)
def scan (hit : Nat → Option E) (e : E) : Nat → Nat → E
 | 0, _ => e
 | m + 1, k => match hit k with
   | some x => x
   | none => scan hit e m (k + 1)
theorem loop_scan {st : Nat → σ} {hit : Nat → Option E} {n : Nat} {e : E} (h : ∀ k, k < n → step (st k) = match hit k with | some x => some (.inr x) | none => some (.inl (st (k + 1)))) (hl : step (st n) = some (.inr e)) :
 ∀ m k, k + m = n → loopVal step (st k) = some (scan hit e m k) := by
 intro m
 induction m with
 | zero =>
   intro k hk
   have : k = n := by omega
   subst this
   exact loopVal_last hl
 | succ m ih =>
   intro k hk
   have h1 := h k (by omega)
   simp only [scan]
   cases hh : hit k with
   | some x => rw [hh] at h1; exact loopVal_last h1
   | none => rw [hh] at h1; rw [loopVal_next h1]; exact ih (k + 1) (by omega)
end
def scanL {α E : Type} (f : α → Option E) (e : E) : List α → E
 | [] => e
 | x :: l => match f x with
   | some y => y
   | none => scanL f e l
theorem getD_drop {α : Type} (l : List α) (d : α) {k : Nat} (h : k < l.length) : l.drop k = l.getD k d :: l.drop (k + 1) := by
 rw [List.drop_eq_getElem_cons h, List.getD_eq_getElem?_getD, List.getElem?_eq_getElem h]
 rfl
theorem scan_list {α E : Type} (f : α → Option E) (e : E) (l : List α) (d : α) : ∀ m k, k + m = l.length → scan (fun k => f (l.getD k d)) e m k = scanL f e (l.drop k)
 | 0, k, h => by rw [List.drop_eq_nil_of_le (by omega)]; rfl
 | m + 1, k, h => by
   rw [getD_drop l d (by omega), scan, scanL, scan_list f e l d m (k + 1) (by omega)]
theorem scan_list0 {α E : Type} (f : α → Option E) (e : E) (l : List α) (d : α) : scan (fun k => f (l.getD k d)) e l.length 0 = scanL f e l := by
 rw [scan_list f e l d l.length 0 (by omega), List.drop_zero]
theorem take_map_succ {α β : Type} (f : α → β) (l : List α) (d : α) {k : Nat} (h : k < l.length) : (l.take k).map f ++ [f (l.getD k d)] = (l.take (k + 1)).map f := by
 rw [List.take_add_one, List.getElem?_eq_getElem h, List.map_append, List.getD_eq_getElem?_getD, List.getElem?_eq_getElem h]
 rfl
theorem take_succ_getD {α : Type} (l : List α) (d : α) {k : Nat} (h : k < l.length) : l.take k ++ [l.getD k d] = l.take (k + 1) := by
 have := take_map_succ id l d h
 simpa using this
theorem range_map_succ {β : Type} (f : Nat → β) (k : Nat) : (List.range k).map f ++ [f k] = (List.range (k + 1)).map f := by
 rw [List.range_succ, List.map_append]; rfl
theorem foldl_take_succ {α β : Type} (f : β → α → β) (b : β) (l : List α) (d : α) {k : Nat} (h : k < l.length) : f ((l.take k).foldl f b) (l.getD k d) = (l.take (k + 1)).foldl f b := by
 rw [← take_succ_getD l d h, List.foldl_append]; rfl
def win (a b c : Int) : Bool := decide (b ≤ a) && decide (a ≤ c)
def unl (b : Bool) (e : Int) : Int := bif b then 0 else e
def firstE : List Int → Int
 | [] => 0
 | e :: l => bif e != 0 then e else firstE l
theorem scanL_first : ∀ l : List Int, scanL (fun x => bif x != 0 then some (Sum.inl x) else none) (Sum.inr () : Int ⊕ Unit) l = bif firstE l != 0 then .inl (firstE l) else .inr ()
 | [] => rfl
 | x :: l => by
   simp only [scanL, firstE, scanL_first l]
   cases h : x != 0 <;> simp [h]
theorem win_iff {a b c : Int} : win a b c = true ↔ b ≤ a ∧ a ≤ c := by simp [win]
theorem wr_succ {k : Nat} (h : k < 4611686018427387904) : wr ((k : Int) + 1) = ((k + 1 : Nat) : Int) := by
 rw [wr_id (by omega) (by omega)]; rfl
theorem lt_cast (a b : Nat) : decide ((a : Int) < (b : Int)) = decide (a < b) := by
 by_cases h : a < b <;> simp [h]
theorem inB_cast {k n : Nat} : inBounds (k : Int) n = decide (k < n) := by
 unfold inBounds
 by_cases h : k < n <;> simp [h]
theorem room_true {b n : Nat} (h : n * b ≤ 140737488355328) (h2 : n ≤ 140737488355328) : room b n = true := by simp [room, h, h2]
theorem wr_range (n : Int) : -9223372036854775808 ≤ wr n ∧ wr n < 9223372036854775808 := by
 unfold wr
 simp [IntKind.wrap, IntKind.signed, IntKind.bits]
 omega
end Go.Proofs.Ytcdpgjlaajdfmaa
