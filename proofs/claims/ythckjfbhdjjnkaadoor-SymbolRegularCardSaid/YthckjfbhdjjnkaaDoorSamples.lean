/- Samples: their errors, and sums. -/
import Derived.Test.YthckjfbhdjjnkaaDoorGd3
import Derived.Test.YthckjfbhdjjnkaaDoorBase4
set_option linter.unusedSimpArgs false
namespace Go.Proofs.YthckjfbhdjjnkaaDoor
open Go.Ev
theorem scanG {α : Type} (d : α) {e : Nat → Int ⊕ Unit} (f : α → Bool) (l : List α) : ∀ (m k : Nat), k + m = l.length →
 (scan (fun k => bif !(f (l.getD k d)) then some (e k) else none) (Sum.inr () : Int ⊕ Unit) m k = .inr () ∧ ∀ x ∈ l.drop k, f x = true) ∨ (∃ j : Nat, scan (fun k => bif !(f (l.getD k d)) then some (e k) else none) (Sum.inr () : Int ⊕ Unit) m k = e j) ∧ ∃ x ∈ l.drop k, f x = false
 | 0, k, h => .inl ⟨rfl, fun x hx => by rw [List.drop_eq_nil_of_le (by omega)] at hx; cases hx⟩
 | m + 1, k, h => by
   have hd := getD_drop l d (show k < l.length by omega)
   cases hf : f (l.getD k d) with
   | true =>
     simp only [scan, hf, Bool.not_true, cond_false]
     rcases scanG d (e := e) f l m (k + 1) (by omega) with ⟨h1, h2⟩ | ⟨⟨j, h1⟩, x, h2, h3⟩
     ·refine .inl ⟨h1, fun x hx => ?_⟩
      rw [hd] at hx
      rcases List.mem_cons.1 hx with rfl | hx
      ·exact hf
      ·exact h2 x hx
     ·exact .inr ⟨⟨j, h1⟩, x, by rw [hd]; exact List.mem_cons_of_mem _ h2, h3⟩
   | false =>
     simp only [scan, hf, Bool.not_false, cond_true]
     exact .inr ⟨⟨k, rfl⟩, l.getD k d, by rw [hd]; exact List.mem_cons_self, hf⟩
end Go.Proofs.YthckjfbhdjjnkaaDoor
