/- The least of fractions, and fractions in lowest terms that are equal. -/
import Derived.Test.YtfpppijfkeidgaaGreatDoorBest2
set_option linter.unusedSimpArgs false
namespace Go.Proofs.YtfpppijfkeidgaaGreatDoor
open Go.Ev
section
variable {α : Type} (nu de : α → Int)
def tk (st : Option α) : Option α → Option α
 | none => st
 | some c => match st with
   | none => some c
   | some o => bif decide (nu c * de o < nu o * de c) then some c else some o
def leF (a b : α) : Prop := nu a * de b ≤ nu b * de a
theorem leF_trans {a b c : α} (hb : 0 < de b) (hc : 0 < de c) (ha : 0 < de a) (h1 : leF nu de a b) (h2 : leF nu de b c) : leF nu de a c := by
 unfold leF at *
 have e1 := Int.mul_le_mul_of_nonneg_right h1 (show 0 ≤ de c by omega)
 have e2 := Int.mul_le_mul_of_nonneg_right h2 (show 0 ≤ de a by omega)
 have e3 : nu a * de c * de b ≤ nu c * de a * de b := by grind
 exact Int.le_of_mul_le_mul_right e3 hb
theorem tk_spec : ∀ (L : List (Option α)) (st : Option α), (∀ c, some c ∈ L → 0 < de c) → (∀ c, st = some c → 0 < de c) →
 (L.foldl (tk nu de) st = none ∧ st = none ∧ ∀ c, some c ∉ L) ∨ ∃ c, L.foldl (tk nu de) st = some c ∧ (st = some c ∨ some c ∈ L) ∧ (∀ o, st = some o → leF nu de c o) ∧ ∀ d, some d ∈ L → leF nu de c d
 | [], st, _, _ => by
   cases st with
   | none => exact .inl ⟨rfl, rfl, fun c h => by cases h⟩
   | some o => exact .inr ⟨o, rfl, .inl rfl, fun p hp => by obtain rfl := Option.some.inj hp; exact Int.le_refl _, fun d h => by cases h⟩
 | none :: L, st, hL, hst => by
   rcases tk_spec L st (fun c hc => hL c (List.mem_cons_of_mem _ hc)) hst with ⟨h1, h2, h3⟩ | ⟨c, h1, h2, h3, h4⟩
   ·exact .inl ⟨h1, h2, fun c hc => (List.mem_cons.1 hc).elim (fun h => by cases h) (h3 c)⟩
   ·refine .inr ⟨c, h1, h2.imp id (List.mem_cons_of_mem _), h3, fun d hd => ?_⟩
    rcases List.mem_cons.1 hd with h | h
    ·cases h
    ·exact h4 d h
 | some x :: L, st, hL, hst => by
   have hx := hL x List.mem_cons_self
   have hL' : ∀ c, some c ∈ L → 0 < de c := fun c hc => hL c (List.mem_cons_of_mem _ hc)
   have hnext : (some x :: L).foldl (tk nu de) st = L.foldl (tk nu de) (tk nu de st (some x)) := rfl
   rw [hnext]
   cases st with
   | none =>
     rcases tk_spec L (some x) hL' (fun c hc => by obtain rfl := Option.some.inj hc; exact hx) with ⟨_, h2, _⟩ | ⟨c, h1, h2, h3, h4⟩
     ·cases h2
     ·refine .inr ⟨c, h1, .inr (h2.elim (fun h => by rw [h]; exact List.mem_cons_self) (List.mem_cons_of_mem _)), fun o ho => (by cases ho), fun d hd => ?_⟩
      rcases List.mem_cons.1 hd with h | h
      ·obtain rfl := Option.some.inj h; exact h3 _ rfl
      ·exact h4 d h
   | some o =>
     have ho := hst o rfl
     by_cases hlt : nu x * de o < nu o * de x
     ·have ht : tk nu de (some o) (some x) = some x := by simp only [tk, decide_eq_true hlt, cond_true]
      rw [ht]
      rcases tk_spec L (some x) hL' (fun c hc => by obtain rfl := Option.some.inj hc; exact hx) with ⟨_, h2, _⟩ | ⟨c, h1, h2, h3, h4⟩
      ·cases h2
      ·have hc : 0 < de c := h2.elim (fun h => by obtain rfl := Option.some.inj h; exact hx) (hL' c)
       refine .inr ⟨c, h1, .inr (h2.elim (fun h => by rw [h]; exact List.mem_cons_self) (List.mem_cons_of_mem _)), fun p hp => ?_, fun d hd => ?_⟩
       ·obtain rfl := Option.some.inj hp
        exact leF_trans nu de hx ho hc (h3 x rfl) (Int.le_of_lt hlt)
       ·rcases List.mem_cons.1 hd with h | h
        ·obtain rfl := Option.some.inj h; exact h3 _ rfl
        ·exact h4 d h
     ·have ht : tk nu de (some o) (some x) = some o := by simp only [tk, decide_eq_false hlt, cond_false]
      rw [ht]
      rcases tk_spec L (some o) hL' (fun c hc => by obtain rfl := Option.some.inj hc; exact ho) with ⟨_, h2, _⟩ | ⟨c, h1, h2, h3, h4⟩
      ·cases h2
      ·have hc : 0 < de c := h2.elim (fun h => by obtain rfl := Option.some.inj h; exact ho) (hL' c)
       refine .inr ⟨c, h1, h2.imp id (List.mem_cons_of_mem _), h3, fun d hd => ?_⟩
       rcases List.mem_cons.1 hd with h | h
       ·obtain rfl := Option.some.inj h
        exact leF_trans nu de ho hx hc (h3 o rfl) (by unfold leF; omega)
       ·exact h4 d h
end
end Go.Proofs.YtfpppijfkeidgaaGreatDoor
