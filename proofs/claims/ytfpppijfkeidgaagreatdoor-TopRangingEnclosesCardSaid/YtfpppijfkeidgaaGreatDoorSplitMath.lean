/- Pieces of a text between separators. No program in sight. -/
import Derived.Lib.Split
import Derived.Lib.IndexMore
set_option linter.unusedSimpArgs false
namespace Go.Proofs.YtfpppijfkeidgaaGreatDoor
def cutL (c : UInt8) : List UInt8 → List (List UInt8)
 | [] => [[]]
 | x :: r => if x = c then [] :: cutL c r else match cutL c r with
   | w :: ws => (x :: w) :: ws
   | [] => [[x]]
theorem cutL_ne (c : UInt8) : ∀ l, cutL c l ≠ []
 | [] => by simp [cutL]
 | x :: r => by
   unfold cutL
   split
   ·simp
   ·split <;> simp
theorem cutL_none {c : UInt8} : ∀ {l : List UInt8}, c ∉ l → cutL c l = [l]
 | [], _ => rfl
 | x :: r, h => by
   have h1 : x ≠ c := fun e => h (by simp [e])
   have h2 : c ∉ r := fun e => h (by simp [e])
   unfold cutL
   rw [if_neg h1, cutL_none h2]
theorem cutL_at {c : UInt8} : ∀ {l : List UInt8} {i : Nat}, l[i]? = some c → (∀ j, j < i → l[j]? ≠ some c) → cutL c l = l.take i :: cutL c (l.drop (i + 1))
 | [], i, h, _ => by simp at h
 | x :: r, 0, h, _ => by
   obtain rfl := Option.some.inj h
   have e : cutL x (x :: r) = [] :: cutL x r := by rw [cutL, if_pos rfl]
   rw [e]
   rfl
 | x :: r, i + 1, h, hn => by
   have h1 : x ≠ c := fun e => hn 0 (by omega) (by simp [e])
   have ih := cutL_at (l := r) (i := i) (by simpa using h) (fun j hj => by simpa using hn (j + 1) (by omega))
   have e : cutL c (x :: r) = match cutL c r with
    | w :: ws => (x :: w) :: ws
    | [] => [[x]] := by rw [cutL, if_neg h1]
   rw [e, ih]
   rfl
theorem index_one (c : UInt8) : ∀ l : List UInt8, (Lib.index l [c] = -1 ∧ c ∉ l) ∨ ∃ i : Nat, Lib.index l [c] = i ∧ l[i]? = some c ∧ ∀ j, j < i → l[j]? ≠ some c
 | [] => .inl ⟨by simp [Lib.index], by simp⟩
 | x :: r => by
   unfold Lib.index
   by_cases h : x = c
   ·subst h
    exact .inr ⟨0, by simp [List.isPrefixOf], rfl, fun j hj => absurd hj (by omega)⟩
   ·have hp : ([c] : List UInt8).isPrefixOf (x :: r) = false := by simp [List.isPrefixOf]; exact fun e => h e.symm
    rw [hp]
    rcases index_one c r with ⟨h1, h2⟩ | ⟨i, h1, h2, h3⟩
    ·rw [h1]
     exact .inl ⟨by simp, by simp [h2]; exact fun e => h e.symm⟩
    ·rw [h1]
     have hb : ((i : Int) == -1) = false := by rw [beq_eq_false_iff_ne]; omega
     refine .inr ⟨i + 1, by rw [hb]; simp, by simpa using h2, fun j hj => ?_⟩
     cases j with
     | zero => simpa using h
     | succ j => simpa using h3 j (by omega)
theorem splitK_eq (c : UInt8) : ∀ (f k : Nat) (l : List UInt8), l.length < f → Lib.countFrom [c] f l = k → Lib.splitK [c] 0 k l = cutL c l
 | 0, k, l, h, _ => absurd h (Nat.not_lt_zero _)
 | f + 1, k, l, h, hk => by
   unfold Lib.countFrom at hk
   rcases index_one c l with ⟨h1, h2⟩ | ⟨i, h1, h2, h3⟩
   ·rw [h1] at hk
    have : k = 0 := by simpa using hk.symm
    subst this
    rw [cutL_none h2]
    rfl
   ·have hb : ((i : Int) == -1) = false := by rw [beq_eq_false_iff_ne]; omega
    rw [h1, hb] at hk
    simp only [Bool.false_eq_true, if_false, Int.toNat_natCast, List.length_cons, List.length_nil] at hk
    have hi : i < l.length := (List.getElem?_eq_some_iff.1 h2).1
    obtain ⟨m, rfl⟩ : ∃ m, k = m + 1 := ⟨k - 1, by omega⟩
    have hk : 1 + Lib.countFrom [c] f (l.drop (i + 1)) = m + 1 := hk
    have ih := splitK_eq c f m (l.drop (i + 1)) (by rw [List.length_drop]; omega) (by omega)
    unfold Lib.splitK
    rw [h1, hb]
    simp only [Bool.false_eq_true, if_false, Int.toNat_natCast, List.length_cons, List.length_nil, Nat.add_zero, Nat.zero_add]
    rw [ih, cutL_at h2 h3]
theorem split_eq (c : UInt8) (l : List UInt8) : Lib.split l [c] = cutL c l := splitK_eq c (l.length + 1) _ l (by omega) rfl
end Go.Proofs.YtfpppijfkeidgaaGreatDoor
