/- Numerals and pieces of texts, as the reference computes them. -/
import Derived.Test.YtfpppijfkeidgaaGreatDoorGz5
import Derived.Test.YtfpppijfkeidgaaGreatDoorWordsLaw
import Derived.Test.YtfpppijfkeidgaaGreatDoorSearch
set_option linter.unusedSimpArgs false
namespace Go.Proofs.YtfpppijfkeidgaaGreatDoor
open Go.Ev
theorem strL_self (s : ByteArray) : strL s.data.toList = s := str_ext rfl
theorem app_toList (a b : ByteArray) : (a ++ b).data.toList = a.data.toList ++ b.data.toList := by
 rw [ByteArray.data_append, Array.toList_append]
def dd (m : Nat) : List UInt8 := if m = 0 then [] else Lib.decDigits m
theorem strL_len (l : List UInt8) : (strL l).size = l.length := strL_size l
def inI (n : Int) : Prop := -9223372036854775808 ≤ n ∧ n ≤ 9223372036854775807
theorem join_lenM {c : UInt8} {m : Nat} : ∀ (xs : List (List UInt8)), (∀ x ∈ xs, x.length ≤ m) → (Lib.join xs [c]).length ≤ (m + 1) * xs.length
 | [], _ => by rw [Lib.join_nil]; simp
 | x :: xs, h => by
   rw [Lib.join_length]
   have key : ∀ ys : List (List UInt8), (∀ x ∈ ys, x.length ≤ m) → Lib.lens ys ≤ m * ys.length := by
    intro ys
    induction ys with
    | nil => intro _; exact Nat.zero_le _
    | cons y ys ih =>
      intro hy
      have h1 := hy y List.mem_cons_self
      have h2 := ih fun z hz => hy z (List.mem_cons_of_mem _ hz)
      have h3 : Lib.lens (y :: ys) = y.length + Lib.lens ys := by simp [Lib.lens]
      rw [h3, List.length_cons, Nat.mul_add, Nat.mul_one]; omega
   have := key (x :: xs) h
   simp only [List.length_cons, List.length_nil, Nat.add_mul, Nat.mul_add, Nat.mul_one, Nat.one_mul] at this ⊢
   omega
theorem join_len (xs : List (List UInt8)) (h : ∀ x ∈ xs, x.length ≤ 20) : (Lib.join xs [32]).length ≤ 21 * xs.length := join_lenM xs h
theorem pieces_size {c : UInt8} : ∀ {l w : List UInt8}, w ∈ cutL c l → w.length ≤ l.length
 | [], w, h => by
   have : w = [] := by simpa [cutL] using h
   subst this; exact Nat.le_refl _
 | x :: r, w, h => by
   unfold cutL at h
   split at h
   ·rcases List.mem_cons.1 h with rfl | h
    ·exact Nat.zero_le _
    ·have := pieces_size h
     rw [List.length_cons]; omega
   ·split at h
    ·rename_i y ys hc
     rcases List.mem_cons.1 h with rfl | h
     ·have := pieces_size (c := c) (l := r) (w := y) (by rw [hc]; exact List.mem_cons_self)
      simp only [List.length_cons]; omega
     ·have := pieces_size (c := c) (l := r) (w := w) (by rw [hc]; exact List.mem_cons_of_mem _ h)
      rw [List.length_cons]; omega
    ·rename_i hc
     exact absurd hc (cutL_ne c r)
theorem getDW_mem {l : List ByteArray} {k : Nat} (h : k < l.length) : l.getD k ByteArray.empty ∈ l := by
 rw [List.getD_eq_getElem?_getD, List.getElem?_eq_getElem h]
 exact List.getElem_mem h
def wordsOf (s : ByteArray) : List ByteArray := (cutL 32 s.data.toList).map strL
theorem wordsOf_size {s w : ByteArray} (h : w ∈ wordsOf s) : w.size ≤ s.size := by
 unfold wordsOf at h
 obtain ⟨x, hx, rfl⟩ := List.mem_map.1 h
 rw [strL_len, sizeW]
 exact pieces_size hx
def joinS (l : List Int) : ByteArray := strL (Lib.join (l.map Lib.itoa) [32])
theorem joinF_nums (l : List Int) (hl : l.length ≤ 1000) (hi : ∀ x ∈ l, inI x) : joinF (l.map decS, ByteArray.mk #[32]) = some (joinS l) := by
 have hj : joinL (l.map decS) (ByteArray.mk #[32]) = Lib.join (l.map Lib.itoa) [32] := by
  unfold joinL
  rw [List.map_map]
  rfl
 rw [joinF_eq _ _ (by simp; omega) (by
  rw [hj]
  have := join_len (l.map Lib.itoa) (fun x hx => by
   obtain ⟨n, hn, rfl⟩ := List.mem_map.1 hx
   exact itoa_len (hi n hn).1 (hi n hn).2)
  simp at this; omega), hj]
 rfl
end Go.Proofs.YtfpppijfkeidgaaGreatDoor
