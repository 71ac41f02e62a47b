/- Spacing: two positions at which a marker is found are far enough apart. -/
import Derived.Test.YthckjfbhdjjnkaaDoorGd9
import Derived.Test.YthckjfbhdjjnkaaDoorSpaceMath
set_option linter.unusedSimpArgs false
namespace Go.Proofs.YthckjfbhdjjnkaaDoor
open Go.Ev
def mk0 : Mark := (0, 0, false, 0, 0)
theorem markAt_at {m l : List Int} {e : Int} {p : Nat} {x : Mark} (h : markAt m l e p = some x) : x.2.1 = (p : Int) := by
 unfold markAt at h
 split at h
 ·rw [← Option.some.inj h]
 ·split at h
  ·rw [← Option.some.inj h]
  ·cases h
theorem getD_l {a b : List Mark} {i : Nat} (h : i < a.length) : (a ++ b).getD i mk0 = a.getD i mk0 := by
 rw [List.getD_eq_getElem?_getD, List.getD_eq_getElem?_getD, List.getElem?_append_left h]
theorem getD_e {a : List Mark} {x : Mark} : (a ++ [x]).getD a.length mk0 = x := by
 rw [List.getD_eq_getElem?_getD, List.getElem?_append_right (Nat.le_refl _), Nat.sub_self]
 rfl
theorem findV_props (m l : List Int) (e : Int) : ∀ c, (∀ i, i < (findV m l e c).length → ∃ p, p < c ∧ markAt m l e p = some ((findV m l e c).getD i mk0)) ∧ ∀ i k, k < i → i < (findV m l e c).length → ((findV m l e c).getD k mk0).2.1 < ((findV m l e c).getD i mk0).2.1
 | 0 => ⟨fun i h => by simp [findV] at h, fun i k _ h => by simp [findV] at h⟩
 | c + 1 => by
   obtain ⟨h1, h2⟩ := findV_props m l e c
   rw [findV_succ]
   cases hm : markAt m l e c with
   | none =>
     simp only [List.append_nil]
     exact ⟨fun i hi => by obtain ⟨p, g1, g2⟩ := h1 i hi; exact ⟨p, by omega, g2⟩, h2⟩
   | some x =>
     simp only [List.length_append, List.length_singleton]
     refine ⟨fun i hi => ?_, fun i k hki hi => ?_⟩
     ·by_cases g : i < (findV m l e c).length
      ·rw [getD_l g]
       obtain ⟨p, g1, g2⟩ := h1 i g
       exact ⟨p, by omega, g2⟩
      ·obtain rfl : i = (findV m l e c).length := by omega
       rw [getD_e]
       exact ⟨c, by omega, hm⟩
     ·by_cases g : i < (findV m l e c).length
      ·rw [getD_l g, getD_l (by omega)]
       exact h2 i k hki g
      ·obtain rfl : i = (findV m l e c).length := by omega
       rw [getD_e, getD_l hki, markAt_at hm]
       obtain ⟨p, g1, g2⟩ := h1 k hki
       rw [markAt_at g2]
       omega
end Go.Proofs.YthckjfbhdjjnkaaDoor
