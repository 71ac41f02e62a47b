/- The library's functions on strings, as the printed specifications call them: what they answer, in words of lists of bytes. -/
import Derived.Test.YtfpppijfkeidgaaGreatDoorLib5
import Derived.Test.YtfpppijfkeidgaaGreatDoorNumMath
import Derived.Test.YtfpppijfkeidgaaGreatDoorSplitMath
set_option linter.unusedSimpArgs false
namespace Go.Proofs.YtfpppijfkeidgaaGreatDoor
open Go.Ev
theorem sizeW (s : ByteArray) : s.size = s.data.toList.length := by
 rw [Array.length_toList]; rfl
def decS (n : Int) : ByteArray := strL (Lib.itoa n)
theorem decS_list (n : Int) : (decS n).data.toList = Lib.itoa n := rfl
theorem itoaF_eq {n : Int} (h1 : -9223372036854775808 ≤ n) (h2 : n ≤ 9223372036854775807) : itoaF n = some (decS n) := by
 unfold itoaF
 rw [decide_eq_true h1, decide_eq_true h2]
 rfl
theorem dd_length : ∀ (k m : Nat), m < 10 ^ k → 1 ≤ k → (Lib.decDigits m).length ≤ k := by
 intro k
 induction k with
 | zero => intro m _ h; omega
 | succ k ih =>
   intro m hm _
   by_cases h0 : m < 10
   ·rw [dd_small h0]; simp
   ·rw [dd_big h0, List.length_append]
    have hk : 1 ≤ k := by
     rcases Nat.eq_zero_or_pos k with e | e
     ·subst e; omega
     ·exact e
    have := ih (m / 10) (by rw [Nat.pow_succ] at hm; omega) hk
    simp; omega
theorem itoa_len {n : Int} (h1 : -9223372036854775808 ≤ n) (h2 : n ≤ 9223372036854775807) : (Lib.itoa n).length ≤ 20 := by
 rcases Int.lt_or_le n 0 with hn | hn
 ·obtain ⟨m, rfl⟩ : ∃ m : Nat, n = -(m : Int) := ⟨n.natAbs, by omega⟩
  rw [itoa_neg (by omega), List.length_cons]
  have := dd_length 19 m (by omega) (by omega)
  omega
 ·obtain ⟨m, rfl⟩ : ∃ m : Nat, n = (m : Int) := ⟨n.toNat, by omega⟩
  rw [itoa_nat]
  have := dd_length 19 m (by omega) (by omega)
  omega
theorem splitF_eq (s : ByteArray) (c : UInt8) (hs : s.size ≤ 1000000) : splitF (s, ByteArray.mk #[c]) = some ((cutL c s.data.toList).map strL) := by
 unfold splitF
 have h1 : (ByteArray.mk #[c]).size = 1 := rfl
 simp only [h1]
 rw [decide_eq_true (show s.size < 4294967281 by omega), decide_eq_true (show 1 ≤ 1 by omega)]
 show some (Lib.splitB (ByteArray.mk #[c]) 0 (Lib.countB s (ByteArray.mk #[c])) s) = _
 congr 1
 have h := Lib.splitB_data (ByteArray.mk #[c]) 0 (Lib.countB s (ByteArray.mk #[c])) s
 have h2 : Lib.splitK (ByteArray.mk #[c]).data.toList 0 (Lib.countB s (ByteArray.mk #[c])) s.data.toList = cutL c s.data.toList := split_eq c s.data.toList
 rw [h2] at h
 rw [← h, List.map_map]
 have : (strL ∘ fun x : ByteArray => x.data.toList) = id := funext fun s => str_ext rfl
 rw [this, List.map_id]
theorem trimF_eq (w : ByteArray) : trimF (w, ByteArray.mk #[45]) = some (strL (trimS w.data.toList)) := by
 unfold trimF
 congr 2
 show Lib.trimPrefix w.data.toList [45] = trimS w.data.toList
 unfold Lib.trimPrefix trimS Lib.hasPrefix
 cases w.data.toList with
 | nil => rfl
 | cons c r =>
   by_cases hc : c = 45
   ·subst hc; simp [List.isPrefixOf]
   ·have : ¬ (45 = c) := fun e => hc e.symm
    simp [List.isPrefixOf, hc, this]
theorem atoi_range {l : List UInt8} {v : Int} (h : Lib.atoiAll l = .ok v) : -9223372036854775808 ≤ v ∧ v ≤ 9223372036854775807 := by
 unfold Lib.atoiAll at h
 split at h
 ·cases h
 ·simp only [] at h
  split at h
  ·cases h
  ·cases h
  ·split at h
   ·cases h
   ·rename_i h1
    split at h
    ·cases h
    ·rename_i h2
     injection h with h
     subst h
     split
     ·rename_i hn
      have : ¬ (9223372036854775808 < _) := fun e => h2 ⟨hn, e⟩
      omega
     ·rename_i hn
      have : ¬ (9223372036854775808 ≤ _) := fun e => h1 ⟨hn, e⟩
      omega
theorem word_cases (w : ByteArray) (hw : w.size ≤ 1000000) :
 (∃ v, atoiF w = some (v, false) ∧ -9223372036854775808 ≤ v ∧ v ≤ 9223372036854775807 ∧ ∀ d, d ≤ 18 → numR w.data.toList d = if Lib.itoa v = w.data.toList ∧ (trimS w.data.toList).length ≤ d then some v else none)
 ∨ (∃ v, atoiF w = some (v, true) ∧ ∀ d, d ≤ 18 → numR w.data.toList d = none) := by
 have hs : decide (w.size ≤ 1000000000) = true := decide_eq_true (by omega)
 cases ha : Lib.atoiAll w.data.toList with
 | ok v =>
   have hr := atoi_range ha
   refine .inl ⟨v, by unfold atoiF; rw [hs, ha]; rfl, hr.1, hr.2, fun d hd => ?_⟩
   rw [← num_same _ hd]
   unfold numP
   rw [ha]
 | «syntax» =>
   refine .inr ⟨0, by unfold atoiF; rw [hs, ha]; rfl, fun d hd => ?_⟩
   rw [← num_same _ hd]
   unfold numP
   rw [ha]
 | range =>
   refine .inr ⟨Lib.atoiSat w.data.toList, by unfold atoiF; rw [hs, ha]; rfl, fun d hd => ?_⟩
   rw [← num_same _ hd]
   unfold numP
   rw [ha]
theorem numR_own {v : Int} {d : Nat} (h : (trimS (Lib.itoa v)).length ≤ d) : numR (Lib.itoa v) d = some v := numR_iff.2 ⟨rfl, h⟩
theorem trim_itoa {v : Int} {d : Nat} (hd : 1 ≤ d) (h1 : -(10 ^ d : Nat) < v) (h2 : v < (10 ^ d : Nat)) : (trimS (Lib.itoa v)).length ≤ d := by
 rcases Int.lt_or_le v 0 with hn | hn
 ·obtain ⟨m, rfl⟩ : ∃ m : Nat, v = -(m : Int) := ⟨v.natAbs, by omega⟩
  rw [itoa_neg (by omega)]
  exact dd_length d m (by omega) hd
 ·obtain ⟨m, rfl⟩ : ∃ m : Nat, v = (m : Int) := ⟨v.toNat, by omega⟩
  rw [itoa_nat]
  have hs : (Lib.decDigits m).head? ≠ some 45 := fun e => by
   have := head_dig (dd_spec m).1 e
   revert this; decide
  unfold trimS
  rw [if_neg hs]
  exact dd_length d m (by omega) hd
theorem itoa_mem {n : Int} {c : UInt8} (h : c ∈ Lib.itoa n) : c = 45 ∨ isDig c = true := by
 rcases Int.lt_or_le n 0 with hn | hn
 ·obtain ⟨m, rfl⟩ : ∃ m : Nat, n = -(m : Int) := ⟨n.natAbs, by omega⟩
  rw [itoa_neg (by omega)] at h
  rcases List.mem_cons.1 h with rfl | h
  ·exact .inl rfl
  ·exact .inr (List.all_eq_true.1 (dd_spec m).1 c h)
 ·obtain ⟨m, rfl⟩ : ∃ m : Nat, n = (m : Int) := ⟨n.toNat, by omega⟩
  rw [itoa_nat] at h
  exact .inr (List.all_eq_true.1 (dd_spec m).1 c h)
theorem itoa_space (n : Int) : (32 : UInt8) ∉ Lib.itoa n := fun h => by
 rcases itoa_mem h with e | e
 ·cases e
 ·revert e; decide
theorem cutL_app {c : UInt8} : ∀ {x : List UInt8} {l : List UInt8}, c ∉ x → cutL c (x ++ c :: l) = x :: cutL c l
 | [], l, _ => by rw [List.nil_append, cutL, if_pos rfl]
 | y :: x, l, h => by
   have h1 : y ≠ c := fun e => h (by simp [e])
   have h2 : c ∉ x := fun e => h (by simp [e])
   rw [List.cons_append, cutL, if_neg h1, cutL_app h2]
theorem cutL_join {c : UInt8} : ∀ (x : List UInt8) (xs : List (List UInt8)), c ∉ x → (∀ y ∈ xs, c ∉ y) → cutL c (Lib.join (x :: xs) [c]) = x :: xs
 | x, [], h, _ => by rw [Lib.join_one, cutL_none h]
 | x, y :: xs, h, hs => by
   have e : Lib.join (x :: y :: xs) [c] = x ++ c :: Lib.join (y :: xs) [c] := by
    rw [Lib.join_cons, Lib.join_cons]
    simp [Lib.joinTail]
   rw [e, cutL_app h, cutL_join y xs (hs y List.mem_cons_self) fun z hz => hs z (List.mem_cons_of_mem _ hz)]
theorem joinF_eq (xs : List ByteArray) (sep : ByteArray) (h1 : xs.length ≤ 1000000) (h2 : (joinL xs sep).length ≤ 1000000000) : joinF (xs, sep) = some (strL (joinL xs sep)) := by
 unfold joinF
 simp only [decide_eq_true h1, decide_eq_true h2]
 rfl
end Go.Proofs.YtfpppijfkeidgaaGreatDoor
