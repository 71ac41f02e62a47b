/- Numbers of any size to the base 10^9. -/
import Derived.Test.YtfpppijfkeidgaaGreatDoorSearch
import Derived.Test.YtfpppijfkeidgaaGreatDoorGz5
set_option linter.unusedSimpArgs false
namespace Go.Proofs.YtfpppijfkeidgaaGreatDoor
open Go.Ev
def dval : List Int → Int
 | [] => 0
 | d :: l => d + 1000000000 * dval l
def Dig (l : List Int) : Prop := ∀ d ∈ l, 0 ≤ d ∧ d < 1000000000
def trim : List Int → List Int
 | [] => []
 | d :: l => match trim l with
   | [] => if d = 0 then [] else [d]
   | e :: t => d :: e :: t
theorem trim_cons (d : Int) (l : List Int) : trim (d :: l) = if trim l = [] then (if d = 0 then [] else [d]) else d :: trim l := by
 have : trim (d :: l) = (match trim l with | [] => if d = 0 then [] else [d] | e :: t => d :: e :: t) := rfl
 rw [this]
 cases trim l with
 | nil => simp
 | cons e t => simp
theorem dval_trim : ∀ l : List Int, dval (trim l) = dval l
 | [] => rfl
 | d :: l => by
   have ih := dval_trim l
   rw [trim_cons]
   split
   ·rename_i h
    rw [h] at ih
    split
    ·rename_i hd; simp only [dval] at ih ⊢; omega
    ·simp only [dval] at ih ⊢; omega
   ·simp only [dval, ih]
theorem trim_len : ∀ l : List Int, (trim l).length ≤ l.length
 | [] => Nat.le_refl _
 | d :: l => by
   have ih := trim_len l
   rw [trim_cons]
   split
   ·split <;> simp
   ·simp only [List.length_cons]; omega
theorem dig_trim : ∀ {l : List Int}, Dig l → Dig (trim l)
 | [], _ => fun _ h => by cases h
 | d :: l, h => by
   have ih := dig_trim (l := l) fun x hx => h x (List.mem_cons_of_mem _ hx)
   rw [trim_cons]
   intro x hx
   split at hx
   ·split at hx
    ·cases hx
    ·obtain rfl := List.mem_singleton.1 hx; exact h _ List.mem_cons_self
   ·rcases List.mem_cons.1 hx with rfl | hx
    ·exact h _ List.mem_cons_self
    ·exact ih x hx
theorem trim_trim : ∀ l : List Int, trim (trim l) = trim l
 | [] => rfl
 | d :: l => by
   have ih := trim_trim l
   rw [trim_cons]
   split
   ·split
    ·rfl
    ·rename_i h; simp [trim, h]
   ·rename_i h
    rw [trim_cons, ih, if_neg h]
theorem trim_drop : ∀ {l : List Int} (i : Nat), trim l = l → trim (l.drop i) = l.drop i
 | [], i, _ => by simp [trim]
 | d :: l, 0, h => h
 | d :: l, i + 1, h => by
   rw [List.drop_succ_cons]
   refine trim_drop i ?_
   rw [trim_cons] at h
   split at h
   ·rename_i h0
    split at h
    ·cases h
    ·obtain ⟨_, rfl⟩ := List.cons.inj h; rfl
   ·exact (List.cons.inj h).2
theorem dval_nonneg : ∀ {l : List Int}, Dig l → 0 ≤ dval l
 | [], _ => Int.le_refl _
 | d :: l, h => by
   have ih := dval_nonneg (l := l) fun x hx => h x (List.mem_cons_of_mem _ hx)
   have := (h d List.mem_cons_self).1
   simp only [dval]; omega
theorem dval_zero : ∀ {l : List Int}, Dig l → trim l = l → dval l = 0 → l = []
 | [], _, _, _ => rfl
 | d :: l, h, ht, h0 => by
   have hl : Dig l := fun x hx => h x (List.mem_cons_of_mem _ hx)
   have hd := h d List.mem_cons_self
   have hn := dval_nonneg hl
   simp only [dval] at h0
   have := dval_zero hl (trim_drop 1 ht) (by omega)
   subst this
   have : d = 0 := by omega
   subst this
   simp [trim] at ht
def sgI (n : Int) : Int := if n < 0 then -1 else if n = 0 then 0 else 1
def abI (n : Int) : Int := if n < 0 then -n else n
structure IsW (w : Int × List Int) (n : Int) (k : Nat) : Prop where
 sign : w.1 = sgI n
 dig : Dig w.2
 trim : trim w.2 = w.2
 val : dval w.2 = abI n
 len : w.2.length ≤ k
theorem IsW.of {sg : Int} {l : List Int} {n : Int} {k : Nat} (hd : Dig l) (hv : dval l = abI n) (hk : l.length ≤ k) (hs : n ≠ 0 → sg = sgI n) : IsW (if Go.Proofs.YtfpppijfkeidgaaGreatDoor.trim l = [] then 0 else sg, Go.Proofs.YtfpppijfkeidgaaGreatDoor.trim l) n k := by
 have hz : Go.Proofs.YtfpppijfkeidgaaGreatDoor.trim l = [] ↔ n = 0 := by
  constructor
  ·intro h
   have := dval_trim l
   rw [h, hv] at this
   simp only [dval, abI] at this
   split at this <;> omega
  ·intro h
   refine dval_zero (dig_trim hd) (trim_trim l) ?_
   rw [dval_trim, hv, h]; rfl
 refine ⟨?_, dig_trim hd, trim_trim l, by rw [dval_trim, hv], Nat.le_trans (trim_len l) hk⟩
 show (if _ then _ else _) = _
 by_cases h : n = 0
 ·rw [if_pos (hz.2 h), h]; rfl
 ·rw [if_neg (fun e => h (hz.1 e)), hs h]
theorem IsW.more {w : Int × List Int} {n : Int} {k m : Nat} (h : IsW w n k) (hm : k ≤ m) : IsW w n m := ⟨h.sign, h.dig, h.trim, h.val, Nat.le_trans h.len hm⟩
def cmpI (m n : Int) : Int := if m < n then -1 else if m = n then 0 else 1
theorem IsW.zero {w : Int × List Int} {n : Int} {k : Nat} (h : IsW w n k) : (w.1 == 0) = decide (n = 0) := by
 rw [h.sign]
 unfold sgI
 by_cases c : n < 0
 ·rw [if_pos c, decide_eq_false (by omega)]; rfl
 ·rw [if_neg c]
  by_cases d : n = 0
  ·rw [if_pos d, decide_eq_true d]; rfl
  ·rw [if_neg d, decide_eq_false d]; rfl
end Go.Proofs.YtfpppijfkeidgaaGreatDoor
