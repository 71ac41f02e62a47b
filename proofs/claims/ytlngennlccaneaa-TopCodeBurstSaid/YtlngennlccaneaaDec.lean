/- What decoding computes: the word of the code within half of the distance. -/
import Derived.Test.YtlngennlccaneaaPos
set_option linter.unusedSimpArgs false
set_option linter.unusedVariables false
set_option maxRecDepth 100000
namespace Go.Proofs.Ytlngennlccaneaa
open Go.Ev
def diffP (n : Nat) (a b : Wd) : List Nat := (List.range n).filter fun p => decide (a p ≠ b p)
theorem diffP_mem {n : Nat} {a b : Wd} {p : Nat} : p ∈ diffP n a b ↔ p < n ∧ a p ≠ b p := by simp [diffP]
theorem diffP_nodup (n : Nat) (a b : Wd) : (diffP n a b).Nodup := List.nodup_range.filter _
theorem diffP_succ (n : Nat) (a b : Wd) : diffP (n + 1) a b = diffP n a b ++ if a n ≠ b n then [n] else [] := by
 unfold diffP
 rw [List.range_succ, List.filter_append]
 congr 1
 by_cases h : a n ≠ b n
 ·rw [if_pos h]; simp [h]
 ·rw [if_neg h]; simp at h; simp [h]
theorem diffP_len (n : Nat) (a b : Wd) : (diffP n a b).length ≤ n := by
 have := List.length_filter_le (fun p => decide (a p ≠ b p)) (List.range n)
 rw [List.length_range] at this
 exact this
theorem count_loop (a b : Wd) (z : W15) : loopVal step28_2 (0, 0, tupW a, z, tupW b) = some (((diffP 15 a b).length : Int), z, tupW b) := by
 refine of_loop (step := step28_2) (n := 15) (I := fun n y => y = (((diffP n a b).length : Int), (n : Int), tupW a, z, tupW b)) (fun n y hn hy => ?_) (fun y hy => ?_) rfl
 ·subst hy
  have hl := diffP_len n a b
  refine ⟨(((diffP (n + 1) a b).length : Int), ((n + 1 : Nat) : Int), tupW a, z, tupW b), ?_, rfl⟩
  show (bif decide ((n : Int) < 15) then bif (inBounds (n : Int) 15) && true then bif (inBounds (n : Int) 15) && true then bif ((l15 (tupW a)).getD (n : Int).toNat 0) != ((l15 (tupW b)).getD (n : Int).toNat 0) then some (Sum.inl (wr (((diffP n a b).length : Int) + 1), wr ((n : Int) + 1), tupW a, z, tupW b)) else some (Sum.inl (((diffP n a b).length : Int), wr ((n : Int) + 1), tupW a, z, tupW b)) else none else none else some (Sum.inr (((diffP n a b).length : Int), z, tupW b))) = _
  rw [decide_eq_true (by omega : (n : Int) < 15), inB hn, l15_tup, l15_tup, Int.toNat_natCast, lst_get a hn, lst_get b hn, vI_bne, wrS (by omega : n < 1000000), wrS (by omega : (diffP n a b).length < 1000000), diffP_succ]
  by_cases h : a n ≠ b n
  ·rw [decide_eq_true h, if_pos h, List.length_append]; rfl
  ·rw [decide_eq_false h, if_neg h, List.append_nil]; rfl
 ·subst hy
  exact ⟨_, rfl, rfl⟩
theorem nodup_le {l m : List Nat} (hl : l.Nodup) (h : ∀ x ∈ l, x ∈ m) : l.length ≤ m.length := by
 induction l generalizing m with
 | nil => exact Nat.zero_le _
 | cons x l ih =>
   obtain ⟨h1, h2⟩ := List.nodup_cons.1 hl
   have := ih (m := m.erase x) h2 fun y hy => (List.mem_erase_of_ne (fun e : y = x => h1 (by rw [← e]; exact hy))).2 (h y (List.mem_cons_of_mem _ hy))
   rw [List.length_erase_of_mem (h x List.mem_cons_self)] at this
   have h3 : 0 < m.length := List.length_pos_of_mem (h x List.mem_cons_self)
   rw [List.length_cons]; omega
theorem chienL_nodup (e : Nat) (x : Nat → G) : (chienL e x 15).Nodup := List.nodup_range.filter _
theorem chienL_lt {e : Nat} {x : Nat → G} {p : Nat} (h : p ∈ chienL e x 15) : p < 15 := List.mem_range.1 (List.mem_filter.1 h).1
theorem dec_off {w c : Wd} : ∀ p, p < 15 → p ∉ diffP 15 w c → w p = c p := fun p hp hm => by
 by_cases e : w p = c p
 ·exact e
 ·exact absurd (diffP_mem.2 ⟨hp, e⟩) hm
section
variable {w c : Wd} {h : Nat} (h1 : 1 ≤ h) (h3 : h ≤ 3) (hc : IsCode h c) (hd : (diffP 15 w c).length ≤ h)
include h1 h3 hc hd
theorem dec_less {e : Nat} (he : e < (diffP 15 w c).length) : ∃ r2, s39 (syndL w h, (e : Int)) = some r2 ∧ (r2.2 = false ∨ r2.2 = true ∧ ∃ r3, s31 (tupW w, (h : Int), r2.1) = some r3 ∧ r3.2 = false) := by
 obtain ⟨r, hr, hcs⟩ := pos_law w h1 h3 (show e ≤ h by omega)
 refine ⟨r, hr, ?_⟩
 rcases hcs with ⟨rfl, _⟩ | ⟨x, hx, rfl⟩
 ·exact .inl rfl
 ·by_cases hl : (chienL e x 15).length = e
  ·right
   refine ⟨decide_eq_true hl, ?_⟩
   obtain ⟨r3, hr3, hc3⟩ := fill_law (E := chienL e x 15) (fun p hp => chienL_lt hp) (chienL_nodup e x) h1 h3 (by omega) w
   refine ⟨r3, hr3, ?_⟩
   rcases hc3 with ⟨h', _⟩ | ⟨out, rfl, ho, hw⟩
   ·exact h'
   ·exfalso
    let P := (List.range 15).filter fun p => decide (p ∈ chienL e x 15 ∨ p ∈ diffP 15 w c)
    have hPn : P.Nodup := List.nodup_range.filter _
    have hPl : P.length ≤ 2 * h := by
     have := nodup_le (m := chienL e x 15 ++ diffP 15 w c) hPn fun p hp => by
      have := (List.mem_filter.1 hp).2
      rw [decide_eq_true_eq] at this
      exact List.mem_append.2 this
     rw [List.length_append] at this
     omega
    have heq := code_eq ho hc hPn (fun p hp => List.mem_range.1 (List.mem_filter.1 hp).1) hPl fun p hp hm => by
     have hm' : ¬ (p ∈ chienL e x 15 ∨ p ∈ diffP 15 w c) := fun h => hm (List.mem_filter.2 ⟨List.mem_range.2 hp, decide_eq_true h⟩)
     rw [hw p hp (fun h => hm' (.inl h))]
     exact dec_off p hp (fun h => hm' (.inr h))
    have hsub := nodup_le (m := chienL e x 15) (diffP_nodup 15 w c) fun p hp => by
     obtain ⟨p1, p2⟩ := diffP_mem.1 hp
     by_cases hm : p ∈ chienL e x 15
     ·exact hm
     ·exact absurd ((hw p p1 hm).symm.trans (heq p p1)) p2
    omega
  ·left; exact decide_eq_false hl
theorem dec_at : s39 (syndL w h, ((diffP 15 w c).length : Int)) = some (intL (diffP 15 w c), true) ∧ s31 (tupW w, (h : Int), intL (diffP 15 w c)) = some (tupW c, true) := by
 have hn := diffP_nodup 15 w c
 have hp : ∀ p ∈ diffP 15 w c, p < 15 := fun p hp => (diffP_mem.1 hp).1
 have ho := dec_off (w := w) (c := c)
 have hne : ∀ p ∈ diffP 15 w c, w p ≠ c p := fun p hp => (diffP_mem.1 hp).2
 constructor
 ·obtain ⟨r, hr, hcs⟩ := pos_law w h1 h3 hd
  rw [hr]
  rcases hcs with ⟨_, hno⟩ | ⟨x, hx, rfl⟩
  ·obtain ⟨cs, _, _, hs⟩ := pos_solves hn hp hc ho hd
   exact absurd ⟨pos_triv hn hp hc ho hne hd, _, hs⟩ hno
  ·have e : chienL (diffP 15 w c).length x 15 = diffP 15 w c := by
    show List.filter _ _ = List.filter _ _
    refine List.filter_congr fun i hi => ?_
    have hi := List.mem_range.1 hi
    have := pos_found hn hp hc ho hne hd hx hi
    rw [diffP_mem] at this
    by_cases h0 : w i = c i
    ·rw [decide_eq_false (fun e => (this.1 e).2 h0), decide_eq_false (fun e => e h0)]
    ·rw [decide_eq_true (this.2 ⟨hi, h0⟩), decide_eq_true h0]
   rw [e, decide_eq_true rfl]
 ·obtain ⟨r3, hr3, hc3⟩ := fill_law hp hn h1 h3 (show _ ≤ 2 * h by omega) w
  rw [hr3]
  rcases hc3 with ⟨_, _, hno⟩ | ⟨out, rfl, hco, hw⟩
  ·exact absurd ⟨c, hc, fun p hp' hm => (ho p hp' hm).symm⟩ hno
  ·have heq := code_eq hco hc hn hp (show _ ≤ 2 * h by omega) fun p hp' hm => (hw p hp' hm).trans (ho p hp' hm)
   have : tupW out = tupW c := by
    unfold tupW
    rw [heq 0 (by omega), heq 1 (by omega), heq 2 (by omega), heq 3 (by omega), heq 4 (by omega), heq 5 (by omega), heq 6 (by omega), heq 7 (by omega), heq 8 (by omega), heq 9 (by omega), heq 10 (by omega), heq 11 (by omega), heq 12 (by omega), heq 13 (by omega), heq 14 (by omega)]
   rw [this]
theorem dec_law : s28 (tupW w, (h : Int)) = some (tupW c, ((diffP 15 w c).length : Int), true) := by
 obtain ⟨a1, a2⟩ := dec_at h1 h3 hc hd
 have hw1 : wr ((h : Int) + 1) = ((h + 1 : Nat) : Int) := wrS (by omega)
 have key : loopVal step28_0 ((h : Int), syndL w h, wr ((h : Int) + 1), 0, tupW w, z15) = some (.inl (((diffP 15 w c).length : Int), true, tupW c)) := by
  obtain ⟨e, he, rfl⟩ := loop_inv (step := step28_0) (n := (diffP 15 w c).length) (Q := fun e => e = .inl (((diffP 15 w c).length : Int), true, tupW c))
   (I := fun n y => y = ((h : Int), syndL w h, ((h + 1 : Nat) : Int), (n : Int), tupW w, z15)) (fun n y hn hy => .inl (by
     subst hy
     obtain ⟨r2, b1, b2⟩ := dec_less h1 h3 hc hd hn
     refine ⟨_, ?_, rfl⟩
     rcases b2 with b2 | ⟨b2, r3, b3, b4⟩
     ·simp only [step28_0, decide_eq_true (by omega : (n : Int) < ((h + 1 : Nat) : Int)), b1, optE, b2, Bool.not_false, cond_true, wrS (by omega : n < 1000000)]
     ·simp only [step28_0, decide_eq_true (by omega : (n : Int) < ((h + 1 : Nat) : Int)), b1, optE, b2, b3, b4, Bool.not_true, cond_true, cond_false, wrS (by omega : n < 1000000)])) (fun y hy => by
     subst hy
     refine ⟨_, ?_, rfl⟩
     simp only [step28_0, decide_eq_true (by omega : ((diffP 15 w c).length : Int) < ((h + 1 : Nat) : Int)), a1, a2, optE, Bool.not_true, cond_true, cond_false, count_loop]) (diffP 15 w c).length 0 (by omega) _ rfl
  rw [hw1]
  exact he
 show optE (s38 (tupW w, (h : Int))) (fun r1 => optE (loopVal step28_0 ((h : Int), r1, wr ((h : Int) + 1), 0, tupW w, z15)) (fun e2 => sumE e2 (fun e3 => some (e3.2.2, e3.1, e3.2.1)) (fun _ => some (z15, 0, false))) none) none = _
 rw [synds_vI w h3]
 simp only [optE]
 rw [key]; rfl
end
end Go.Proofs.Ytlngennlccaneaa
