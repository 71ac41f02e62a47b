/- Errors' positions: the equations of the locator polynomial. -/
import Derived.Test.YtlngennlccaneaaRs
set_option linter.unusedSimpArgs false
set_option linter.unusedVariables false
namespace Go.Proofs.Ytlngennlccaneaa
theorem sumG_map {α β : Type} (g : α → β) (f : β → G) (l : List α) : sumG (l.map g) f = sumG l fun x => f (g x) := by
 induction l with
 | nil => rfl
 | cons x l ih => rw [List.map_cons, sumG_cons, sumG_cons, ih]
theorem sumG_shift (n : Nat) (f : Nat → G) : sumG (List.range (n + 1)) f = ga (f 0) (sumG (List.range n) fun i => f (i + 1)) := by
 rw [List.range_succ_eq_map, sumG_cons, sumG_map]
theorem sumG_last (n : Nat) (f : Nat → G) : sumG (List.range (n + 1)) f = ga (sumG (List.range n) f) (f n) := by
 rw [List.range_succ]
 generalize List.range n = l
 induction l with
 | nil => simp only [List.nil_append, sumG_cons, sumG_nil, ga_zero, zero_ga]
 | cons x l ih => rw [List.cons_append, sumG_cons, sumG_cons, ih, ga_assoc]
theorem sumG_rev (n : Nat) (f : Nat → G) : sumG (List.range n) f = sumG (List.range n) fun i => f (n - 1 - i) := by
 induction n generalizing f with
 | zero => rfl
 | succ n ih =>
   rw [sumG_shift, sumG_last, ih (fun i => f (i + 1)), ga_comm]
   congr 1
   ·refine sumG_congr fun i hi => ?_
    have := List.mem_range.1 hi
    show f (n - 1 - i + 1) = f (n + 1 - 1 - i)
    congr 1; omega
   ·show f 0 = f (n + 1 - 1 - n)
    congr 1; omega
theorem sumG_swap {α β : Type} (l : List α) (m : List β) (f : α → β → G) : sumG l (fun x => sumG m (f x)) = sumG m fun y => sumG l fun x => f x y := by
 induction l with
 | nil => exact (sumG_zero fun _ _ => rfl).symm
 | cons x l ih =>
   rw [sumG_cons, ih, ← sumG_ga]
   exact sumG_congr fun y _ => (sumG_cons x l fun x => f x y).symm
theorem sumG_gmr {α : Type} (l : List α) (c : G) (f : α → G) : gm (sumG l f) c = sumG l fun x => gm (f x) c := by
 rw [gm_comm, sumG_gm]; exact sumG_congr fun x _ => gm_comm _ _
theorem evG_sum (x : G) (cs : List G) : evG x cs = sumG (List.range cs.length) fun i => gm (cs.getD i 0) (gp x i) := by
 induction cs with
 | nil => rfl
 | cons c cs ih =>
   rw [List.length_cons, sumG_shift]
   show ga c (gm x (evG x cs)) = ga (gm c 1) _
   rw [gm_one, ih, sumG_gm]
   congr 1
   refine sumG_congr fun i _ => ?_
   show gm x (gm (cs.getD i 0) (gp x i)) = gm (cs.getD i 0) (gm x (gp x i))
   rw [gm_left]
def posM (w : Wd) (e : Nat) : Mx := fun j k => if k < e then synd w (j + e - k) else synd w (j + e + 1)
theorem pos_dot (w : Wd) (e : Nat) (x : Nat → G) (j : Nat) : dotW e (posM w e j) x = sumG (List.range e) fun i => gm (synd w (j + 1 + i)) (x (e - 1 - i)) := by
 unfold dotW
 rw [sumG_rev]
 refine sumG_congr fun i hi => ?_
 have := List.mem_range.1 hi
 show gm (if e - 1 - i < e then synd w (j + e - (e - 1 - i)) else _) _ = _
 rw [if_pos (by omega), show j + e - (e - 1 - i) = j + 1 + i by omega]
def chien (e : Nat) (x : Nat → G) (i : Nat) : G := ga 1 (sumG (List.range e) fun k => gm (x k) (gp (gi (loc i)) (k + 1)))
theorem chien_eq (e : Nat) (x : Nat → G) {i : Nat} (hi : i < 15) : gm (gp (loc i) e) (chien e x i) = ga (gp (loc i) e) (sumG (List.range e) fun k => gm (x (e - 1 - k)) (gp (loc i) k)) := by
 unfold chien
 rw [gm_ga, gm_one, sumG_gm]
 congr 1
 rw [sumG_rev]
 refine sumG_congr fun k hk => ?_
 have hk := List.mem_range.1 hk
 rw [gm_left]
 congr 1
 have hinv : ∀ n, gm (gp (loc i) n) (gp (gi (loc i)) n) = 1 := fun n => by
  induction n with
  | zero => exact gm_one 1
  | succ n ih =>
    show gm (gm (loc i) (gp (loc i) n)) (gm (gi (loc i)) (gp (gi (loc i)) n)) = 1
    rw [gm_assoc, gm_left (gp (loc i) n), ← gm_assoc, gm_gi _ (loc_ne i hi), one_gm, ih]
 have e1 : gp (loc i) e = gm (gp (loc i) k) (gp (loc i) (e - 1 - k + 1)) := by rw [← gp_add]; congr 1; omega
 rw [e1, gm_assoc, hinv, gm_one]
theorem gp_ne {a : G} (h : a ≠ 0) : ∀ n, gp a n ≠ 0
 | 0 => show (1 : G) ≠ 0 by decide
 | n + 1 => fun e => by
   rcases gm_eq_zero _ _ (show gm a (gp a n) = 0 from e) with h' | h'
   ·exact h h'
   ·exact gp_ne h n h'
section
variable {Q : List Nat} (hn : Q.Nodup) (hp : ∀ p ∈ Q, p < 15) {w c : Wd} {h : Nat} (hc : IsCode h c) (hd : ∀ p, p < 15 → p ∉ Q → w p = c p)
include hn hp hc hd
theorem synd_err {j : Nat} (h1 : 1 ≤ j) (h2 : j ≤ 2 * h) : synd w j = mom Q (diff w c) j := by
 rw [← mom_sub hn hp (diff w c) (fun p a b => by show ga (w p) (c p) = 0; rw [hd p a b, ga_self]), synd_diff, hc j h1 h2, ga_zero]
theorem synd_poly (n : Nat) (f : Nat → G) {j : Nat} (h2 : j + n ≤ 2 * h) : sumG (List.range n) (fun i => gm (synd w (j + 1 + i)) (f i)) = mom Q (fun p => gm (diff w c p) (sumG (List.range n) fun i => gm (f i) (gp (loc p) i))) (j + 1) := by
 rw [sumG_congr (g := fun i => sumG Q fun p => gm (gm (diff w c p) (gp (loc p) (j + 1 + i))) (f i)) (fun i hi => by
  have := List.mem_range.1 hi
  rw [synd_err hn hp hc hd (by omega) (by omega)]
  exact sumG_gmr Q (f i) _)]
 rw [sumG_swap]
 refine sumG_congr fun p _ => ?_
 rw [gm_assoc, gm_comm (sumG _ _), sumG_gm, sumG_gm]
 refine sumG_congr fun i _ => ?_
 rw [gp_add, gm_assoc, gm_assoc]
 congr 1
 congr 1
 exact gm_comm _ _
theorem pos_solves (hl : Q.length ≤ h) : ∃ cs : List G, cs.length = Q.length ∧ rootsP (Q.map loc) = cs ++ [1] ∧ SolvesM (2 * h - Q.length) Q.length (posM w Q.length) fun k => cs.getD (Q.length - 1 - k) 0 := by
 obtain ⟨cs, h1, h2⟩ := roots_monic (Q.map loc)
 rw [List.length_map] at h2
 refine ⟨cs, h2, h1, fun j hj => ?_⟩
 rw [pos_dot]
 have hU : posM w Q.length j Q.length = synd w (j + Q.length + 1) := by
  show (if Q.length < Q.length then _ else _) = _
  rw [if_neg (Nat.lt_irrefl _)]
 rw [hU]
 have hz : ∀ p ∈ Q, sumG (List.range (Q.length + 1)) (fun i => gm ((cs ++ [1]).getD i 0) (gp (loc p) i)) = 0 := fun p hpQ => by
  have := (roots_ev (Q.map loc) (loc p)).2 (List.mem_map.2 ⟨p, hpQ, rfl⟩)
  rw [evG_sum, h1, List.length_append, List.length_singleton, h2] at this
  exact this
 have key := synd_poly hn hp hc hd (Q.length + 1) (fun i => (cs ++ [1]).getD i 0) (j := j) (by omega)
 have hr : mom Q (fun p => gm (diff w c p) (sumG (List.range (Q.length + 1)) fun i => gm ((cs ++ [1]).getD i 0) (gp (loc p) i))) (j + 1) = 0 := sumG_zero fun p hpQ => by
  show gm (gm _ (sumG _ _)) _ = 0
  rw [hz p hpQ, gm_zero, zero_gm]
 rw [hr, sumG_last] at key
 have e1 : (cs ++ [1]).getD Q.length 0 = 1 := by
  rw [List.getD_eq_getElem?_getD, List.getElem?_append_right (by omega), h2, Nat.sub_self]; rfl
 rw [e1, gm_one] at key
 have e2 := (ga_eq_zero _ _).1 key
 rw [show j + Q.length + 1 = j + 1 + Q.length by omega, ← e2]
 refine sumG_congr fun i hi => ?_
 have hi := List.mem_range.1 hi
 show gm _ (cs.getD (Q.length - 1 - (Q.length - 1 - i)) 0) = _
 rw [show Q.length - 1 - (Q.length - 1 - i) = i by omega]
 congr 1
 rw [List.getD_eq_getElem?_getD, List.getD_eq_getElem?_getD, List.getElem?_append_left (by omega)]
theorem pos_triv (hne : ∀ p ∈ Q, w p ≠ c p) (hl : Q.length ≤ h) : Triv (2 * h - Q.length) Q.length (posM w Q.length) := by
 intro x hx i hi
 have hm := mom_zero (e := fun p => gm (diff w c p) (sumG (List.range Q.length) fun i => gm (x (Q.length - 1 - i)) (gp (loc p) i))) hn hp (m := Q.length) (Nat.le_refl _) fun j j1 j2 => by
  obtain ⟨j, rfl⟩ : ∃ i, j = i + 1 := ⟨j - 1, by omega⟩
  rw [← synd_poly hn hp hc hd Q.length (fun i => x (Q.length - 1 - i)) (j := j) (by omega), ← pos_dot]
  exact hx j (by omega)
 have hz : ∀ p ∈ Q, evG (loc p) ((List.range Q.length).map fun i => x (Q.length - 1 - i)) = 0 := fun p hpQ => by
  rw [evG_sum, List.length_map, List.length_range]
  rw [sumG_congr (g := fun i => gm (x (Q.length - 1 - i)) (gp (loc p) i)) (fun i hi => by
   rw [List.getD_eq_getElem?_getD, List.getElem?_map, List.getElem?_range (List.mem_range.1 hi)]; rfl)]
  rcases gm_eq_zero _ _ (hm p hpQ) with h' | h'
  ·exact absurd ((ga_eq_zero _ _).1 h') (hne p hpQ)
  ·exact h'
 have hX : (Q.map loc).Nodup := by
  rw [List.nodup_iff_pairwise_ne, List.pairwise_map]
  exact hn.imp_of_mem fun ha hb hab e => hab (loc_inj _ (hp _ ha) _ (hp _ hb) e)
 have := roots_zero (Q.map loc) hX ((List.range Q.length).map fun i => x (Q.length - 1 - i)) (by simp) (fun y hy => by
  obtain ⟨p, hpQ, rfl⟩ := List.mem_map.1 hy
  exact hz p hpQ) (x i) (List.mem_map.2 ⟨Q.length - 1 - i, List.mem_range.2 (by omega), by rw [show Q.length - 1 - (Q.length - 1 - i) = i by omega]⟩)
 exact this
theorem pos_found (hne : ∀ p ∈ Q, w p ≠ c p) (hl : Q.length ≤ h) {x : Nat → G} (hx : SolvesM (2 * h - Q.length) Q.length (posM w Q.length) x) {i : Nat} (hi : i < 15) : chien Q.length x i = 0 ↔ i ∈ Q := by
 obtain ⟨cs, h1, h2, h3⟩ := pos_solves hn hp hc hd hl
 have ht := pos_triv hn hp hc hd hne hl
 have hxc : ∀ k, k < Q.length → x k = cs.getD (Q.length - 1 - k) 0 := fun k hk => by
  have := ht (fun i => ga (x i) (cs.getD (Q.length - 1 - i) 0)) (fun j hj => by
   have a := hx j hj
   have b := h3 j hj
   have : dotW Q.length (posM w Q.length j) (fun i => ga (x i) (cs.getD (Q.length - 1 - i) 0)) = ga (dotW Q.length (posM w Q.length j) x) (dotW Q.length (posM w Q.length j) fun i => cs.getD (Q.length - 1 - i) 0) := by
    unfold dotW
    rw [← sumG_ga]
    exact sumG_congr fun i _ => gm_ga _ _ _
   rw [this, a, b, ga_self]) k hk
  exact (ga_eq_zero _ _).1 this
 have e1 : gm (gp (loc i) Q.length) (chien Q.length x i) = evG (loc i) (rootsP (Q.map loc)) := by
  rw [chien_eq _ _ hi, evG_sum, h2, List.length_append, List.length_singleton, h1, sumG_last, ga_comm]
  congr 1
  ·refine sumG_congr fun k hk => ?_
   have hk := List.mem_range.1 hk
   rw [hxc _ (by omega), show Q.length - 1 - (Q.length - 1 - k) = k by omega]
   congr 1
   rw [List.getD_eq_getElem?_getD, List.getD_eq_getElem?_getD, List.getElem?_append_left (by omega)]
  ·rw [List.getD_eq_getElem?_getD, List.getElem?_append_right (by omega), h1, Nat.sub_self]
   exact (one_gm _).symm
 constructor
 ·intro h0
  rw [h0, gm_zero] at e1
  obtain ⟨p, hpQ, he⟩ := List.mem_map.1 ((roots_ev _ _).1 e1.symm)
  rw [← loc_inj p (hp p hpQ) i hi he]; exact hpQ
 ·intro hiQ
  rw [(roots_ev _ _).2 (List.mem_map.2 ⟨i, hiQ, rfl⟩)] at e1
  rcases gm_eq_zero _ _ e1 with h' | h'
  ·exact absurd h' (gp_ne (loc_ne i hi) _)
  ·exact h'
end
end Go.Proofs.Ytlngennlccaneaa
