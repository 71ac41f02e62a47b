/- Motions of an antenna, in plain Lean: the least travel through positions for targets, and the first of the motions that have it. -/
import Derived.Test.YthabingkfmlbbaaLoops
set_option linter.unusedSimpArgs false
set_option linter.unusedVariables false
namespace Go.Proofs.Ythabingkfmlbbaa
open Go.Ev
def NEV : Int := 1152921504606846976
def dist (a b : Int) : Int := if a ≤ b then b - a else a - b
theorem dist_nonneg (a b : Int) : 0 ≤ dist a b := by unfold dist; split <;> omega
section
variable (ats rest : List Int) (rate p : Int)
def cost (j : Nat) : Int := dist p (ats.getD j 0) + rest.getD j 0
def bestN : Nat → Int
 | 0 => NEV
 | k + 1 => if dist p (ats.getD k 0) ≤ rate ∧ cost ats rest p k < bestN k then cost ats rest p k else bestN k
def bestV : Int := bestN ats rest rate p ats.length
theorem bestN_spec : ∀ k, bestN ats rest rate p k ≤ NEV ∧ (∀ j, j < k → dist p (ats.getD j 0) ≤ rate → bestN ats rest rate p k ≤ cost ats rest p j) ∧ (bestN ats rest rate p k = NEV ∨ ∃ j, j < k ∧ dist p (ats.getD j 0) ≤ rate ∧ bestN ats rest rate p k = cost ats rest p j)
 | 0 => ⟨Int.le_refl _, fun j h => by omega, .inl rfl⟩
 | k + 1 => by
   obtain ⟨h1, h2, h3⟩ := bestN_spec k
   by_cases hc : dist p (ats.getD k 0) ≤ rate ∧ cost ats rest p k < bestN ats rest rate p k
   ·simp only [bestN, if_pos hc]
    refine ⟨by omega, fun j hj hr => ?_, .inr ⟨k, by omega, hc.1, rfl⟩⟩
    by_cases e : j = k
    ·rw [e]; exact Int.le_refl _
    ·have := h2 j (by omega) hr; omega
   ·simp only [bestN, if_neg hc]
    refine ⟨h1, fun j hj hr => ?_, ?_⟩
    ·by_cases e : j = k
     ·subst e
      have : ¬ cost ats rest p j < bestN ats rest rate p j := fun h => hc ⟨hr, h⟩
      omega
     ·exact h2 j (by omega) hr
    ·rcases h3 with h | ⟨j, hj, hr, h⟩
     ·exact .inl h
     ·exact .inr ⟨j, by omega, hr, h⟩
theorem bestV_spec : bestV ats rest rate p ≤ NEV ∧ (∀ j, j < ats.length → dist p (ats.getD j 0) ≤ rate → bestV ats rest rate p ≤ cost ats rest p j) ∧ (bestV ats rest rate p = NEV ∨ ∃ j, j < ats.length ∧ dist p (ats.getD j 0) ≤ rate ∧ bestV ats rest rate p = cost ats rest p j) := bestN_spec ats rest rate p ats.length
theorem bestV_eq {x : Int} (h1 : x ≤ NEV) (h2 : ∀ j, j < ats.length → dist p (ats.getD j 0) ≤ rate → x ≤ cost ats rest p j) (h3 : x = NEV ∨ ∃ j, j < ats.length ∧ dist p (ats.getD j 0) ≤ rate ∧ x = cost ats rest p j) : x = bestV ats rest rate p := by
 obtain ⟨b1, b2, b3⟩ := bestV_spec ats rest rate p
 have a : x ≤ bestV ats rest rate p := by
  rcases b3 with h | ⟨j, hj, hr, h⟩
  ·omega
  ·rw [h]; exact h2 j hj hr
 have b : bestV ats rest rate p ≤ x := by
  rcases h3 with h | ⟨j, hj, hr, h⟩
  ·omega
  ·rw [h]; exact b2 j hj hr
 omega
end
structure Win (v : Nat → Int) (lo hi : Nat) (W : List Nat) : Prop where
 range : ∀ i ∈ W, lo ≤ i ∧ i < hi
 sort : W.Pairwise fun i j => i < j ∧ v i < v j
 dom : ∀ j, lo ≤ j → j < hi → ∃ i ∈ W, j ≤ i ∧ v i ≤ v j
theorem Win.nil {v : Nat → Int} {lo : Nat} : Win v lo lo [] := ⟨fun i h => (by cases h), List.Pairwise.nil, fun j h1 h2 => by omega⟩
def popW (v : Nat → Int) (x : Int) (W : List Nat) : List Nat := W.filter fun i => decide (v i < x)
theorem Win.push {v : Nat → Int} {lo hi : Nat} {W : List Nat} (h : Win v lo hi W) (hlo : lo ≤ hi) : Win v lo (hi + 1) (popW v (v hi) W ++ [hi]) := by
 refine ⟨fun i hi' => ?_, ?_, fun j h1 h2 => ?_⟩
 ·rcases List.mem_append.1 hi' with h' | h'
  ·have := h.range i (List.mem_filter.1 h').1; omega
  ·rw [List.mem_singleton.1 h']; omega
 ·refine List.pairwise_append.2 ⟨h.sort.filter _, List.pairwise_singleton _ _, fun i h1 j h2 => ?_⟩
  obtain rfl := List.mem_singleton.1 h2
  obtain ⟨a, b⟩ := List.mem_filter.1 h1
  exact ⟨(h.range i a).2, of_decide_eq_true b⟩
 ·by_cases e : j = hi
  ·exact ⟨hi, by simp, by omega, by rw [e]; exact Int.le_refl _⟩
  ·obtain ⟨i, a, b, c⟩ := h.dom j h1 (by omega)
   by_cases hx : v i < v hi
   ·exact ⟨i, List.mem_append_left _ (List.mem_filter.2 ⟨a, decide_eq_true hx⟩), b, c⟩
   ·exact ⟨hi, by simp, by have := (h.range i a).2; omega, by omega⟩
def sinceW (s : Nat) (W : List Nat) : List Nat := W.filter fun i => decide (s ≤ i)
theorem Win.since {v : Nat → Int} {lo hi s : Nat} {W : List Nat} (h : Win v lo hi W) (hs : lo ≤ s) : Win v s hi (sinceW s W) := by
 refine ⟨fun i hi' => ?_, h.sort.filter _, fun j h1 h2 => ?_⟩
 ·obtain ⟨a, b⟩ := List.mem_filter.1 hi'
  exact ⟨of_decide_eq_true b, (h.range i a).2⟩
 ·obtain ⟨i, a, b, c⟩ := h.dom j (by omega) h2
  exact ⟨i, List.mem_filter.2 ⟨a, decide_eq_true (by omega)⟩, b, c⟩
theorem Win.head {v : Nat → Int} {lo hi i : Nat} {W : List Nat} (h : Win v lo hi (i :: W)) : lo ≤ i ∧ i < hi ∧ ∀ j, lo ≤ j → j < hi → v i ≤ v j := by
 obtain ⟨a, b⟩ := h.range i List.mem_cons_self
 refine ⟨a, b, fun j h1 h2 => ?_⟩
 obtain ⟨k, hk, _, hv⟩ := h.dom j h1 h2
 rcases List.mem_cons.1 hk with rfl | hk
 ·exact hv
 ·have := (List.pairwise_cons.1 h.sort).1 k hk
  omega
theorem Win.empty {v : Nat → Int} {lo hi : Nat} (h : Win v lo hi []) : hi ≤ lo := by
 by_cases e : lo < hi
 ·obtain ⟨i, hi', _⟩ := h.dom lo (Nat.le_refl _) e
  cases hi'
 ·omega
theorem pop_last {v : Nat → Int} {x : Int} {W : List Nat} {i : Nat} (hs : (W ++ [i]).Pairwise fun i j => i < j ∧ v i < v j) : popW v x (W ++ [i]) = if v i < x then W ++ [i] else popW v x W := by
 unfold popW
 rw [List.filter_append]
 by_cases h : v i < x
 ·rw [if_pos h]
  have e1 : [i].filter (fun i => decide (v i < x)) = [i] := by simp [h]
  rw [e1]
  congr 1
  refine List.filter_eq_self.2 fun k hk => decide_eq_true ?_
  have := (List.pairwise_append.1 hs).2.2 k hk i (by simp)
  omega
 ·rw [if_neg h]
  have e1 : [i].filter (fun i => decide (v i < x)) = [] := by simp [h]
  rw [e1, List.append_nil]
theorem since_cons {s i : Nat} {W : List Nat} (hs : (i :: W).Pairwise fun i j : Nat => i < j) : sinceW s (i :: W) = if s ≤ i then i :: W else sinceW s W := by
 unfold sinceW
 by_cases h : s ≤ i
 ·rw [if_pos h]
  refine List.filter_eq_self.2 fun k hk => decide_eq_true ?_
  rcases List.mem_cons.1 hk with rfl | hk
  ·exact h
  ·have := (List.pairwise_cons.1 hs).1 k hk; omega
 ·rw [if_neg h, List.filter_cons_of_neg (by simpa using h)]
theorem windows_best {ats rest : List Int} {rate p : Int} (hr : 0 ≤ rate) (hlen : rest.length = ats.length) {s a s' b : Nat} {W U : List Nat}
 (ha : a ≤ ats.length) (hb : b ≤ ats.length)
 (h1 : ∀ j, j < ats.length → (s ≤ j ↔ p ≤ ats.getD j 0)) (h2 : ∀ j, j < ats.length → (j < a ↔ ats.getD j 0 ≤ p + rate))
 (h3 : ∀ j, j < ats.length → (s' ≤ j ↔ p - rate ≤ ats.getD j 0)) (h4 : ∀ j, j < ats.length → (j < b ↔ ats.getD j 0 ≤ p))
 (hW : Win (fun j => rest.getD j 0 + ats.getD j 0) s a W) (hU : Win (fun j => rest.getD j 0 - ats.getD j 0) s' b U) :
 bestV ats rest rate p = (match U.head? with
  | some j => mn (match W.head? with | some i => mn NEV (rest.getD i 0 + ats.getD i 0 - p) | none => NEV) (rest.getD j 0 - ats.getD j 0 + p)
  | none => match W.head? with | some i => mn NEV (rest.getD i 0 + ats.getD i 0 - p) | none => NEV) := by
 symm
 have up : ∃ m, (match W.head? with | some i => mn NEV (rest.getD i 0 + ats.getD i 0 - p) | none => NEV) = m ∧ m ≤ NEV ∧ (∀ j, j < ats.length → p ≤ ats.getD j 0 → ats.getD j 0 ≤ p + rate → m ≤ rest.getD j 0 + ats.getD j 0 - p) ∧ (m = NEV ∨ ∃ j, j < ats.length ∧ p ≤ ats.getD j 0 ∧ ats.getD j 0 ≤ p + rate ∧ m = rest.getD j 0 + ats.getD j 0 - p) := by
  cases W with
  | nil =>
    have := hW.empty
    refine ⟨_, rfl, Int.le_refl _, fun j hj c1 c2 => ?_, .inl rfl⟩
    have := (h1 j hj).2 c1
    have := (h2 j hj).2 c2
    omega
  | cons i W =>
    obtain ⟨k1, k2, k3⟩ := hW.head
    refine ⟨_, rfl, ?_, fun j hj c1 c2 => ?_, ?_⟩
    ·simp only [List.head?_cons]; unfold mn; split <;> omega
    ·have := k3 j ((h1 j hj).2 c1) ((h2 j hj).2 c2)
     simp only [List.head?_cons]; unfold mn; split <;> omega
    ·simp only [List.head?_cons]; unfold mn
     split
     ·exact .inr ⟨i, by omega, (h1 i (by omega)).1 k1, (h2 i (by omega)).1 k2, rfl⟩
     ·exact .inl rfl
 obtain ⟨m, hm, m1, m2, m3⟩ := up
 rw [hm]
 have dn : ∀ j, dist p (ats.getD j 0) ≤ rate ↔ (p ≤ ats.getD j 0 ∧ ats.getD j 0 ≤ p + rate) ∨ (p - rate ≤ ats.getD j 0 ∧ ats.getD j 0 ≤ p) := fun j => by
  unfold dist; split <;> omega
 have cu : ∀ j, p ≤ ats.getD j 0 → cost ats rest p j = rest.getD j 0 + ats.getD j 0 - p := fun j h => by
  unfold cost dist; rw [if_pos h]; omega
 have cd : ∀ j, ats.getD j 0 ≤ p → cost ats rest p j = rest.getD j 0 - ats.getD j 0 + p := fun j h => by
  unfold cost dist; split <;> omega
 cases U with
 | nil =>
   have he := hU.empty
   refine bestV_eq _ _ _ _ m1 (fun j hj hd => ?_) ?_
   ·rcases (dn j).1 hd with ⟨c1, c2⟩ | ⟨c1, c2⟩
    ·rw [cu j c1]; exact m2 j hj c1 c2
    ·have := (h3 j hj).2 c1
     have := (h4 j hj).2 c2
     omega
   ·rcases m3 with h | ⟨j, hj, c1, c2, h⟩
    ·exact .inl h
    ·exact .inr ⟨j, hj, (dn j).2 (.inl ⟨c1, c2⟩), by rw [cu j c1]; exact h⟩
 | cons i U =>
   obtain ⟨k1, k2, k3⟩ := hU.head
   simp only [List.head?_cons]
   have hi1 := (h3 i (by omega)).1 k1
   have hi2 := (h4 i (by omega)).1 k2
   refine bestV_eq _ _ _ _ ?_ (fun j hj hd => ?_) ?_
   ·unfold mn; split <;> omega
   ·rcases (dn j).1 hd with ⟨c1, c2⟩ | ⟨c1, c2⟩
    ·rw [cu j c1]
     have := m2 j hj c1 c2
     unfold mn; split <;> omega
    ·rw [cd j c2]
     have := k3 j ((h3 j hj).2 c1) ((h4 j hj).2 c2)
     unfold mn; split <;> omega
   ·unfold mn
    split
    ·exact .inr ⟨i, by omega, (dn i).2 (.inr ⟨hi1, hi2⟩), by rw [cd i hi2]⟩
    ·rcases m3 with h | ⟨j, hj, c1, c2, h⟩
     ·exact .inl h
     ·exact .inr ⟨j, hj, (dn j).2 (.inl ⟨c1, c2⟩), by rw [cu j c1]; exact h⟩
section
variable (turn lo hi : Int)
def posF (t : Int) : Int := lo + (t - lo) % turn
def posN (t : Int) : Nat := if posF turn lo t ≤ hi then ((hi - posF turn lo t) / turn).toNat + 1 else 0
def posL (t : Int) : List Int := (List.range (posN turn lo hi t)).map fun k : Nat => posF turn lo t + (k : Int) * turn
theorem posL_len (t : Int) : (posL turn lo hi t).length = posN turn lo hi t := by simp [posL]
theorem posL_get (t : Int) {k : Nat} (h : k < posN turn lo hi t) : (posL turn lo hi t).getD k 0 = posF turn lo t + (k : Int) * turn := by
 unfold posL
 rw [List.getD_eq_getElem?_getD, List.getElem?_map, List.getElem?_range h]
 rfl
variable {turn lo hi}
theorem posL_mem (ht : 0 < turn) {t q : Int} : q ∈ posL turn lo hi t ↔ lo ≤ q ∧ q ≤ hi ∧ (q - t) % turn = 0 := by
 have h1 := Int.emod_nonneg (t - lo) (show turn ≠ 0 by omega)
 have h2 := Int.emod_lt_of_pos (t - lo) ht
 have h3 := Int.mul_ediv_add_emod (t - lo) turn
 have key : ∀ k : Int, (posF turn lo t + k * turn - t) % turn = 0 := fun k => by
  have : posF turn lo t + k * turn - t = turn * (k - (t - lo) / turn) := by
   unfold posF
   rw [Int.mul_sub, Int.mul_comm k turn]
   omega
  rw [this]; exact Int.mul_emod_right _ _
 constructor
 ·intro h
  obtain ⟨k, hk, rfl⟩ := List.mem_map.1 h
  have hk := List.mem_range.1 hk
  refine ⟨?_, ?_, key k⟩
  ·have : 0 ≤ (k : Int) * turn := Int.mul_nonneg (by omega) (by omega)
   unfold posF; omega
  ·unfold posN at hk
   split at hk
   ·rename_i hf
    have : (k : Int) ≤ (hi - posF turn lo t) / turn := by
     have := Int.ediv_nonneg (show 0 ≤ hi - posF turn lo t by omega) (show 0 ≤ turn by omega)
     omega
    have := (Int.le_ediv_iff_mul_le ht).1 this
    omega
   ·omega
 ·rintro ⟨a, b, c⟩
  have hm : (q - posF turn lo t) % turn = 0 := by
   have e : q - posF turn lo t = (q - t) + turn * ((t - lo) / turn) := by unfold posF; omega
   rw [e, Int.add_mul_emod_self_left]; exact c
  have hd := Int.mul_ediv_add_emod (q - posF turn lo t) turn
  rw [hm, Int.add_zero] at hd
  have hge : 0 ≤ (q - posF turn lo t) / turn := by
   by_cases hn : 0 ≤ q - posF turn lo t
   ·exact Int.ediv_nonneg hn (by omega)
   ·exfalso
    have hlt : -turn < q - posF turn lo t := by unfold posF; omega
    have e1 : (q - posF turn lo t) / turn < 0 := Int.ediv_neg_of_neg_of_pos (by omega) ht
    have : turn * ((q - posF turn lo t) / turn) ≤ turn * (-1) := Int.mul_le_mul_of_nonneg_left (by omega) (by omega)
    omega
  have hle : posF turn lo t ≤ hi := by
   have : 0 ≤ turn * ((q - posF turn lo t) / turn) := Int.mul_nonneg (by omega) hge
   omega
  refine List.mem_map.2 ⟨((q - posF turn lo t) / turn).toNat, List.mem_range.2 ?_, ?_⟩
  ·unfold posN
   rw [if_pos hle]
   have : (q - posF turn lo t) / turn ≤ (hi - posF turn lo t) / turn := Int.ediv_le_ediv ht (by omega)
   omega
  ·rw [Int.toNat_of_nonneg hge, Int.mul_comm]; omega
theorem posL_asc (ht : 0 < turn) {t : Int} {i j : Nat} (h : i < j) (hj : j < (posL turn lo hi t).length) : (posL turn lo hi t).getD i 0 < (posL turn lo hi t).getD j 0 := by
 rw [posL_len] at hj
 rw [posL_get _ _ _ _ (by omega), posL_get _ _ _ _ hj]
 have : (i : Int) * turn < (j : Int) * turn := Int.mul_lt_mul_of_pos_right (by omega) ht
 omega
end
theorem mem_ix {l : List Int} {q : Int} (h : q ∈ l) : ∃ j, j < l.length ∧ l.getD j 0 = q := by
 obtain ⟨j, hj, rfl⟩ := List.mem_iff_getElem.1 h
 exact ⟨j, hj, by rw [List.getD_eq_getElem?_getD, List.getElem?_eq_getElem hj]; rfl⟩
theorem ix_mem {l : List Int} {j : Nat} (h : j < l.length) : l.getD j 0 ∈ l := by
 rw [List.getD_eq_getElem?_getD, List.getElem?_eq_getElem h]; exact List.getElem_mem h
theorem mapV_get {f : Int → Int} {l : List Int} {j : Nat} (h : j < l.length) : (l.map f).getD j 0 = f (l.getD j 0) := by
 rw [List.getD_eq_getElem?_getD, List.getElem?_map, List.getElem?_eq_getElem h, List.getD_eq_getElem?_getD, List.getElem?_eq_getElem h]; rfl
section
variable (turn lo hi rate : Int)
def Vp : List Int → Int → Int
 | [], _ => 0
 | t :: ts, p => bestV (posL turn lo hi t) ((posL turn lo hi t).map (Vp ts)) rate p
def Acc : List Int → List Int → Int → Prop
 | [], [], _ => True
 | t :: ts, q :: qs, p => q ∈ posL turn lo hi t ∧ dist p q ≤ rate ∧ Acc ts qs q
 | _, _, _ => False
def trv : List Int → Int → Int
 | [], _ => 0
 | q :: qs, p => dist p q + trv qs q
theorem Acc.len : ∀ {ts qs : List Int} {p : Int}, Acc turn lo hi rate ts qs p → qs.length = ts.length
 | [], [], _, _ => rfl
 | [], _ :: _, _, h => by cases h
 | _ :: _, [], _, h => by cases h
 | t :: ts, q :: qs, p, h => by simp only [List.length_cons, Acc.len h.2.2]
theorem cost_map {ts : List Int} {t p : Int} {j : Nat} (h : j < (posL turn lo hi t).length) : cost (posL turn lo hi t) ((posL turn lo hi t).map (Vp turn lo hi rate ts)) p j = dist p ((posL turn lo hi t).getD j 0) + Vp turn lo hi rate ts ((posL turn lo hi t).getD j 0) := by
 unfold cost; rw [mapV_get h]
theorem Vp_le {t : Int} {ts : List Int} {p q : Int} (hq : q ∈ posL turn lo hi t) (hd : dist p q ≤ rate) : Vp turn lo hi rate (t :: ts) p ≤ dist p q + Vp turn lo hi rate ts q := by
 obtain ⟨j, hj, rfl⟩ := mem_ix hq
 have := (bestV_spec (posL turn lo hi t) ((posL turn lo hi t).map (Vp turn lo hi rate ts)) rate p).2.1 j hj hd
 rw [cost_map _ _ _ _ hj] at this
 exact this
theorem Vp_cases (t : Int) (ts : List Int) (p : Int) : Vp turn lo hi rate (t :: ts) p = NEV ∨ ∃ q, q ∈ posL turn lo hi t ∧ dist p q ≤ rate ∧ Vp turn lo hi rate (t :: ts) p = dist p q + Vp turn lo hi rate ts q := by
 rcases (bestV_spec (posL turn lo hi t) ((posL turn lo hi t).map (Vp turn lo hi rate ts)) rate p).2.2 with h | ⟨j, hj, hd, h⟩
 ·exact .inl h
 ·rw [cost_map _ _ _ _ hj] at h
  exact .inr ⟨_, ix_mem hj, hd, h⟩
theorem Vp_top : ∀ (ts : List Int) (p : Int), Vp turn lo hi rate ts p ≤ NEV
 | [], _ => by unfold Vp NEV; omega
 | t :: ts, p => (bestV_spec _ _ _ _).1
theorem acc_le : ∀ {ts qs : List Int} {p : Int}, Acc turn lo hi rate ts qs p → Vp turn lo hi rate ts p ≤ trv qs p
 | [], [], _, _ => Int.le_refl _
 | [], _ :: _, _, h => by cases h
 | _ :: _, [], _, h => by cases h
 | t :: ts, q :: qs, p, h => by
   have h1 := Vp_le turn lo hi rate (ts := ts) h.1 h.2.1
   have h2 := acc_le h.2.2
   simp only [trv]; omega
variable {turn lo hi rate}
theorem Vp_small (ht : 0 < turn) (hw : hi - lo ≤ 40000) : ∀ {ts : List Int} {p : Int}, lo ≤ p → p ≤ hi → Vp turn lo hi rate ts p = NEV ∨ (0 ≤ Vp turn lo hi rate ts p ∧ Vp turn lo hi rate ts p ≤ 40000 * (ts.length : Int))
 | [], p, _, _ => .inr (by simp [Vp])
 | t :: ts, p, h1, h2 => by
   rcases Vp_cases turn lo hi rate t ts p with h | ⟨q, hq, hd, h⟩
   ·exact .inl h
   ·obtain ⟨a, b, _⟩ := (posL_mem ht).1 hq
    have hb : dist p q ≤ 40000 := by unfold dist; split <;> omega
    have hn := dist_nonneg p q
    rcases Vp_small ht hw (ts := ts) a b with h' | ⟨h', h''⟩
    ·have := Vp_top turn lo hi rate (t :: ts) p
     left; omega
    ·right
     rw [h, List.length_cons]
     omega
def Path : List Int → Int → List Int → Prop
 | [], _, out => out = []
 | t :: ts, p, out => ∃ q out', out = q :: out' ∧ q ∈ posL turn lo hi t ∧ dist p q ≤ rate ∧ dist p q + Vp turn lo hi rate ts q = Vp turn lo hi rate (t :: ts) p ∧ (∀ q' ∈ posL turn lo hi t, dist p q' ≤ rate → dist p q' + Vp turn lo hi rate ts q' = Vp turn lo hi rate (t :: ts) p → q ≤ q') ∧ Path ts q out'
theorem path_acc : ∀ {ts : List Int} {p : Int} {out : List Int}, Path (turn := turn) (lo := lo) (hi := hi) (rate := rate) ts p out → Acc turn lo hi rate ts out p ∧ trv out p = Vp turn lo hi rate ts p
 | [], p, out, h => by
   have h : out = [] := h
   subst h
   exact ⟨trivial, rfl⟩
 | t :: ts, p, out, ⟨q, out', e, h1, h2, h3, h4, h5⟩ => by
   subst e
   obtain ⟨a, b⟩ := path_acc h5
   exact ⟨⟨h1, h2, a⟩, by simp only [trv]; omega⟩
theorem feas_iff (ht : 0 < turn) (hw : hi - lo ≤ 40000) {ts : List Int} (hl : ts.length ≤ 1000) {p : Int} (h1 : lo ≤ p) (h2 : p ≤ hi) : Vp turn lo hi rate ts p < NEV ↔ ∃ qs, Acc turn lo hi rate ts qs p := by
 constructor
 ·intro h
  have key : ∀ (ts : List Int) (p : Int), Vp turn lo hi rate ts p < NEV → ∃ qs, Acc turn lo hi rate ts qs p := by
   intro ts
   induction ts with
   | nil => exact fun p _ => ⟨[], trivial⟩
   | cons t ts ih =>
     intro p h
     rcases Vp_cases turn lo hi rate t ts p with h' | ⟨q, hq, hd, h'⟩
     ·omega
     ·have := dist_nonneg p q
      obtain ⟨qs, hqs⟩ := ih q (by omega)
      exact ⟨q :: qs, hq, hd, hqs⟩
  exact key ts p h
 ·rintro ⟨qs, h⟩
  have key : ∀ (ts qs : List Int) (p : Int), lo ≤ p → p ≤ hi → Acc turn lo hi rate ts qs p → trv qs p ≤ 40000 * (ts.length : Int) := by
   intro ts
   induction ts with
   | nil =>
     intro qs p _ _ h
     cases qs with
     | nil => simp [trv]
     | cons _ _ => cases h
   | cons t ts ih =>
     intro qs p a1 a2 h
     cases qs with
     | nil => cases h
     | cons q qs =>
       obtain ⟨b1, b2, _⟩ := (posL_mem ht).1 h.1
       have := ih qs q b1 b2 h.2.2
       have hb : dist p q ≤ 40000 := by unfold dist; split <;> omega
       simp only [trv, List.length_cons]
       omega
  have a := acc_le turn lo hi rate h
  have b := key ts qs p h1 h2 h
  unfold NEV
  omega
theorem acc_mono {rate' : Int} (h : rate ≤ rate') : ∀ {ts qs : List Int} {p : Int}, Acc turn lo hi rate ts qs p → Acc turn lo hi rate' ts qs p
 | [], [], _, _ => trivial
 | [], _ :: _, _, h' => by cases h'
 | _ :: _, [], _, h' => by cases h'
 | t :: ts, q :: qs, p, h' => ⟨h'.1, Int.le_trans h'.2.1 h, acc_mono h h'.2.2⟩
end
end Go.Proofs.Ythabingkfmlbbaa
