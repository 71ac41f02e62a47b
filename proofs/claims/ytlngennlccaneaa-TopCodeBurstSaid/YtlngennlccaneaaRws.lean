/- Rows in a pool as a matrix. -/
import Derived.Test.YtlngennlccaneaaEl
set_option linter.unusedSimpArgs false
set_option linter.unusedVariables false
namespace Go.Proofs.Ytlngennlccaneaa
open Go.Ev
theorem loop_inv {σ E : Type} {step : σ → Option (σ ⊕ E)} {I : Nat → σ → Prop} {Q : E → Prop} {n : Nat}
 (h : ∀ k x, k < n → I k x → (∃ y, step x = some (.inl y) ∧ I (k + 1) y) ∨ ∃ e, step x = some (.inr e) ∧ Q e) (hl : ∀ x, I n x → ∃ e, step x = some (.inr e) ∧ Q e) :
 ∀ m k, k + m = n → ∀ x, I k x → ∃ e, loopVal step x = some e ∧ Q e := by
 intro m
 induction m with
 | zero =>
   intro k hk x hx
   have : k = n := by omega
   subst this
   obtain ⟨e, h1, h2⟩ := hl x hx
   exact ⟨e, loopVal_last h1, h2⟩
 | succ m ih =>
   intro k hk x hx
   rcases h k x (by omega) hx with ⟨y, h1, h2⟩ | ⟨e, h1, h2⟩
   ·rw [loopVal_next h1]; exact ih (k + 1) (by omega) y h2
   ·exact ⟨e, loopVal_last h1, h2⟩
theorem wrS {n : Nat} (h : n < 1000000) : wr ((n : Int) + 1) = ((n + 1 : Nat) : Int) := by rw [show (n : Int) + 1 = ((n + 1 : Nat) : Int) by omega, wr_nat (by omega)]
def rowL (W : Nat) (f : Nat → G) : List Int := (List.range W).map fun i => vI (f i)
theorem rowL_len (W : Nat) (f : Nat → G) : (rowL W f).length = W := by simp [rowL]
theorem rowL_get {W i : Nat} (f : Nat → G) (h : i < W) : (rowL W f).getD i 0 = vI (f i) := getD_range _ _ h
theorem rowL_congr {W : Nat} {f g : Nat → G} (h : ∀ i, i < W → f i = g i) : rowL W f = rowL W g := List.map_congr_left fun i hi => by rw [h i (List.mem_range.1 hi)]
theorem rowL_set {W i : Nat} (f : Nat → G) (a : G) : (rowL W f).set i (vI a) = rowL W fun n => if n = i then a else f n := by
 unfold rowL
 apply List.ext_getElem?
 intro n
 rw [List.getElem?_set, List.getElem?_map, List.length_map, List.length_range]
 by_cases hn : n < W
 ·rw [List.getElem?_map, List.getElem?_range hn]
  by_cases h : i = n
  ·subst h; simp [hn]
  ·have e : ¬ n = i := fun e => h e.symm
   rw [if_neg h]; simp [e]
 ·have e : (List.range W)[n]? = none := List.getElem?_eq_none (by rw [List.length_range]; omega)
  rw [List.getElem?_map, e]
  by_cases h : i = n
  ·subst h; simp [hn]
  ·simp [h]
theorem rowAt_self {pool : List (List Int)} {j : Nat} (x : List Int) (h : j < pool.length) : Ev.rowAt (pool.set j x) j = x := by
 unfold Ev.rowAt
 rw [List.getD_eq_getElem?_getD, List.getElem?_set_self h]; rfl
theorem rowAt_other {pool : List (List Int)} {i j : Nat} (x : List Int) (h : i ≠ j) : Ev.rowAt (pool.set j x) i = Ev.rowAt pool i := by
 unfold Ev.rowAt
 rw [List.getD_eq_getElem?_getD, List.getElem?_set_ne (fun e => h e.symm), ← List.getD_eq_getElem?_getD]
theorem getD_in {l : List Nat} {j : Nat} (h : j < l.length) : l.getD j 0 ∈ l := getD_mem h
theorem getD_inj {l : List Nat} (hn : l.Nodup) {i j : Nat} (hi : i < l.length) (hj : j < l.length) (h : l.getD i 0 = l.getD j 0) : i = j := by
 rw [List.getD_eq_getElem?_getD, List.getD_eq_getElem?_getD, List.getElem?_eq_getElem hi, List.getElem?_eq_getElem hj] at h
 exact (List.getElem_inj hn).1 h
structure Rep (pool : List (List Int)) (rows : List Nat) (R W : Nat) (M : Mx) : Prop where
 len : rows.length = R
 nd : rows.Nodup
 lt : ∀ r ∈ rows, r < pool.length
 row : ∀ j, j < R → Ev.rowAt pool (rows.getD j 0) = rowL W (M j)
section
variable {pool : List (List Int)} {rows : List Nat} {R W : Nat} {M : Mx}
theorem Rep.congr (h : Rep pool rows R W M) {M' : Mx} (e : ∀ j, j < R → ∀ i, i < W → M j i = M' j i) : Rep pool rows R W M' :=
 ⟨h.len, h.nd, h.lt, fun j hj => by rw [h.row j hj]; exact rowL_congr (e j hj)⟩
theorem Rep.set (h : Rep pool rows R W M) {j : Nat} (hj : j < R) (f : Nat → G) : Rep (pool.set (rows.getD j 0) (rowL W f)) rows R W fun j' i => if j' = j then f i else M j' i := by
 have hl := h.len
 refine ⟨h.len, h.nd, fun r hr => by rw [List.length_set]; exact h.lt r hr, fun j' hj' => ?_⟩
 by_cases e : j' = j
 ·subst e
  rw [rowAt_self _ (h.lt _ (getD_in (by omega)))]
  exact rowL_congr fun i _ => (if_pos rfl).symm
 ·rw [rowAt_other _ (fun e' => e (getD_inj h.nd (by omega) (by omega) e')), h.row j' hj']
  exact rowL_congr fun i _ => (if_neg e).symm
theorem Rep.put (h : Rep pool rows R W M) {j i : Nat} (hj : j < R) (a : G) : Rep (pool.set (rows.getD j 0) ((Ev.rowAt pool (rows.getD j 0)).set i (vI a))) rows R W fun j' i' => if j' = j ∧ i' = i then a else M j' i' := by
 rw [h.row j hj, rowL_set]
 refine (h.set hj _).congr fun j' _ i' _ => ?_
 by_cases e : j' = j
 ·subst e
  by_cases e2 : i' = i
  ·simp [e2]
  ·simp [e2]
 ·simp [e]
theorem swap_get (l : List Nat) {k q : Nat} (hk : k < l.length) (hq : q < l.length) (j : Nat) : ((l.set k (l.getD q 0)).set q (l.getD k 0)).getD j 0 = if j = q then l.getD k 0 else if j = k then l.getD q 0 else l.getD j 0 := by
 rw [List.getD_eq_getElem?_getD, List.getElem?_set]
 by_cases h1 : j = q
 ·subst h1; rw [if_pos rfl, if_pos (by rw [List.length_set]; exact hq), if_pos rfl]; rfl
 ·rw [if_neg (fun e => h1 e.symm), if_neg h1, List.getElem?_set]
  by_cases h2 : j = k
  ·subst h2; rw [if_pos rfl, if_pos hk, if_pos rfl]; rfl
  ·rw [if_neg (fun e => h2 e.symm), if_neg h2, List.getD_eq_getElem?_getD]
def swapF (k q j : Nat) : Nat := if j = q then k else if j = k then q else j
theorem swapF_lt {k q j R : Nat} (hk : k < R) (hq : q < R) (hj : j < R) : swapF k q j < R := by
 unfold swapF; split
 ·exact hk
 ·split
  ·exact hq
  ·exact hj
theorem swapF_inj {k q i j : Nat} (h : swapF k q i = swapF k q j) : i = j := by
 unfold swapF at h
 by_cases h1 : i = q
 ·rw [if_pos h1] at h
  by_cases h2 : j = q
  ·omega
  ·rw [if_neg h2] at h
   by_cases h4 : j = k
   ·rw [if_pos h4] at h; omega
   ·rw [if_neg h4] at h; omega
 ·rw [if_neg h1] at h
  by_cases h3 : i = k
  ·rw [if_pos h3] at h
   by_cases h2 : j = q
   ·rw [if_pos h2] at h; omega
   ·rw [if_neg h2] at h
    by_cases h4 : j = k
    ·omega
    ·rw [if_neg h4] at h; omega
  ·rw [if_neg h3] at h
   by_cases h2 : j = q
   ·rw [if_pos h2] at h; omega
   ·rw [if_neg h2] at h
    by_cases h4 : j = k
    ·rw [if_pos h4] at h; omega
    ·rw [if_neg h4] at h; exact h
theorem swap_getF (l : List Nat) {k q : Nat} (hk : k < l.length) (hq : q < l.length) (j : Nat) : ((l.set k (l.getD q 0)).set q (l.getD k 0)).getD j 0 = l.getD (swapF k q j) 0 := by
 rw [swap_get l hk hq]
 unfold swapF
 split
 ·rfl
 ·split <;> rfl
theorem Rep.swap (h : Rep pool rows R W M) {k q : Nat} (hk : k < R) (hq : q < R) : Rep pool ((rows.set k (rows.getD q 0)).set q (rows.getD k 0)) R W fun j => if j = q then M k else if j = k then M q else M j := by
 have hl := h.len
 have hmem : ∀ r, r ∈ (rows.set k (rows.getD q 0)).set q (rows.getD k 0) → r ∈ rows := fun r hr => by
  rcases List.mem_or_eq_of_mem_set hr with hr | rfl
  ·rcases List.mem_or_eq_of_mem_set hr with hr | rfl
   ·exact hr
   ·exact getD_in (by omega)
  ·exact getD_in (by omega)
 have hlen : ((rows.set k (rows.getD q 0)).set q (rows.getD k 0)).length = R := by simp [hl]
 refine ⟨hlen, ?_, fun r hr => h.lt r (hmem r hr), fun j hj => ?_⟩
 ·rw [List.nodup_iff_pairwise_ne, List.pairwise_iff_getElem]
  intro i j hi hj hij e
  rw [hlen] at hi hj
  have ei := swap_getF rows (k := k) (q := q) (by omega) (by omega) i
  have ej := swap_getF rows (k := k) (q := q) (by omega) (by omega) j
  rw [List.getD_eq_getElem?_getD, List.getElem?_eq_getElem (by rw [hlen]; exact hi), Option.getD_some] at ei
  rw [List.getD_eq_getElem?_getD, List.getElem?_eq_getElem (by rw [hlen]; exact hj), Option.getD_some] at ej
  rw [ei, ej] at e
  have h1 := swapF_lt hk hq hi
  have h2 := swapF_lt hk hq hj
  have := swapF_inj (getD_inj h.nd (by omega) (by omega) e)
  omega
 ·rw [swap_get rows (by omega) (by omega)]
  split
  ·exact h.row k hk
  ·split
   ·exact h.row q hq
   ·exact h.row j hj
theorem Rep.get (h : Rep pool rows R W M) {j i : Nat} (hj : j < R) (hi : i < W) : (Ev.rowAt pool (rows.getD j 0)).getD i 0 = vI (M j i) := by rw [h.row j hj, rowL_get _ hi]
theorem Rep.rlen (h : Rep pool rows R W M) {j : Nat} (hj : j < R) : (Ev.rowAt pool (rows.getD j 0)).length = W := by rw [h.row j hj, rowL_len]
theorem Rep.snoc (h : Rep pool rows R W M) (f : Nat → G) : Rep (pool ++ [rowL W f]) (rows ++ [pool.length]) (R + 1) W fun j i => if j = R then f i else M j i := by
 have hl := h.len
 refine ⟨by simp [hl], ?_, fun r hr => ?_, fun j hj => ?_⟩
 ·refine List.nodup_append.2 ⟨h.nd, by simp, fun a ha b hb => ?_⟩
  rw [List.mem_singleton] at hb
  have := h.lt a ha
  omega
 ·rw [List.length_append, List.length_singleton]
  rcases List.mem_append.1 hr with hr | hr
  ·have := h.lt r hr; omega
  ·rw [List.mem_singleton] at hr; omega
 ·by_cases e : j = R
  ·subst e
   rw [List.getD_eq_getElem?_getD, List.getElem?_append_right (by omega), hl, Nat.sub_self]
   show Ev.rowAt (pool ++ [rowL W f]) pool.length = _
   unfold Ev.rowAt
   rw [List.getD_eq_getElem?_getD, List.getElem?_append_right (by omega), Nat.sub_self]
   exact rowL_congr fun i _ => (if_pos rfl).symm
  ·have hj' : j < R := by omega
   have e1 : (rows ++ [pool.length]).getD j 0 = rows.getD j 0 := by
    rw [List.getD_eq_getElem?_getD, List.getElem?_append_left (by omega), ← List.getD_eq_getElem?_getD]
   have hlt := h.lt _ (getD_in (l := rows) (j := j) (by omega))
   have := h.row j hj'
   unfold Ev.rowAt at this ⊢
   rw [e1, List.getD_eq_getElem?_getD, List.getElem?_append_left hlt, ← List.getD_eq_getElem?_getD, this]
   exact rowL_congr fun i _ => (if_neg e).symm
theorem Rep.nil {W : Nat} {M : Mx} : Rep [] [] 0 W M := ⟨rfl, List.nodup_nil, fun r hr => (by cases hr), fun j hj => absurd hj (by omega)⟩
end
end Go.Proofs.Ytlngennlccaneaa
