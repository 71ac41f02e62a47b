/- The reference's motions: rows of steps. -/
import Derived.Test.YthabingkfmlbbaaRate
import Derived.Test.YthabingkfmlbbaaGn5
set_option linter.unusedSimpArgs false
set_option linter.unusedVariables false
set_option maxRecDepth 100000
namespace Go.Proofs.Ythabingkfmlbbaa
open Go.Ev
abbrev Sp := Int × Int × Int
def bestS (rate p : Int) (row : List Sp) : Nat → Bool × Sp
 | 0 => (false, (p, 0, 0))
 | k + 1 => bif decide (dist p (row.getD k (0, 0, 0)).1 > rate) then bestS rate p row k
   else bif !(bestS rate p row k).1 then (true, (p, dist p (row.getD k (0, 0, 0)).1 + (row.getD k (0, 0, 0)).2.1, (k : Int)))
   else bif decide (dist p (row.getD k (0, 0, 0)).1 + (row.getD k (0, 0, 0)).2.1 < (bestS rate p row k).2.2.1) then (true, (p, dist p (row.getD k (0, 0, 0)).1 + (row.getD k (0, 0, 0)).2.1, (k : Int)))
   else bestS rate p row k
def bstV (d : Dr) (row : List Sp) (p : Int) (e : Bool) : Sp × Bool := bif e then ((p, 0, 0), true) else ((bestS d.2.2.2 p row row.length).2, (bestS d.2.2.2 p row row.length).1)
structure RB (row : List Sp) : Prop where
 len : row.length ≤ 40001
 at_ : ∀ j, j < row.length → -20000 ≤ (row.getD j (0, 0, 0)).1 ∧ (row.getD j (0, 0, 0)).1 ≤ 20000
 tr : ∀ j, j < row.length → 0 ≤ (row.getD j (0, 0, 0)).2.1 ∧ (row.getD j (0, 0, 0)).2.1 ≤ 1152921504606846976
theorem RB.nil : RB [] := ⟨by simp, fun j h => by simp at h, fun j h => by simp at h⟩
theorem best_z {d : Dr} {row : List Sp} (R : RB row) {p : Int} (hp : -20000 ≤ p ∧ p ≤ 20000) (e : Bool) : s35 (d, row, p, e) = some (bstV d row p e) := by
 cases e with
 | true => rfl
 | false =>
   have hlen := R.len
   have key : ∀ m k : Nat, k + m = row.length → loopVal step35_0 (row, p, (bestS d.2.2.2 p row k).1, (k : Int), d, (0, 0, 0), (bestS d.2.2.2 p row k).2) = some ((bestS d.2.2.2 p row row.length).1, (0, 0, 0), (bestS d.2.2.2 p row row.length).2) := by
    intro m
    induction m with
    | zero =>
      intro k hk
      obtain rfl : k = row.length := by omega
      refine loopVal_last ?_
      simp only [step35_0, lt_cast, Nat.lt_irrefl, decide_false, cond_false]
    | succ m ih =>
      intro k hk
      have hk' : k < row.length := by omega
      have ha := R.at_ k hk'
      have ht := R.tr k hk'
      obtain ⟨s, hs⟩ : ∃ s, row.getD k (0, 0, 0) = s := ⟨_, rfl⟩
      rw [hs] at ha ht
      have hdn := dist_nonneg p s.1
      have hdb : dist p s.1 ≤ 40000 := by unfold dist; split <;> omega
      have e1 : s47 (wr (s.1 - p)) = some (dist p s.1) := by
       unfold s47
       rw [wr_id (n := s.1 - p) (by omega) (by omega), wr_id (n := -(s.1 - p)) (by omega) (by omega), show -(s.1 - p) = p - s.1 by omega, mx_dist]
      have w1 : wr (dist p s.1 + s.2.1) = dist p s.1 + s.2.1 := wr_id (by omega) (by omega)
      have hstep : step35_0 (row, p, (bestS d.2.2.2 p row k).1, (k : Int), d, (0, 0, 0), (bestS d.2.2.2 p row k).2) = some (.inl (row, p, (bestS d.2.2.2 p row (k + 1)).1, ((k + 1 : Nat) : Int), d, (0, 0, 0), (bestS d.2.2.2 p row (k + 1)).2)) := by
       simp only [step35_0, lt_cast, inB_cast, dT hk', cond_true, Int.toNat_natCast, hs, e1, optE_some, w1, wr_succ (show k < 4611686018427387904 by omega), bestS]
       cases decide (dist p s.1 > d.2.2.2)
       ·cases hb : (bestS d.2.2.2 p row k).1
        ·rfl
        ·simp only [Bool.not_true, cond_false]
         cases decide (dist p s.1 + s.2.1 < (bestS d.2.2.2 p row k).2.2.1)
         ·simp only [cond_false, hb]
         ·rfl
       ·rfl
      rw [loopVal_next hstep]
      exact ih (k + 1) (by omega)
   have h := key row.length 0 (by omega)
   have h : loopVal step35_0 (row, p, false, 0, d, (0, 0, 0), (p, 0, 0)) = _ := h
   simp only [s35, cond_false, h, optE_some]
   rfl
theorem bestS_spec (rate p : Int) (row : List Sp) : ∀ k, ((bestS rate p row k).1 = false ∧ ∀ j, j < k → rate < dist p (row.getD j (0, 0, 0)).1) ∨
 ((bestS rate p row k).1 = true ∧ ∃ j : Nat, j < k ∧ dist p (row.getD j (0, 0, 0)).1 ≤ rate ∧ (bestS rate p row k).2 = (p, dist p (row.getD j (0, 0, 0)).1 + (row.getD j (0, 0, 0)).2.1, (j : Int)) ∧
   ∀ i, i < k → dist p (row.getD i (0, 0, 0)).1 ≤ rate → (dist p (row.getD j (0, 0, 0)).1 + (row.getD j (0, 0, 0)).2.1 ≤ dist p (row.getD i (0, 0, 0)).1 + (row.getD i (0, 0, 0)).2.1 ∧ (i < j → dist p (row.getD j (0, 0, 0)).1 + (row.getD j (0, 0, 0)).2.1 < dist p (row.getD i (0, 0, 0)).1 + (row.getD i (0, 0, 0)).2.1)))
 | 0 => .inl ⟨rfl, fun j h => by omega⟩
 | k + 1 => by
   have ih := bestS_spec rate p row k
   by_cases hd : dist p (row.getD k (0, 0, 0)).1 > rate
   ·have e : bestS rate p row (k + 1) = bestS rate p row k := by simp only [bestS, dT hd, cond_true]
    rw [e]
    rcases ih with ⟨h1, h2⟩ | ⟨h1, j, h2, h3, h4, h5⟩
    ·refine .inl ⟨h1, fun j hj => ?_⟩
     by_cases ej : j = k
     ·rw [ej]; exact hd
     ·exact h2 j (by omega)
    ·refine .inr ⟨h1, j, by omega, h3, h4, fun i hi hr => ?_⟩
     by_cases ei : i = k
     ·subst ei; omega
     ·exact h5 i (by omega) hr
   ·have hd' : ¬ dist p (row.getD k (0, 0, 0)).1 > rate := hd
    rcases ih with ⟨h1, h2⟩ | ⟨h1, j, h2, h3, h4, h5⟩
    ·have e : bestS rate p row (k + 1) = (true, (p, dist p (row.getD k (0, 0, 0)).1 + (row.getD k (0, 0, 0)).2.1, (k : Int))) := by simp only [bestS, dF hd', h1, cond_false, Bool.not_false, cond_true]
     rw [e]
     refine .inr ⟨rfl, k, by omega, by omega, rfl, fun i hi hr => ?_⟩
     by_cases ei : i = k
     ·subst ei; exact ⟨Int.le_refl _, fun h => by omega⟩
     ·have := h2 i (by omega); omega
    ·by_cases hc : dist p (row.getD k (0, 0, 0)).1 + (row.getD k (0, 0, 0)).2.1 < (bestS rate p row k).2.2.1
     ·have e : bestS rate p row (k + 1) = (true, (p, dist p (row.getD k (0, 0, 0)).1 + (row.getD k (0, 0, 0)).2.1, (k : Int))) := by simp only [bestS, dF hd', h1, cond_false, Bool.not_true, dT hc, cond_true]
      rw [e]
      rw [h4] at hc
      have hc : dist p (row.getD k (0, 0, 0)).1 + (row.getD k (0, 0, 0)).2.1 < dist p (row.getD j (0, 0, 0)).1 + (row.getD j (0, 0, 0)).2.1 := hc
      refine .inr ⟨rfl, k, by omega, by omega, rfl, fun i hi hr => ?_⟩
      by_cases ei : i = k
      ·subst ei; exact ⟨Int.le_refl _, fun h => by omega⟩
      ·have := (h5 i (by omega) hr).1
       exact ⟨by omega, fun _ => by omega⟩
     ·have e : bestS rate p row (k + 1) = bestS rate p row k := by simp only [bestS, dF hd', h1, cond_false, Bool.not_true, dF hc]
      rw [e]
      rw [h4] at hc
      have hc : ¬ dist p (row.getD k (0, 0, 0)).1 + (row.getD k (0, 0, 0)).2.1 < dist p (row.getD j (0, 0, 0)).1 + (row.getD j (0, 0, 0)).2.1 := hc
      refine .inr ⟨h1, j, by omega, h3, h4, fun i hi hr => ?_⟩
      by_cases ei : i = k
      ·subst ei; exact ⟨by omega, fun h => by omega⟩
      ·exact h5 i (by omega) hr
def mkR (d : Dr) (all : List Int) (next : List Sp) (e : Bool) : Nat → List Sp
 | 0 => []
 | k + 1 => bif (bstV d next (all.getD k 0) e).2 then mkR d all next e k ++ [(bstV d next (all.getD k 0) e).1] else mkR d all next e k
def mkRow (d : Dr) (all : List Int) (next : List Sp) (e : Bool) : List Sp := mkR d all next e all.length
theorem mkR_len (d : Dr) (all : List Int) (next : List Sp) (e : Bool) : ∀ k, (mkR d all next e k).length ≤ k
 | 0 => Nat.le_refl _
 | k + 1 => by
   have := mkR_len d all next e k
   simp only [mkR]
   cases (bstV d next (all.getD k 0) e).2
   ·simp only [cond_false]; omega
   ·simp only [cond_true, snoc_lenS]; omega
where snoc_lenS {α : Type} (W : List α) (i : α) : (W ++ [i]).length = W.length + 1 := by simp
theorem row_loop {σ E : Type} {step : σ → Option (σ ⊕ E)} {d : Dr} {all : List Int} {next : List Sp} {e : Bool} (st : Nat → List Sp → σ) (ex : List Sp → E)
 (h : ∀ k, k < all.length → ∀ r : List Sp, r.length ≤ k → step (st k r) = some (.inl (st (k + 1) (bif (bstV d next (all.getD k 0) e).2 then r ++ [(bstV d next (all.getD k 0) e).1] else r))))
 (hl : ∀ r, step (st all.length r) = some (.inr (ex r))) : loopVal step (st 0 []) = some (ex (mkRow d all next e)) := by
 have key : ∀ m k, k + m = all.length → loopVal step (st k (mkR d all next e k)) = some (ex (mkRow d all next e)) := by
  intro m
  induction m with
  | zero =>
    intro k hk
    obtain rfl : k = all.length := by omega
    exact loopVal_last (hl _)
  | succ m ih =>
    intro k hk
    rw [loopVal_next (h k (by omega) _ (mkR_len d all next e k))]
    exact ih (k + 1) (by omega)
 exact key all.length 0 (by omega)
def AllB (all : List Int) : Prop := all.length ≤ 40001 ∧ ∀ k, k < all.length → -20000 ≤ all.getD k 0 ∧ all.getD k 0 ≤ 20000
theorem row_gen (n : Nat) {F : Type} {step : List Int × List Int × Int × Dr × F → Option ((List Int × List Int × Int × Dr × F) ⊕ (List Int × Dr × F))} {d : Dr} {all l : List Int} {next : List Sp} {e : Bool} (f : List Sp → F) (hp : padV n (.int .i64) l = l)
 (hs : ∀ (k : Int) (r : List Sp), step (l, all, k, d, f r) = bif decide (k < (all.length : Int)) then bif inBounds k all.length then optE (s35 (d, next, all.getD k.toNat 0, e)) (fun x => bif x.2 then bif room 24 (r.length + 1) then some (.inl (padV n (.int .i64) l, all, wr (k + 1), d, f (r ++ [x.1]))) else none else some (.inl (padV n (.int .i64) l, all, wr (k + 1), d, f r))) none else none else some (.inr (padV n (.int .i64) l, d, f r)))
 (ha : AllB all) (hn : RB next) : loopVal step (l, all, 0, d, f []) = some (l, d, f (mkRow d all next e)) := by
 refine row_loop (step := step) (next := next) (e := e) (all := all) (d := d) (st := fun k r => (l, all, (k : Int), d, f r)) (ex := fun r => (l, d, f r)) (fun k hk r hr => ?_) (fun r => ?_)
 ·have hb := best_z (d := d) hn (ha.2 k hk) e
  have ho := ha.1
  rw [hs]
  simp only [lt_cast, inB_cast, dT hk, cond_true, Int.toNat_natCast, hb, optE_some, hp, room_true (b := 24) (n := r.length + 1) (by omega) (by omega), wr_succ (show k < 4611686018427387904 by omega)]
  cases (bstV d next (all.getD k 0) e).2 <;> rfl
 ·rw [hs]
  simp only [lt_cast, Nat.lt_irrefl, decide_false, cond_false, hp]
def BestAt (d : Dr) (t : Int) (ts : List Int) (row : List Sp) (p k : Int) : Prop :=
 ∃ j : Nat, k = (j : Int) ∧ j < row.length ∧ dist p (row.getD j (0, 0, 0)).1 ≤ d.2.2.2 ∧ dist p (row.getD j (0, 0, 0)).1 + VpD d ts (row.getD j (0, 0, 0)).1 = VpD d (t :: ts) p ∧
  ∀ q ∈ posD d t, dist p q ≤ d.2.2.2 → dist p q + VpD d ts q = VpD d (t :: ts) p → (row.getD j (0, 0, 0)).1 ≤ q
def Nxt (d : Dr) : List Int → List (List Sp) → Int → Int → Prop
 | [], _, _, _ => True
 | t :: ts, R :: _, p, k => BestAt d t ts R p k
 | _ :: _, [], _, _ => False
structure RowOk (d : Dr) (t : Int) (ts : List Int) (Rs : List (List Sp)) (row : List Sp) : Prop where
 at_ : row.map (fun s => s.1) = (posD d t).filter fun p => decide (VpD d ts p < NEV)
 tr : ∀ s ∈ row, s.2.1 = VpD d ts s.1 ∧ Nxt d ts Rs s.1 s.2.2
def RowsOk (d : Dr) : List Int → List (List Sp) → Prop
 | [], Rs => Rs = []
 | t :: ts, R :: Rs => RowOk d t ts Rs R ∧ RowsOk d ts Rs
 | _ :: _, [] => False
theorem getS_mem {row : List Sp} {j : Nat} (h : j < row.length) : row.getD j (0, 0, 0) ∈ row := by
 rw [List.getD_eq_getElem?_getD, List.getElem?_eq_getElem h]; exact List.getElem_mem h
theorem mapS_get {row : List Sp} {j : Nat} (h : j < row.length) : (row.map fun s => s.1).getD j 0 = (row.getD j (0, 0, 0)).1 := by
 rw [List.getD_eq_getElem?_getD, List.getElem?_map, List.getElem?_eq_getElem h, List.getD_eq_getElem?_getD, List.getElem?_eq_getElem h]; rfl
section
variable {d : Dr} (hd : DOk d)
include hd
theorem posD_all (t : Int) : AllB (posD d t) := by
 have := hd.l1; have := hd.l3
 refine ⟨by rw [posL_len]; exact posN_b hd t, fun k hk => ?_⟩
 have := pos_b hd (ix_mem hk)
 exact ⟨by omega, by omega⟩
omit hd in
theorem RowOk.mem {t : Int} {ts : List Int} {Rs : List (List Sp)} {row : List Sp} (h : RowOk d t ts Rs row) {s : Sp} (hs : s ∈ row) : s.1 ∈ posD d t ∧ VpD d ts s.1 < NEV := by
 have : s.1 ∈ row.map fun s => s.1 := List.mem_map.2 ⟨s, hs, rfl⟩
 rw [h.at_] at this
 have := List.mem_filter.1 this
 exact ⟨this.1, of_decide_eq_true this.2⟩
theorem RowOk.rb {t : Int} {ts : List Int} (hts : ts.length ≤ 1000) {Rs : List (List Sp)} {row : List Sp} (h : RowOk d t ts Rs row) : RB row := by
 have := hd.l1; have := hd.l3
 refine ⟨?_, fun j hj => ?_, fun j hj => ?_⟩
 ·have e : row.length = (row.map fun s => s.1).length := by simp
  rw [e, h.at_]
  have := List.length_filter_le (fun p => decide (VpD d ts p < NEV)) (posD d t)
  have := (posD_all hd t).1
  omega
 ·have := pos_b hd (h.mem (getS_mem hj)).1
  omega
 ·have hm := h.mem (getS_mem hj)
  have hb := pos_b hd hm.1
  have := VpD_b hd ts hts hb.1 hb.2.1
  rw [(h.tr _ (getS_mem hj)).1]
  exact this
theorem RowOk.asc {t : Int} {ts : List Int} {Rs : List (List Sp)} {row : List Sp} (h : RowOk d t ts Rs row) {i j : Nat} (hij : i ≤ j) (hj : j < row.length) : (row.getD i (0, 0, 0)).1 ≤ (row.getD j (0, 0, 0)).1 := by
 have hp : (posD d t).Pairwise fun a b => a < b := by
  rw [List.pairwise_iff_getElem]
  intro a b ha hb hab
  have := posL_asc (show 0 < d.1 by have := hd.t1; omega) (lo := d.2.1.1) (hi := d.2.1.2) (t := t) hab hb
  rw [List.getD_eq_getElem?_getD, List.getElem?_eq_getElem ha, List.getD_eq_getElem?_getD, List.getElem?_eq_getElem hb] at this
  exact this
 have hf : (row.map fun s => s.1).Pairwise fun a b => a < b := by rw [h.at_]; exact hp.filter _
 rcases Nat.lt_or_ge i j with hl | hl
 ·have := List.pairwise_iff_getElem.1 hf i j (by simp; omega) (by simp; omega) hl
  simp only [List.getElem_map] at this
  rw [List.getD_eq_getElem?_getD, List.getElem?_eq_getElem (show i < row.length by omega), List.getD_eq_getElem?_getD, List.getElem?_eq_getElem hj]
  exact Int.le_of_lt this
 ·have : i = j := by omega
  rw [this]; exact Int.le_refl _
omit hd in
theorem RowOk.ix {t : Int} {ts : List Int} {Rs : List (List Sp)} {row : List Sp} (h : RowOk d t ts Rs row) {q : Int} (hq : q ∈ posD d t) (hv : VpD d ts q < NEV) : ∃ i, i < row.length ∧ (row.getD i (0, 0, 0)).1 = q := by
 have : q ∈ row.map fun s => s.1 := by rw [h.at_]; exact List.mem_filter.2 ⟨hq, decide_eq_true hv⟩
 obtain ⟨i, hi, he⟩ := mem_ix this
 have hi' : i < row.length := by simpa using hi
 rw [mapS_get hi'] at he
 exact ⟨i, hi', he⟩
theorem best_mid {t : Int} {ts : List Int} (hts : ts.length ≤ 1000) {Rs : List (List Sp)} {row : List Sp} (h : RowOk d t ts Rs row) {p : Int} (h1 : d.2.1.1 ≤ p) (h2 : p ≤ d.2.1.2) :
 ((bstV d row p false).2 = true ∧ VpD d (t :: ts) p < NEV ∧ (bstV d row p false).1.1 = p ∧ (bstV d row p false).1.2.1 = VpD d (t :: ts) p ∧ BestAt d t ts row p (bstV d row p false).1.2.2) ∨ ((bstV d row p false).2 = false ∧ ¬ VpD d (t :: ts) p < NEV) := by
 have hl1 := hd.l1; have hl3 := hd.l3; have ht1 := hd.t1
 have hcost : ∀ j, j < row.length → dist p (row.getD j (0, 0, 0)).1 ≤ d.2.2.2 → VpD d (t :: ts) p ≤ dist p (row.getD j (0, 0, 0)).1 + (row.getD j (0, 0, 0)).2.1 ∧ dist p (row.getD j (0, 0, 0)).1 + (row.getD j (0, 0, 0)).2.1 < NEV := fun j hj hr => by
  have hm := h.mem (getS_mem hj)
  have hb := pos_b hd hm.1
  rw [(h.tr _ (getS_mem hj)).1]
  refine ⟨Vp_le _ _ _ _ hm.1 hr, ?_⟩
  have hdb : dist p (row.getD j (0, 0, 0)).1 ≤ 40000 := by unfold dist; split <;> omega
  rcases Vp_small (rate := d.2.2.2) (show 0 < d.1 by omega) (show d.2.1.2 - d.2.1.1 ≤ 40000 by omega) (ts := ts) hb.1 hb.2.1 with h' | h'
  ·have h' : VpD d ts (row.getD j (0, 0, 0)).1 = NEV := h'
   omega
  ·have h' : VpD d ts (row.getD j (0, 0, 0)).1 ≤ 40000 * (ts.length : Int) := h'.2
   unfold NEV; omega
 have hcase := Vp_cases d.1 d.2.1.1 d.2.1.2 d.2.2.2 t ts p
 have hnn : ∀ q, q ∈ posD d t → dist p q + VpD d ts q < NEV → VpD d ts q < NEV := fun q _ hq => by
  have := dist_nonneg p q; omega
 show ((bestS d.2.2.2 p row row.length).1 = true ∧ _ ∧ (bestS d.2.2.2 p row row.length).2.1 = p ∧ (bestS d.2.2.2 p row row.length).2.2.1 = _ ∧ BestAt d t ts row p (bestS d.2.2.2 p row row.length).2.2.2) ∨ ((bestS d.2.2.2 p row row.length).1 = false ∧ _)
 rcases bestS_spec d.2.2.2 p row row.length with ⟨b1, b2⟩ | ⟨b1, j, b2, b3, b4, b5⟩
 ·refine .inr ⟨b1, fun hv => ?_⟩
  rcases hcase with h' | ⟨q, hq, hr, h'⟩
  ·have h' : VpD d (t :: ts) p = NEV := h'
   omega
  ·have h' : VpD d (t :: ts) p = dist p q + VpD d ts q := h'
   obtain ⟨i, hi, hie⟩ := h.ix hq (hnn q hq (by omega))
   have := b2 i hi
   rw [hie] at this
   have hr : dist p q ≤ d.2.2.2 := hr
   omega
 ·obtain ⟨c1, c2⟩ := hcost j b2 b3
  have hlow : ∀ q, q ∈ posD d t → dist p q ≤ d.2.2.2 → dist p q + VpD d ts q < NEV → ∃ i, i < row.length ∧ (row.getD i (0, 0, 0)).1 = q ∧ dist p (row.getD i (0, 0, 0)).1 + (row.getD i (0, 0, 0)).2.1 = dist p q + VpD d ts q := fun q hq hr hc => by
   obtain ⟨i, hi, hie⟩ := h.ix hq (hnn q hq hc)
   refine ⟨i, hi, hie, ?_⟩
   rw [(h.tr _ (getS_mem hi)).1, hie]
  have hV : VpD d (t :: ts) p = dist p (row.getD j (0, 0, 0)).1 + (row.getD j (0, 0, 0)).2.1 := by
   rcases hcase with h' | ⟨q, hq, hr, h'⟩
   ·have h' : VpD d (t :: ts) p = NEV := h'
    omega
   ·have h' : VpD d (t :: ts) p = dist p q + VpD d ts q := h'
    obtain ⟨i, hi, hie, hc⟩ := hlow q hq hr (by omega)
    have := (b5 i hi (by rw [hie]; exact hr)).1
    omega
  refine .inl ⟨b1, by omega, by rw [b4], by rw [b4, hV], ?_⟩
  rw [b4]
  refine ⟨j, rfl, b2, b3, by rw [hV, (h.tr _ (getS_mem b2)).1], fun q hq hr he => ?_⟩
  obtain ⟨i, hi, hie, hc⟩ := hlow q hq hr (by omega)
  have h5 := b5 i hi (by rw [hie]; exact hr)
  rcases Nat.lt_or_ge i j with hl | hl
  ·have := h5.2 hl; omega
  ·rw [← hie]; exact h.asc hd hl hi
end
def mkRows (d : Dr) : List Int → List (List Sp)
 | [] => []
 | t :: ts => mkRow d (posD d t) ((mkRows d ts).headD []) ts.isEmpty :: mkRows d ts
section
variable {d : Dr} (hd : DOk d)
include hd
theorem row_ok (t : Int) {ts : List Int} (hts : ts.length ≤ 1000) {Rs : List (List Sp)} (hR : RowsOk d ts Rs) : RowOk d t ts Rs (mkRow d (posD d t) (Rs.headD []) ts.isEmpty) := by
 have hb : ∀ p, d.2.1.1 ≤ p → p ≤ d.2.1.2 → ((bstV d (Rs.headD []) p ts.isEmpty).2 = true ∧ VpD d ts p < NEV ∧ (bstV d (Rs.headD []) p ts.isEmpty).1.1 = p ∧ (bstV d (Rs.headD []) p ts.isEmpty).1.2.1 = VpD d ts p ∧ Nxt d ts Rs p (bstV d (Rs.headD []) p ts.isEmpty).1.2.2) ∨ ((bstV d (Rs.headD []) p ts.isEmpty).2 = false ∧ ¬ VpD d ts p < NEV) := by
  intro p h1 h2
  cases ts with
  | nil => exact .inl ⟨rfl, by show (0 : Int) < NEV; unfold NEV; omega, rfl, rfl, trivial⟩
  | cons t' ts' =>
    cases Rs with
    | nil => exact hR.elim
    | cons R Rs => exact best_mid hd (by simp at hts; omega) hR.1 h1 h2
 have key : ∀ k, k ≤ (posD d t).length → (mkR d (posD d t) (Rs.headD []) ts.isEmpty k).map (fun s => s.1) = ((posD d t).take k).filter (fun p => decide (VpD d ts p < NEV)) ∧ ∀ s ∈ mkR d (posD d t) (Rs.headD []) ts.isEmpty k, s.2.1 = VpD d ts s.1 ∧ Nxt d ts Rs s.1 s.2.2 := by
  intro k
  induction k with
  | zero => intro _; exact ⟨rfl, fun s hs => by cases hs⟩
  | succ k ih =>
    intro hk
    obtain ⟨i1, i2⟩ := ih (by omega)
    have hm := pos_b hd (ix_mem (show k < (posD d t).length by omega))
    have htk := take_succ_getD (posD d t) 0 (show k < (posD d t).length by omega)
    rw [← htk, List.filter_append]
    rcases hb ((posD d t).getD k 0) hm.1 hm.2.1 with ⟨b1, b2, b3, b4, b5⟩ | ⟨b1, b2⟩
    ·simp only [mkR, b1, cond_true, List.map_append, i1, List.map_cons, List.map_nil, b3]
     refine ⟨by rw [List.filter_cons_of_pos (by simpa using b2), List.filter_nil], fun s hs => ?_⟩
     rcases List.mem_append.1 hs with h | h
     ·exact i2 s h
     ·rw [List.mem_singleton.1 h, b3]; exact ⟨b4, b5⟩
    ·simp only [mkR, b1, cond_false, i1]
     refine ⟨by rw [List.filter_cons_of_neg (by simpa using b2), List.filter_nil, List.append_nil], i2⟩
 obtain ⟨k1, k2⟩ := key _ (Nat.le_refl _)
 rw [List.take_length] at k1
 exact ⟨k1, k2⟩
theorem rows_ok : ∀ {ts : List Int}, ts.length ≤ 1000 → RowsOk d ts (mkRows d ts)
 | [], _ => rfl
 | t :: ts, h => ⟨row_ok hd t (by simp at h; omega) (rows_ok (ts := ts) (by simp at h; omega)), rows_ok (ts := ts) (by simp at h; omega)⟩
theorem rows_rb : ∀ {ts : List Int} {Rs : List (List Sp)}, ts.length ≤ 1000 → RowsOk d ts Rs → ∀ R ∈ Rs, RB R
 | [], Rs, _, h, R, hR => by
   have h : Rs = [] := h
   subst h; cases hR
 | t :: ts, [], _, h, _, _ => h.elim
 | t :: ts, R' :: Rs, hl, h, R, hR => by
   rcases List.mem_cons.1 hR with rfl | hR
   ·exact h.1.rb hd (by simp at hl; omega)
   ·exact rows_rb (ts := ts) (by simp at hl; omega) h.2 R hR
end
def walk : List (List Sp) → Int → List Int
 | [], _ => []
 | R :: Rs, k => (R.getD k.toNat (0, 0, 0)).1 :: walk Rs (R.getD k.toNat (0, 0, 0)).2.2
def Steps : List (List Sp) → Int → Prop
 | [], _ => True
 | R :: Rs, k => inBounds k R.length = true ∧ Steps Rs (R.getD k.toNat (0, 0, 0)).2.2
section
variable {d : Dr}
theorem walk_path : ∀ {ts : List Int} {Rs : List (List Sp)} {p k : Int}, RowsOk d ts Rs → Nxt d ts Rs p k → PathD d ts p (walk Rs k) ∧ Steps Rs k
 | [], Rs, p, k, h, _ => by
   have h : Rs = [] := h
   subst h; exact ⟨rfl, trivial⟩
 | t :: ts, [], _, _, h, _ => h.elim
 | t :: ts, R :: Rs, p, k, h, ⟨j, hk, hj, h1, h2, h3⟩ => by
   subst hk
   have hm := h.1.mem (getS_mem hj)
   obtain ⟨a, b⟩ := walk_path (ts := ts) (Rs := Rs) h.2 (h.1.tr _ (getS_mem hj)).2
   refine ⟨⟨(R.getD j (0, 0, 0)).1, walk Rs (R.getD j (0, 0, 0)).2.2, ?_, hm.1, h1, h2, h3, a⟩, ?_⟩
   ·simp only [walk, Int.toNat_natCast]
   ·simp only [Steps, Int.toNat_natCast]
    exact ⟨by rw [inB_cast]; exact decide_eq_true hj, b⟩
end
theorem path_unique {turn lo hi rate : Int} : ∀ {ts : List Int} {p : Int} {o o' : List Int}, Path (turn := turn) (lo := lo) (hi := hi) (rate := rate) ts p o → Path (turn := turn) (lo := lo) (hi := hi) (rate := rate) ts p o' → o = o'
 | [], p, o, o', h, h' => by
   have h : o = [] := h
   have h' : o' = [] := h'
   rw [h, h']
 | t :: ts, p, o, o', ⟨q, r, e, a1, a2, a3, a4, a5⟩, ⟨q', r', e', b1, b2, b3, b4, b5⟩ => by
   have h1 := a4 q' b1 b2 b3
   have h2 := b4 q a1 a2 a3
   obtain rfl : q = q' := by omega
   rw [e, e', path_unique a5 b5]
def refB (d : Dr) (ts : List Int) : Sp × Bool := bstV d ((mkRows d ts).headD []) d.2.2.1 ts.isEmpty
def refOut (d : Dr) (ts : List Int) : List Int × Int × Bool := bif !(refB d ts).2 then ([], 0, false) else (walk (mkRows d ts) (refB d ts).1.2.2, (refB d ts).1.2.1, true)
section
variable {d : Dr} (hd : DOk d)
include hd
theorem refB_spec {ts : List Int} (hts : ts.length ≤ 1000) : ((refB d ts).2 = true ∧ VpD d ts d.2.2.1 < NEV ∧ (refB d ts).1.2.1 = VpD d ts d.2.2.1 ∧ Nxt d ts (mkRows d ts) d.2.2.1 (refB d ts).1.2.2) ∨ ((refB d ts).2 = false ∧ ¬ VpD d ts d.2.2.1 < NEV) := by
 have hR := rows_ok hd hts
 cases ts with
 | nil => exact .inl ⟨rfl, by show (0 : Int) < NEV; unfold NEV; omega, rfl, trivial⟩
 | cons t ts =>
   rcases best_mid hd (by simp at hts; omega) hR.1 hd.a1 hd.a2 with ⟨b1, b2, _, b4, b5⟩ | h
   ·exact .inl ⟨b1, b2, b4, b5⟩
   ·exact .inr h
theorem ref_steps {ts : List Int} (hts : ts.length ≤ 1000) (h : (refB d ts).2 = true) : Steps (mkRows d ts) (refB d ts).1.2.2 := by
 rcases refB_spec hd hts with ⟨_, _, _, h'⟩ | ⟨h', _⟩
 ·exact (walk_path (rows_ok hd hts) h').2
 ·rw [h] at h'; cases h'
theorem refOut_spec {ts : List Int} (hts : ts.length ≤ 1000) : (VpD d ts d.2.2.1 < NEV ∧ ∃ out, PathD d ts d.2.2.1 out ∧ refOut d ts = (out, VpD d ts d.2.2.1, true)) ∨ (¬ VpD d ts d.2.2.1 < NEV ∧ refOut d ts = ([], 0, false)) := by
 unfold refOut
 rcases refB_spec hd hts with ⟨b1, b2, b3, b4⟩ | ⟨b1, b2⟩
 ·left
  refine ⟨b2, _, (walk_path (rows_ok hd hts) b4).1, ?_⟩
  rw [b1, b3]; rfl
 ·right
  rw [b1]; exact ⟨b2, rfl⟩
theorem rpos_loop (t : Int) : ∀ m k : Nat, k + m = posN d.1 d.2.1.1 d.2.1.2 t → loopVal step34_0 ((List.range k).map fun k : Nat => posF d.1 d.2.1.1 t + (k : Int) * d.1, posF d.1 d.2.1.1 t + (k : Int) * d.1, d) = some (posD d t) := by
 intro m
 have hb := posN_b hd t
 obtain ⟨b1, b2⟩ := posF_b hd t
 have := hd.l1; have := hd.l3; have := hd.t1; have := hd.t2
 induction m with
 | zero =>
   intro k hk
   obtain rfl : k = posN d.1 d.2.1.1 d.2.1.2 t := by omega
   have := posN_out hd t
   refine loopVal_last ?_
   simp only [step34_0, dF (show ¬ posF d.1 d.2.1.1 t + (posN d.1 d.2.1.1 d.2.1.2 t : Int) * d.1 ≤ d.2.1.2 by omega), cond_false]
   rfl
 | succ m ih =>
   intro k hk
   have h1 := posN_in hd (t := t) (k := k) (by omega)
   have h2 : (0 : Int) ≤ (k : Int) * d.1 := Int.mul_nonneg (by omega) (by omega)
   have e : posF d.1 d.2.1.1 t + (k : Int) * d.1 + d.1 = posF d.1 d.2.1.1 t + ((k + 1 : Nat) : Int) * d.1 := by
    rw [Int.natCast_add, Int.add_mul, Int.natCast_one, Int.one_mul]; omega
   have hw : wr (posF d.1 d.2.1.1 t + ((k + 1 : Nat) : Int) * d.1) = posF d.1 d.2.1.1 t + ((k + 1 : Nat) : Int) * d.1 := by
    rw [← e]; exact wr_id (by omega) (by omega)
   have hs : step34_0 ((List.range k).map fun k : Nat => posF d.1 d.2.1.1 t + (k : Int) * d.1, posF d.1 d.2.1.1 t + (k : Int) * d.1, d) = some (.inl ((List.range (k + 1)).map fun k : Nat => posF d.1 d.2.1.1 t + (k : Int) * d.1, posF d.1 d.2.1.1 t + ((k + 1 : Nat) : Int) * d.1, d)) := by
    simp only [step34_0, dT h1, cond_true, List.length_map, List.length_range, room_true (b := 8) (n := k + 1) (by omega) (by omega), hw, e, ← range_map_succ]
   rw [loopVal_next hs]
   exact ih (k + 1) (by omega)
theorem rpos_z {t : Int} (h0 : 0 ≤ t) (h1 : t < d.1) : s34 (d, t) = some (posD d t) := by
 have := hd.l1; have := hd.l2; have := hd.l3; have := hd.t1; have := hd.t2
 have a1 := Int.emod_nonneg (t - d.2.1.1) (show d.1 ≠ 0 by omega)
 have a2 := Int.emod_lt_of_pos (t - d.2.1.1) (show 0 < d.1 by omega)
 have w1 : wr (t - d.2.1.1) = t - d.2.1.1 := wr_id (by omega) (by omega)
 have hm : s46 (t - d.2.1.1, d.1) = some ((t - d.2.1.1) % d.1) := mod_law (n := t - d.2.1.1) (m := d.1) (by omega) (by omega)
 have w3 : wr (d.2.1.1 + (t - d.2.1.1) % d.1) = posF d.1 d.2.1.1 t := wr_id (by omega) (by omega)
 have hl := rpos_loop hd t (posN d.1 d.2.1.1 d.2.1.2 t) 0 (by omega)
 rw [show posF d.1 d.2.1.1 t + ((0 : Nat) : Int) * d.1 = posF d.1 d.2.1.1 t by simp] at hl
 have hl : loopVal step34_0 ([], posF d.1 d.2.1.1 t, d) = some (posD d t) := hl
 simp only [s34, w1, hm, w3, hl, optE_some]
end
end Go.Proofs.Ythabingkfmlbbaa
