/- What the program computes: positions, stages, motions. -/
import Derived.Test.YthabingkfmlbbaaTrav
import Derived.Test.YthabingkfmlbbaaDrive
set_option linter.unusedSimpArgs false
set_option linter.unusedVariables false
set_option maxRecDepth 100000
namespace Go.Proofs.Ythabingkfmlbbaa
open Go.Ev
theorem mx_dist (p q : Int) : mx (q - p) (p - q) = dist p q := by
 unfold mx dist
 split <;> split <;> omega
theorem rep_zero : ∀ l : List Int, List.replicate l.length (0 : Int) = l.map fun _ => 0
 | [] => rfl
 | x :: l => by rw [List.length_cons, List.replicate_succ, List.map_cons, rep_zero l]
structure DOk (d : Dr) : Prop where
 t1 : 1 ≤ d.1
 t2 : d.1 ≤ 3600
 l1 : -20000 ≤ d.2.1.1
 l2 : d.2.1.1 ≤ d.2.1.2
 l3 : d.2.1.2 ≤ 20000
 a1 : d.2.1.1 ≤ d.2.2.1
 a2 : d.2.2.1 ≤ d.2.1.2
 r1 : 0 ≤ d.2.2.2
 r2 : d.2.2.2 ≤ 40000
theorem DOk.of {d : Dr} (h : drvE d = 0) : DOk d := by
 obtain ⟨a, b, c, e, f, g⟩ := drvE_ok h
 exact ⟨a.1, a.2, b.1, f, c.2, g.1, g.2, e.1, e.2⟩
def TOk (d : Dr) (ts : List Int) : Prop := ∀ t ∈ ts, 0 ≤ t ∧ t < d.1
theorem TOk.of {d : Dr} (hd : DOk d) {ts : List Int} (h : AllT d ts) : TOk d ts := fun t ht => by
 obtain ⟨j, hj, rfl⟩ := mem_ix ht
 have := win_iff.1 (h j hj)
 rw [wr_id (by have := hd.t1; omega) (by have := hd.t2; omega)] at this
 omega
abbrev posD (d : Dr) (t : Int) : List Int := posL d.1 d.2.1.1 d.2.1.2 t
abbrev VpD (d : Dr) (ts : List Int) (p : Int) : Int := Vp d.1 d.2.1.1 d.2.1.2 d.2.2.2 ts p
def stgL (d : Dr) : List Int → List Stg
 | [] => []
 | t :: ts => (posD d t, (posD d t).map (VpD d ts)) :: stgL d ts
theorem stgL_len (d : Dr) : ∀ ts, (stgL d ts).length = ts.length
 | [] => rfl
 | t :: ts => by simp only [stgL, List.length_cons, stgL_len d ts]
section
variable {d : Dr} (hd : DOk d)
include hd
theorem posF_b (t : Int) : d.2.1.1 ≤ posF d.1 d.2.1.1 t ∧ posF d.1 d.2.1.1 t < d.2.1.1 + d.1 := by
 have h1 := Int.emod_nonneg (t - d.2.1.1) (show d.1 ≠ 0 by have := hd.t1; omega)
 have h2 := Int.emod_lt_of_pos (t - d.2.1.1) (show 0 < d.1 by have := hd.t1; omega)
 unfold posF; omega
theorem posN_b (t : Int) : posN d.1 d.2.1.1 d.2.1.2 t ≤ 40001 := by
 obtain ⟨b1, b2⟩ := posF_b hd t
 have := hd.l1; have := hd.l3; have := hd.t1
 unfold posN
 split
 ·have := Int.ediv_le_self d.1 (show 0 ≤ d.2.1.2 - posF d.1 d.2.1.1 t by omega)
  omega
 ·omega
theorem posN_in {t : Int} {k : Nat} (h : k < posN d.1 d.2.1.1 d.2.1.2 t) : posF d.1 d.2.1.1 t + (k : Int) * d.1 ≤ d.2.1.2 := by
 unfold posN at h
 split at h
 ·rename_i hf
  have := Int.ediv_nonneg (show 0 ≤ d.2.1.2 - posF d.1 d.2.1.1 t by omega) (show 0 ≤ d.1 by have := hd.t1; omega)
  have := (Int.le_ediv_iff_mul_le (a := (k : Int)) (b := d.2.1.2 - posF d.1 d.2.1.1 t) (show 0 < d.1 by have := hd.t1; omega)).1 (by omega)
  omega
 ·omega
theorem posN_out (t : Int) : d.2.1.2 < posF d.1 d.2.1.1 t + (posN d.1 d.2.1.1 d.2.1.2 t : Int) * d.1 := by
 unfold posN
 split
 ·rename_i hf
  have h0 := Int.ediv_nonneg (show 0 ≤ d.2.1.2 - posF d.1 d.2.1.1 t by omega) (show 0 ≤ d.1 by have := hd.t1; omega)
  have := Int.lt_ediv_add_one_mul_self (d.2.1.2 - posF d.1 d.2.1.1 t) (show 0 < d.1 by have := hd.t1; omega)
  have e : (((((d.2.1.2 - posF d.1 d.2.1.1 t) / d.1).toNat + 1 : Nat)) : Int) = (d.2.1.2 - posF d.1 d.2.1.1 t) / d.1 + 1 := by omega
  rw [e]; omega
 ·omega
theorem pos_loop (t : Int) : ∀ m k : Nat, k + m = posN d.1 d.2.1.1 d.2.1.2 t → loopVal step43_0 ((List.range k).map fun k : Nat => posF d.1 d.2.1.1 t + (k : Int) * d.1, posF d.1 d.2.1.1 t + (k : Int) * d.1, d) = some (posD d t) := by
 intro m
 have hb := posN_b hd t
 obtain ⟨b1, b2⟩ := posF_b hd t
 have := hd.l1; have := hd.l3; have := hd.t1; have := hd.t2
 induction m with
 | zero =>
   intro k hk
   obtain rfl : k = posN d.1 d.2.1.1 d.2.1.2 t := by omega
   have := posN_out hd t
   refine loopVal_last ?_
   simp only [step43_0, dF (show ¬ posF d.1 d.2.1.1 t + (posN d.1 d.2.1.1 d.2.1.2 t : Int) * d.1 ≤ d.2.1.2 by omega), cond_false]
   rfl
 | succ m ih =>
   intro k hk
   have h1 := posN_in hd (t := t) (k := k) (by omega)
   have h2 : (0 : Int) ≤ (k : Int) * d.1 := Int.mul_nonneg (by omega) (by omega)
   have e : posF d.1 d.2.1.1 t + (k : Int) * d.1 + d.1 = posF d.1 d.2.1.1 t + ((k + 1 : Nat) : Int) * d.1 := by
    rw [Int.natCast_add, Int.add_mul, Int.natCast_one, Int.one_mul]; omega
   have hw : wr (posF d.1 d.2.1.1 t + ((k + 1 : Nat) : Int) * d.1) = posF d.1 d.2.1.1 t + ((k + 1 : Nat) : Int) * d.1 := by
    rw [← e]; exact wr_id (by omega) (by omega)
   have hs : step43_0 ((List.range k).map fun k : Nat => posF d.1 d.2.1.1 t + (k : Int) * d.1, posF d.1 d.2.1.1 t + (k : Int) * d.1, d) = some (.inl ((List.range (k + 1)).map fun k : Nat => posF d.1 d.2.1.1 t + (k : Int) * d.1, posF d.1 d.2.1.1 t + ((k + 1 : Nat) : Int) * d.1, d)) := by
    simp only [step43_0, dT h1, cond_true, List.length_map, List.length_range, room_true (b := 8) (n := k + 1) (by omega) (by omega), hw, e, ← range_map_succ]
   rw [loopVal_next hs]
   exact ih (k + 1) (by omega)
theorem positions_z {t : Int} (h0 : 0 ≤ t) (h1 : t < d.1) : s43 (d, t) = some (posD d t) := by
 have := hd.l1; have := hd.l2; have := hd.l3; have := hd.t1; have := hd.t2
 have hz : (d.1 == 0) = false := beq_eq_false_iff_ne.2 (by omega)
 have a1 := Int.emod_nonneg (t - d.2.1.1) (show d.1 ≠ 0 by omega)
 have a2 := Int.emod_lt_of_pos (t - d.2.1.1) (show 0 < d.1 by omega)
 have w1 : wr (t - d.2.1.1) = t - d.2.1.1 := wr_id (by omega) (by omega)
 have e1 := tmod_neg_iff (n := t - d.2.1.1) (show 0 < d.1 by omega)
 have hb : -d.1 < Int.tmod (t - d.2.1.1) d.1 ∧ Int.tmod (t - d.2.1.1) d.1 < d.1 := by
  rw [e1]; split <;> omega
 have w2 : wr (Int.tmod (t - d.2.1.1) d.1 + d.1) = Int.tmod (t - d.2.1.1) d.1 + d.1 := wr_id (by omega) (by omega)
 have e2 : Int.tmod (Int.tmod (t - d.2.1.1) d.1 + d.1) d.1 = (t - d.2.1.1) % d.1 := by
  have h : ¬ (Int.tmod (t - d.2.1.1) d.1 + d.1 < 0 ∧ (Int.tmod (t - d.2.1.1) d.1 + d.1) % d.1 ≠ 0) := by omega
  rw [tmod_neg_iff (show 0 < d.1 by omega), if_neg h, Int.add_emod_right, e1]
  split
  ·rw [Int.sub_emod_right, Int.emod_emod]
  ·rw [Int.emod_emod]
 have w3 : wr (d.2.1.1 + (t - d.2.1.1) % d.1) = posF d.1 d.2.1.1 t := wr_id (by omega) (by omega)
 have hl := pos_loop hd t (posN d.1 d.2.1.1 d.2.1.2 t) 0 (by omega)
 rw [show posF d.1 d.2.1.1 t + ((0 : Nat) : Int) * d.1 = posF d.1 d.2.1.1 t by simp] at hl
 have hl : loopVal step43_0 ([], posF d.1 d.2.1.1 t, d) = some (posD d t) := hl
 simp only [s43, hz, Bool.not_false, cond_true, w1, w2, e2, w3, hl, optE_some]
theorem pos_b {t q : Int} (h : q ∈ posD d t) : d.2.1.1 ≤ q ∧ q ≤ d.2.1.2 ∧ (q - t) % d.1 = 0 := (posL_mem (by have := hd.t1; omega)).1 h
theorem VpD_b (ts : List Int) (hts : ts.length ≤ 1000) {p : Int} (h1 : d.2.1.1 ≤ p) (h2 : p ≤ d.2.1.2) : 0 ≤ VpD d ts p ∧ VpD d ts p ≤ NEV := by
 have := hd.l1; have := hd.l3; have := hd.t1
 refine ⟨?_, Vp_top _ _ _ _ _ _⟩
 rcases Vp_small (rate := d.2.2.2) (show 0 < d.1 by omega) (show d.2.1.2 - d.2.1.1 ≤ 40000 by omega) (ts := ts) h1 h2 with h | h
 ·show 0 ≤ Vp _ _ _ _ _ _
  rw [h]; unfold NEV; omega
 ·exact h.1
theorem VpD_lim (ts : List Int) (hts : ts.length ≤ 1000) {p : Int} (h1 : d.2.1.1 ≤ p) (h2 : p ≤ d.2.1.2) : VpD d ts p < 576460752303423488 ↔ VpD d ts p < NEV := by
 have := hd.l1; have := hd.l3; have := hd.t1
 rcases Vp_small (rate := d.2.2.2) (show 0 < d.1 by omega) (show d.2.1.2 - d.2.1.1 ≤ 40000 by omega) (ts := ts) h1 h2 with h | h
 ·show Vp _ _ _ _ _ _ < _ ↔ Vp _ _ _ _ _ _ < _
  rw [h]; unfold NEV; omega
 ·show Vp _ _ _ _ _ _ < _ ↔ Vp _ _ _ _ _ _ < _
  have h := h.2
  unfold NEV; omega
theorem stg_ok (t : Int) (ts : List Int) (hts : ts.length ≤ 1000) : StOk (posD d t, (posD d t).map (VpD d ts)) := by
 have := hd.l1; have := hd.l3; have ht := hd.t1
 have hlen : (posD d t).length ≤ 40001 := by rw [posL_len]; exact posN_b hd t
 have hm : ∀ j, j < (posD d t).length → d.2.1.1 ≤ (posD d t).getD j 0 ∧ (posD d t).getD j 0 ≤ d.2.1.2 := fun j hj => by
  have := pos_b hd (ix_mem hj); exact ⟨this.1, this.2.1⟩
 refine ⟨fun i j hij hj => Int.le_of_lt (posL_asc (show 0 < d.1 by omega) hij hj), List.length_map _, by show (posD d t).length ≤ _; omega, fun j hj => ?_, fun j hj => ?_⟩
 ·have := hm j hj
  show -20000 ≤ (posD d t).getD j 0 ∧ (posD d t).getD j 0 ≤ 20000
  omega
 ·have := hm j hj
  show 0 ≤ ((posD d t).map (VpD d ts)).getD j 0 ∧ _
  rw [mapV_get hj]
  exact VpD_b hd ts hts this.1 this.2
theorem travels_stage {t : Int} {ts : List Int} (hts : ts.length ≤ 1000) {f : List Int} (hf : Asc f) (hfl : f.length ≤ 1000000) (hfb : ∀ i, i < f.length → -20000 ≤ f.getD i 0 ∧ f.getD i 0 ≤ 20000) :
 s44 (f, (posD d t, (posD d t).map (VpD d ts)), d.2.2.2) = some (f.map (VpD d (t :: ts))) :=
 travels_z (stg_ok hd t ts hts) ⟨hd.r1, hd.r2⟩ hf hfl hfb
theorem stages_loop {ts : List Int} (hT : TOk d ts) (hts : ts.length ≤ 40) : ∀ m : Nat, m ≤ ts.length → loopVal step29_0 (ts, List.replicate m ([], []) ++ stgL d (ts.drop m), (m : Int) - 1, d) = some (stgL d ts) := by
 intro m
 have := hd.l1; have := hd.l3; have ht := hd.t1
 induction m with
 | zero =>
   intro _
   refine loopVal_last ?_
   simp only [step29_0, dF (show ¬ ((0 : Nat) : Int) - 1 ≥ 0 by omega), cond_false, List.replicate_zero, List.nil_append, List.drop_zero]
 | succ m ih =>
   intro hm
   have hm' : m < ts.length := by omega
   obtain ⟨t, hte⟩ : ∃ t, ts.getD m 0 = t := ⟨_, rfl⟩
   have hdrop := getD_drop ts 0 hm'
   rw [hte] at hdrop
   have htk := hT _ (ix_mem hm')
   rw [hte] at htk
   have hpos := positions_z hd htk.1 htk.2
   have hlen : (posD d t).length ≤ 40001 := by rw [posL_len]; exact posN_b hd t
   have hm1 : ((m + 1 : Nat) : Int) - 1 = (m : Int) := by omega
   have hS : stgL d (ts.drop m) = (posD d t, (posD d t).map (VpD d (ts.drop (m + 1)))) :: stgL d (ts.drop (m + 1)) := by rw [hdrop]; rfl
   have hol : (List.replicate (m + 1) (([], []) : Stg) ++ stgL d (ts.drop (m + 1))).length = ts.length := by
    rw [List.length_append, List.length_replicate, stgL_len, List.length_drop]; omega
   have hset : ∀ x : Stg, (List.replicate (m + 1) (([], []) : Stg) ++ stgL d (ts.drop (m + 1))).set m x = List.replicate m ([], []) ++ x :: stgL d (ts.drop (m + 1)) := fun x => by
    rw [List.replicate_succ', List.append_assoc, List.set_append_right _ _ (by rw [List.length_replicate]; omega), List.length_replicate, Nat.sub_self]
    rfl
   have hroom : room 8 (posD d t).length = true := room_true (by omega) (by omega)
   have hw : wr ((m : Int) - 1) = (m : Int) - 1 := wr_id (by omega) (by omega)
   have hs : step29_0 (ts, List.replicate (m + 1) ([], []) ++ stgL d (ts.drop (m + 1)), (m : Int), d) = some (.inl (ts, List.replicate m ([], []) ++ stgL d (ts.drop m), (m : Int) - 1, d)) := by
    by_cases hl : m + 1 < ts.length
    ·obtain ⟨t', hte'⟩ : ∃ t', ts.getD (m + 1) 0 = t' := ⟨_, rfl⟩
     have hdrop' := getD_drop ts 0 hl
     rw [hte'] at hdrop'
     have hget : (List.replicate (m + 1) (([], []) : Stg) ++ stgL d (ts.drop (m + 1))).getD (m + 1) ([], []) = (posD d t', (posD d t').map (VpD d (ts.drop (m + 1 + 1)))) := by
      rw [List.getD_eq_getElem?_getD, List.getElem?_append_right (by rw [List.length_replicate]; exact Nat.le_refl _), List.length_replicate, Nat.sub_self, hdrop']
      rfl
     have htr := travels_stage hd (t := t') (ts := ts.drop (m + 1 + 1)) (by rw [List.length_drop]; omega) (f := posD d t) (fun i j hij hj => Int.le_of_lt (posL_asc (show 0 < d.1 by omega) hij hj)) (by omega) (fun j hj => by have := pos_b hd (ix_mem hj); omega)
     rw [← hdrop'] at htr
     simp only [step29_0, dT (show (m : Int) ≥ 0 by omega), cond_true, inB_cast, dT hm', Int.toNat_natCast, hte, hpos, optE_some, dT (show (0 : Int) ≤ ((posD d t).length : Int) by omega), decide_true, Bool.true_and, Bool.and_true, hroom, Bool.and_self, wr_succ (show m < 4611686018427387904 by omega), lt_cast, dT hl, hol, hget, htr, hset, hw, hS]
    ·have he : ts.drop (m + 1) = [] := List.drop_eq_nil_of_le (by omega)
     have hrep : List.replicate (posD d t).length (0 : Int) = (posD d t).map (VpD d (ts.drop (m + 1))) := by
      rw [he]; exact rep_zero _
     simp only [step29_0, dT (show (m : Int) ≥ 0 by omega), cond_true, inB_cast, dT hm', Int.toNat_natCast, hte, hpos, optE_some, dT (show (0 : Int) ≤ ((posD d t).length : Int) by omega), decide_true, Bool.true_and, Bool.and_true, hroom, Bool.and_self, wr_succ (show m < 4611686018427387904 by omega), lt_cast, dF hl, cond_false, hol, hset, hw, hS, hrep]
   rw [hm1, loopVal_next hs]
   exact ih (by omega)
theorem stages_z {ts : List Int} (hT : TOk d ts) (hts : ts.length ≤ 40) : s29 (d, ts) = some (stgL d ts) := by
 have h := stages_loop hd hT hts ts.length (Nat.le_refl _)
 rw [List.drop_eq_nil_of_le (Nat.le_refl _)] at h
 have h : loopVal step29_0 (ts, List.replicate ts.length ([], []), (ts.length : Int) - 1, d) = some (stgL d ts) := by
  rw [show List.replicate ts.length (([], []) : Stg) = List.replicate ts.length ([], []) ++ stgL d [] by simp [stgL]]
  exact h
 simp only [s29, dT (show (0 : Int) ≤ (ts.length : Int) by omega), decide_true, Bool.true_and, Bool.and_true, Int.toNat_natCast, room_true (b := 48) (n := ts.length) (by omega) (by omega), Bool.and_self, cond_true, wr_id (n := (ts.length : Int) - 1) (by omega) (by omega), h, optE_some]
theorem motion_z {ts : List Int} (hts : ts.length ≤ 40) : s30 (d, stgL d ts) = some (VpD d ts d.2.2.1) := by
 have := hd.l1; have := hd.l3; have := hd.a1; have := hd.a2
 cases ts with
 | nil => rfl
 | cons t ts =>
   have hlen : ((stgL d (t :: ts)).length : Int) = (ts.length : Int) + 1 := by rw [stgL_len]; rfl
   have hz : (((ts.length : Int) + 1) == 0) = false := beq_eq_false_iff_ne.2 (by omega)
   have htr := travels_stage hd (t := t) (ts := ts) (by simp at hts; omega) (f := [d.2.2.1]) (fun i j hij hj => by simp at hj; omega) (by simp) (fun j hj => by
    have : j = 0 := by simp at hj; omega
    subst this
    show -20000 ≤ d.2.2.1 ∧ d.2.2.1 ≤ 20000
    omega)
   have hb : inBounds 0 (stgL d (t :: ts)).length = true := inT (by omega) (by omega)
   have hg : (stgL d (t :: ts)).getD 0 ([], []) = (posD d t, (posD d t).map (VpD d ts)) := rfl
   simp only [s30, hlen, hz, cond_false, hb, cond_true, hg, htr, optE_some]
   rfl
theorem inner_loop {t : Int} {ts : List Int} (hts : ts.length ≤ 1000) {now : Int} (hn1 : d.2.1.1 ≤ now) (hn2 : now ≤ d.2.1.2) {left : Int} (tr : Int) (out : List Int) (L : List Stg) (n k : Int) {j : Nat} (hj : j < (posD d t).length) (he : dist now ((posD d t).getD j 0) + VpD d ts ((posD d t).getD j 0) = left) :
 ∀ m i : Nat, i + m = j → ∃ i' : Nat, i ≤ i' ∧ i' ≤ j ∧ dist now ((posD d t).getD i' 0) + VpD d ts ((posD d t).getD i' 0) = left ∧ (∀ c, i ≤ c → c < i' → dist now ((posD d t).getD c 0) + VpD d ts ((posD d t).getD c 0) ≠ left) ∧
  loopVal step8_2 (tr, out, now, left, (i : Int), L, n, k, d, (posD d t, (posD d t).map (VpD d ts))) = some (tr, out, ((i' : Nat) : Int), L, n, k, d, (posD d t, (posD d t).map (VpD d ts))) := by
 intro m
 have := hd.l1; have := hd.l3
 have hlen : (posD d t).length ≤ 40001 := by rw [posL_len]; exact posN_b hd t
 have hstep : ∀ i : Nat, i < (posD d t).length → step8_2 (tr, out, now, left, (i : Int), L, n, k, d, (posD d t, (posD d t).map (VpD d ts))) = bif (dist now ((posD d t).getD i 0) + VpD d ts ((posD d t).getD i 0)) != left then some (.inl (tr, out, now, left, ((i + 1 : Nat) : Int), L, n, k, d, (posD d t, (posD d t).map (VpD d ts)))) else some (.inr (tr, out, (i : Int), L, n, k, d, (posD d t, (posD d t).map (VpD d ts)))) := fun i hi => by
  obtain ⟨b1, b2, _⟩ := pos_b hd (ix_mem hi)
  have hv := VpD_b hd ts hts b1 b2
  have hdn := dist_nonneg now ((posD d t).getD i 0)
  have hdb : dist now ((posD d t).getD i 0) ≤ 40000 := by unfold dist; split <;> omega
  have hN : NEV = 1152921504606846976 := rfl
  simp only [step8_2, inB_cast, List.length_map, dT hi, cond_true, Int.toNat_natCast, mapV_get hi, wr_id (n := (posD d t).getD i 0 - now) (by omega) (by omega), wr_id (n := now - (posD d t).getD i 0) (by omega) (by omega), mx_dist, wr_id (n := dist now ((posD d t).getD i 0) + VpD d ts ((posD d t).getD i 0)) (by omega) (by omega), wr_succ (show i < 4611686018427387904 by omega)]
 induction m with
 | zero =>
   intro i hi
   obtain rfl : i = j := by omega
   refine ⟨i, Nat.le_refl _, Nat.le_refl _, he, fun c h1 h2 => by omega, loopVal_last ?_⟩
   rw [hstep i hj, bne_eq_false_iff_eq.2 he, cond_false]
 | succ m ih =>
   intro i hi
   by_cases hc : dist now ((posD d t).getD i 0) + VpD d ts ((posD d t).getD i 0) = left
   ·refine ⟨i, Nat.le_refl _, by omega, hc, fun c h1 h2 => by omega, loopVal_last ?_⟩
    rw [hstep i (by omega), bne_eq_false_iff_eq.2 hc, cond_false]
   ·obtain ⟨i', a, b, c, e, f⟩ := ih (i + 1) (by omega)
    refine ⟨i', by omega, b, c, fun c' h1 h2 => ?_, ?_⟩
    ·by_cases e' : c' = i
     ·rw [e']; exact hc
     ·exact e c' (by omega) h2
    ·have hs := hstep i (by omega)
     rw [bne_iff_ne.2 hc, cond_true] at hs
     rw [loopVal_next hs]; exact f
abbrev PathD (d : Dr) (ts : List Int) (p : Int) (out : List Int) : Prop := Path (turn := d.1) (lo := d.2.1.1) (hi := d.2.1.2) (rate := d.2.2.2) ts p out
omit hd in
theorem stgL_get (d : Dr) (ts : List Int) {k : Nat} (h : k < ts.length) : (stgL d ts).getD k ([], []) = (posD d (ts.getD k 0), (posD d (ts.getD k 0)).map (VpD d (ts.drop (k + 1)))) := by
 induction ts generalizing k with
 | nil => cases h
 | cons t ts ih =>
   cases k with
   | zero => rfl
   | succ k => exact ih (by simp at h; omega)
theorem path_loop {ts : List Int} (hT : TOk d ts) (hts : ts.length ≤ 40) (tr : Int) : ∀ (m k : Nat) (out : List Int) (now : Int), k + m = ts.length → out.length = k → d.2.1.1 ≤ now → now ≤ d.2.1.2 → VpD d (ts.drop k) now < NEV →
 ∃ out', PathD d (ts.drop k) now out' ∧ loopVal step8_0 (tr, out, now, VpD d (ts.drop k) now, stgL d ts, (ts.length : Int), (k : Int), d) = some (tr, out ++ out') := by
 intro m
 have := hd.l1; have := hd.l3; have ht := hd.t1; have hr1 := hd.r1; have hr2 := hd.r2
 induction m with
 | zero =>
   intro k out now hk ho h1 h2 hv
   obtain rfl : k = ts.length := by omega
   rw [List.drop_eq_nil_of_le (Nat.le_refl _)]
   refine ⟨[], rfl, loopVal_last ?_⟩
   simp only [step8_0, lt_cast, Nat.lt_irrefl, decide_false, cond_false, List.append_nil]
 | succ m ih =>
   intro k out now hk ho h1 h2 hv
   have hk' : k < ts.length := by omega
   obtain ⟨t, hte⟩ : ∃ t, ts.getD k 0 = t := ⟨_, rfl⟩
   have hdrop := getD_drop ts 0 hk'
   rw [hte] at hdrop
   have hrl : (ts.drop (k + 1)).length ≤ 1000 := by rw [List.length_drop]; omega
   obtain ⟨R, hR⟩ : ∃ R, ts.drop (k + 1) = R := ⟨_, rfl⟩
   rw [hR] at hdrop hrl
   rw [hdrop] at hv ⊢
   have hlen : (posD d t).length ≤ 40001 := by rw [posL_len]; exact posN_b hd t
   have hgs := stgL_get d ts hk'
   rw [hte, hR] at hgs
   have hasc : Asc (posD d t) := fun i j hij hj => Int.le_of_lt (posL_asc (show 0 < d.1 by omega) hij hj)
   obtain ⟨q, g1, g2, g3⟩ := search_z hasc (by omega) (now - d.2.2.2)
   have hw : ∃ j, j < (posD d t).length ∧ dist now ((posD d t).getD j 0) ≤ d.2.2.2 ∧ dist now ((posD d t).getD j 0) + VpD d R ((posD d t).getD j 0) = VpD d (t :: R) now := by
    rcases Vp_cases d.1 d.2.1.1 d.2.1.2 d.2.2.2 t R now with h | ⟨x, hx, hdx, h⟩
    ·have h : VpD d (t :: R) now = NEV := h
     omega
    ·obtain ⟨j, hj, rfl⟩ := mem_ix hx
     exact ⟨j, hj, hdx, h.symm⟩
   obtain ⟨j, hj, hjd, hje⟩ := hw
   have hqj : q ≤ j := (g3 j hj).2 (by have : dist now ((posD d t).getD j 0) ≤ d.2.2.2 := hjd; unfold dist at this; split at this <;> omega)
   obtain ⟨i, i1, i2, i3, i4, i5⟩ := inner_loop hd (ts := R) hrl h1 h2 tr out (stgL d ts) (ts.length : Int) (k : Int) hj hje (j - q) q (by omega)
   have hil : i < (posD d t).length := by omega
   obtain ⟨c1, c2, c3⟩ := pos_b hd (ix_mem hil)
   have hlow := (g3 i hil).1 i1
   have hup := asc_le hasc i2 hj
   have hid : dist now ((posD d t).getD i 0) ≤ d.2.2.2 := by
    have h' := hjd
    unfold dist at h' ⊢
    split <;> split at h' <;> omega
   have hnn := dist_nonneg now ((posD d t).getD i 0)
   have hv' : VpD d R ((posD d t).getD i 0) < NEV := by omega
   obtain ⟨out', p1, p2⟩ := ih (k + 1) (out ++ [(posD d t).getD i 0]) ((posD d t).getD i 0) (by omega) (by simp [ho]) c1 c2 (by rw [hR]; exact hv')
   rw [hR] at p1 p2
   refine ⟨(posD d t).getD i 0 :: out', ⟨_, out', rfl, ix_mem hil, hid, i3, fun x hx hdx hex => ?_, p1⟩, ?_⟩
   ·obtain ⟨c, hc, rfl⟩ := mem_ix hx
    have hqc : q ≤ c := (g3 c hc).2 (by have h' : dist now ((posD d t).getD c 0) ≤ d.2.2.2 := hdx; unfold dist at h'; split at h' <;> omega)
    rcases Nat.lt_or_ge c i with h | h
    ·exact absurd hex (i4 c hqc h)
    ·exact asc_le hasc h hc
   ·have hs : step8_0 (tr, out, now, VpD d (t :: R) now, stgL d ts, (ts.length : Int), (k : Int), d) = some (.inl (tr, out ++ [(posD d t).getD i 0], (posD d t).getD i 0, VpD d R ((posD d t).getD i 0), stgL d ts, (ts.length : Int), ((k + 1 : Nat) : Int), d)) := by
     simp only [step8_0, lt_cast, dT hk', cond_true, inB_cast, stgL_len, Int.toNat_natCast, hgs, wr_id (n := now - d.2.2.2) (by omega) (by omega), g2, optE_some, i5, dT hil, List.length_map, mapV_get hil, ho, room_true (b := 8) (n := k + 1) (by omega) (by omega), wr_succ (show k < 4611686018427387904 by omega)]
    rw [loopVal_next hs, p2, List.append_assoc]
    rfl
end
theorem Pointing_z {d : Dr} (hd : DOk d) {ts : List Int} (hT : TOk d ts) (hts : ts.length ≤ 40) (he : s28 (d, ts) = some 0) :
 (NEV ≤ VpD d ts d.2.2.1 ∧ s8 (d, ts) = some ([], 0, 12)) ∨ (VpD d ts d.2.2.1 < NEV ∧ ∃ out, PathD d ts d.2.2.1 out ∧ s8 (d, ts) = some (out, VpD d ts d.2.2.1, 0)) := by
 have hlim := VpD_lim hd ts (by omega) hd.a1 hd.a2
 have hst := stages_z hd hT hts
 have hmo := motion_z hd hts
 have hz : ((0 : Int) != 0) = false := rfl
 by_cases hv : VpD d ts d.2.2.1 < NEV
 ·right
  obtain ⟨out, h1, h2⟩ := path_loop hd hT hts (VpD d ts d.2.2.1) ts.length 0 [] d.2.2.1 (by omega) rfl hd.a1 hd.a2 hv
  have h2 : loopVal step8_0 (VpD d ts d.2.2.1, [], d.2.2.1, VpD d ts d.2.2.1, stgL d ts, (ts.length : Int), 0, d) = some (VpD d ts d.2.2.1, out) := h2
  refine ⟨hv, out, h1, ?_⟩
  simp only [s8, he, optE_some, hz, cond_false, hst, hmo, dF (show ¬ VpD d ts d.2.2.1 ≥ 576460752303423488 by have := hlim.2 hv; omega), stgL_len, h2]
 ·left
  refine ⟨by omega, ?_⟩
  simp only [s8, he, optE_some, hz, cond_false, hst, hmo, dT (show VpD d ts d.2.2.1 ≥ 576460752303423488 by
   rcases Int.lt_or_le (VpD d ts d.2.2.1) 576460752303423488 with h | h
   ·exact absurd (hlim.1 h) hv
   ·omega), cond_true]
end Go.Proofs.Ythabingkfmlbbaa
