import Derived.Test.YthckjfbhdjjnkaaDoorGd6
import Derived.Test.YthckjfbhdjjnkaaDoorEnergyLaw
import Derived.Test.YthckjfbhdjjnkaaDoorStartsLaw
import Derived.Test.YthckjfbhdjjnkaaDoorDiffLaw
set_option linter.unusedSimpArgs false
namespace Go.Proofs.YthckjfbhdjjnkaaDoor
open Go.Ev
def rotQ (q : Int) (g : Int × Int) : Int × Int := if q = 1 then (-g.2, g.1) else if q = 2 then (-g.1, -g.2) else if q = 3 then (g.2, -g.1) else g
theorem rot_ok (q : Int) {g : Int × Int} (h : okS g = true) : okS (rotQ q g) = true := by
 have h1 := okS_iff h
 unfold okS rotQ
 rw [Bool.and_eq_true, win_iff, win_iff]
 repeat' split
 all_goals first | omega | (dsimp only; omega)
theorem s75_eq {q : Int} (hq : 0 ≤ q ∧ q ≤ 3) {g : Int × Int} (h : okS g = true) : s75 (g, q) = some (rotQ q g) := by
 have h1 := okS_iff h
 unfold s75 rotQ
 have hm := s74_eq (n := q) (m := 4) (by omega) (by omega)
 rw [show q % 4 = q by omega] at hm
 simp only [hm, optE_some]
 rw [wr_id (n := -g.2) (by omega) (by omega), wr_id (n := -g.1) (by omega) (by omega)]
 by_cases e1 : q = 1
 ·rw [e1]; rfl
 by_cases e2 : q = 2
 ·rw [e2]; rfl
 by_cases e3 : q = 3
 ·rw [e3]; rfl
 rw [beq_eq_false_iff_ne.2 e1, beq_eq_false_iff_ne.2 e2, beq_eq_false_iff_ne.2 e3, if_neg e1, if_neg e2, if_neg e3]
 rfl
theorem rot_add (q : Int) (a b : Int × Int) : addG (rotQ q a) (rotQ q b) = rotQ q (addG a b) := by
 unfold rotQ addG
 repeat' split
 all_goals first | rfl | (apply Prod.ext <;> dsimp only <;> omega)
theorem rot_zero (q : Int) : rotQ q (0, 0) = (0, 0) := by
 unfold rotQ
 repeat' split
 all_goals rfl
theorem foldG_rot (q : Int) : ∀ (l : Gs) (b : Int × Int), (l.map (rotQ q)).foldl addG (rotQ q b) = rotQ q (l.foldl addG b)
 | [], _ => rfl
 | x :: l, b => by
   simp only [List.map_cons, List.foldl_cons]
   rw [rot_add, foldG_rot q l]
theorem gsum_rot (q : Int) (l : Gs) : gsum (l.map (rotQ q)) = rotQ q (gsum l) := by
 have := foldG_rot q l (0, 0)
 rw [rot_zero] at this
 exact this
theorem enW_rot (q : Int) (z : Int × Int) : enW (rotQ q z) = enW z := by
 unfold enW rotQ
 repeat' split
 ·simp only []; rw [Int.neg_mul_neg, Int.add_comm]
 ·simp only []; rw [Int.neg_mul_neg, Int.neg_mul_neg]
 ·simp only []; rw [Int.neg_mul_neg, Int.add_comm]
 ·rfl
theorem sE_of {l : Gs} (hl : l.length ≤ 400) (h : ∀ x ∈ l, okS x = true) : sE l = 0 := by
 unfold sE
 rw [if_neg (by omega), List.all_eq_true.2 h]
 rfl
section
variable (q : Int) (l : Gs)
theorem part_rot (a n : Nat) : gsum (((l.map (rotQ q)).drop a).take n) = rotQ q (gsum ((l.drop a).take n)) := by
 rw [← List.map_drop, ← List.map_take, gsum_rot]
theorem sums_rot (L p : Nat) : sumsV (l.map (rotQ q)) L p = (sumsV l L p).map (rotQ q) := by
 unfold sumsV cntS
 rw [List.length_map, List.map_map]
 congr 1
 funext k
 exact part_rot q l _ _
theorem foldE_rot : ∀ (T : Gs) (b : Int), (T.map (rotQ q)).foldl addE b = T.foldl addE b
 | [], _ => rfl
 | x :: T, b => by
   simp only [List.map_cons, List.foldl_cons]
   have : addE b (rotQ q x) = addE b x := by unfold addE; rw [enW_rot]
   rw [this, foldE_rot T]
theorem enV_rot (L : Nat) : enV (l.map (rotQ q)) L = enV l L := by
 unfold enV
 congr 1
 funext o
 unfold enO
 rw [sums_rot, ← List.map_take, foldE_rot]
 unfold cntS
 rw [List.length_map]
theorem enA_rot (h0 p : Nat) : enA (l.map (rotQ q)) h0 p = enA l h0 p := by
 unfold enA
 rw [part_rot, enW_rot]
theorem nxt_rot (t : Int × Int) (h0 p : Nat) : nxt t (l.map (rotQ q)) h0 p = nxt t l h0 p := by
 unfold nxt
 rw [enA_rot, enA_rot]
end
theorem starts_two {t : Int × Int} {l : Gs} {q : Int} {h0 : Nat} (h1 : 1 ≤ h0) (h2 : h0 ≤ 8) (ht : t.1 = 2 * h0) (hok : ∀ x ∈ l, okS x = true) (hl : l.length ≤ 400) : ∀ (m p : Nat) (out : List Int), l.length + 1 ≤ p + m → p ≤ 402 → out.length ≤ p →
 ∃ res, loopVal step42_0 (l, out, (h0 : Int), (p : Int), t) = some res ∧ loopVal step42_0 (l.map (rotQ q), out, (h0 : Int), (p : Int), t) = some res ∧ res.length ≤ 1000 := by
 have hok2 : ∀ x ∈ l.map (rotQ q), okS x = true := fun x hx => by
  obtain ⟨y, hy, rfl⟩ := List.mem_map.1 hx
  exact rot_ok q (hok y hy)
 have hl2 : (l.map (rotQ q)).length = l.length := List.length_map _
 intro m
 induction m with
 | zero =>
   intro p out hm hp ho
   exact ⟨out, loopVal_last (end_a h2 ht (by omega) (by omega)), loopVal_last (end_a h2 ht (by omega) (by omega)), by omega⟩
 | succ m ih =>
   intro p out hm hp ho
   by_cases g : p + 2 * h0 ≤ l.length
   ·have hn := nxt_in (t := t) (l := l) h1 p
    obtain ⟨res, r1, r2, r4⟩ := ih (nxt t l h0 p) (out ++ [(p : Int)]) (by omega) (by omega) (by simp; omega)
    refine ⟨res, by rw [loopVal_next (step_a h1 h2 ht hok hl g (by omega))]; exact r1, ?_, r4⟩
    rw [loopVal_next (step_a h1 h2 ht hok2 (by omega) (by omega) (by omega)), nxt_rot]
    exact r2
   ·exact ⟨out, loopVal_last (end_a h2 ht g (by omega)), loopVal_last (end_a h2 ht (by omega) (by omega)), by omega⟩
def nz (z : Int × Int) : Bool := !((z.1 == 0) && ((z.2 == 0) && true))
def qd (z : Int × Int) : Int := if z.1 > 0 ∧ z.2 ≥ 0 then 0 else if z.2 > 0 then 1 else if z.1 < 0 then 2 else 3
theorem qd_in (z : Int × Int) : 0 ≤ qd z ∧ qd z ≤ 3 := by
 unfold qd
 repeat' split
 all_goals omega
theorem nz_iff {z : Int × Int} : nz z = true ↔ ¬ (z.1 = 0 ∧ z.2 = 0) := by
 unfold nz
 rw [Bool.not_eq_true', ← Bool.not_eq_true]
 refine not_congr ?_
 simp
theorem quadrant_eq {z : Int × Int} (h : nz z = true) : s59 z = some (qd z, 0) := by
 have h := nz_iff.1 h
 unfold s59 qd
 by_cases a : z.1 > 0
 ·by_cases b : z.2 ≥ 0
  ·simp [a, b]
  ·have b1 : ¬ z.2 > 0 := by omega
   have a1 : ¬ z.1 < 0 := by omega
   have b2 : z.2 < 0 := by omega
   simp [a, b, b1, a1, b2]
 ·by_cases b : z.2 > 0
  ·simp [a, b]
  ·by_cases c : z.1 < 0
   ·simp [a, b, c]
   ·have b2 : z.2 < 0 := by omega
    simp [a, b, c, b2]
theorem nz_rot {q : Int} {z : Int × Int} (h : nz z = true) : nz (rotQ q z) = true := by
 have h := nz_iff.1 h
 refine nz_iff.2 ?_
 unfold rotQ
 repeat' split
 all_goals first | omega | (dsimp only; omega)
theorem qd_rot {q : Int} (hq : 0 ≤ q ∧ q ≤ 3) {z : Int × Int} (h : nz z = true) : qd (rotQ q z) = (qd z + q) % 4 := by
 have h := nz_iff.1 h
 have hc : q = 0 ∨ q = 1 ∨ q = 2 ∨ q = 3 := by omega
 unfold qd rotQ
 rcases hc with rfl | rfl | rfl | rfl
 all_goals
  simp only [if_true, if_false, show ¬ ((0 : Int) = 1) by omega, show ¬ ((0 : Int) = 2) by omega, show ¬ ((0 : Int) = 3) by omega, show ¬ ((2 : Int) = 1) by omega, show ¬ ((3 : Int) = 1) by omega, show ¬ ((3 : Int) = 2) by omega]
  repeat' split
  all_goals omega
def qds (l : Gs) : List Int := (l.filter nz).map qd
theorem quads_loop {l : Gs} {q : Int} (hq : 0 ≤ q ∧ q ≤ 3) (hl : l.length ≤ 400) : loopVal step14_2 (l, q, l.map (rotQ q), [], [], 0) = some (Sum.inr (qds l, (qds l).map fun m => (m + q) % 4)) := by
 have h1 := loop_for (step := step14_2) (st := fun k => (l, q, l.map (rotQ q), qds (l.take k), (qds (l.take k)).map (fun m => (m + q) % 4), (k : Int))) (n := l.length) (e := Sum.inr (qds l, (qds l).map fun m => (m + q) % 4))
  (fun k hk => by
    have hlen : (qds (l.take k)).length ≤ 400 := by
     unfold qds
     rw [List.length_map]
     have := List.length_filter_le nz (l.take k)
     rw [List.length_take] at this
     omega
    have hnext : l.take (k + 1) = l.take k ++ [l.getD k (0, 0)] := (take_succ_getD l (0, 0) hk).symm
    have hturn : (l.map (rotQ q)).getD k (0, 0) = rotQ q (l.getD k (0, 0)) := by
     rw [List.getD_eq_getElem?_getD, List.getD_eq_getElem?_getD, List.getElem?_map, List.getElem?_eq_getElem hk]
     rfl
    simp only [step14_2, lt_cast, inB_cast, List.length_map, hk, decide_true, cond_true, Int.toNat_natCast, hturn, wr_succ (show k < 4611686018427387904 by omega)]
    cases hz : nz (l.getD k (0, 0)) with
    | false =>
      have hz' : ((l.getD k (0, 0)).1 == 0 && ((l.getD k (0, 0)).2 == 0 && true)) = true := by
       unfold nz at hz
       simpa only [Bool.not_eq_false'] using hz
      rw [hz', cond_true]
      have e : qds (l.take (k + 1)) = qds (l.take k) := by
       unfold qds
       rw [hnext, List.filter_append]
       simp only [List.filter, hz, List.append_nil]
      rw [e]
    | true =>
      have hz' : ((l.getD k (0, 0)).1 == 0 && ((l.getD k (0, 0)).2 == 0 && true)) = false := by
       unfold nz at hz
       simpa only [Bool.not_eq_true'] using hz
      have hin := qd_in (l.getD k (0, 0))
      rw [hz', cond_false]
      simp only [quadrant_eq hz, quadrant_eq (nz_rot (q := q) hz), qd_rot hq hz, s28_eq, win_iff.2 hin, optE_some, bne_self_eq_false, cond_false, Bool.not_true]
      rw [wr_id (n := qd (l.getD k (0, 0)) + q) (by omega) (by omega), tmod4 (by omega)]
      simp only [bne_self_eq_false, cond_false]
      rw [room_true (by omega) (by omega)]
      have e : qds (l.take (k + 1)) = qds (l.take k) ++ [qd (l.getD k (0, 0))] := by
       unfold qds
       rw [hnext, List.filter_append]
       simp only [List.filter, hz, List.map_append, List.map_cons, List.map_nil]
      rw [e, List.map_append]
      rfl)
  (by simp only [step14_2, lt_cast, Nat.lt_irrefl, decide_false, cond_false, List.take_length]) 0 (by omega)
 rw [show ((0 : Nat) : Int) = 0 from rfl] at h1
 exact h1
theorem qds_len {l : Gs} (hl : l.length ≤ 400) : (qds l).length ≤ 400 := by
 unfold qds
 rw [List.length_map]
 have := List.length_filter_le nz l
 omega
theorem getD_mapI (f : Int → Int) {a : List Int} {k : Nat} (h : k < a.length) : (a.map f).getD k 0 = f (a.getD k 0) := by
 rw [List.getD_eq_getElem?_getD, List.getD_eq_getElem?_getD, List.getElem?_map, List.getElem?_eq_getElem h]
 rfl
theorem qds_in {l : Gs} {k : Nat} (h : k < (qds l).length) : 0 ≤ (qds l).getD k 0 ∧ (qds l).getD k 0 ≤ 3 := by
 have hm : (qds l).getD k 0 ∈ qds l := by rw [List.getD_eq_getElem?_getD, List.getElem?_eq_getElem h]; exact List.getElem_mem h
 obtain ⟨z, _, hz⟩ := List.mem_map.1 (show _ ∈ (l.filter nz).map qd from hm)
 rw [← hz]; exact qd_in z
theorem diffs_turn {l : Gs} (q : Int) : diffs ((qds l).map fun m => (m + q) % 4) = diffs (qds l) := by
 refine list_ext (by simp [diffs]) fun k hk => ?_
 have hk' : k < (qds l).length - 1 := by simpa [diffs] using hk
 unfold diffs
 rw [getD_range _ (by rw [List.length_map]; exact hk'), getD_range _ hk', getD_mapI _ (by omega), getD_mapI _ (by omega)]
 have a1 := qds_in (l := l) (k := k) (by omega)
 have a2 := qds_in (l := l) (k := k + 1) (by omega)
 omega
theorem turned_true (l : Gs) (t : Int × Int) (quarter : Int) : s14 (l, t, quarter) = some true := by
 unfold s14
 by_cases h60 : l.length > 60
 ·simp only [decide_eq_true (show (l.length : Int) > 60 by omega), Bool.not_true, cond_false, cond_true]
 simp only [decide_eq_false (show ¬ (l.length : Int) > 60 by omega), Bool.not_true, cond_false, s45_eq l (by omega), s44_eq, s74_eq (n := quarter) (m := 4) (by omega) (by omega), optE_some]
 by_cases hs : sE l = 0
 case neg => rw [bne_iff_ne.2 hs]; rfl
 by_cases ht : tmE t = 0
 case neg => rw [hs, bne_iff_ne.2 ht]; rfl
 obtain ⟨hl, hok⟩ := sE_ok hs
 obtain ⟨h0, h1, h2, ht1, hd⟩ := tm_ok ht
 simp only [hs, ht, bne_self_eq_false, cond_false]
 generalize hqq : quarter % 4 = q
 have hq : 0 ≤ q ∧ q ≤ 3 := by omega
 have k1 := loop_for (step := step14_0) (st := fun k => (l, q, (l.take k).map (rotQ q), (k : Int), t)) (n := l.length) (e := (l, q, l.map (rotQ q), t))
  (fun k hk => by
    simp only [step14_0, lt_cast, inB_cast, hk, decide_true, cond_true, Int.toNat_natCast, s75_eq hq (getG_ok hok hk), optE_some, wr_succ (show k < 4611686018427387904 by omega)]
    rw [room_true (by simp; omega) (by simp; omega), take_map_succ (rotQ q) l (0, 0) hk]
    rfl) (by simp only [step14_0, lt_cast, Nat.lt_irrefl, decide_false, cond_false, List.take_length]) 0 (by omega)
 rw [show ((0 : Nat) : Int) = 0 from rfl] at k1
 simp only [List.take_zero, List.map_nil] at k1
 have hok2 : ∀ x ∈ l.map (rotQ q), okS x = true := fun x hx => by
  obtain ⟨y, hy, rfl⟩ := List.mem_map.1 hx
  exact rot_ok q (hok y hy)
 have hl2 : (l.map (rotQ q)).length = l.length := List.length_map _
 have hs2 : sE (l.map (rotQ q)) = 0 := sE_of (by omega) hok2
 have hL : 1 ≤ 2 * h0 ∧ 2 * h0 ≤ 16 := by omega
 have htL : t.1 = ((2 * h0 : Nat) : Int) := by omega
 have hwn : unl (win ((2 * h0 : Nat) : Int) 1 16) 2 = 0 := by rw [win_iff.2 (by omega)]; rfl
 have he1 : eE l ((2 * h0 : Nat) : Int) = 0 := by unfold eE; rw [hs, hwn]; rfl
 have he2 : eE (l.map (rotQ q)) ((2 * h0 : Nat) : Int) = 0 := by unfold eE; rw [hs2, hwn]; rfl
 have f1 := s66_eq (l := l) hL he1
 have f2 := s66_eq (l := l.map (rotQ q)) hL he2
 rw [enV_rot] at f2
 rw [← htL] at f1 f2
 obtain ⟨res, r1, r2, r4⟩ := starts_two (q := q) h1 h2 ht1 hok hl (l.length + 1) 0 [] (by omega) (by omega) (by simp)
 rw [show ((0 : Nat) : Int) = 0 from rfl] at r1 r2
 have e0 : wr (Int.tdiv t.1 2) = (h0 : Int) := by rw [hd, wr_id (by omega) (by omega)]
 have hst : ∀ l' : Gs, l'.length ≤ 1000000 → sE l' = 0 → loopVal step42_0 (l', [], (h0 : Int), 0, t) = some res → s42 (t, l') = some (res, 0) := by
  intro l' hl' hs' hr
  have h3 := first3 t l'
  rw [ht, hs'] at h3
  have hr3 : (bif (0 : Int) == 0 then (0 : Int) else 0) = 0 := rfl
  rw [hr3] at h3
  unfold s42
  simp only [s79_eq, s82_eq, s94_eq l' hl', optE_some, hs']
  cases hw : win t.1 2 16 with
  | false =>
    rw [hw, Bool.false_and] at h3
    simp only [cond_false]
    rw [s80_eq _ (by simp)]
    simp only [optE_some, h3, bne_self_eq_false, cond_false, e0, hr]
  | true =>
    rw [hw, Bool.true_and] at h3
    simp only [cond_true]
    rw [s80_eq _ (by simp)]
    simp only [optE_some, h3, bne_self_eq_false, cond_false, e0, hr]
 have g1 := hst l (by omega) hs r1
 have g2 := hst (l.map (rotQ q)) (by omega) hs2 r2
 have d1 := ints_self (enV l (2 * h0)) (by simp [enV]; omega)
 have d2 := ints_self res (by omega)
 have hql := qds_len (l := l) (by omega)
 have q1 : qE (qds l) = 0 := qE_of (by omega) fun k hk => qds_in hk
 have q2 : qE ((qds l).map fun m => (m + q) % 4) = 0 := qE_of (by rw [List.length_map]; omega) fun k hk => by
  rw [List.length_map] at hk
  rw [getD_mapI _ hk]
  omega
 have p1 := s36_eq (qds l) (by omega)
 have p2 := s36_eq ((qds l).map fun m => (m + q) % 4) (by rw [List.length_map]; omega)
 rw [q1, if_pos rfl] at p1
 rw [q2, if_pos rfl, diffs_turn] at p2
 have d3 := ints_self (diffs (qds l)) (by simp [diffs]; omega)
 simp only [k1, optE_some, copyG_eq l (by omega), copyG_eq (l.map (rotQ q)) (by omega), f1, f2, g1, g2, bne_self_eq_false, cond_false, d1, d2, Bool.not_true, quads_loop hq hl, sumE_r, copy_eq (qds l) (by omega), copy_eq ((qds l).map fun m => (m + q) % 4) (by rw [List.length_map]; omega), p1, p2, beq_self_eq_true, cond_true, d3]
end Go.Proofs.YthckjfbhdjjnkaaDoor
