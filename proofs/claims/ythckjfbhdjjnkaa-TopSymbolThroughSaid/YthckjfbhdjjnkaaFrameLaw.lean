/- All frames, out of the marks. -/
import Derived.Test.YthckjfbhdjjnkaaMachB
set_option linter.unusedSimpArgs false
namespace Go.Proofs.Ythckjfbhdjjnkaa
open Go.Ev
abbrev Frame := Int × Bool × Int × List Int
theorem fit_of {r : Rule} (h : rE r = 0) : Fit r := by
 obtain ⟨m1, m2, m3⟩ := mE_ok (rE_ok h)
 have hz := firstE_zero.1 h
 have hright := unl_zero (b := rightR r) (e := 2) (by decide) (hz (unl (rightR r) 2) (by simp))
 have h23 := of_decide_eq_true (unl_zero (e := 23) (by decide) (hz (unl (decide ((wr (2 * r.2.2.1)) < (r.1.length : Int))) 23) (by simp)))
 have h10 := of_decide_eq_true (unl_zero (e := 10) (by decide) (hz (unl (decide (r.2.1 > (wr ((r.1.length : Int) + r.2.2.2.2.2)))) 10) (by simp)))
 unfold rightR at hright
 simp only [Bool.and_eq_true, win_iff] at hright
 obtain ⟨a1, a2, a3, a4, a5⟩ := hright
 rw [wr_id (by omega) (by omega)] at h23 h10
 exact ⟨m3, ⟨m1, m2⟩, h23, a2, a3, a4, a5, h10, a1.2⟩
theorem bE_fit {r : Rule} {l : List Int} (h : bE r l = 0) : Fit r ∧ hE l = 0 := by
 have hz := firstE_zero.1 h
 exact ⟨fit_of (hz (rE r) (by simp)), hz (hE l) (by simp)⟩
theorem hE_in {l : List Int} (h : hE l = 0) : l.length ≤ 600 ∧ ∀ k, -7 ≤ l.getD k 0 ∧ l.getD k 0 ≤ 7 := by
 obtain ⟨h1, h2⟩ := hE_ok h
 refine ⟨h1, fun k => ?_⟩
 by_cases hk : k < l.length
 ·have := win_iff.1 (h2 (l.getD k 0) (by rw [List.getD_eq_getElem?_getD, List.getElem?_eq_getElem hk]; exact List.getElem_mem hk))
  exact this
 ·rw [List.getD_eq_getElem?_getD, List.getElem?_eq_none (by omega)]
  exact ⟨by show (-7 : Int) ≤ 0; omega, by show (0 : Int) ≤ 7; omega⟩
theorem marks_eq {r : Rule} {l : List Int} (h : bE r l = 0) : s18 (r, l) = some (marksV r l, 0) := by
 obtain ⟨hf, hh⟩ := bE_fit h
 have hl := (hE_in hh).1
 have hr := hf.len
 unfold s18
 simp only [s76_eq r (by omega), s77_eq l (by omega), optE_some]
 rw [s37_eq _ (by simp), optE_some, show firstE [rE r, hE l] = bE r l from rfl, h]
 simp only [bne_self_eq_false, cond_false]
 have := runs_a hf (l := l) (by omega)
 rw [show (r.1, r.2.1, r.2.2.1, r.2.2.2.1, r.2.2.2.2.1, r.2.2.2.2.2, l, ([] : List Mark), (0 : Int), (0 : Int), (0 : Int), (0 : Int), false) = pk r l st0 from rfl, this]
 rfl
def between (n : Nat) (l : List Int) (v : Bool) (a b : Int) : List Int := bif v then negL ((l.take b.toNat).drop (a + (n : Int)).toNat) else (l.take b.toNat).drop (a + (n : Int)).toNat
def frm (n : Nat) (l : List Int) (ms : List Mark) (i : Nat) : Option Frame :=
 if i = 0 then none else if (ms.getD i mk1).1 = 0 then none else if (ms.getD i mk1).1 = 4 then none else
  some ((ms.getD (i - 1) mk1).2.1, (ms.getD (i - 1) mk1).2.2.1, (ms.getD i mk1).2.2.2.2, between n l (ms.getD (i - 1) mk1).2.2.1 (ms.getD (i - 1) mk1).2.1 (ms.getD i mk1).2.1)
def frN (n : Nat) (l : List Int) (ms : List Mark) (k : Nat) : List Frame := (List.range k).filterMap (frm n l ms)
theorem frN_succ (n : Nat) (l : List Int) (ms : List Mark) (k : Nat) : frN n l ms (k + 1) = frN n l ms k ++ (match frm n l ms k with | some x => [x] | none => []) := by
 unfold frN
 rw [List.range_succ, List.filterMap_append]
 congr 1
 simp only [List.filterMap_cons, List.filterMap_nil]
 cases frm n l ms k <;> rfl
theorem frN_len (n : Nat) (l : List Int) (ms : List Mark) (k : Nat) : (frN n l ms k).length ≤ k := by
 have := List.length_filterMap_le (frm n l ms) (List.range k)
 rw [List.length_range] at this
 exact this
def framesV (r : Rule) (l : List Int) : List Frame := frN r.1.length l (marksV r l) (marksV r l).length
def negK (xs : List Int) (k : Nat) : List Int := negL (xs.take k) ++ xs.drop k
theorem negK_len (xs : List Int) (k : Nat) : (negK xs k).length = xs.length := by
 unfold negK
 rw [List.length_append, negL_len, List.length_take, List.length_drop]
 omega
theorem negK_at {xs : List Int} {k : Nat} (h : k < xs.length) : (negK xs k).getD k 0 = xs.getD k 0 := by
 unfold negK
 rw [List.getD_eq_getElem?_getD, List.getD_eq_getElem?_getD, List.getElem?_append_right (by rw [negL_len, List.length_take]; omega), negL_len, List.length_take, Nat.min_eq_left (by omega), Nat.sub_self, List.getElem?_drop]
 rfl
theorem negK_set {xs : List Int} {k : Nat} (h : k < xs.length) : (negK xs k).set k (-(xs.getD k 0)) = negK xs (k + 1) := by
 unfold negK negL
 have hd := getD_drop xs 0 h
 rw [hd, List.set_append_right _ _ (by simp; omega), List.length_map, List.length_take, Nat.min_eq_left (by omega), Nat.sub_self, List.set_cons_zero, ← take_map_succ (fun x => -x) xs 0 h, List.append_assoc]
 rfl
theorem negK_all (xs : List Int) : negK xs xs.length = negL xs := by
 unfold negK
 rw [List.take_length, List.drop_length, List.append_nil]
section
variable {r : Rule} {l : List Int}
theorem neg_loop {xs : List Int} (hx : ∀ k, -7 ≤ xs.getD k 0 ∧ xs.getD k 0 ≤ 7) (hxl : xs.length ≤ 1000) (out : List Frame) (ms : List Mark) (a b : Int) (S : St) (hS : S.1 = ms) (f1 : Int) (f2 : Bool) (f3 : Int) :
 loopVal step21_2 (l, out, ms, a, b, (xs.length : Int), 0, r, pk r l S, (f1, f2, f3, xs)) = some (l, out, ms, a, b, r, pk r l S, (f1, f2, f3, negL xs)) := by
 have h1 := loop_for (step := step21_2) (st := fun k => (l, out, ms, a, b, (xs.length : Int), (k : Int), r, pk r l S, (f1, f2, f3, negK xs k))) (n := xs.length) (e := (l, out, ms, a, b, r, pk r l S, (f1, f2, f3, negL xs)))
  (fun k hk => by
    have e1 : wr (-(xs.getD k 0)) = -(xs.getD k 0) := by have := hx k; exact wr_id (by omega) (by omega)
    simp only [step21_2, pk, lt_cast, inB_cast, negK_len, Int.toNat_natCast, decide_eq_true hk, cond_true, negK_at hk, e1, negK_set hk, hS, wr_succ (show k < 4611686018427387904 by omega)])
  (by simp only [step21_2, pk, lt_cast, Nat.lt_irrefl, decide_false, cond_false, negK_all, hS]) 0 (by omega)
 have e0 : negK xs 0 = xs := rfl
 rw [e0] at h1
 exact h1
theorem frame_loop (hh : hE l = 0) (hr : r.1.length ≤ 32) (S : St) (hm : S.1.length ≤ 5000) (hk : Link r.1.length l.length S.1) :
 loopVal step21_0 (l, [], S.1, (S.1.length : Int), 0, r, pk r l S) = some (frN r.1.length l S.1 S.1.length) := by
 obtain ⟨hl, hin⟩ := hE_in hh
 have h1 := loop_for (step := step21_0) (st := fun k => (l, frN r.1.length l S.1 k, S.1, (S.1.length : Int), (k : Int), r, pk r l S)) (n := S.1.length) (e := frN r.1.length l S.1 S.1.length)
  (fun k hk' => by
    have e4 := wr_succ (show k < 4611686018427387904 by omega)
    have hfl := frN_len r.1.length l S.1 k
    have hroom := room_true (b := 48) (n := (frN r.1.length l S.1 k).length + 1) (by omega) (by omega)
    have d0 : ∀ j : Nat, S.1.getD j (0, 0, false, 0, 0) = S.1.getD j mk1 := fun _ => rfl
    simp only [step21_0, pk, lt_cast, inB_cast, decide_eq_true hk', cond_true, Int.toNat_natCast, e4, d0]
    rw [frN_succ]
    unfold frm
    by_cases k0 : k = 0
    ·subst k0
     rw [if_pos rfl, List.append_nil]
     rfl
    ·rw [if_neg k0, beq_eq_false_iff_ne.2 (show (k : Int) ≠ 0 by omega), cond_false]
     by_cases g0 : (S.1.getD k mk1).1 = 0
     ·rw [if_pos g0, List.append_nil, beq_iff_eq.2 g0, cond_true]
     ·rw [if_neg g0, beq_eq_false_iff_ne.2 g0, cond_false]
      by_cases g4 : (S.1.getD k mk1).1 = 4
      ·rw [if_pos g4, List.append_nil, beq_iff_eq.2 g4, cond_true]
      ·rw [if_neg g4, beq_eq_false_iff_ne.2 g4, cond_false]
       have hlk := (hk k (by omega) hk').resolve_left g0 |>.resolve_left g4
       have e5 : wr ((k : Int) - 1) = ((k - 1 : Nat) : Int) := by rw [wr_id (by omega) (by omega)]; omega
       have e6 : wr ((S.1.getD (k - 1) mk1).2.1 + (r.1.length : Int)) = (S.1.getD (k - 1) mk1).2.1 + (r.1.length : Int) := wr_id (by omega) (by omega)
       simp only [e5, inB_cast, decide_eq_true (show k - 1 < S.1.length by omega), cond_true, Int.toNat_natCast, d0, e6]
       rw [decide_eq_true (show 0 ≤ (S.1.getD (k - 1) mk1).2.1 + (r.1.length : Int) by omega), decide_eq_true hlk.2.1, decide_eq_true hlk.2.2]
       simp only [Bool.and_self, cond_true]
       have hlen : ((l.take (S.1.getD k mk1).2.1.toNat).drop ((S.1.getD (k - 1) mk1).2.1 + (r.1.length : Int)).toNat).length ≤ 1000 := by
        rw [List.length_drop, List.length_take]; omega
       have hcl : cloneF ((l.take (S.1.getD k mk1).2.1.toNat).drop ((S.1.getD (k - 1) mk1).2.1 + (r.1.length : Int)).toNat) = some ((l.take (S.1.getD k mk1).2.1.toNat).drop ((S.1.getD (k - 1) mk1).2.1 + (r.1.length : Int)).toNat) := by
        unfold cloneF
        rw [decide_eq_true (by omega)]
        rfl
       rw [hcl]
       simp only [optE_some]
       unfold between
       cases hv : (S.1.getD (k - 1) mk1).2.2.1 with
       | true =>
         have hxs : ∀ j, -7 ≤ ((l.take (S.1.getD k mk1).2.1.toNat).drop ((S.1.getD (k - 1) mk1).2.1 + (r.1.length : Int)).toNat).getD j 0 ∧ ((l.take (S.1.getD k mk1).2.1.toNat).drop ((S.1.getD (k - 1) mk1).2.1 + (r.1.length : Int)).toNat).getD j 0 ≤ 7 := by
          intro j
          rw [List.getD_eq_getElem?_getD, List.getElem?_drop, List.getElem?_take]
          split
          ·have := hin (((S.1.getD (k - 1) mk1).2.1 + (r.1.length : Int)).toNat + j)
           rw [List.getD_eq_getElem?_getD] at this
           exact this
          ·exact ⟨by show (-7 : Int) ≤ 0; omega, by show (0 : Int) ≤ 7; omega⟩
         have hn := neg_loop (r := r) (l := l) hxs hlen (frN r.1.length l S.1 k) S.1 (S.1.length : Int) (k : Int) S rfl (S.1.getD (k - 1) mk1).2.1 true (S.1.getD k mk1).2.2.2.2
         simp only [pk] at hn
         simp only [cond_true, hn, optE_some, hroom, e4]
       | false =>
         simp only [cond_false, hroom, cond_true])
  (by simp only [step21_0, lt_cast, Nat.lt_irrefl, decide_false, cond_false]) 0 (by omega)
 exact h1
theorem frames_eq (h : bE r l = 0) : s21 (r, l) = some (framesV r l, 0) := by
 obtain ⟨hf, hh⟩ := bE_fit h
 have hl := (hE_in hh).1
 have hr := hf.len
 have hg := marksV_good hf (l := l) (by omega)
 unfold s21
 simp only [s76_eq r (by omega), s77_eq l (by omega), optE_some]
 rw [s37_eq _ (by simp), optE_some, show firstE [rE r, hE l] = bE r l from rfl, h]
 simp only [bne_self_eq_false, cond_false]
 have := runs_b hf (l := l) (by omega)
 rw [show (r.1, r.2.1, r.2.2.1, r.2.2.2.1, r.2.2.2.2.1, r.2.2.2.2.2, l, ([] : List Mark), (0 : Int), (0 : Int), (0 : Int), (0 : Int), false) = pk r l st0 from rfl, this]
 simp only [optE_some]
 have hfl := frame_loop (r := r) (l := l) hh hr.2 (mach r l (2 * l.length + 8) 0 st0) hg.1 hg.2
 simp only [pk] at hfl ⊢
 rw [hfl]
 rfl
end
end Go.Proofs.Ythckjfbhdjjnkaa
