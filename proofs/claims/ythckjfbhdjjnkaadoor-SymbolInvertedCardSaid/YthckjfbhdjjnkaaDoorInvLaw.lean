/- With all signs opposite: the same marks and frames, inverted. -/
import Derived.Test.YthckjfbhdjjnkaaDoorFrameLaw
set_option linter.unusedSimpArgs false
namespace Go.Proofs.YthckjfbhdjjnkaaDoor
open Go.Ev
def flipF (f : Frame) : Frame := (f.1, !f.2.1, f.2.2.1, f.2.2.2)
theorem negL_negL (l : List Int) : negL (negL l) = l := by
 unfold negL
 rw [List.map_map]
 conv => rhs; rw [← List.map_id l]
 exact List.map_congr_left fun x _ => by simp
theorem between_neg (n : Nat) (l : List Int) (v : Bool) (a b : Int) : between n (negL l) (!v) a b = between n l v a b := by
 have e : ((negL l).take b.toNat).drop (a + (n : Int)).toNat = negL ((l.take b.toNat).drop (a + (n : Int)).toNat) := by
  unfold negL
  rw [← List.map_take, ← List.map_drop]
 unfold between
 rw [e]
 cases v
 ·simp only [Bool.not_false, cond_true, cond_false, negL_negL]
 ·simp only [Bool.not_true, cond_true, cond_false]
theorem flip_at {ms : List Mark} {i : Nat} (h : i < ms.length) : (ms.map flipM).getD i mk1 = flipM (ms.getD i mk1) := by
 rw [List.getD_eq_getElem?_getD, List.getD_eq_getElem?_getD, List.getElem?_map, List.getElem?_eq_getElem h]
 rfl
theorem frm_neg (n : Nat) (l : List Int) {ms : List Mark} {i : Nat} (h : i < ms.length) : frm n (negL l) (ms.map flipM) i = (frm n l ms i).map flipF := by
 unfold frm
 rw [flip_at h, flip_at (show i - 1 < ms.length by omega)]
 by_cases h0 : i = 0
 ·rw [if_pos h0, if_pos h0]; rfl
 ·rw [if_neg h0, if_neg h0]
  by_cases g0 : (ms.getD i mk1).1 = 0
  ·rw [if_pos g0, if_pos (show (flipM (ms.getD i mk1)).1 = 0 from g0)]; rfl
  ·rw [if_neg g0, if_neg (show ¬ (flipM (ms.getD i mk1)).1 = 0 from g0)]
   by_cases g4 : (ms.getD i mk1).1 = 4
   ·rw [if_pos g4, if_pos (show (flipM (ms.getD i mk1)).1 = 4 from g4)]; rfl
   ·rw [if_neg g4, if_neg (show ¬ (flipM (ms.getD i mk1)).1 = 4 from g4)]
    show some ((ms.getD (i - 1) mk1).2.1, !(ms.getD (i - 1) mk1).2.2.1, (ms.getD i mk1).2.2.2.2, between n (negL l) (!(ms.getD (i - 1) mk1).2.2.1) (ms.getD (i - 1) mk1).2.1 (ms.getD i mk1).2.1) = _
    rw [between_neg]
    rfl
theorem frN_neg (n : Nat) (l : List Int) (ms : List Mark) : ∀ k, k ≤ ms.length → frN n (negL l) (ms.map flipM) k = (frN n l ms k).map flipF
 | 0, _ => rfl
 | k + 1, hk => by
   rw [frN_succ, frN_succ, frN_neg n l ms k (by omega), frm_neg n l (by omega), List.map_append]
   cases frm n l ms k <;> rfl
theorem framesV_neg {r : Rule} {l : List Int} (h : Fit r) : framesV r (negL l) = (framesV r l).map flipF := by
 unfold framesV
 rw [marksV_neg h, List.length_map]
 exact frN_neg _ _ _ _ (Nat.le_refl _)
theorem hE_neg {l : List Int} (h : hE l = 0) : hE (negL l) = 0 := by
 obtain ⟨h1, h2⟩ := hE_ok h
 unfold hE
 rw [negL_len, if_neg (by omega)]
 have : (negL l).all okH = true := List.all_eq_true.2 fun x hx => by
  obtain ⟨y, hy, rfl⟩ := List.mem_map.1 hx
  have := win_iff.1 (h2 y hy)
  exact win_iff.2 ⟨by omega, by omega⟩
 rw [this]
 rfl
theorem opp_loop {r : Rule} {l : List Int} (h : hE l = 0) : loopVal step8_0 (l, [], 0, r) = some (l, negL l, r) := by
 obtain ⟨hl, hin⟩ := hE_in h
 have h1 := loop_for (step := step8_0) (st := fun k => (l, (l.take k).map fun x => -x, (k : Int), r)) (n := l.length) (e := (l, negL l, r))
  (fun k hk => by
    have e1 : wr (-(l.getD k 0)) = -(l.getD k 0) := by have := hin k; exact wr_id (by omega) (by omega)
    simp only [step8_0, lt_cast, inB_cast, Int.toNat_natCast, decide_eq_true hk, cond_true, List.length_map, e1, wr_succ (show k < 4611686018427387904 by omega)]
    rw [room_true (by rw [List.length_take]; omega) (by rw [List.length_take]; omega), cond_true, take_map_succ (fun x => -x) l 0 hk])
  (by simp only [step8_0, lt_cast, Nat.lt_irrefl, decide_false, cond_false, List.take_length]; rfl) 0 (by omega)
 exact h1
theorem same_marks (a : List Mark) (ha : a.length ≤ 5000) (x y : List Frame) : loopVal step8_2 (a, a.map flipM, x, y, 0) = some (.inr (x, y)) := by
 have h1 := loop_for (step := step8_2) (st := fun k => (a, a.map flipM, x, y, (k : Int))) (n := a.length) (e := .inr (x, y))
  (fun k hk => by
    have d0 : ∀ j : Nat, a.getD j (0, 0, false, 0, 0) = a.getD j mk1 := fun _ => rfl
    have d1 : ∀ j : Nat, (a.map flipM).getD j (0, 0, false, 0, 0) = (a.map flipM).getD j mk1 := fun _ => rfl
    simp only [step8_2, lt_cast, inB_cast, Int.toNat_natCast, decide_eq_true hk, cond_true, List.length_map, d0, d1, flip_at hk, flipM, Bool.not_not, beq_self_eq_true, Bool.and_true, Bool.not_true, cond_false, wr_succ (show k < 4611686018427387904 by omega)])
  (by simp only [step8_2, lt_cast, Nat.lt_irrefl, decide_false, cond_false]) 0 (by omega)
 exact h1
theorem same_frames (x : List Frame) (hx : x.length ≤ 5000) (hs : ∀ f ∈ x, f.2.2.2.length ≤ 1000000) : loopVal step8_4 (x, x.map flipF, 0) = some (.inr ()) := by
 have h1 := loop_for (step := step8_4) (st := fun k => (x, x.map flipF, (k : Int))) (n := x.length) (e := .inr ())
  (fun k hk => by
    have d1 : (x.map flipF).getD k (0, false, 0, []) = flipF (x.getD k (0, false, 0, [])) := by
     rw [List.getD_eq_getElem?_getD, List.getD_eq_getElem?_getD, List.getElem?_map, List.getElem?_eq_getElem hk]; rfl
    have hm : x.getD k (0, false, 0, []) ∈ x := by rw [List.getD_eq_getElem?_getD, List.getElem?_eq_getElem hk]; exact List.getElem_mem hk
    have e1 : ∀ b : Bool, (b == !b) = false := fun b => by cases b <;> rfl
    simp only [step8_4, lt_cast, inB_cast, Int.toNat_natCast, decide_eq_true hk, cond_true, List.length_map, d1, flipF, bne_self_eq_false, cond_false, e1, ints_self _ (hs _ hm), optE_some, Bool.not_true, wr_succ (show k < 4611686018427387904 by omega)])
  (by simp only [step8_4, lt_cast, Nat.lt_irrefl, decide_false, cond_false]) 0 (by omega)
 exact h1
theorem frN_small (n : Nat) {l : List Int} (hl : l.length ≤ 1000) (ms : List Mark) (k : Nat) : ∀ f ∈ frN n l ms k, f.2.2.2.length ≤ 1000000 := by
 intro f hf
 obtain ⟨i, _, hi⟩ := List.mem_filterMap.1 hf
 unfold frm at hi
 split at hi
 ·cases hi
 split at hi
 ·cases hi
 split at hi
 ·cases hi
 obtain rfl := Option.some.inj hi
 unfold between
 cases (ms.getD (i - 1) mk1).2.2.1
 ·simp only [cond_false, List.length_drop, List.length_take]; omega
 ·simp only [cond_true, negL_len, List.length_drop, List.length_take]; omega
theorem inverted_true (r : Rule) (l : List Int) : s8 (r, l) = some true := by
 unfold s8 s16
 simp only [Bool.not_true, cond_false, optE_some]
 by_cases hb : (r.1.length : Int) ≤ 34
 case neg => rw [decide_eq_false hb]; rfl
 simp only [decide_eq_true hb, Bool.not_true, cond_false]
 by_cases hl : l.length > 120
 ·rw [decide_eq_true (show (l.length : Int) > 120 by omega)]; rfl
 simp only [decide_eq_false (show ¬ (l.length : Int) > 120 by omega), cond_false, s33_eq r l (by omega) (by omega), optE_some]
 by_cases h : bE r l = 0
 case neg => rw [bne_iff_ne.2 h]; rfl
 obtain ⟨hf, hh⟩ := bE_fit h
 have hn : bE r (negL l) = 0 := by
  have hz := firstE_zero.1 h
  exact firstE_zero.2 fun e he => by
   simp only [List.mem_cons, List.mem_nil_iff, or_false] at he
   rcases he with rfl | rfl
   ·exact hz (rE r) (by simp)
   ·exact hE_neg hh
 have hg := marksV_good hf (l := l) (by omega)
 have hfl := frN_len r.1.length l (marksV r l) (marksV r l).length
 simp only [h, bne_self_eq_false, cond_false, opp_loop hh, optE_some, copyR_eq r (by omega), copy_eq l (by omega), copy_eq (negL l) (by rw [negL_len]; omega), marks_eq h, marks_eq hn, frames_eq h, frames_eq hn, marksV_neg hf, framesV_neg hf, List.length_map,
  same_marks (marksV r l) hg.1, same_frames (framesV r l) (by unfold framesV; omega) (frN_small _ (by omega) _ _), sumE_r]
end Go.Proofs.YthckjfbhdjjnkaaDoor
