/- Regular streams: the marks are at their beginnings, and the frames are those of the stream. -/
import Derived.Test.YthckjfbhdjjnkaaDoorFrameLaw
import Derived.Test.YthckjfbhdjjnkaaDoorSpaceLaw
set_option linter.unusedSimpArgs false
namespace Go.Proofs.YthckjfbhdjjnkaaDoor
open Go.Ev
theorem has_ex (l : List Int) (n : Int) (hl : l.length ≤ 1000) : ∃ b, s65 (l, n) = some b := by
 unfold s65
 have h1 := loop_scan (step := step65_0) (st := fun k => (l, n, (k : Int))) (n := l.length) (hit := fun k => bif (l.getD k 0) == n then some (Sum.inl true) else none) (e := Sum.inr ())
  (fun k hk => by
    simp only [step65_0, lt_cast, inB_cast, hk, decide_true, cond_true, Int.toNat_natCast, wr_succ (show k < 4611686018427387904 by omega)]
    cases (l.getD k 0) == n <;> rfl) (by simp only [step65_0, lt_cast, Nat.lt_irrefl, decide_false, cond_false]) l.length 0 (by omega)
 rw [show ((0 : Nat) : Int) = 0 from rfl] at h1
 simp only [h1, optE_some]
 cases scan (fun k => bif (l.getD k 0) == n then some (Sum.inl true) else none) (Sum.inr () : Bool ⊕ Unit) l.length 0 with
 | inl b => exact ⟨b, rfl⟩
 | inr _ => exact ⟨false, rfl⟩
section
variable {r : Rule} {x : List (List Int)} {noise : List Int}
theorem mark_loop (h : Fit r) (hn : noise.length ≤ 40) (soft : List Int) (hs : soft.length ≤ 1000) (i : Int) : ∃ ys : List Int, ys.length = r.1.length ∧ (∀ y ∈ ys, okH y = true) ∧ loopVal step12_2 (x, noise, soft, i, 0, r) = some (x, noise, soft ++ ys, i, r) := by
 have f4 := h.len
 have key : ∀ d k, k + d = r.1.length → ∀ so : List Int, so.length ≤ 2000 → so.length + d ≤ 2000 → ∃ ys : List Int, ys.length = d ∧ (∀ y ∈ ys, okH y = true) ∧ loopVal step12_2 (x, noise, so, i, (k : Int), r) = some (x, noise, so ++ ys, i, r) := by
  intro d
  induction d with
  | zero =>
    intro k hk so hso _
    have hk : k = r.1.length := by omega
    subst hk
    refine ⟨[], rfl, fun y hy => (by cases hy), ?_⟩
    rw [List.append_nil]
    refine loopVal_last ?_
    simp only [step12_2, lt_cast, Nat.lt_irrefl, decide_false, cond_false]
  | succ d ih =>
    intro k hk so hso hsd
    obtain ⟨b, hb⟩ := has_ex noise (so.length : Int) (by omega)
    have hbit := h.bits k (by omega)
    have e1 : wr (2 * (r.1.getD k 0)) = 2 * r.1.getD k 0 := wr_id (by omega) (by omega)
    have e2 : wr (1 - 2 * r.1.getD k 0) = 1 - 2 * r.1.getD k 0 := wr_id (by omega) (by omega)
    have e3 : wr (7 * (1 - 2 * r.1.getD k 0)) = 7 * (1 - 2 * r.1.getD k 0) := wr_id (by omega) (by omega)
    have e4 : wr (-(7 * (1 - 2 * r.1.getD k 0))) = -(7 * (1 - 2 * r.1.getD k 0)) := wr_id (by omega) (by omega)
    have e5 := wr_succ (show k < 4611686018427387904 by omega)
    have hroom := room_true (b := 8) (n := so.length + 1) (by omega) (by omega)
    obtain ⟨y, hy, hstep⟩ : ∃ y, okH y = true ∧ step12_2 (x, noise, so, i, (k : Int), r) = some (.inl (x, noise, so ++ [y], i, ((k + 1 : Nat) : Int), r)) := by
     cases b with
     | true =>
       refine ⟨-(7 * (1 - 2 * r.1.getD k 0)), win_iff.2 (by omega), ?_⟩
       simp only [step12_2, lt_cast, inB_cast, Int.toNat_natCast, decide_eq_true (show k < r.1.length by omega), cond_true, hb, optE_some, hroom, e1, e2, e3, e4, e5]
     | false =>
       refine ⟨7 * (1 - 2 * r.1.getD k 0), win_iff.2 (by omega), ?_⟩
       simp only [step12_2, lt_cast, inB_cast, Int.toNat_natCast, decide_eq_true (show k < r.1.length by omega), cond_true, cond_false, hb, optE_some, hroom, e1, e2, e3, e5]
    obtain ⟨ys, h1, h2, h3⟩ := ih (k + 1) (by omega) (so ++ [y]) (by simp; omega) (by simp; omega)
    refine ⟨y :: ys, by simp [h1], fun z hz => ?_, ?_⟩
    ·rcases List.mem_cons.1 hz with rfl | hz
     ·exact hy
     ·exact h2 z hz
    ·rw [loopVal_next hstep, h3, List.append_assoc]
     rfl
 obtain ⟨ys, h1, h2, h3⟩ := key r.1.length 0 (by omega) soft (by omega) (by omega)
 exact ⟨ys, h1, h2, h3⟩
structure Stream (r : Rule) (x : List (List Int)) (k : Nat) (so : List Int) : Prop where
 len : (so.length : Int) = (k : Int) * r.2.1
 ok : ∀ y ∈ so, okH y = true
 part : ∀ i, i < k → (so.take (((i : Int) + 1) * r.2.1).toNat).drop ((i : Int) * r.2.1 + (r.1.length : Int)).toNat = x.getD i []
theorem soft_ok (l : List Int) (h : hE l = 0) : ∀ y ∈ l, okH y = true := fun y hy => (hE_ok h).2 y hy
theorem stream_loop (h : Fit r) (h30 : r.2.1 ≤ 30) (hx : x.length ≤ 12) (hn : noise.length ≤ 40) : ∀ d k, k + d = x.length → ∀ so : List Int, Stream r x k so →
 loopVal step12_0 (x, noise, so, (k : Int), r) = some (.inl true) ∨ ∃ so', Stream r x x.length so' ∧ loopVal step12_0 (x, noise, so, (k : Int), r) = some (.inr (x, so', r))
 | 0, k, hk, so, hs => by
   have hk : k = x.length := by omega
   subst hk
   refine .inr ⟨so, hs, loopVal_last ?_⟩
   simp only [step12_0, lt_cast, Nat.lt_irrefl, decide_false, cond_false]
 | d + 1, k, hk, so, hs => by
   have f1 := h.slip; have f2 := h.far; have f4 := h.len
   have hklt : k < x.length := by omega
   have e1 : wr (r.2.1 - (r.1.length : Int)) = r.2.1 - (r.1.length : Int) := wr_id (by omega) (by omega)
   have e5 := wr_succ (show k < 4611686018427387904 by omega)
   have hbound : (k : Int) * r.2.1 ≤ 12 * 30 := Int.mul_le_mul (by omega) h30 (by omega) (by omega)
   have hsl : so.length ≤ 360 := by have := hs.len; omega
   by_cases g1 : ((x.getD k []).length : Int) = r.2.1 - (r.1.length : Int)
   case neg =>
    left
    refine loopVal_last ?_
    simp only [step12_0, lt_cast, inB_cast, Int.toNat_natCast, decide_eq_true hklt, cond_true, e1, bne_iff_ne.2 g1]
   have hE1 := s30_eq (x.getD k []) (by omega)
   by_cases g2 : hE (x.getD k []) = 0
   case neg =>
    left
    refine loopVal_last ?_
    simp only [step12_0, lt_cast, inB_cast, Int.toNat_natCast, decide_eq_true hklt, cond_true, e1, g1, bne_self_eq_false, cond_false, hE1, optE_some, bne_iff_ne.2 g2]
   obtain ⟨ys, y1, y2, y3⟩ := mark_loop (x := x) (noise := noise) h hn so (by omega) (k : Int)
   have hroom := room_true (b := 8) (n := (so ++ ys).length + (x.getD k []).length) (by simp only [List.length_append]; omega) (by simp only [List.length_append]; omega)
   have hstep : step12_0 (x, noise, so, (k : Int), r) = some (.inl (x, noise, so ++ ys ++ x.getD k [], ((k + 1 : Nat) : Int), r)) := by
    simp only [step12_0, lt_cast, inB_cast, Int.toNat_natCast, decide_eq_true hklt, cond_true, e1, g1, bne_self_eq_false, cond_false, hE1, optE_some, g2, y3, hroom, e5]
   have hs' : Stream r x (k + 1) (so ++ ys ++ x.getD k []) := by
    have hlen : ((so ++ ys ++ x.getD k []).length : Int) = ((k + 1 : Nat) : Int) * r.2.1 := by
     have := hs.len
     rw [List.length_append, List.length_append, show ((k + 1 : Nat) : Int) = (k : Int) + 1 by omega, Int.add_mul]
     omega
    refine ⟨hlen, fun y hy => ?_, fun i hi => ?_⟩
    ·rcases List.mem_append.1 hy with hy | hy
     ·rcases List.mem_append.1 hy with hy | hy
      ·exact hs.ok y hy
      ·exact y2 y hy
     ·exact soft_ok _ g2 y hy
    ·by_cases hik : i < k
     ·rw [← hs.part i hik]
      have hm : ((i : Int) + 1) * r.2.1 ≤ (k : Int) * r.2.1 := Int.mul_le_mul_of_nonneg_right (by omega) (by omega)
      rw [List.append_assoc, List.take_append_of_le_length (by have := hs.len; omega)]
     ·have : i = k := by omega
      subst this
      have e6 : ((i : Int) + 1) * r.2.1 = ((so ++ ys ++ x.getD i []).length : Int) := by rw [hlen]; rw [show ((i + 1 : Nat) : Int) = (i : Int) + 1 by omega]
      have e7 : (i : Int) * r.2.1 + (r.1.length : Int) = ((so ++ ys).length : Int) := by have := hs.len; rw [List.length_append, y1]; omega
      rw [e6, e7, Int.toNat_natCast, Int.toNat_natCast, List.take_length, List.drop_left]
   rcases stream_loop h h30 hx hn d (k + 1) (by omega) _ hs' with hh | ⟨so', h1, h2⟩
   ·left; rw [loopVal_next hstep]; exact hh
   ·right; exact ⟨so', h1, by rw [loopVal_next hstep]; exact h2⟩
theorem stream_E {so : List Int} (h : Fit r) (h30 : r.2.1 ≤ 30) (hx : x.length ≤ 12) (hs : Stream r x x.length so) : hE so = 0 ∧ so.length ≤ 360 := by
 have f2 := h.far; have f1 := h.slip
 have hbound : (x.length : Int) * r.2.1 ≤ 12 * 30 := Int.mul_le_mul (by omega) h30 (by omega) (by omega)
 have hl : so.length ≤ 360 := by have := hs.len; omega
 refine ⟨?_, hl⟩
 unfold hE
 rw [if_neg (by omega), List.all_eq_true.2 hs.ok]
 rfl
def kindE (r : Rule) (i : Nat) : Int := if i = 0 then 0 else if (i : Int) < r.2.2.2.1 then 1 else 2
def exM (r : Rule) (fs : List Mark) (i : Nat) : Mark := (kindE r i, (fs.getD i mk1).2)
def exL (r : Rule) (fs : List Mark) (k : Nat) : List Mark := (List.range k).map (exM r fs)
theorem exL_succ (r : Rule) (fs : List Mark) (k : Nat) : exL r fs (k + 1) = exL r fs k ++ [exM r fs k] := (range_map_succ (exM r fs) k).symm
theorem exL_len (r : Rule) (fs : List Mark) (k : Nat) : (exL r fs k).length = k := by unfold exL; rw [List.length_map, List.length_range]
theorem exL_at {r : Rule} {fs : List Mark} {k i : Nat} (h : i < k) : (exL r fs k).getD i mk1 = exM r fs i := by
 unfold exL
 rw [List.getD_eq_getElem?_getD, List.getElem?_map, List.getElem?_range h]
 rfl
structure Regs (r : Rule) (so : List Int) (X : Nat) (fs : List Mark) : Prop where
 len : (so.length : Int) = (X : Int) * r.2.1
 at' : ∀ i, i < X → ∃ p : Nat, (p : Int) = (i : Int) * r.2.1 ∧ markAt r.1 so r.2.2.1 p = some (fs.getD i mk1) ∧ (fs.getD i mk1) = (0, (p : Int), false, (wrongN r.1 so p r.1.length).1, 0) ∧ (wrongN r.1 so p r.1.length).1 ≤ r.2.2.1
def coE (r : Rule) (i : Nat) : Int := if (i : Int) < r.2.2.2.1 then (i : Int) else r.2.2.2.1
def stE (r : Rule) (fs : List Mark) (i : Nat) : St := (exL r fs (i + 1), 0, (i : Int) * r.2.1, coE r (i + 1), 0, false)
def phE (r : Rule) (i : Nat) : Nat := if ((i + 1 : Nat) : Int) < r.2.2.2.1 then 1 else 2
variable {so : List Int} {fs : List Mark} {X : Nat}
theorem exp_hit (hR : Regs r so X fs) {i : Nat} (hi : i + 1 < X) : expD r so false ((i : Int) * r.2.1 + r.2.1) = some 0 ∧ wI r so false ((i : Int) * r.2.1 + r.2.1) = (fs.getD (i + 1) mk1).2.2.2.1 ∧ (fs.getD (i + 1) mk1).2 = ((i : Int) * r.2.1 + r.2.1, false, (fs.getD (i + 1) mk1).2.2.2.1, 0) := by
 obtain ⟨p, p1, _, p3, p4⟩ := hR.at' (i + 1) hi
 have e : (i : Int) * r.2.1 + r.2.1 = (p : Int) := by rw [p1, show ((i + 1 : Nat) : Int) = (i : Int) + 1 by omega, Int.add_mul, Int.one_mul]
 rw [e, p3]
 have hw : wI r so false (p : Int) = (wrongN r.1 so p r.1.length).1 := rfl
 refine ⟨?_, hw, rfl⟩
 unfold expD firstAt hitD
 rw [show ((p : Int) - ((0 : Nat) : Int)) = (p : Int) by omega, hw, if_pos p4]
 rfl
theorem far_of (h : Fit r) (hR : Regs r so X fs) {i : Nat} (hi : i < X) : over r so ((i : Int) * r.2.1) ↔ ¬ i + 1 < X := by
 have f1 := h.slip; have f2 := h.far; have f4 := h.len
 unfold over
 rw [hR.len]
 by_cases g : i + 1 < X
 ·have hm : ((i : Int) + 2) * r.2.1 ≤ (X : Int) * r.2.1 := Int.mul_le_mul_of_nonneg_right (by omega) (by omega)
  rw [Int.add_mul] at hm
  exact ⟨fun ho => by omega, fun hn => absurd g hn⟩
 ·have : i + 1 = X := by omega
  subst this
  rw [show ((i + 1 : Nat) : Int) = (i : Int) + 1 by omega, Int.add_mul]
  exact ⟨fun _ => g, fun _ => by omega⟩
theorem reg_step (h : Fit r) (hR : Regs r so X fs) {i : Nat} (hi : i + 1 < X) : nxt r so (phE r i) (stE r fs i) = some (phE r (i + 1), stE r fs (i + 1)) := by
 obtain ⟨h1, h2, h3⟩ := exp_hit hR hi
 have ho : ¬ over r so ((i : Int) * r.2.1) := fun ho => (far_of h hR (by omega)).1 ho hi
 have f6 := h.ver
 have e1 : (i : Int) * r.2.1 + r.2.1 + 0 = (i : Int) * r.2.1 + r.2.1 := by omega
 have e2 : ((i + 1 : Nat) : Int) * r.2.1 = (i : Int) * r.2.1 + r.2.1 := by rw [show ((i + 1 : Nat) : Int) = (i : Int) + 1 by omega, Int.add_mul, Int.one_mul]
 unfold phE stE
 by_cases g : ((i + 1 : Nat) : Int) < r.2.2.2.1
 ·rw [if_pos g]
  have hk : kindE r (i + 1) = 1 := by unfold kindE; rw [if_neg (by omega), if_pos g]
  have hc : coE r (i + 1) = ((i + 1 : Nat) : Int) := if_pos g
  simp only [nxt, if_neg ho, h1, e1, h2, e2]
  rw [exL_succ r fs (i + 1)]
  unfold exM
  rw [hk, h3, hc]
  by_cases g2 : ((i + 1 + 1 : Nat) : Int) < r.2.2.2.1
  ·rw [if_pos g2]
   have : aft r (((i + 1 : Nat) : Int) + 1) = 1 := if_neg (by omega)
   rw [this, show coE r (i + 1 + 1) = ((i + 1 : Nat) : Int) + 1 by unfold coE; rw [if_pos g2]; omega]
  ·rw [if_neg g2]
   have : aft r (((i + 1 : Nat) : Int) + 1) = 2 := if_pos (by omega)
   rw [this, show coE r (i + 1 + 1) = ((i + 1 : Nat) : Int) + 1 by unfold coE; rw [if_neg g2]; omega]
 ·rw [if_neg g, if_neg (show ¬ ((i + 1 + 1 : Nat) : Int) < r.2.2.2.1 by omega)]
  have hk : kindE r (i + 1) = 2 := by unfold kindE; rw [if_neg (by omega), if_neg g]
  have hc : coE r (i + 1) = coE r (i + 1 + 1) := by unfold coE; rw [if_neg g, if_neg (by omega)]
  simp only [nxt, if_neg ho, h1, e1, h2, e2]
  rw [exL_succ r fs (i + 1)]
  unfold exM
  rw [hk, h3, hc]
theorem reg_end (h : Fit r) (hR : Regs r so X fs) {i : Nat} (hi : i + 1 = X) : nxt r so (phE r i) (stE r fs i) = some (3, stE r fs i) := by
 have ho : over r so ((i : Int) * r.2.1) := (far_of h hR (by omega)).2 (by omega)
 unfold phE stE
 by_cases g : ((i + 1 : Nat) : Int) < r.2.2.2.1
 ·rw [if_pos g]; simp only [nxt, if_pos ho]
 ·rw [if_neg g]; simp only [nxt, if_pos ho]
theorem mach_3 (f : Nat) (s : St) : mach r so f 3 s = s := by cases f <;> rfl
theorem reg_all (h : Fit r) (hR : Regs r so X fs) : ∀ (d i f : Nat), i + 1 + d = X → d ≤ f → (mach r so f (phE r i) (stE r fs i)).1 = exL r fs X
 | 0, i, f, hd, _ => by
   have : i + 1 = X := by omega
   have hfin : (stE r fs i).1 = exL r fs X := by unfold stE; rw [this]
   cases f with
   | zero => exact hfin
   | succ f =>
     show (match nxt r so (phE r i) (stE r fs i) with | some (p', s') => mach r so f p' s' | none => stE r fs i).1 = _
     rw [reg_end h hR this]
     show (mach r so f 3 (stE r fs i)).1 = _
     rw [mach_3, hfin]
 | d + 1, i, 0, _, hf => by omega
 | d + 1, i, f + 1, hd, hf => by
   show (match nxt r so (phE r i) (stE r fs i) with | some (p', s') => mach r so f p' s' | none => stE r fs i).1 = _
   rw [reg_step h hR (by omega)]
   exact reg_all h hR d (i + 1) f (by omega) (by omega)
theorem reg_marks (h : Fit r) (hR : Regs r so X fs) : marksV r so = exL r fs X := by
 have f4 := h.len; have f1 := h.slip; have f2 := h.far; have f6 := h.ver
 unfold marksV
 by_cases hX : X = 0
 ·subst hX
  have h0 : so.length = 0 := by have := hR.len; rw [show ((0 : Nat) : Int) * r.2.1 = 0 from Int.zero_mul _] at this; omega
  have hf : findFrom r so 0 = none := by unfold findFrom; rw [show places r.1 so - 0 = 0 by unfold places; omega]; rfl
  show (match nxt r so 0 st0 with | some (p', s') => mach r so (2 * so.length + 7) p' s' | none => st0).1 = _
  have : nxt r so 0 st0 = some (3, st0) := by unfold st0; simp only [nxt, show (0 : Int).toNat = 0 from rfl, hf]
  rw [this]
  show (mach r so _ 3 st0).1 = _
  rw [mach_3]
  rfl
 ·obtain ⟨p, p1, p2, p3, p4⟩ := hR.at' 0 (by omega)
  have p0 : p = 0 := by rw [show ((0 : Nat) : Int) * r.2.1 = 0 from Int.zero_mul _] at p1; omega
  subst p0
  have hm : (1 : Int) * r.2.1 ≤ (X : Int) * r.2.1 := Int.mul_le_mul_of_nonneg_right (by omega) (by omega)
  have hpl : places r.1 so - 0 = places r.1 so - 1 + 1 := by have := hR.len; unfold places; omega
  have hf : findFrom r so 0 = some (fs.getD 0 mk1) := by
   unfold findFrom
   rw [hpl]
   unfold firstAt
   rw [p2]
  show (match nxt r so 0 st0 with | some (p', s') => mach r so (2 * so.length + 7) p' s' | none => st0).1 = _
  have : nxt r so 0 st0 = some (phE r 0, stE r fs 0) := by
   unfold st0
   simp only [nxt, show (0 : Int).toNat = 0 from rfl, hf]
   unfold stE phE
   rw [exL_succ, show exL r fs 0 = [] from rfl]
   have e0 : exM r fs 0 = fs.getD 0 mk1 := by unfold exM kindE; rw [if_pos rfl, p3]
   rw [e0, p3]
   have e1 : ((0 : Nat) : Int) * r.2.1 = 0 := Int.zero_mul _
   rw [e1]
   by_cases g : ((0 + 1 : Nat) : Int) < r.2.2.2.1
   ·rw [if_pos g, show aft r 1 = 1 from if_neg (by omega), show coE r (0 + 1) = 1 by unfold coE; rw [if_pos g]; rfl]; rfl
   ·rw [if_neg g, show aft r 1 = 2 from if_pos (by omega), show coE r (0 + 1) = 1 by unfold coE; rw [if_neg g]; omega]; rfl
  rw [this]
  have hXl : (X : Int) ≤ (so.length : Int) := by
   rw [hR.len]
   have := Int.mul_le_mul_of_nonneg_left (show (1 : Int) ≤ r.2.1 by omega) (show (0 : Int) ≤ (X : Int) by omega)
   omega
  exact reg_all h hR (X - 1) 0 _ (by omega) (by omega)
def exF (r : Rule) (x : List (List Int)) (j : Nat) : Frame := ((j : Int) * r.2.1, false, 0, x.getD j [])
theorem reg_frm (hR : Regs r so X fs) (hS : Stream r x X so) {i : Nat} (hi : i < X) : frm r.1.length so (exL r fs X) i = if i = 0 then none else some (exF r x (i - 1)) := by
 unfold frm
 by_cases h0 : i = 0
 ·rw [if_pos h0, if_pos h0]
 rw [if_neg h0, if_neg h0, exL_at hi, exL_at (show i - 1 < X by omega)]
 have k1 : (exM r fs i).1 = 1 ∨ (exM r fs i).1 = 2 := by
  show kindE r i = 1 ∨ kindE r i = 2
  unfold kindE
  rw [if_neg h0]
  split
  ·exact .inl rfl
  ·exact .inr rfl
 obtain ⟨p, p1, _, p3, _⟩ := hR.at' i hi
 obtain ⟨q, q1, _, q3, _⟩ := hR.at' (i - 1) (by omega)
 rw [if_neg (by omega), if_neg (by omega)]
 unfold exM exF between
 rw [p3, q3]
 simp only [cond_false]
 have hp := hS.part (i - 1) (by omega)
 have e1 : ((i - 1 : Nat) : Int) + 1 = (i : Int) := by omega
 rw [e1, ← p1, ← q1] at hp
 rw [hp, q1]
theorem reg_frN (h : Fit r) (hR : Regs r so X fs) (hS : Stream r x X so) : ∀ k, k ≤ X → frN r.1.length so (exL r fs X) k = (List.range (k - 1)).map (exF r x)
 | 0, _ => rfl
 | k + 1, hk => by
   rw [frN_succ, reg_frN h hR hS k (by omega), reg_frm hR hS (by omega)]
   by_cases h0 : k = 0
   ·subst h0; rfl
   ·rw [if_neg h0, Nat.add_sub_cancel]
    have := range_map_succ (exF r x) (k - 1)
    rw [show k - 1 + 1 = k by omega] at this
    exact this
theorem reg_frames (h : Fit r) (hR : Regs r so X fs) (hS : Stream r x X so) : framesV r so = (List.range (X - 1)).map (exF r x) := by
 unfold framesV
 rw [reg_marks h hR, exL_len]
 exact reg_frN h hR hS X (Nat.le_refl _)
theorem found_check (h : Fit r) (h30 : r.2.1 ≤ 30) (hf : fs.length ≤ 12) : loopVal step12_4 (x, so, fs, 0, r) = some (.inl true) ∨ (loopVal step12_4 (x, so, fs, 0, r) = some (.inr (x, so, fs, r)) ∧ ∀ i, i < fs.length → (fs.getD i mk1).2.1 = (i : Int) * r.2.1 ∧ (fs.getD i mk1).2.2.1 = false) := by
 have f1 := h.slip; have f2 := h.far
 have key : ∀ d k, k + d = fs.length → loopVal step12_4 (x, so, fs, (k : Int), r) = some (.inl true) ∨ (loopVal step12_4 (x, so, fs, (k : Int), r) = some (.inr (x, so, fs, r)) ∧ ∀ i, k ≤ i → i < fs.length → (fs.getD i mk1).2.1 = (i : Int) * r.2.1 ∧ (fs.getD i mk1).2.2.1 = false) := by
  intro d
  induction d with
  | zero =>
    intro k hk
    have hk : k = fs.length := by omega
    subst hk
    refine .inr ⟨loopVal_last ?_, fun i h1 h2 => by omega⟩
    simp only [step12_4, lt_cast, Nat.lt_irrefl, decide_false, cond_false]
  | succ d ih =>
    intro k hk
    have hklt : k < fs.length := by omega
    have hbound : (k : Int) * r.2.1 ≤ 12 * 30 := Int.mul_le_mul (by omega) h30 (by omega) (by omega)
    have hpos : 0 ≤ (k : Int) * r.2.1 := Int.mul_nonneg (by omega) (by omega)
    have e1 : wr ((k : Int) * r.2.1) = (k : Int) * r.2.1 := wr_id (by omega) (by omega)
    have e5 := wr_succ (show k < 4611686018427387904 by omega)
    have d0 : fs.getD k (0, 0, false, 0, 0) = fs.getD k mk1 := rfl
    by_cases g1 : (fs.getD k mk1).2.1 = (k : Int) * r.2.1
    case neg =>
     left
     refine loopVal_last ?_
     simp only [step12_4, lt_cast, inB_cast, Int.toNat_natCast, decide_eq_true hklt, cond_true, e1, d0, bne_iff_ne.2 g1]
    cases g2 : (fs.getD k mk1).2.2.1 with
    | true =>
      left
      refine loopVal_last ?_
      simp only [step12_4, lt_cast, inB_cast, Int.toNat_natCast, decide_eq_true hklt, cond_true, e1, d0, g1, bne_self_eq_false, cond_false, g2]
    | false =>
      have hstep : step12_4 (x, so, fs, (k : Int), r) = some (.inl (x, so, fs, ((k + 1 : Nat) : Int), r)) := by
       simp only [step12_4, lt_cast, inB_cast, Int.toNat_natCast, decide_eq_true hklt, cond_true, e1, d0, g1, bne_self_eq_false, cond_false, g2, e5]
      rcases ih (k + 1) (by omega) with hh | ⟨hh, ha⟩
      ·left; rw [loopVal_next hstep]; exact hh
      ·right
       refine ⟨by rw [loopVal_next hstep]; exact hh, fun i h1 h2 => ?_⟩
       by_cases e : i = k
       ·subst e; exact ⟨g1, g2⟩
       ·exact ha i (by omega) h2
 rcases key fs.length 0 (by omega) with hh | ⟨hh, ha⟩
 ·exact .inl hh
 ·exact .inr ⟨hh, fun i hi => ha i (by omega) hi⟩
theorem marks_check (hf : fs.length = X) (hX : X ≤ 12) (F : List Frame) : loopVal step12_6 (x, fs, exL r fs X, F, 0, r) = some (.inr (x, F, r)) := by
 have h1 := loop_for (step := step12_6) (st := fun k => (x, fs, exL r fs X, F, (k : Int), r)) (n := X) (e := .inr (x, F, r))
  (fun k hk => by
    have d0 : fs.getD k (0, 0, false, 0, 0) = fs.getD k mk1 := rfl
    have d1 : (exL r fs X).getD k (0, 0, false, 0, 0) = exM r fs k := exL_at hk
    have e5 := wr_succ (show k < 4611686018427387904 by omega)
    simp only [step12_6, lt_cast, inB_cast, Int.toNat_natCast, exL_len, hf, decide_eq_true hk, cond_true, d0, d1, e5]
    by_cases k0 : k = 0
    ·subst k0
     have ek : (exM r fs 0).1 = 0 := rfl
     simp only [ek, exM, beq_self_eq_true, Bool.and_true, Bool.not_true, cond_false, cond_true]
     rfl
    ·rw [beq_eq_false_iff_ne.2 (show (k : Int) ≠ 0 by omega), cond_false]
     by_cases g : (k : Int) < r.2.2.2.1
     ·have ek : kindE r k = 1 := by unfold kindE; rw [if_neg k0, if_pos g]
      simp only [decide_eq_true g, exM, ek, beq_self_eq_true, Bool.and_true, Bool.not_true, cond_false, cond_true]
     ·have ek : kindE r k = 2 := by unfold kindE; rw [if_neg k0, if_neg g]
      simp only [decide_eq_false g, exM, ek, beq_self_eq_true, Bool.and_true, Bool.not_true, cond_false])
  (by simp only [step12_6, lt_cast, exL_len, Nat.lt_irrefl, decide_false, cond_false]) 0 (by omega)
 exact h1
theorem frames_check (h : Fit r) (h30 : r.2.1 ≤ 30) (hX : X ≤ 12) (hx : x.length = X) (hxl : ∀ j, (x.getD j []).length ≤ 1000) : loopVal step12_8 (x, (List.range (X - 1)).map (exF r x), 0, r) = some (.inr ()) := by
 have f1 := h.slip; have f2 := h.far
 have h1 := loop_for (step := step12_8) (st := fun k => (x, (List.range (X - 1)).map (exF r x), (k : Int), r)) (n := X - 1) (e := .inr ())
  (fun k hk => by
    have hbound : (k : Int) * r.2.1 ≤ 12 * 30 := Int.mul_le_mul (by omega) h30 (by omega) (by omega)
    have hpos : 0 ≤ (k : Int) * r.2.1 := Int.mul_nonneg (by omega) (by omega)
    have e1 : wr ((k : Int) * r.2.1) = (k : Int) * r.2.1 := wr_id (by omega) (by omega)
    have e5 := wr_succ (show k < 4611686018427387904 by omega)
    have d1 : ((List.range (X - 1)).map (exF r x)).getD k (0, false, 0, []) = exF r x k := by
     rw [List.getD_eq_getElem?_getD, List.getElem?_map, List.getElem?_range hk]; rfl
    have hin := ints_self (x.getD k []) (by have := hxl k; omega)
    simp only [step12_8, lt_cast, inB_cast, Int.toNat_natCast, List.length_map, List.length_range, hx, decide_eq_true hk, decide_eq_true (show k < X by omega), cond_true, d1, exF, e1, bne_self_eq_false, cond_false, hin, optE_some, Bool.not_true, e5])
  (by simp only [step12_8, lt_cast, List.length_map, List.length_range, Nat.lt_irrefl, decide_false, cond_false]) 0 (by omega)
 exact h1
end
theorem regular_true (r : Rule) (x : List (List Int)) (noise : List Int) : s12 (r, x, noise) = some true := by
 unfold s12 s16
 simp only [Bool.not_true, cond_false, optE_some]
 by_cases hb : (r.1.length : Int) ≤ 34
 case neg => rw [decide_eq_false hb]; rfl
 simp only [decide_eq_true hb, Bool.not_true, cond_false, s20_eq r (by omega), optE_some]
 by_cases hr : rE r = 0
 case neg => rw [bne_iff_ne.2 hr]; rfl
 have hf := fit_of hr
 simp only [hr, bne_self_eq_false, cond_false]
 by_cases h30 : r.2.1 > 30
 ·rw [decide_eq_true h30]; rfl
 rw [decide_eq_false h30, cond_false]
 by_cases hx : x.length > 12
 ·rw [decide_eq_true (show (x.length : Int) > 12 by omega)]; rfl
 rw [decide_eq_false (show ¬ (x.length : Int) > 12 by omega), cond_false]
 by_cases hn : noise.length > 40
 ·rw [decide_eq_true (show (noise.length : Int) > 40 by omega)]; rfl
 rw [decide_eq_false (show ¬ (noise.length : Int) > 40 by omega), cond_false]
 have s0 : Stream r x 0 [] := ⟨by rw [show ((0 : Nat) : Int) * r.2.1 = 0 from Int.zero_mul _]; rfl, fun y hy => (by cases hy), fun i hi => by omega⟩
 rcases stream_loop (noise := noise) hf (by omega) (by omega) (by omega) x.length 0 (by omega) [] s0 with hs | ⟨so, hs, hloop⟩
 ·have hs : loopVal step12_0 (x, noise, [], 0, r) = some (.inl true) := hs
  rw [hs]; rfl
 have hloop : loopVal step12_0 (x, noise, [], 0, r) = some (.inr (x, so, r)) := hloop
 obtain ⟨hE0, hsl⟩ := stream_E hf (by omega) (by omega) hs
 have hbE : bE r so = 0 := firstE_zero.2 fun e he => by
  simp only [List.mem_cons, List.mem_nil_iff, or_false] at he
  rcases he with rfl | rfl
  ·exact hr
  ·exact hE0
 have hfl := findV_len r.1 so r.2.2.1 (places r.1 so)
 simp only [hloop, optE_some, sumE_r, copyR_eq r (by omega), copy_eq so (by omega), find_eq r so (by omega) (by omega), if_pos hbE, bne_self_eq_false, cond_false]
 by_cases hlen : (findV r.1 so r.2.2.1 (places r.1 so)).length = x.length
 case neg => rw [bne_iff_ne.2 (show ((findV r.1 so r.2.2.1 (places r.1 so)).length : Int) ≠ (x.length : Int) by omega)]; rfl
 rw [hlen, bne_self_eq_false, cond_false]
 rcases found_check (x := x) (so := so) hf (by omega) (fs := findV r.1 so r.2.2.1 (places r.1 so)) (by omega) with hc | ⟨hc, hat⟩
 ·rw [hc]; rfl
 have hR : Regs r so x.length (findV r.1 so r.2.2.1 (places r.1 so)) := by
  refine ⟨hs.len, fun i hi => ?_⟩
  obtain ⟨h1, _⟩ : (∀ i, i < (findV r.1 so r.2.2.1 (places r.1 so)).length → ∃ p, p < places r.1 so ∧ markAt r.1 so r.2.2.1 p = some ((findV r.1 so r.2.2.1 (places r.1 so)).getD i mk0)) ∧ _ := findV_props r.1 so r.2.2.1 (places r.1 so)
  obtain ⟨p, _, hp⟩ := h1 i (by omega)
  have hp : markAt r.1 so r.2.2.1 p = some ((findV r.1 so r.2.2.1 (places r.1 so)).getD i mk1) := hp
  obtain ⟨a1, a2⟩ := hat i (by omega)
  have hp' := hp
  unfold markAt at hp'
  split at hp'
  ·rename_i g
   have e := Option.some.inj hp'
   rw [← e] at a1
   exact ⟨p, a1, hp, e.symm, g⟩
  ·split at hp'
   ·have e := Option.some.inj hp'
    rw [← e] at a2
    cases a2
   ·cases hp'
 have hm := reg_marks hf hR
 have hfr := reg_frames hf hR hs
 have hxl : ∀ j, (x.getD j []).length ≤ 1000 := by
  intro j
  by_cases hj : j < x.length
  ·rw [← hs.part j hj, List.length_drop, List.length_take]; omega
  ·rw [List.getD_eq_getElem?_getD, List.getElem?_eq_none (by omega)]; simp
 have e1 : wr (((x.length : Nat) : Int) + 1) = (x.length : Int) + 1 := wr_id (by omega) (by omega)
 have e2 : wr (((x.length : Nat) : Int) - 1) = (x.length : Int) - 1 := wr_id (by omega) (by omega)
 simp only [hc, optE_some, sumE_r, copyR_eq r (by omega), copy_eq so (by omega), marks_eq hbE, frames_eq hbE, hm, hfr, bne_self_eq_false, cond_false, exL_len, List.length_map, List.length_range, e1, e2, decide_eq_false (show ¬ ((x.length : Nat) : Int) > (x.length : Int) by omega), decide_eq_false (show ¬ (x.length : Int) + 1 < (x.length : Int) by omega),
  marks_check hlen (by omega), frames_check hf (show r.2.1 ≤ 30 by omega) (show x.length ≤ 12 by omega) rfl hxl]
 by_cases h0 : x.length = 0
 ·rw [decide_eq_false (show ¬ (x.length : Int) > 0 by omega), cond_false, beq_iff_eq.2 (show (x.length : Int) = 0 by omega), cond_true, show x.length - 1 = 0 by omega]
  rfl
 ·rw [decide_eq_true (show (x.length : Int) > 0 by omega), cond_true, show (((x.length - 1 : Nat) : Int) != (x.length : Int) - 1) = false from bne_eq_false_iff_eq.2 (by omega), cond_false, beq_eq_false_iff_ne.2 (show (x.length : Int) ≠ 0 by omega), cond_false]
end Go.Proofs.YthckjfbhdjjnkaaDoor
