/- Which measurements contradict: what the search over sets gives. -/
import Derived.Test.YtfpppijfkeidgaaGreatDoorGz5
import Derived.Test.YtfpppijfkeidgaaGreatDoorEnclose2
set_option linter.unusedSimpArgs false
namespace Go.Proofs.YtfpppijfkeidgaaGreatDoor
open Go.Ev
def firstN {β : Type} (f : Nat → Option β) : Nat → Nat → Option β
 | 0, _ => none
 | m + 1, k => match f k with
   | some x => some x
   | none => firstN f m (k + 1)
theorem scan_first {β E : Type} (f : Nat → Option β) (g : β → E) (e : E) : ∀ m k, scan (fun j => (f j).map g) e m k = (firstN f m k).elim e g
 | 0, _ => rfl
 | m + 1, k => by
   simp only [scan, firstN]
   cases f k with
   | none => exact scan_first f g e m (k + 1)
   | some x => rfl
theorem firstN_none {β : Type} {f : Nat → Option β} : ∀ {m k : Nat}, firstN f m k = none ↔ ∀ j, k ≤ j → j < k + m → f j = none
 | 0, k => ⟨fun _ j h1 h2 => by omega, fun _ => rfl⟩
 | m + 1, k => by
   simp only [firstN]
   cases h : f k with
   | some x => exact ⟨fun h' => (by cases h'), fun h' => by have := h' k (by omega) (by omega); rw [h] at this; cases this⟩
   | none =>
     simp only
     rw [firstN_none]
     constructor
     ·intro h' j h1 h2
      by_cases e : j = k
      ·rw [e]; exact h
      ·exact h' j (by omega) (by omega)
     ·intro h' j h1 h2
      exact h' j (by omega) (by omega)
abbrev ms0 : Msr := (0, 0, 0, 0, 0)
noncomputable def posB (s : List Msr) : Bool := (s41 s).getD false
theorem posB_eq {s : List Msr} (hs : s.length ≤ 100) (hv : ∀ m ∈ s, mErr m = 0) : s41 s = some (posB s) ∧ (posB s = true ↔ ¬ Contra (hvs s)) := by
 obtain ⟨b, h1, h2⟩ := possible_eq s hs hv
 unfold posB
 rw [h1]
 exact ⟨rfl, h2⟩
theorem clone_eq {s : List Int} (h0 : 0 < s.length) (h1 : s.length ≤ 1000) : s42 s = some s := by
 unfold s42
 rw [decide_eq_true h0, room_true (by omega) (by omega)]
 rfl
section
variable {l : List Msr} (hl : l.length ≤ 1000) (hv' : ∀ m ∈ l, mErr m = 0)
noncomputable def bad2 (l : List Msr) (a j : Nat) : Option Nat := bif posB [l.getD a ms0, l.getD j ms0] then none else some j
noncomputable def bad3 (l : List Msr) (a b j : Nat) : Option Nat := bif posB [l.getD a ms0, l.getD b ms0, l.getD j ms0] then none else some j
noncomputable def nx2 (l : List Msr) (a : Nat) : Option Nat := firstN (bad2 l a) (l.length - (a + 1)) (a + 1)
noncomputable def fst2 (l : List Msr) : Option (Nat × Nat) := firstN (fun a => (nx2 l a).map (a, ·)) l.length 0
noncomputable def nx3 (l : List Msr) (a b : Nat) : Option Nat := firstN (bad3 l a b) (l.length - (b + 1)) (b + 1)
noncomputable def md3 (l : List Msr) (a : Nat) : Option (Nat × Nat) := firstN (fun b => (nx3 l a b).map (b, ·)) (l.length - (a + 1)) (a + 1)
noncomputable def fst3 (l : List Msr) : Option (Nat × Nat × Nat) := firstN (fun a => (md3 l a).map (a, ·)) l.length 0
include hl hv'
theorem in2 {a : Nat} (ha : a < l.length) (i : Int) (t : List Int) (m k : Nat) (hk : k + m = l.length) :
 loopVal (strip Lp15_0 step61_0) ((k : Int), i, (a : Int), (l.length : Int), (), l, t, (), (), ()) =
  some ((firstN (bad2 l a) m k).elim (.inr (i, (a : Int), (l.length : Int), (), l, t, (), (), ())) (fun j => .inl (i, ((a : Int), (j : Int)), (l.length : Int), (), l, [(a : Int), (j : Int)], (), (), ()))) := by
 rw [← scan_first]
 refine loop_scan (st := fun k => ((k : Int), i, (a : Int), (l.length : Int), (), l, t, (), (), ())) (n := l.length) (fun k hk => ?_) ?_ m k hk
 ·have hp := (posB_eq (s := [l.getD a ms0, l.getD k ms0]) (by simp) (fun m hm => by
   simp only [List.mem_cons, List.not_mem_nil, or_false] at hm
   rcases hm with rfl | rfl
   ·exact hv' _ (getD_mem ms0 ha)
   ·exact hv' _ (getD_mem ms0 hk))).1
  unfold bad2
  cases hb : posB [l.getD a ms0, l.getD k ms0] with
  | true =>
    refine strip_some ?_
    simp only [step61_0, lt_cast, inB_cast, ha, hk, decide_true, cond_true, Int.toNat_natCast, hp, hb, optE_some, Bool.not_true, cond_false, wr_succ (show k < 4611686018427387904 by omega)]
  | false =>
    refine strip_some ?_
    simp only [step61_0, lt_cast, inB_cast, ha, hk, decide_true, cond_true, Int.toNat_natCast, hp, hb, optE_some, Bool.not_false, clone_eq (s := [(a : Int), (k : Int)]) (by simp) (by simp)]
 ·refine strip_some ?_
  simp only [step61_0, lt_cast, Nat.lt_irrefl, decide_false, cond_false]
theorem out2 (t : List Int) :
 loopVal (strip Lp15_0 step61_0a) (0, (), (l.length : Int), (), l, t, (), (), ()) =
  some ((fst2 l).elim (.inr (l, t, ())) (fun q => .inl (l, [(q.1 : Int), (q.2 : Int)], ()))) := by
 unfold fst2
 rw [← scan_first]
 refine loop_scan (st := fun k => ((k : Int), (), (l.length : Int), (), l, t, (), (), ())) (n := l.length) (fun k hk => ?_) ?_ l.length 0 (by omega)
 ·have hin := in2 hl hv' hk (k : Int) t (l.length - (k + 1)) (k + 1) (by omega)
  have e : firstN (bad2 l k) (l.length - (k + 1)) (k + 1) = nx2 l k := rfl
  rw [e] at hin
  cases hp : nx2 l k with
  | some j =>
    rw [hp] at hin
    refine strip_some ?_
    simp only [step61_0a, lt_cast, hk, decide_true, cond_true, onlyAt_eq, wr_succ (show k < 4611686018427387904 by omega), hin, optE_some, sumE, Option.elim]
  | none =>
    rw [hp] at hin
    refine strip_some ?_
    simp only [step61_0a, lt_cast, hk, decide_true, cond_true, onlyAt_eq, wr_succ (show k < 4611686018427387904 by omega), hin, optE_some, sumE, Option.elim]
 ·refine strip_some ?_
  simp only [step61_0a, lt_cast, Nat.lt_irrefl, decide_false, cond_false]
theorem in3 {a b : Nat} (ha : a < l.length) (hb : b < l.length) (i i' : Int) (t : List Int) (m k : Nat) (hk : k + m = l.length) :
 loopVal (strip Lp15_0 step61_0b) ((k : Int), i, i', ((a : Int), (b : Int)), (l.length : Int), (), l, t, (), (), ()) =
  some ((firstN (bad3 l a b) m k).elim (.inr (i, i', ((a : Int), (b : Int)), (l.length : Int), (), l, t, (), (), ())) (fun j => .inl (i, i', ((a : Int), (b : Int), (j : Int)), (l.length : Int), (), l, [(a : Int), (b : Int), (j : Int)], (), (), ()))) := by
 rw [← scan_first]
 refine loop_scan (st := fun k => ((k : Int), i, i', ((a : Int), (b : Int)), (l.length : Int), (), l, t, (), (), ())) (n := l.length) (fun k hk => ?_) ?_ m k hk
 ·have hp := (posB_eq (s := [l.getD a ms0, l.getD b ms0, l.getD k ms0]) (by simp) (fun m hm => by
   simp only [List.mem_cons, List.not_mem_nil, or_false] at hm
   rcases hm with rfl | rfl | rfl
   ·exact hv' _ (getD_mem ms0 ha)
   ·exact hv' _ (getD_mem ms0 hb)
   ·exact hv' _ (getD_mem ms0 hk))).1
  unfold bad3
  cases hq : posB [l.getD a ms0, l.getD b ms0, l.getD k ms0] with
  | true =>
    refine strip_some ?_
    simp only [step61_0b, lt_cast, inB_cast, ha, hb, hk, decide_true, cond_true, Int.toNat_natCast, hp, hq, optE_some, Bool.not_true, cond_false, wr_succ (show k < 4611686018427387904 by omega)]
  | false =>
    refine strip_some ?_
    simp only [step61_0b, lt_cast, inB_cast, ha, hb, hk, decide_true, cond_true, Int.toNat_natCast, hp, hq, optE_some, Bool.not_false, clone_eq (s := [(a : Int), (b : Int), (k : Int)]) (by simp) (by simp)]
 ·refine strip_some ?_
  simp only [step61_0b, lt_cast, Nat.lt_irrefl, decide_false, cond_false]
theorem mid3 {a : Nat} (ha : a < l.length) (i : Int) (t : List Int) (m k : Nat) (hk : k + m = l.length) :
 loopVal (strip Lp15_0 step61_0c) ((k : Int), i, (a : Int), (l.length : Int), (), l, t, (), (), ()) =
  some ((firstN (fun b => (nx3 l a b).map (b, ·)) m k).elim (.inr (i, (a : Int), (l.length : Int), (), l, t, (), (), ())) (fun q => .inl (i, ((a : Int), (q.1 : Int), (q.2 : Int)), (l.length : Int), (), l, [(a : Int), (q.1 : Int), (q.2 : Int)], (), (), ()))) := by
 rw [← scan_first]
 refine loop_scan (st := fun k => ((k : Int), i, (a : Int), (l.length : Int), (), l, t, (), (), ())) (n := l.length) (fun k hk => ?_) ?_ m k hk
 ·have hin := in3 hl hv' ha hk (k : Int) i t (l.length - (k + 1)) (k + 1) (by omega)
  have e : firstN (bad3 l a k) (l.length - (k + 1)) (k + 1) = nx3 l a k := rfl
  rw [e] at hin
  cases hp : nx3 l a k with
  | some j =>
    rw [hp] at hin
    refine strip_some ?_
    simp only [step61_0c, lt_cast, hk, decide_true, cond_true, onlyAt_eq, wr_succ (show k < 4611686018427387904 by omega), hin, optE_some, sumE, Option.elim]
  | none =>
    rw [hp] at hin
    refine strip_some ?_
    simp only [step61_0c, lt_cast, hk, decide_true, cond_true, onlyAt_eq, wr_succ (show k < 4611686018427387904 by omega), hin, optE_some, sumE, Option.elim]
 ·refine strip_some ?_
  simp only [step61_0c, lt_cast, Nat.lt_irrefl, decide_false, cond_false]
theorem out3 (t : List Int) :
 loopVal (strip Lp15_0 step61_0d) (0, (), (l.length : Int), (), l, t, (), (), ()) =
  some ((fst3 l).elim (.inr (l, t, ())) (fun q => .inl (l, [(q.1 : Int), (q.2.1 : Int), (q.2.2 : Int)], ()))) := by
 unfold fst3
 rw [← scan_first]
 refine loop_scan (st := fun k => ((k : Int), (), (l.length : Int), (), l, t, (), (), ())) (n := l.length) (fun k hk => ?_) ?_ l.length 0 (by omega)
 ·have hin := mid3 hl hv' hk (k : Int) t (l.length - (k + 1)) (k + 1) (by omega)
  have e : firstN (fun b => (nx3 l k b).map (b, ·)) (l.length - (k + 1)) (k + 1) = md3 l k := rfl
  rw [e] at hin
  cases hp : md3 l k with
  | some j =>
    rw [hp] at hin
    refine strip_some ?_
    simp only [step61_0d, lt_cast, hk, decide_true, cond_true, onlyAt_eq, wr_succ (show k < 4611686018427387904 by omega), hin, optE_some, sumE, Option.elim]
  | none =>
    rw [hp] at hin
    refine strip_some ?_
    simp only [step61_0d, lt_cast, hk, decide_true, cond_true, onlyAt_eq, wr_succ (show k < 4611686018427387904 by omega), hin, optE_some, sumE, Option.elim]
 ·refine strip_some ?_
  simp only [step61_0d, lt_cast, Nat.lt_irrefl, decide_false, cond_false]
omit hl hv' in
theorem contradicting_eq (l : List Msr) (hc : (chkM l).2 = 0) : s15 l = some (match fst2 l with | some q => ([(q.1 : Int), (q.2 : Int)], 0) | none => match fst3 l with | some q => ([(q.1 : Int), (q.2.1 : Int), (q.2.2 : Int)], 0) | none => ([], 12)) := by
 have hv := (chkE_zero mErr (0, 0, 0, 0, 0) 12 l).1 hc
 unfold s15
 simp only [chk1, optE_some, hc, bne_self_eq_false, cond_false, onlyAt_eq, out2 (by omega) hv.2]
 cases fst2 l with
 | some q => rfl
 | none =>
   have h3 := out3 (show l.length ≤ 1000 by omega) hv.2 []
   simp only [Option.elim, sumE, onlyAt_eq, h3, optE_some]
   cases fst3 l with
   | some q => rfl
   | none => rfl
end
end Go.Proofs.YtfpppijfkeidgaaGreatDoor
