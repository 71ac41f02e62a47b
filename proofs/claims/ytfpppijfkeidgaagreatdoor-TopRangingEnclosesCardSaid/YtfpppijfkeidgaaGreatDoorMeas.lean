/- Measurements: which are valid, with an index: both say the same. -/
import Derived.Test.YtfpppijfkeidgaaGreatDoorGz5
import Derived.Test.YtfpppijfkeidgaaGreatDoorSearch
set_option linter.unusedSimpArgs false
namespace Go.Proofs.YtfpppijfkeidgaaGreatDoor
open Go.Ev
section
variable {α : Type} (f : α → Int) (d : α)
def hitE (l : List α) (k : Nat) : Option ((Int × Int) ⊕ Unit) := bif f (l.getD k d) != 0 then some (Sum.inl ((k : Int), f (l.getD k d))) else none
def scanE (l : List α) : (Int × Int) ⊕ Unit := scan (hitE f d l) (Sum.inr ()) l.length 0
def chkE (n : Int) (l : List α) : Int × Int := bif decide ((l.length : Int) > n) then (0, 8) else sumE (scanE f d l) (fun e => e) (fun _ => (0, 0))
theorem getD_mem {l : List α} {k : Nat} (h : k < l.length) : l.getD k d ∈ l := by
 rw [List.getD_eq_getElem?_getD, List.getElem?_eq_getElem h]
 exact List.getElem_mem h
theorem chkE_zero (n : Int) (l : List α) : (chkE f d n l).2 = 0 ↔ (l.length : Int) ≤ n ∧ ∀ x ∈ l, f x = 0 := by
 unfold chkE
 by_cases hn : (l.length : Int) > n
 ·rw [decide_eq_true hn]
  constructor
  ·intro h; cases h
  ·intro h; omega
 ·rw [decide_eq_false hn, cond_false]
  unfold scanE
  rcases scan_cases (hitE f d l) (Sum.inr ()) l.length 0 with ⟨h1, h2⟩ | ⟨j, x, _, h2, h3, h4⟩
  ·rw [h1]
   refine ⟨fun _ => ⟨by omega, fun x hx => ?_⟩, fun _ => rfl⟩
   obtain ⟨k, hk, rfl⟩ := List.mem_iff_getElem.1 hx
   have := h2 k (by omega) (by omega)
   unfold hitE at this
   rw [List.getD_eq_getElem?_getD, List.getElem?_eq_getElem hk, Option.getD_some] at this
   cases hb : f l[k] != 0 with
   | true => rw [hb] at this; cases this
   | false => simpa using hb
  ·rw [h4]
   unfold hitE at h3
   cases hb : f (l.getD j d) != 0 with
   | false => rw [hb] at h3; cases h3
   | true =>
     rw [hb] at h3
     obtain rfl := Option.some.inj h3
     have hne : f (l.getD j d) ≠ 0 := by simpa using hb
     refine ⟨fun h => absurd h hne, fun h => absurd (h.2 _ (getD_mem d (by omega))) hne⟩
end
abbrev Msr := Int × Int × Int × Int × Int
noncomputable def chkM (l : List Msr) : Int × Int := chkE mErr (0, 0, 0, 0, 0) 12 l
theorem chk1 (l : List Msr) : s32 l = some (chkM l) := by
 unfold s32 chkM chkE
 cases hl : decide ((l.length : Int) > 12)
 ·have hl : ¬ (l.length : Int) > 12 := by simpa using hl
  have h1 := loop_scan (step := step32_0) (st := fun k => (l, (l.length : Int), (k : Int))) (n := l.length)
   (hit := hitE mErr (0, 0, 0, 0, 0) l) (e := Sum.inr ())
   (fun k hk => by
     simp only [step32_0, hitE, lt_cast, inB_cast, hk, decide_true, cond_true, Int.toNat_natCast, wr_succ (show k < 4611686018427387904 by omega)]
     cases (mErr (l.getD k (0, 0, 0, 0, 0)) != 0) <;> rfl) (by simp [step32_0]) l.length 0 (by omega)
  rw [show ((0 : Nat) : Int) = 0 from rfl] at h1
  rw [h1]
  simp only [cond_false, optE, scanE]
  cases scan (hitE mErr (0, 0, 0, 0, 0) l) (Sum.inr ()) l.length 0 <;> rfl
 ·rfl
theorem chk2 (l : List Msr) : s27 l = some (chkM l) := by
 unfold s27 chkM chkE
 cases hl : decide ((l.length : Int) > 12)
 ·have hl : ¬ (l.length : Int) > 12 := by simpa using hl
  have h1 := loop_scan (step := step27_0) (st := fun k => (l, (k : Int))) (n := l.length)
   (hit := hitE mErr (0, 0, 0, 0, 0) l) (e := Sum.inr ())
   (fun k hk => by
     simp only [step27_0, hitE, lt_cast, inB_cast, hk, decide_true, cond_true, Int.toNat_natCast, wr_succ (show k < 4611686018427387904 by omega)]
     cases (mErr (l.getD k (0, 0, 0, 0, 0)) != 0) <;> rfl) (by simp [step27_0]) l.length 0 (by omega)
  rw [show ((0 : Nat) : Int) = 0 from rfl] at h1
  rw [h1]
  simp only [cond_false, optE, scanE]
  cases scan (hitE mErr (0, 0, 0, 0, 0) l) (Sum.inr ()) l.length 0 <;> rfl
 ·rfl
theorem copyM (l : List Msr) (h : l.length ≤ 1000000) : s12 l = some l := by
 unfold s12
 rw [room_true (by omega) (by omega)]
 rfl
end Go.Proofs.YtfpppijfkeidgaaGreatDoor
