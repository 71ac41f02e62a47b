/- slices.Clone of []int, out of the contracts of the kit's shelf. -/
import Derived.Test.YthckjfbhdjjnkaaDoorLib4
set_option linter.unusedSimpArgs false
set_option maxRecDepth 10000
namespace Go.Proofs.YthckjfbhdjjnkaaDoor
open Go.Ev Go.RowKit
def cloneF (s : List Int) : Option (List Int) := bif decide (s.length ≤ 1000000) then some s else none
theorem own_res {B : Nat} {w : World} {p : Nat → Prop} {v : Value} {xs : List Int} (h : w.ownsRow B 3 1 v xs.length (xs.map (Value.int .i64))) (hv : ∀ b, rootBlock v = some b → B ≤ b) : RepRV B w p (rvOf [.own 3 (.int .i64)] xs) v := by
 refine ⟨fun _ => False, fun t => if t = 0 then some v else none, fun _ h => h.elim, fun t ht => by simp [ht], ?_, ?_⟩
 ·show RepB w (fun _ => False) _ _ B (.buf 3 (.int .i64) xs) v ∧ ∀ b, rootBlock v = some b → ¬ False
  refine ⟨⟨xs.map (Value.int .i64), ownsAt_of h, by decide, by simp [Sh.size], fun i x hx => ?_⟩, fun _ _ h => h⟩
  simp only [RepT, Sh.size, Nat.mul_one]
  rw [← List.map_drop, ← List.map_take]
  have hi : i < xs.length := (List.getElem?_eq_some_iff.1 hx).1
  rw [List.drop_eq_getElem_cons hi]
  have : xs[i] = x := (List.getElem?_eq_some_iff.1 hx).2
  rw [this]
  rfl
 ·have ho : v.oneCell' = true := by
   rcases h.2 with ⟨rfl, _⟩ | ⟨g, cap, cur, rfl, _⟩ <;> simp [Value.oneCell']
  show RepC w (fun _ => False) (fun t => if t = 0 then some v else none) (fun t => if t = 0 then .buf 3 (.int .i64) xs else .free) (.l (.full 0)) v
  refine repC_l ?_
  show (if (0 : Nat) = 0 then some v else none) = some v ∧ Blk.isBuf (if (0 : Nat) = 0 then .buf 3 (.int .i64) xs else .free) ∧ v.oneCell' = true
  exact ⟨rfl, by simp [Blk.isBuf], ho⟩
theorem clone_ok : ItemOk Tryd.prog (.fn 101 [.d (.slice (.int .i64))] [.own 3 (.int .i64)] cloneF) := fun x y hxy w p vs hp hg hr => by
 unfold cloneF at hxy
 cases hc : decide (x.length ≤ 1000000) with
 | false => rw [hc] at hxy; cases hxy
 | true =>
 rw [hc] at hxy
 obtain rfl := Option.some.inj hxy
 have hc := of_decide_eq_true hc
 obtain ⟨v, us, e, hv, hu⟩ := RepCs.uncons (show RepCs w p _ _ [.l (.slice (.int .i64) x)] vs.toList from hr)
 rw [repCs_nil' hu] at e
 have hv : RepT w p (.slice (.int .i64)) x [v] := repL_of (c := .slice (.int .i64) x) (by intro h; cases h) hv
 simp only [RepT] at hv
 obtain ⟨a, cap, e3, ⟨hcap, _⟩, h4⟩ := hv
 have e3 := (List.cons.inj e3).1
 obtain rfl : vs = #[.slice a x.length cap] := by rw [← Array.toList_inj, e, e3]
 have root : ∀ (v' : Value) (w' : World), w'.ownsRow w.heap.size 3 1 v' x.length (x.map (Value.int .i64)) → ∀ b, rootBlock v' = some b → w.heap.size ≤ b := by
  intro v' w' h b hb
  rcases h.2 with ⟨rfl, _⟩ | ⟨g, cap, cur, rfl, h1, _⟩
  ·cases hb
  ·obtain rfl := Option.some.inj hb; exact h1
 cases a with
 | none =>
   have hx : x = [] := by
    rcases h4 with h4 | ⟨b, o, h4, _⟩
    ·exact h4
    ·cases h4
   subst hx
   refine (Tryd.slices_Clone_int_nil 0 cap w).mono fun e w' ⟨h5, h6⟩ => ⟨_, h5, ?_, own_res (xs := []) ⟨rfl, .inl ⟨rfl, rfl⟩⟩ (fun b hb => by cases hb)⟩
   rw [h6]; exact Below.refl _ _
 | some ad =>
   rcases h4 with h4 | ⟨b, o, h4, hb, h4'⟩
   ·subst h4
    exact (Tryd.slices_Clone_int_zero ad cap w).mono fun e w' ⟨v', h5, h6, _, h7⟩ => ⟨v', h5, h7, own_res (xs := []) h6 (root v' w' h6)⟩
   ·obtain rfl := Option.some.inj h4
    refine (Tryd.slices_Clone_int b o x.length cap x w (Nat.le_refl _) (by omega) (fun j hj => ?_)).mono fun e w' ⟨v', h5, h6, _, h7⟩ => ?_
    ·obtain ⟨us, g1, g2, g3⟩ := h4' j x[j] (List.getElem?_eq_getElem hj)
     have := g3 0 (by decide)
     rw [g1] at this
     rw [List.getD_eq_getElem?_getD, List.getElem?_eq_getElem hj]
     simpa [Sh.size] using this
    ·rw [List.take_length] at h6
     exact ⟨v', h5, h7, own_res h6 (root v' w' h6)⟩
end Go.Proofs.YthckjfbhdjjnkaaDoor
