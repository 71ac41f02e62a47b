/- slices.Clone of []int, out of the contract of the kit's shelf (the layings as the kit's tools write them for this program). -/
import Derived.Shelf.Slices.Clone
import Derived.Test.YthckjfbhdjjnkaaExt4
import Derived.Lib.AppendIntMem
set_option linter.unusedSimpArgs false
set_option maxRecDepth 10000
namespace Go.Proofs
open Go.Shelf
def Try.laysNm215_ren : Go.Shelf.Ren := ⟨fun | 15 => 45 | n => n, fun | 22 => 22 | 3 => 3 | 4 => 4 | n => n, fun | n => n⟩
theorem Try.laysNm215 : Go.Proofs.Lays2.n15 Try.prog Try.laysNm215_ren := {
 mixed := by kernel_rfl
 f15 := Try.func45.trans (congrArg some (by kernel_rfl))
 t3 := Try.underlying3
 a3 := Try.isAgg3
 z3 := Try.sizeOf3
 v3 := Try.zeroValue3
 t4 := Try.underlying4
 a4 := Try.isAgg4
 z4 := Try.sizeOf4
 v4 := Try.zeroValue4
 t22 := Try.underlying22
 a22 := Try.isAgg22
 z22 := Try.sizeOf22
 v22 := Try.zeroValue22
 i3 := by kernel_rfl }
open Go.RowKit Go.Lib in
theorem Try.slices_Clone_int (b off n c : Nat) (zs : List Int) (w : World) (hz : n ≤ zs.length) (hbig : n * 8 ≤ 140737488355328) (hc : ∀ j, j < zs.length → w.cell? ⟨b, off + j, none⟩ = some (.int .i64 (zs.getD j 0))) :
 Calls Try.prog 45 #[.slice (some ⟨b, off, none⟩) n c] w fun e w' => ∃ v', e = .returned v' ∧ w'.ownsRow w.heap.size 3 1 v' n ((zs.take n).map (Value.int .i64)) ∧ v' ≠ .slice none 0 0 ∧ Below w.heap.size w w' := Any.slices_Clone_int Try.laysNm215 b off n c zs w hz hbig hc
open Go.RowKit Go.Lib in
theorem Try.slices_Clone_int_nil (n c : Nat) (w : World) :
 Calls Try.prog 45 #[.slice none n c] w fun e w' => e = .returned (.slice none 0 0) ∧ w' = w := Any.slices_Clone_int_nil Try.laysNm215 n c w
open Go.RowKit Go.Lib in
theorem Try.slices_Clone_int_zero (a : Addr) (c : Nat) (w : World) :
 Calls Try.prog 45 #[.slice (some a) 0 c] w fun e w' => ∃ v', e = .returned v' ∧ w'.ownsRow w.heap.size 3 1 v' 0 [] ∧ v' ≠ .slice none 0 0 ∧ Below w.heap.size w w' := Any.slices_Clone_int_zero Try.laysNm215 a c w
end Go.Proofs
namespace Go.Proofs.Ythckjfbhdjjnkaa
open Go.Ev Go.RowKit
theorem repCs_nil' {w : World} {p : Nat → Prop} {β : Nat → Option Value} {H : Nat → Blk} {vs : List Value} (h : RepCs w p β H [] vs) : vs = [] := List.eq_nil_of_length_eq_zero h.1.symm
def cloneF (s : List Int) : Option (List Int) := bif decide (s.length ≤ 1000000) then some s else none
theorem own_res {B : Nat} {w : World} {p : Nat → Prop} {v : Value} {xs : List Int} (h : w.ownsRow B 3 1 v xs.length (xs.map (Value.int .i64))) (hv : ∀ b, rootBlock v = some b → B ≤ b) : RepRV B w p (rvOf [.own 3 (.int .i64)] xs) v := by
 refine ⟨fun _ => False, fun t => if t = 0 then some v else none, fun _ h => h.elim, fun t ht => by simp [ht], ?_, ?_⟩
 ·show RepB w (fun _ => False) _ _ B (.buf 3 (.int .i64) xs) v ∧ ∀ b, rootBlock v = some b → ¬ False
  refine ⟨⟨xs.map (Value.int .i64), ownsAt_of h, by decide, by simp [Sh.size], fun i x hx => ?_⟩, fun _ _ h => h⟩
  simp only [RepT, Sh.size, Nat.mul_one]
  rw [← List.map_drop, ← List.map_take]
  have hi : i < xs.length := (List.getElem?_eq_some_iff.1 hx).1
  rw [List.drop_eq_getElem_cons hi]
  have : xs[i] = x := (List.getElem?_eq_some_iff.1 hx).2
  rw [this]
  rfl
 ·have ho : v.oneCell' = true := by
   rcases h.2 with ⟨rfl, _⟩ | ⟨g, cap, cur, rfl, _⟩ <;> simp [Value.oneCell']
  show RepC w (fun _ => False) (fun t => if t = 0 then some v else none) (fun t => if t = 0 then .buf 3 (.int .i64) xs else .free) (.l (.full 0)) v
  refine repC_l ?_
  show (if (0 : Nat) = 0 then some v else none) = some v ∧ Blk.isBuf (if (0 : Nat) = 0 then .buf 3 (.int .i64) xs else .free) ∧ v.oneCell' = true
  exact ⟨rfl, by simp [Blk.isBuf], ho⟩
theorem clone_ok : ItemOk Try.prog (.fn 45 [.d (.slice (.int .i64))] [.own 3 (.int .i64)] cloneF) := fun x y hxy w p vs hp hg hr => by
 unfold cloneF at hxy
 cases hc : decide (x.length ≤ 1000000) with
 | false => rw [hc] at hxy; cases hxy
 | true =>
 rw [hc] at hxy
 obtain rfl := Option.some.inj hxy
 have hc := of_decide_eq_true hc
 obtain ⟨v, us, e, hv, hu⟩ := RepCs.uncons (show RepCs w p _ _ [.l (.slice (.int .i64) x)] vs.toList from hr)
 rw [repCs_nil' hu] at e
 have hv : RepT w p (.slice (.int .i64)) x [v] := repL_of (c := .slice (.int .i64) x) (by intro h; cases h) hv
 simp only [RepT] at hv
 obtain ⟨a, cap, e3, ⟨hcap, _⟩, h4⟩ := hv
 have e3 := (List.cons.inj e3).1
 obtain rfl : vs = #[.slice a x.length cap] := by rw [← Array.toList_inj, e, e3]
 have root : ∀ (v' : Value) (w' : World), w'.ownsRow w.heap.size 3 1 v' x.length (x.map (Value.int .i64)) → ∀ b, rootBlock v' = some b → w.heap.size ≤ b := by
  intro v' w' h b hb
  rcases h.2 with ⟨rfl, _⟩ | ⟨g, cap, cur, rfl, h1, _⟩
  ·cases hb
  ·obtain rfl := Option.some.inj hb; exact h1
 cases a with
 | none =>
   have hx : x = [] := by
    rcases h4 with h4 | ⟨b, o, h4, _⟩
    ·exact h4
    ·cases h4
   subst hx
   refine (Try.slices_Clone_int_nil 0 cap w).mono fun e w' ⟨h5, h6⟩ => ⟨_, h5, ?_, own_res (xs := []) ⟨rfl, .inl ⟨rfl, rfl⟩⟩ (fun b hb => by cases hb)⟩
   rw [h6]; exact Below.refl _ _
 | some ad =>
   rcases h4 with h4 | ⟨b, o, h4, hb, h4'⟩
   ·subst h4
    exact (Try.slices_Clone_int_zero ad cap w).mono fun e w' ⟨v', h5, h6, _, h7⟩ => ⟨v', h5, h7, own_res (xs := []) h6 (root v' w' h6)⟩
   ·obtain rfl := Option.some.inj h4
    refine (Try.slices_Clone_int b o x.length cap x w (Nat.le_refl _) (by omega) (fun j hj => ?_)).mono fun e w' ⟨v', h5, h6, _, h7⟩ => ?_
    ·obtain ⟨us, g1, g2, g3⟩ := h4' j x[j] (List.getElem?_eq_getElem hj)
     have := g3 0 (by decide)
     rw [g1] at this
     rw [List.getD_eq_getElem?_getD, List.getElem?_eq_getElem hj]
     simpa [Sh.size] using this
    ·rw [List.take_length] at h6
     exact ⟨v', h5, h7, own_res h6 (root v' w' h6)⟩
end Go.Proofs.Ythckjfbhdjjnkaa
