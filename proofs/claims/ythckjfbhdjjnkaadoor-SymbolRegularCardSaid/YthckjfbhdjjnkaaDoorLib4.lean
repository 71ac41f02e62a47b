/- Functions of Go's library, at some arguments: out of the contracts of the kit's shelf. -/
import Derived.Test.YthckjfbhdjjnkaaDoorShelf4
import Derived.Test.YthckjfbhdjjnkaaDoorExt4
import Derived.Lib.AppendIntMem
set_option linter.unusedSimpArgs false
set_option maxRecDepth 10000
namespace Go.Proofs.YthckjfbhdjjnkaaDoor
open Go.Ev
theorem pwName : Tryd.prog.globalNamed "internal/strconv.uint64pow10" = some 0 := by kernel_rfl
def pwSh : Nat → Sh
 | 0 => .int .u64
 | n + 1 => .pair (.int .u64) (pwSh n)
def pwT : (n : Nat) → Int → (pwSh n).T
 | 0, a => (a : Int)
 | n + 1, a => ((a : Int), pwT n (a * 10))
def pwVals : Nat → Int → List Value
 | 0, a => [.int .u64 a]
 | n + 1, a => .int .u64 a :: pwVals n (a * 10)
theorem pwRep {w : World} {p : Nat → Prop} : ∀ {n : Nat} {a : Int} {us : List Value}, RepT w p (pwSh n) (pwT n a) us → us = pwVals n a
 | 0, a, us, h => by
   show us = [.int .u64 a]
   have h : RepT w p (.int .u64) a us := h
   simpa only [RepT] using h
 | n + 1, a, us, h => by
   have h : RepT w p (.pair (.int .u64) (pwSh n)) (a, pwT n (a * 10)) us := h
   simp only [RepT] at h
   obtain ⟨xs, ys, h1, h2, h3⟩ := h
   subst h1
   subst h2
   rw [pwRep h3]
   rfl
theorem tab_of {w : World} {p : Nat → Prop} (hg : GlobsOk w p) : Lib.TabIs Tryd.prog w "internal/strconv.uint64pow10" .u64 Lib.pow10Tab := by
 have hg0 : globs 0 = some ⟨pwSh 19, pwT 19 1⟩ := by kernel_rfl
 obtain ⟨⟨b, q, us, e, _, hr, hc⟩, cs, T, fr, h1, h2⟩ := hg.1 0 _ _ hg0
 have e := Option.some.inj (Value.pointer.inj e)
 obtain rfl : 0 = b := congrArg Addr.block e
 obtain rfl : 0 = q := by have := congrArg Addr.off e; simpa using this
 have hus := pwRep hr
 have hcs : cs = us.toArray := by
  apply Array.ext
  ·rw [h2, hus]; rfl
  ·intro j hj _
   have hl : us.length = 20 := by rw [hus]; rfl
   have hj2 : j < us.length := by rw [hl]; rw [h2] at hj; exact hj
   have := hc j hj2
   rw [Nat.zero_add] at this
   simp only [World.cell?, h1] at this
   have e1 : cs[j]? = us[j]? := by simpa using this
   rw [Array.getElem?_eq_getElem hj, List.getElem?_eq_getElem hj2] at e1
   have := Option.some.inj e1
   simpa using this
 unfold Lib.TabIs World.var?
 rw [pwName]
 simp only [Option.bind_some, h1]
 rw [hcs, hus]
 rfl
theorem str_res {B : Nat} {w : World} {p : Nat → Prop} (s : ByteArray) : RepRV B w p (rvOf [.d .str] s) (.string s) :=
 ⟨fun _ => False, fun _ => none, fun _ h => h.elim, fun _ _ => rfl, rfl, rfl⟩
theorem repCs_nil' {w : World} {p : Nat → Prop} {β : Nat → Option Value} {H : Nat → Blk} {vs : List Value} (h : RepCs w p β H [] vs) : vs = [] := List.eq_nil_of_length_eq_zero h.1.symm
def itoaTab (n : Int) : Option ByteArray := bif decide (n = 7) then some (ByteArray.mk #[55]) else bif decide (n = -7) then some (ByteArray.mk #[45, 55]) else bif decide (n = 0) then some (ByteArray.mk #[48]) else none
theorem itoaTab_eq {n : Int} {s : ByteArray} (h : itoaTab n = some s) : ⟨(Lib.itoa n).toArray⟩ = s ∧ -9223372036854775808 ≤ n ∧ n ≤ 9223372036854775807 := by
 have d7 : Lib.decDigits 7 = [55] := by rw [Lib.decDigits, dif_pos (by omega)]; rfl
 have d0 : Lib.decDigits 0 = [48] := by rw [Lib.decDigits, dif_pos (by omega)]; rfl
 unfold itoaTab at h
 cases h1 : decide (n = 7) with
 | true =>
   rw [h1] at h
   obtain rfl := of_decide_eq_true h1
   obtain rfl := Option.some.inj h
   refine ⟨?_, by omega, by omega⟩
   rw [show Lib.itoa 7 = Lib.decDigits 7 from rfl, d7]
 | false =>
 rw [h1, cond_false] at h
 cases h2 : decide (n = -7) with
 | true =>
   rw [h2] at h
   obtain rfl := of_decide_eq_true h2
   obtain rfl := Option.some.inj h
   refine ⟨?_, by omega, by omega⟩
   rw [show Lib.itoa (-7) = 45 :: Lib.decDigits 7 from rfl, d7]
 | false =>
 rw [h2, cond_false] at h
 cases h3 : decide (n = 0) with
 | true =>
   rw [h3] at h
   obtain rfl := of_decide_eq_true h3
   obtain rfl := Option.some.inj h
   refine ⟨?_, by omega, by omega⟩
   rw [show Lib.itoa 0 = Lib.decDigits 0 from rfl, d0]
 | false => rw [h3] at h; cases h
theorem itoa_ok : ItemOk Tryd.prog (.fn 114 [.d (.int .i64)] [.d .str] itoaTab) := fun x y hxy w p vs hp hg hr => by
 obtain ⟨he, h0, h1⟩ := itoaTab_eq hxy
 obtain ⟨v, us, e, hv, hu⟩ := RepCs.uncons (show RepCs w p _ _ [.l (.int .i64 x)] vs.toList from hr)
 rw [repCs_nil' hu] at e
 have hv : v = .int .i64 x := repL_of (c := .int .i64 x) (by intro h; cases h) hv
 obtain rfl : vs = #[.int .i64 x] := by rw [← Array.toList_inj, e, hv]
 refine (Tryd.strconv_Itoa x h0 h1 w (tab_of hg)).mono fun e w' ⟨h2, k, os, h3⟩ => ⟨.string y, ?_, ?_, str_res y⟩
 ·rw [h2, he]
 ·rw [h3]; exact Lib.below_grow _ w (Nat.le_refl _) k os
def joinTab (x : List ByteArray × ByteArray) : Option ByteArray := bif decide (x.1.map (·.data.toList) = [[55], [45, 55], [48]]) && decide (x.2.data.toList = [32]) then some (ByteArray.mk #[55, 32, 45, 55, 32, 48]) else none
theorem join_ok : ItemOk Tryd.prog (.fn 115 [.d (.slice .str), .d .str] [.d .str] joinTab) := fun x y hxy w p vs hp hg hr => by
 obtain ⟨xs, sep⟩ := x
 unfold joinTab at hxy
 cases hc : decide (xs.map (·.data.toList) = [[55], [45, 55], [48]]) && decide (sep.data.toList = [32]) with
 | false => rw [hc] at hxy; cases hxy
 | true =>
 rw [hc, cond_true] at hxy
 obtain rfl := Option.some.inj hxy
 simp only [Bool.and_eq_true, decide_eq_true_eq] at hc
 obtain ⟨hc1, hc2⟩ := hc
 have hl : xs.length = 3 := by have := congrArg List.length hc1; simpa using this
 obtain ⟨v, us, e, hv, hu⟩ := RepCs.uncons (show RepCs w p _ _ [.l (.slice .str xs), .l (.str sep)] vs.toList from hr)
 obtain ⟨v2, us2, e2, hv2, hu2⟩ := RepCs.uncons hu
 rw [e2, repCs_nil' hu2] at e
 have hv2 : v2 = .string sep := repL_of (c := .str sep) (by intro h; cases h) hv2
 have hv : RepT w p (.slice .str) xs [v] := repL_of (c := .slice .str xs) (by intro h; cases h) hv
 simp only [RepT] at hv
 obtain ⟨a, cap, e3, ⟨hcap, _⟩, h4⟩ := hv
 rcases h4 with h4 | ⟨b, o, rfl, hb, h4⟩
 ·rw [h4] at hl; cases hl
 ·have e3 := (List.cons.inj e3).1
  obtain rfl : vs = #[.slice (some ⟨b, o, none⟩) xs.length cap, .string sep] := by rw [← Array.toList_inj, e, e3, hv2]
  have hj : Lib.join (xs.map (·.data.toList)) sep.data.toList = [55, 32, 45, 55, 32, 48] := by rw [hc1, hc2]; rfl
  refine (Tryd.strings_Join b o cap xs sep w (fun j x hx => ?_) (hp b hb) (by omega) hcap (by rw [hj]; decide)).mono fun e w' ⟨h5, h6⟩ => ⟨_, h5, h6, ?_⟩
  ·obtain ⟨us, g1, g2, g3⟩ := h4 j x hx
   have g1 : us = [.string x] := by simpa only [RepT] using g1
   have := g3 0 (by decide)
   rw [g1] at this
   simpa [Sh.size] using this
  ·rw [hj]; exact str_res _
noncomputable def K0 : List Ev.Item := [.fn 114 [.d (.int .i64)] [.d .str] itoaTab, .fn 115 [.d (.slice .str), .d .str] [.d .str] joinTab]
theorem K0_ok : ∀ q ∈ K0, ItemOk Tryd.prog q := items_cons itoa_ok (items_cons join_ok items_nil)
end Go.Proofs.YthckjfbhdjjnkaaDoor
