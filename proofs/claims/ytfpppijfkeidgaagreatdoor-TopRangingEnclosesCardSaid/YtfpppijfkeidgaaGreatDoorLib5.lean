/- Functions of Go's library on strings: out of the contracts of the kit's shelf. -/
import Derived.Test.YtfpppijfkeidgaaGreatDoorShelf5
import Derived.Test.YtfpppijfkeidgaaGreatDoorBase
import Derived.Lib.AppendIntMem
import Derived.Lib.AtoiErrMem
set_option linter.unusedSimpArgs false
set_option maxRecDepth 10000
namespace Go.Proofs.YtfpppijfkeidgaaGreatDoor
open Go.Ev Go.RowKit
theorem pwName : Tryz.prog.globalNamed "internal/strconv.uint64pow10" = some 5 := by kernel_rfl
def pwSh : Nat → Sh
 | 0 => .int .u64
 | n + 1 => .pair (.int .u64) (pwSh n)
def pwT : (n : Nat) → Int → (pwSh n).T
 | 0, a => (a : Int)
 | n + 1, a => ((a : Int), pwT n (a * 10))
def pwVals : Nat → Int → List Value
 | 0, a => [.int .u64 a]
 | n + 1, a => .int .u64 a :: pwVals n (a * 10)
theorem pwRep {w : World} {p : Nat → Prop} : ∀ {n : Nat} {a : Int} {us : List Value}, RepT w p (pwSh n) (pwT n a) us → us = pwVals n a
 | 0, a, us, h => by
   show us = [.int .u64 a]
   have h : RepT w p (.int .u64) a us := h
   simpa only [RepT] using h
 | n + 1, a, us, h => by
   have h : RepT w p (.pair (.int .u64) (pwSh n)) (a, pwT n (a * 10)) us := h
   simp only [RepT] at h
   obtain ⟨xs, ys, h1, h2, h3⟩ := h
   subst h1
   subst h2
   rw [pwRep h3]
   rfl
theorem tab_of {w : World} {p : Nat → Prop} (hg : GlobsOk w p) : Lib.TabIs Tryz.prog w "internal/strconv.uint64pow10" .u64 Lib.pow10Tab := by
 have hg0 : globs 5 = some ⟨pwSh 19, pwT 19 1⟩ := by kernel_rfl
 obtain ⟨⟨b, q, us, e, _, hr, hc⟩, cs, T, fr, h1, h2⟩ := hg.1 5 _ _ hg0
 have e := Option.some.inj (Value.pointer.inj e)
 obtain rfl : 5 = b := congrArg Addr.block e
 obtain rfl : 0 = q := by have := congrArg Addr.off e; simpa using this
 have hus := pwRep hr
 have hcs : cs = us.toArray := by
  apply Array.ext
  ·rw [h2, hus]; rfl
  ·intro j hj _
   have hl : us.length = 20 := by rw [hus]; rfl
   have hj2 : j < us.length := by rw [hl]; rw [h2] at hj; exact hj
   have := hc j hj2
   rw [Nat.zero_add] at this
   simp only [World.cell?, h1] at this
   have e1 : cs[j]? = us[j]? := by simpa using this
   rw [Array.getElem?_eq_getElem hj, List.getElem?_eq_getElem hj2] at e1
   have := Option.some.inj e1
   simpa using this
 unfold Lib.TabIs World.var?
 rw [pwName]
 simp only [Option.bind_some, h1]
 rw [hcs, hus]
 rfl
theorem errVar {w : World} {p : Nat → Prop} (hg : GlobsOk w p) {g : Nat} (h : globs g = some ⟨.err, true⟩) : ∃ t v, w.cell? ⟨g, 0, none⟩ = some (.iface t v) := by
 obtain ⟨⟨b, q, us, e, _, hr, hc⟩, _⟩ := hg.1 g _ _ h
 have e := Option.some.inj (Value.pointer.inj e)
 obtain rfl : g = b := congrArg Addr.block e
 obtain rfl : 0 = q := by have := congrArg Addr.off e; simpa using this
 have hr : RepT w p .err true us := hr
 simp only [RepT] at hr
 obtain ⟨v, rfl, t, x, rfl⟩ := hr
 exact ⟨t, x, by simpa using hc 0 (by simp)⟩
theorem str_res {B : Nat} {w : World} {p : Nat → Prop} (s : ByteArray) : RepRV B w p (rvOf [.d .str] s) (.string s) :=
 ⟨fun _ => False, fun _ => none, fun _ h => h.elim, fun _ _ => rfl, rfl, rfl⟩
theorem repCs_nil' {w : World} {p : Nat → Prop} {β : Nat → Option Value} {H : Nat → Blk} {vs : List Value} (h : RepCs w p β H [] vs) : vs = [] := List.eq_nil_of_length_eq_zero h.1.symm
def strL (l : List UInt8) : ByteArray := ⟨l.toArray⟩
theorem strL_toList (l : List UInt8) : (strL l).data.toList = l := rfl
theorem strL_size (l : List UInt8) : (strL l).size = l.length := by
 show l.toArray.size = _
 simp
theorem str_ext {a b : ByteArray} (h : a.data.toList = b.data.toList) : a = b := by
 obtain ⟨⟨a⟩⟩ := a
 obtain ⟨⟨b⟩⟩ := b
 have h : a = b := h
 rw [h]
theorem one_str {w : World} {p : Nat → Prop} {s : ByteArray} {vs : Array Value} (hr : RepCs w p (fun _ => none) (fun _ => .free) [.l (.str s)] vs.toList) : vs = #[.string s] := by
 obtain ⟨v, us, e, hv, hu⟩ := RepCs.uncons hr
 rw [repCs_nil' hu] at e
 have hv : v = .string s := repL_of (c := .str s) (by intro h; cases h) hv
 rw [← Array.toList_inj, e, hv]
theorem two_str {w : World} {p : Nat → Prop} {s t : ByteArray} {vs : Array Value} (hr : RepCs w p (fun _ => none) (fun _ => .free) [.l (.str s), .l (.str t)] vs.toList) : vs = #[.string s, .string t] := by
 obtain ⟨v, us, e, hv, hu⟩ := RepCs.uncons hr
 obtain ⟨v2, us2, e2, hv2, hu2⟩ := RepCs.uncons hu
 rw [e2, repCs_nil' hu2] at e
 have hv : v = .string s := repL_of (c := .str s) (by intro h; cases h) hv
 have hv2 : v2 = .string t := repL_of (c := .str t) (by intro h; cases h) hv2
 rw [← Array.toList_inj, e, hv, hv2]
def itoaF (n : Int) : Option ByteArray := bif decide (-9223372036854775808 ≤ n) && decide (n ≤ 9223372036854775807) then some (strL (Lib.itoa n)) else none
theorem itoa_ok : ItemOk Tryz.prog (.fn 57 [.d (.int .i64)] [.d .str] itoaF) := fun x y hxy w p vs hp hg hr => by
 unfold itoaF at hxy
 cases hc : decide (-9223372036854775808 ≤ x) && decide (x ≤ 9223372036854775807) with
 | false => rw [hc] at hxy; cases hxy
 | true =>
 rw [hc, cond_true] at hxy
 obtain rfl := Option.some.inj hxy
 simp only [Bool.and_eq_true, decide_eq_true_eq] at hc
 obtain ⟨v, us, e, hv, hu⟩ := RepCs.uncons (show RepCs w p _ _ [.l (.int .i64 x)] vs.toList from hr)
 rw [repCs_nil' hu] at e
 have hv : v = .int .i64 x := repL_of (c := .int .i64 x) (by intro h; cases h) hv
 obtain rfl : vs = #[.int .i64 x] := by rw [← Array.toList_inj, e, hv]
 refine (Tryz.strconv_Itoa x hc.1 hc.2 w (tab_of hg)).mono fun e w' ⟨h2, k, os, h3⟩ => ⟨.string (strL (Lib.itoa x)), h2, ?_, str_res _⟩
 rw [h3]; exact Lib.below_grow _ w (Nat.le_refl _) k os
def joinL (xs : List ByteArray) (sep : ByteArray) : List UInt8 := Lib.join (xs.map (·.data.toList)) sep.data.toList
def joinF (x : List ByteArray × ByteArray) : Option ByteArray := bif decide (x.1.length ≤ 1000000) && decide ((joinL x.1 x.2).length ≤ 1000000000) then some (strL (joinL x.1 x.2)) else none
theorem join_ok : ItemOk Tryz.prog (.fn 59 [.d (.slice .str), .d .str] [.d .str] joinF) := fun x y hxy w p vs hp hg hr => by
 obtain ⟨xs, sep⟩ := x
 unfold joinF at hxy
 cases hc : decide (xs.length ≤ 1000000) && decide ((joinL xs sep).length ≤ 1000000000) with
 | false => rw [hc] at hxy; cases hxy
 | true =>
 rw [hc, cond_true] at hxy
 obtain rfl := Option.some.inj hxy
 simp only [Bool.and_eq_true, decide_eq_true_eq] at hc
 obtain ⟨hc1, hc2⟩ := hc
 obtain ⟨v, us, e, hv, hu⟩ := RepCs.uncons (show RepCs w p _ _ [.l (.slice .str xs), .l (.str sep)] vs.toList from hr)
 obtain ⟨v2, us2, e2, hv2, hu2⟩ := RepCs.uncons hu
 rw [e2, repCs_nil' hu2] at e
 have hv2 : v2 = .string sep := repL_of (c := .str sep) (by intro h; cases h) hv2
 have hv : RepT w p (.slice .str) xs [v] := repL_of (c := .slice .str xs) (by intro h; cases h) hv
 simp only [RepT] at hv
 obtain ⟨a, cap, e3, ⟨hcap, _⟩, h4⟩ := hv
 have e3 := (List.cons.inj e3).1
 rcases h4 with rfl | ⟨b, o, rfl, hb, h4⟩
 ·obtain rfl : vs = #[.slice a 0 cap, .string sep] := by rw [← Array.toList_inj, e, e3, hv2]; rfl
  exact (Tryz.strings_Join_none a cap sep w).mono fun e w' ⟨h5, h6⟩ => ⟨_, h5, by rw [h6]; exact Below.refl _ _, str_res _⟩
 ·obtain rfl : vs = #[.slice (some ⟨b, o, none⟩) xs.length cap, .string sep] := by rw [← Array.toList_inj, e, e3, hv2]
  have hlen : (joinL xs sep).length ≤ 140737488355328 := by omega
  refine (Tryz.strings_Join b o cap xs sep w (fun j x hx => ?_) (hp b hb) (by omega) hcap hlen).mono fun e w' ⟨h5, h6⟩ => ⟨_, h5, h6, str_res _⟩
  obtain ⟨us, g1, g2, g3⟩ := h4 j x hx
  have g1 : us = [.string x] := by simpa only [RepT] using g1
  have := g3 0 (by decide)
  rw [g1] at this
  simpa [Sh.size] using this
def splitF (x : ByteArray × ByteArray) : Option (List ByteArray) := bif decide (x.1.size < 4294967281) && decide (1 ≤ x.2.size) then some (Lib.splitB x.2 0 (Lib.countB x.1 x.2) x.1) else none
theorem maxLen_of {w : World} {p : Nat → Prop} (hg : GlobsOk w p) : ∃ m : Int, w.cell? ⟨2, 0, none⟩ = some (.int .i64 m) := (hg.2 2 (by kernel_rfl)).2
theorem own_strs {B : Nat} {w : World} {p : Nat → Prop} {v : Value} {xs : List ByteArray} (h : w.ownsRow B 9 1 v xs.length (xs.map Value.string)) (hv : ∀ b, rootBlock v = some b → B ≤ b) : RepRV B w p (rvOf [.own 9 .str] xs) v := by
 refine ⟨fun _ => False, fun t => if t = 0 then some v else none, fun _ h => h.elim, fun t ht => by simp [ht], ?_, ?_⟩
 ·show RepB w (fun _ => False) _ _ B (.buf 9 .str xs) v ∧ ∀ b, rootBlock v = some b → ¬ False
  refine ⟨⟨xs.map Value.string, ownsAt_of h, by decide, by simp [Sh.size], fun i x hx => ?_⟩, fun _ _ h => h⟩
  simp only [RepT, Sh.size, Nat.mul_one]
  rw [← List.map_drop, ← List.map_take]
  have hi : i < xs.length := (List.getElem?_eq_some_iff.1 hx).1
  rw [List.drop_eq_getElem_cons hi]
  have : xs[i] = x := (List.getElem?_eq_some_iff.1 hx).2
  rw [this]
  rfl
 ·have ho : v.oneCell' = true := by
   rcases h.2 with ⟨rfl, _⟩ | ⟨g, cap, cur, rfl, _⟩ <;> simp [Value.oneCell']
  show RepC w (fun _ => False) (fun t => if t = 0 then some v else none) (fun t => if t = 0 then .buf 9 .str xs else .free) (.l (.full 0)) v
  refine repC_l ?_
  show (if (0 : Nat) = 0 then some v else none) = some v ∧ Blk.isBuf (if (0 : Nat) = 0 then .buf 9 .str xs else .free) ∧ v.oneCell' = true
  exact ⟨rfl, by simp [Blk.isBuf], ho⟩
theorem split_ok : ItemOk Tryz.prog (.fn 55 [.d .str, .d .str] [.own 9 .str] splitF) := fun x y hxy w p vs hp hg hr => by
 obtain ⟨s, sep⟩ := x
 unfold splitF at hxy
 cases hc : decide (s.size < 4294967281) && decide (1 ≤ sep.size) with
 | false => rw [hc] at hxy; cases hxy
 | true =>
 rw [hc, cond_true] at hxy
 obtain rfl := Option.some.inj hxy
 simp only [Bool.and_eq_true, decide_eq_true_eq] at hc
 obtain ⟨h1, h2⟩ := hc
 obtain rfl := two_str hr
 obtain ⟨m, hm⟩ := maxLen_of hg
 have hlen := Lib.splitB_all sep h2 0 _ s rfl
 have hle := Lib.countB_le sep h2 s.size s (Nat.le_refl _)
 refine (Tryz.strings_Split s sep m w h1 hm h2).mono fun e w' ⟨h5, h6⟩ => ?_
 subst h6
 refine ⟨_, h5, (Below.refl _ w).alloc (Nat.le_refl _) _, ?_⟩
 have ho := World.ownsRow_lit w (base := w.heap.size) (e := 9) (size := 1) (((Lib.splitB sep 0 (Lib.countB s sep) s).map Value.string).toArray) (Lib.countB s sep + 1) (Nat.le_refl _) (by unfold maxLen; omega) (by simp [hlen])
 have ho' : (w.alloc (.cells ((Lib.splitB sep 0 (Lib.countB s sep) s).map Value.string).toArray 9)).ownsRow w.heap.size 9 1 (.slice (some ⟨w.heap.size, 0, none⟩) (Lib.countB s sep + 1) (Lib.countB s sep + 1)) (Lib.splitB sep 0 (Lib.countB s sep) s).length ((Lib.splitB sep 0 (Lib.countB s sep) s).map Value.string) := by
  rw [hlen]
  simpa using ho
 exact own_strs ho' (fun b hb => by obtain rfl := Option.some.inj hb; exact Nat.le_refl _)
def atoiF (s : ByteArray) : Option (Int × Bool) := bif decide (s.size ≤ 1000000000) then (match Lib.atoiAll s.data.toList with
 | .ok v => some (v, false)
 | .«syntax» => some (0, true)
 | .range => some (Lib.atoiSat s.data.toList, true)) else none
theorem int_err {B : Nat} {w : World} {p : Nat → Prop} {n : Int} {b : Bool} {v : Value} (h : IsErr b v) : RepRV B w p (rvOf [.d (.int .i64), .d .err] (n, b)) (.tuple #[.int .i64 n, v]) := by
 refine ⟨fun _ => False, fun _ => none, fun _ h => h.elim, fun _ _ => rfl, rfl, ?_⟩
 show RepS w _ _ _ (.tup [.l (.int .i64 n), .l (.ifc b)]) (.tuple #[.int .i64 n, v])
 exact ⟨_, rfl, repCs_cons (repC_l (c := .int .i64 n) rfl) (repCs_cons (repC_l (c := .ifc b) h) repCs_nil)⟩
theorem atoi_ok : ItemOk Tryz.prog (.fn 56 [.d .str] [.d (.int .i64), .d .err] atoiF) := fun s y hxy w p vs hp hg hr => by
 unfold atoiF at hxy
 cases hc : decide (s.size ≤ 1000000000) with
 | false => rw [hc] at hxy; cases hxy
 | true =>
 rw [hc, cond_true] at hxy
 have hc := of_decide_eq_true hc
 obtain rfl := one_str hr
 cases ha : Lib.atoiAll s.data.toList with
 | ok v =>
   rw [ha] at hxy
   obtain rfl := Option.some.inj hxy
   refine (Tryz.strconv_Atoi_ok s (by omega) v ha w).mono fun e w' ⟨h5, h6⟩ => ⟨_, h5, ?_, int_err (b := false) rfl⟩
   rcases h6 with rfl | ⟨t, rfl⟩
   ·exact Below.refl _ _
   ·exact Lib.bytesWorld_below _ _ _
 | «syntax» =>
   rw [ha] at hxy
   obtain rfl := Option.some.inj hxy
   obtain ⟨t, v, hv⟩ := errVar hg (g := 3) (by kernel_rfl)
   exact (Tryz.strconv_Atoi_syntax s (by omega) ha (.iface t v) w hv (.inr ⟨t, v, rfl⟩)).mono fun e w' ⟨N, h5, _, _, h6⟩ => ⟨_, h5, h6, int_err (b := true) ⟨_, _, rfl⟩⟩
 | range =>
   rw [ha] at hxy
   obtain rfl := Option.some.inj hxy
   obtain ⟨t, v, hv⟩ := errVar hg (g := 4) (by kernel_rfl)
   exact (Tryz.strconv_Atoi_range s (by omega) ha (.iface t v) w hv (.inr ⟨t, v, rfl⟩)).mono fun e w' ⟨N, h5, _, _, h6⟩ => ⟨_, h5, h6, int_err (b := true) ⟨_, _, rfl⟩⟩
def trimF (x : ByteArray × ByteArray) : Option ByteArray := some (strL (Lib.trimPrefix x.1.data.toList x.2.data.toList))
theorem trim_ok : ItemOk Tryz.prog (.fn 58 [.d .str, .d .str] [.d .str] trimF) := fun x y hxy w p vs hp hg hr => by
 obtain ⟨s, t⟩ := x
 obtain rfl := Option.some.inj hxy
 obtain rfl := two_str hr
 exact (Tryz.strings_TrimPrefix s t w).mono fun e w' ⟨h5, h6⟩ => ⟨_, h5, by rw [h6]; exact Below.refl _ _, str_res _⟩
def cutF (x : ByteArray × ByteArray) : Option (ByteArray × ByteArray × Bool) := bif decide (x.1.size < 4294967281) then some (strL (Lib.cut x.1.data.toList x.2.data.toList).1, strL (Lib.cut x.1.data.toList x.2.data.toList).2.1, (Lib.cut x.1.data.toList x.2.data.toList).2.2) else none
theorem cut_ok : ItemOk Tryz.prog (.fn 34 [.d .str, .d .str] [.d .str, .d .str, .d .bool] cutF) := fun x y hxy w p vs hp hg hr => by
 obtain ⟨s, t⟩ := x
 unfold cutF at hxy
 cases hc : decide (s.size < 4294967281) with
 | false => rw [hc] at hxy; cases hxy
 | true =>
 rw [hc, cond_true] at hxy
 obtain rfl := Option.some.inj hxy
 have hc := of_decide_eq_true hc
 obtain rfl := two_str hr
 obtain ⟨m, hm⟩ := maxLen_of hg
 refine (Tryz.strings_Cut s t m w hc hm).mono fun e w' ⟨h5, n, h6⟩ => ⟨_, h5, ?_, fun _ => False, fun _ => none, fun _ h => h.elim, fun _ _ => rfl, rfl, ?_⟩
 ·rw [h6]; exact ⟨rfl, rfl, rfl, Nat.le_refl _, fun _ _ => rfl⟩
 ·exact ⟨_, rfl, repCs_cons (repC_l (c := .str _) rfl) (repCs_cons (repC_l (c := .str _) rfl) (repCs_cons (repC_l (c := .bool _) rfl) repCs_nil))⟩
noncomputable def K0 : List Ev.Item := [.fn 57 [.d (.int .i64)] [.d .str] itoaF, .fn 59 [.d (.slice .str), .d .str] [.d .str] joinF, .fn 55 [.d .str, .d .str] [.own 9 .str] splitF,
 .fn 56 [.d .str] [.d (.int .i64), .d .err] atoiF, .fn 58 [.d .str, .d .str] [.d .str] trimF, .fn 34 [.d .str, .d .str] [.d .str, .d .str, .d .bool] cutF]
theorem K0_ok : ∀ q ∈ K0, ItemOk Tryz.prog q := items_cons itoa_ok (items_cons join_ok (items_cons split_ok (items_cons atoi_ok (items_cons trim_ok (items_cons cut_ok items_nil)))))
end Go.Proofs.YtfpppijfkeidgaaGreatDoor
