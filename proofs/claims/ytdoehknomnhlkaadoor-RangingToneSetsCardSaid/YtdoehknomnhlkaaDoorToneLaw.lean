import Derived.Test.YtdoehknomnhlkaaDoorToneSets
import Derived.Test.YtdoehknomnhlkaaDoorGt1
set_option linter.unusedSimpArgs false
namespace Go.Proofs.YtdoehknomnhlkaaDoor
open Go.Ev
theorem pbad {l : List Tn} {lim : Int × Int} (h : tonE l lim ≠ 0) : p7e (l, lim) = some ([], tonE l lim) := by
 have hb : (tonE l lim != 0) = true := by simpa using h
 unfold p7e
 simp only [chkT1, inEnd, optE_some]
 cases h1 : win lim.1 0 1000000000 with
 | true =>
   simp only [cond_true, first_in h1]
   show (bif tonE l lim != 0 then (bif tonE l lim != 0 then some (([] : List Int), tonE l lim) else none) else _) = _
   rw [hb]; rfl
 | false =>
   simp only [cond_false, first_out h1]
   show (bif tonE l lim != 0 then (bif tonE l lim != 0 then some (([] : List Int), tonE l lim) else none) else _) = _
   rw [hb]; rfl
theorem none4 {A : Type} {a b c d : Int} {x : Option A} (h : firstE [a, b, c, d] ≠ 0) : (bif a == 0 then bif b == 0 then bif c == 0 then bif d == 0 then x else none else none else none else none) = none := by
 by_cases ha : a = 0
 ·by_cases hb : b = 0
  ·by_cases hc : c = 0
   ·by_cases hd : d = 0
    ·subst ha; subst hb; subst hc; subst hd; exact absurd rfl h
    ·rw [show (d == 0) = false by simpa using hd]; cases a == 0 <;> cases b == 0 <;> cases c == 0 <;> rfl
   ·rw [show (c == 0) = false by simpa using hc]; cases a == 0 <;> cases b == 0 <;> rfl
  ·rw [show (b == 0) = false by simpa using hb]; cases a == 0 <;> rfl
 ·rw [show (a == 0) = false by simpa using ha]; rfl
theorem bad0 {lim : Int × Int} (h : tonE ([] : List Tn) lim ≠ 0) : p7n0 lim = none := by
 unfold p7n0
 simp only [chkT1, inEnd, optE_some]
 cases h1 : win lim.1 0 1000000000 with
 | true =>
   simp only [cond_true]
   exact none4 (by rw [first_in h1]; exact h)
 | false =>
   simp only [cond_false]
   cases (chkT ([] : List Tn)).2 == 0 <;> rfl
theorem bad1 {t0 : Tn} {lim : Int × Int} (h : tonE ([t0] : List Tn) lim ≠ 0) : p7n1 (t0, lim) = none := by
 unfold p7n1
 simp only [chkT1, inEnd, optE_some]
 cases h1 : win lim.1 0 1000000000 with
 | true =>
   simp only [cond_true]
   exact none4 (by rw [first_in h1]; exact h)
 | false =>
   simp only [cond_false]
   cases (chkT ([t0] : List Tn)).2 == 0 <;> rfl
theorem bad2 {t0 t1 : Tn} {lim : Int × Int} (h : tonE ([t0, t1] : List Tn) lim ≠ 0) : p7n2 (t0, t1, lim) = none := by
 unfold p7n2
 simp only [chkT1, inEnd, optE_some]
 cases h1 : win lim.1 0 1000000000 with
 | true =>
   simp only [cond_true]
   exact none4 (by rw [first_in h1]; exact h)
 | false =>
   simp only [cond_false]
   cases (chkT ([t0, t1] : List Tn)).2 == 0 <;> rfl
theorem bad3 {t0 t1 t2 : Tn} {lim : Int × Int} (h : tonE ([t0, t1, t2] : List Tn) lim ≠ 0) : p7n3 (t0, t1, t2, lim) = none := by
 unfold p7n3
 simp only [chkT1, inEnd, optE_some]
 cases h1 : win lim.1 0 1000000000 with
 | true =>
   simp only [cond_true]
   exact none4 (by rw [first_in h1]; exact h)
 | false =>
   simp only [cond_false]
   cases (chkT ([t0, t1, t2] : List Tn)).2 == 0 <;> rfl
theorem bad4 {t0 t1 t2 t3 : Tn} {lim : Int × Int} (h : tonE ([t0, t1, t2, t3] : List Tn) lim ≠ 0) : p7n4 (t0, t1, t2, t3, lim) = none := by
 unfold p7n4
 simp only [chkT1, inEnd, optE_some]
 cases h1 : win lim.1 0 1000000000 with
 | true =>
   simp only [cond_true]
   exact none4 (by rw [first_in h1]; exact h)
 | false =>
   simp only [cond_false]
   cases (chkT ([t0, t1, t2, t3] : List Tn)).2 == 0 <;> rfl
theorem bad5 {t0 t1 t2 t3 t4 : Tn} {lim : Int × Int} (h : tonE ([t0, t1, t2, t3, t4] : List Tn) lim ≠ 0) : p7n5 (t0, t1, t2, t3, t4, lim) = none := by
 unfold p7n5
 simp only [chkT1, inEnd, optE_some]
 cases h1 : win lim.1 0 1000000000 with
 | true =>
   simp only [cond_true]
   exact none4 (by rw [first_in h1]; exact h)
 | false =>
   simp only [cond_false]
   cases (chkT ([t0, t1, t2, t3, t4] : List Tn)).2 == 0 <;> rfl
theorem optE_one {A : Type} (a : A) (y : Option A) : optE (some a) some y = some a := rfl
theorem optE_two {A : Type} (y : Option A) : optE none some y = y := rfl
def setsL : Nat → List (List Int)
 | 0 => subs0
 | 1 => subs1
 | 2 => subs2
 | 3 => subs3
 | 4 => subs4
 | 5 => subs5
 | _ => []
theorem la0 (lim : Int × Int) {y : (List Int) × Int} (h : p7n0 lim = some y) : oz7n5 ([], lim) = some y := by
 have e0 : s7n0 ([], lim) = some y := h
 have o1 : oz7n1 ([], lim) = some y := by unfold oz7n1; rw [e0]; rfl
 have o2 : oz7n2 ([], lim) = some y := by unfold oz7n2; rw [o1]; rfl
 have o3 : oz7n3 ([], lim) = some y := by unfold oz7n3; rw [o2]; rfl
 have o4 : oz7n4 ([], lim) = some y := by unfold oz7n4; rw [o3]; rfl
 have o5 : oz7n5 ([], lim) = some y := by unfold oz7n5; rw [o4]; rfl
 exact o5
theorem lv0 (lim : Int × Int) {y : (List Int) × Bool} (h : p10n0 lim = some y) : o10n5 ([], lim) = some y := by
 have e0 : s10n0 ([], lim) = some y := h
 have o1 : o10n1 ([], lim) = some y := by unfold o10n1; rw [e0]; rfl
 have o2 : o10n2 ([], lim) = some y := by unfold o10n2; rw [o1]; rfl
 have o3 : o10n3 ([], lim) = some y := by unfold o10n3; rw [o2]; rfl
 have o4 : o10n4 ([], lim) = some y := by unfold o10n4; rw [o3]; rfl
 have o5 : o10n5 ([], lim) = some y := by unfold o10n5; rw [o4]; rfl
 exact o5
theorem la1 (t0 : Tn) (lim : Int × Int) {y : (List Int) × Int} (h : p7n1 (t0, lim) = some y) : oz7n5 ([t0], lim) = some y := by
 have e0 : s7n0 ([t0], lim) = none := rfl
 have e1 : s7n1 ([t0], lim) = some y := h
 have o1 : oz7n1 ([t0], lim) = some y := by unfold oz7n1; rw [e0, e1]; rfl
 have o2 : oz7n2 ([t0], lim) = some y := by unfold oz7n2; rw [o1]; rfl
 have o3 : oz7n3 ([t0], lim) = some y := by unfold oz7n3; rw [o2]; rfl
 have o4 : oz7n4 ([t0], lim) = some y := by unfold oz7n4; rw [o3]; rfl
 have o5 : oz7n5 ([t0], lim) = some y := by unfold oz7n5; rw [o4]; rfl
 exact o5
theorem lv1 (t0 : Tn) (lim : Int × Int) {y : (List Int) × Bool} (h : p10n1 (t0, lim) = some y) : o10n5 ([t0], lim) = some y := by
 have e0 : s10n0 ([t0], lim) = none := rfl
 have e1 : s10n1 ([t0], lim) = some y := h
 have o1 : o10n1 ([t0], lim) = some y := by unfold o10n1; rw [e0, e1]; rfl
 have o2 : o10n2 ([t0], lim) = some y := by unfold o10n2; rw [o1]; rfl
 have o3 : o10n3 ([t0], lim) = some y := by unfold o10n3; rw [o2]; rfl
 have o4 : o10n4 ([t0], lim) = some y := by unfold o10n4; rw [o3]; rfl
 have o5 : o10n5 ([t0], lim) = some y := by unfold o10n5; rw [o4]; rfl
 exact o5
theorem la2 (t0 t1 : Tn) (lim : Int × Int) {y : (List Int) × Int} (h : p7n2 (t0, t1, lim) = some y) : oz7n5 ([t0, t1], lim) = some y := by
 have e0 : s7n0 ([t0, t1], lim) = none := rfl
 have e1 : s7n1 ([t0, t1], lim) = none := rfl
 have e2 : s7n2 ([t0, t1], lim) = some y := h
 have o1 : oz7n1 ([t0, t1], lim) = none := by unfold oz7n1; rw [e0, e1]; rfl
 have o2 : oz7n2 ([t0, t1], lim) = some y := by unfold oz7n2; rw [o1, e2]; rfl
 have o3 : oz7n3 ([t0, t1], lim) = some y := by unfold oz7n3; rw [o2]; rfl
 have o4 : oz7n4 ([t0, t1], lim) = some y := by unfold oz7n4; rw [o3]; rfl
 have o5 : oz7n5 ([t0, t1], lim) = some y := by unfold oz7n5; rw [o4]; rfl
 exact o5
theorem lv2 (t0 t1 : Tn) (lim : Int × Int) {y : (List Int) × Bool} (h : p10n2 (t0, t1, lim) = some y) : o10n5 ([t0, t1], lim) = some y := by
 have e0 : s10n0 ([t0, t1], lim) = none := rfl
 have e1 : s10n1 ([t0, t1], lim) = none := rfl
 have e2 : s10n2 ([t0, t1], lim) = some y := h
 have o1 : o10n1 ([t0, t1], lim) = none := by unfold o10n1; rw [e0, e1]; rfl
 have o2 : o10n2 ([t0, t1], lim) = some y := by unfold o10n2; rw [o1, e2]; rfl
 have o3 : o10n3 ([t0, t1], lim) = some y := by unfold o10n3; rw [o2]; rfl
 have o4 : o10n4 ([t0, t1], lim) = some y := by unfold o10n4; rw [o3]; rfl
 have o5 : o10n5 ([t0, t1], lim) = some y := by unfold o10n5; rw [o4]; rfl
 exact o5
theorem la3 (t0 t1 t2 : Tn) (lim : Int × Int) {y : (List Int) × Int} (h : p7n3 (t0, t1, t2, lim) = some y) : oz7n5 ([t0, t1, t2], lim) = some y := by
 have e0 : s7n0 ([t0, t1, t2], lim) = none := rfl
 have e1 : s7n1 ([t0, t1, t2], lim) = none := rfl
 have e2 : s7n2 ([t0, t1, t2], lim) = none := rfl
 have e3 : s7n3 ([t0, t1, t2], lim) = some y := h
 have o1 : oz7n1 ([t0, t1, t2], lim) = none := by unfold oz7n1; rw [e0, e1]; rfl
 have o2 : oz7n2 ([t0, t1, t2], lim) = none := by unfold oz7n2; rw [o1, e2]; rfl
 have o3 : oz7n3 ([t0, t1, t2], lim) = some y := by unfold oz7n3; rw [o2, e3]; rfl
 have o4 : oz7n4 ([t0, t1, t2], lim) = some y := by unfold oz7n4; rw [o3]; rfl
 have o5 : oz7n5 ([t0, t1, t2], lim) = some y := by unfold oz7n5; rw [o4]; rfl
 exact o5
theorem lv3 (t0 t1 t2 : Tn) (lim : Int × Int) {y : (List Int) × Bool} (h : p10n3 (t0, t1, t2, lim) = some y) : o10n5 ([t0, t1, t2], lim) = some y := by
 have e0 : s10n0 ([t0, t1, t2], lim) = none := rfl
 have e1 : s10n1 ([t0, t1, t2], lim) = none := rfl
 have e2 : s10n2 ([t0, t1, t2], lim) = none := rfl
 have e3 : s10n3 ([t0, t1, t2], lim) = some y := h
 have o1 : o10n1 ([t0, t1, t2], lim) = none := by unfold o10n1; rw [e0, e1]; rfl
 have o2 : o10n2 ([t0, t1, t2], lim) = none := by unfold o10n2; rw [o1, e2]; rfl
 have o3 : o10n3 ([t0, t1, t2], lim) = some y := by unfold o10n3; rw [o2, e3]; rfl
 have o4 : o10n4 ([t0, t1, t2], lim) = some y := by unfold o10n4; rw [o3]; rfl
 have o5 : o10n5 ([t0, t1, t2], lim) = some y := by unfold o10n5; rw [o4]; rfl
 exact o5
theorem la4 (t0 t1 t2 t3 : Tn) (lim : Int × Int) {y : (List Int) × Int} (h : p7n4 (t0, t1, t2, t3, lim) = some y) : oz7n5 ([t0, t1, t2, t3], lim) = some y := by
 have e0 : s7n0 ([t0, t1, t2, t3], lim) = none := rfl
 have e1 : s7n1 ([t0, t1, t2, t3], lim) = none := rfl
 have e2 : s7n2 ([t0, t1, t2, t3], lim) = none := rfl
 have e3 : s7n3 ([t0, t1, t2, t3], lim) = none := rfl
 have e4 : s7n4 ([t0, t1, t2, t3], lim) = some y := h
 have o1 : oz7n1 ([t0, t1, t2, t3], lim) = none := by unfold oz7n1; rw [e0, e1]; rfl
 have o2 : oz7n2 ([t0, t1, t2, t3], lim) = none := by unfold oz7n2; rw [o1, e2]; rfl
 have o3 : oz7n3 ([t0, t1, t2, t3], lim) = none := by unfold oz7n3; rw [o2, e3]; rfl
 have o4 : oz7n4 ([t0, t1, t2, t3], lim) = some y := by unfold oz7n4; rw [o3, e4]; rfl
 have o5 : oz7n5 ([t0, t1, t2, t3], lim) = some y := by unfold oz7n5; rw [o4]; rfl
 exact o5
theorem lv4 (t0 t1 t2 t3 : Tn) (lim : Int × Int) {y : (List Int) × Bool} (h : p10n4 (t0, t1, t2, t3, lim) = some y) : o10n5 ([t0, t1, t2, t3], lim) = some y := by
 have e0 : s10n0 ([t0, t1, t2, t3], lim) = none := rfl
 have e1 : s10n1 ([t0, t1, t2, t3], lim) = none := rfl
 have e2 : s10n2 ([t0, t1, t2, t3], lim) = none := rfl
 have e3 : s10n3 ([t0, t1, t2, t3], lim) = none := rfl
 have e4 : s10n4 ([t0, t1, t2, t3], lim) = some y := h
 have o1 : o10n1 ([t0, t1, t2, t3], lim) = none := by unfold o10n1; rw [e0, e1]; rfl
 have o2 : o10n2 ([t0, t1, t2, t3], lim) = none := by unfold o10n2; rw [o1, e2]; rfl
 have o3 : o10n3 ([t0, t1, t2, t3], lim) = none := by unfold o10n3; rw [o2, e3]; rfl
 have o4 : o10n4 ([t0, t1, t2, t3], lim) = some y := by unfold o10n4; rw [o3, e4]; rfl
 have o5 : o10n5 ([t0, t1, t2, t3], lim) = some y := by unfold o10n5; rw [o4]; rfl
 exact o5
theorem la5 (t0 t1 t2 t3 t4 : Tn) (lim : Int × Int) {y : (List Int) × Int} (h : p7n5 (t0, t1, t2, t3, t4, lim) = some y) : oz7n5 ([t0, t1, t2, t3, t4], lim) = some y := by
 have e0 : s7n0 ([t0, t1, t2, t3, t4], lim) = none := rfl
 have e1 : s7n1 ([t0, t1, t2, t3, t4], lim) = none := rfl
 have e2 : s7n2 ([t0, t1, t2, t3, t4], lim) = none := rfl
 have e3 : s7n3 ([t0, t1, t2, t3, t4], lim) = none := rfl
 have e4 : s7n4 ([t0, t1, t2, t3, t4], lim) = none := rfl
 have e5 : s7n5 ([t0, t1, t2, t3, t4], lim) = some y := h
 have o1 : oz7n1 ([t0, t1, t2, t3, t4], lim) = none := by unfold oz7n1; rw [e0, e1]; rfl
 have o2 : oz7n2 ([t0, t1, t2, t3, t4], lim) = none := by unfold oz7n2; rw [o1, e2]; rfl
 have o3 : oz7n3 ([t0, t1, t2, t3, t4], lim) = none := by unfold oz7n3; rw [o2, e3]; rfl
 have o4 : oz7n4 ([t0, t1, t2, t3, t4], lim) = none := by unfold oz7n4; rw [o3, e4]; rfl
 have o5 : oz7n5 ([t0, t1, t2, t3, t4], lim) = some y := by unfold oz7n5; rw [o4, e5]; rfl
 exact o5
theorem lv5 (t0 t1 t2 t3 t4 : Tn) (lim : Int × Int) {y : (List Int) × Bool} (h : p10n5 (t0, t1, t2, t3, t4, lim) = some y) : o10n5 ([t0, t1, t2, t3, t4], lim) = some y := by
 have e0 : s10n0 ([t0, t1, t2, t3, t4], lim) = none := rfl
 have e1 : s10n1 ([t0, t1, t2, t3, t4], lim) = none := rfl
 have e2 : s10n2 ([t0, t1, t2, t3, t4], lim) = none := rfl
 have e3 : s10n3 ([t0, t1, t2, t3, t4], lim) = none := rfl
 have e4 : s10n4 ([t0, t1, t2, t3, t4], lim) = none := rfl
 have e5 : s10n5 ([t0, t1, t2, t3, t4], lim) = some y := h
 have o1 : o10n1 ([t0, t1, t2, t3, t4], lim) = none := by unfold o10n1; rw [e0, e1]; rfl
 have o2 : o10n2 ([t0, t1, t2, t3, t4], lim) = none := by unfold o10n2; rw [o1, e2]; rfl
 have o3 : o10n3 ([t0, t1, t2, t3, t4], lim) = none := by unfold o10n3; rw [o2, e3]; rfl
 have o4 : o10n4 ([t0, t1, t2, t3, t4], lim) = none := by unfold o10n4; rw [o3, e4]; rfl
 have o5 : o10n5 ([t0, t1, t2, t3, t4], lim) = some y := by unfold o10n5; rw [o4, e5]; rfl
 exact o5
theorem lb0 (lim : Int × Int) (h : p7n0 lim = none) : oz7n5 ([], lim) = none := by
 have e0 : s7n0 ([], lim) = none := h
 have e1 : s7n1 ([], lim) = none := rfl
 have e2 : s7n2 ([], lim) = none := rfl
 have e3 : s7n3 ([], lim) = none := rfl
 have e4 : s7n4 ([], lim) = none := rfl
 have e5 : s7n5 ([], lim) = none := rfl
 unfold oz7n5 oz7n4 oz7n3 oz7n2 oz7n1
 rw [e0, e1, e2, e3, e4, e5]
 rfl
theorem lb1 (t0 : Tn) (lim : Int × Int) (h : p7n1 (t0, lim) = none) : oz7n5 ([t0], lim) = none := by
 have e0 : s7n0 ([t0], lim) = none := rfl
 have e1 : s7n1 ([t0], lim) = none := h
 have e2 : s7n2 ([t0], lim) = none := rfl
 have e3 : s7n3 ([t0], lim) = none := rfl
 have e4 : s7n4 ([t0], lim) = none := rfl
 have e5 : s7n5 ([t0], lim) = none := rfl
 unfold oz7n5 oz7n4 oz7n3 oz7n2 oz7n1
 rw [e0, e1, e2, e3, e4, e5]
 rfl
theorem lb2 (t0 t1 : Tn) (lim : Int × Int) (h : p7n2 (t0, t1, lim) = none) : oz7n5 ([t0, t1], lim) = none := by
 have e0 : s7n0 ([t0, t1], lim) = none := rfl
 have e1 : s7n1 ([t0, t1], lim) = none := rfl
 have e2 : s7n2 ([t0, t1], lim) = none := h
 have e3 : s7n3 ([t0, t1], lim) = none := rfl
 have e4 : s7n4 ([t0, t1], lim) = none := rfl
 have e5 : s7n5 ([t0, t1], lim) = none := rfl
 unfold oz7n5 oz7n4 oz7n3 oz7n2 oz7n1
 rw [e0, e1, e2, e3, e4, e5]
 rfl
theorem lb3 (t0 t1 t2 : Tn) (lim : Int × Int) (h : p7n3 (t0, t1, t2, lim) = none) : oz7n5 ([t0, t1, t2], lim) = none := by
 have e0 : s7n0 ([t0, t1, t2], lim) = none := rfl
 have e1 : s7n1 ([t0, t1, t2], lim) = none := rfl
 have e2 : s7n2 ([t0, t1, t2], lim) = none := rfl
 have e3 : s7n3 ([t0, t1, t2], lim) = none := h
 have e4 : s7n4 ([t0, t1, t2], lim) = none := rfl
 have e5 : s7n5 ([t0, t1, t2], lim) = none := rfl
 unfold oz7n5 oz7n4 oz7n3 oz7n2 oz7n1
 rw [e0, e1, e2, e3, e4, e5]
 rfl
theorem lb4 (t0 t1 t2 t3 : Tn) (lim : Int × Int) (h : p7n4 (t0, t1, t2, t3, lim) = none) : oz7n5 ([t0, t1, t2, t3], lim) = none := by
 have e0 : s7n0 ([t0, t1, t2, t3], lim) = none := rfl
 have e1 : s7n1 ([t0, t1, t2, t3], lim) = none := rfl
 have e2 : s7n2 ([t0, t1, t2, t3], lim) = none := rfl
 have e3 : s7n3 ([t0, t1, t2, t3], lim) = none := rfl
 have e4 : s7n4 ([t0, t1, t2, t3], lim) = none := h
 have e5 : s7n5 ([t0, t1, t2, t3], lim) = none := rfl
 unfold oz7n5 oz7n4 oz7n3 oz7n2 oz7n1
 rw [e0, e1, e2, e3, e4, e5]
 rfl
theorem lb5 (t0 t1 t2 t3 t4 : Tn) (lim : Int × Int) (h : p7n5 (t0, t1, t2, t3, t4, lim) = none) : oz7n5 ([t0, t1, t2, t3, t4], lim) = none := by
 have e0 : s7n0 ([t0, t1, t2, t3, t4], lim) = none := rfl
 have e1 : s7n1 ([t0, t1, t2, t3, t4], lim) = none := rfl
 have e2 : s7n2 ([t0, t1, t2, t3, t4], lim) = none := rfl
 have e3 : s7n3 ([t0, t1, t2, t3, t4], lim) = none := rfl
 have e4 : s7n4 ([t0, t1, t2, t3, t4], lim) = none := rfl
 have e5 : s7n5 ([t0, t1, t2, t3, t4], lim) = none := h
 unfold oz7n5 oz7n4 oz7n3 oz7n2 oz7n1
 rw [e0, e1, e2, e3, e4, e5]
 rfl
theorem lmore (a b c d e f : Tn) (r : List Tn) (lim : Int × Int) : oz7n5 (a :: b :: c :: d :: e :: f :: r, lim) = none := by
 have e0 : s7n0 (a :: b :: c :: d :: e :: f :: r, lim) = none := rfl
 have e1 : s7n1 (a :: b :: c :: d :: e :: f :: r, lim) = none := rfl
 have e2 : s7n2 (a :: b :: c :: d :: e :: f :: r, lim) = none := rfl
 have e3 : s7n3 (a :: b :: c :: d :: e :: f :: r, lim) = none := rfl
 have e4 : s7n4 (a :: b :: c :: d :: e :: f :: r, lim) = none := rfl
 have e5 : s7n5 (a :: b :: c :: d :: e :: f :: r, lim) = none := rfl
 unfold oz7n5 oz7n4 oz7n3 oz7n2 oz7n1
 rw [e0, e1, e2, e3, e4, e5]
 rfl
theorem oze_some {x : (List Tn) × (Int × Int)} {y : (List Int) × Int} (h : oz7n5 x = some y) : oz7e x = some y := by
 unfold oz7e
 rw [h]; rfl
theorem oze_none {x : (List Tn) × (Int × Int)} {y : (List Int) × Int} (h : oz7n5 x = none) (hp : p7e x = some y) : oz7e x = some y := by
 unfold oz7e
 rw [h]; exact hp
theorem sets_bad : ∀ (l : List Tn) (lim : Int × Int), tonE l lim ≠ 0 → oz7e (l, lim) = some ([], tonE l lim)
 | [], lim, h => oze_none (lb0  lim (bad0 h)) (pbad h)
 | [t0], lim, h => oze_none (lb1 t0 lim (bad1 h)) (pbad h)
 | [t0, t1], lim, h => oze_none (lb2 t0 t1 lim (bad2 h)) (pbad h)
 | [t0, t1, t2], lim, h => oze_none (lb3 t0 t1 t2 lim (bad3 h)) (pbad h)
 | [t0, t1, t2, t3], lim, h => oze_none (lb4 t0 t1 t2 t3 lim (bad4 h)) (pbad h)
 | [t0, t1, t2, t3, t4], lim, h => oze_none (lb5 t0 t1 t2 t3 t4 lim (bad5 h)) (pbad h)
 | a :: b :: c :: d :: e :: f :: r, lim, h => by
   unfold oz7e
   rw [lmore, pbad h]; rfl
theorem sets_good : ∀ (l : List Tn) (lim : Int × Int), l.length ≤ 5 → tonE l lim = 0 → oz7e (l, lim) = some (pickO ((setsL l.length).find? fun s => !anyF l lim s)) ∧ o10n5 (l, lim) = some (pickR ((setsL l.length).find? fun s => !anyF l lim s)) ∧ Good l.length (setsL l.length)
 | [], lim, hl, h => by
   have hg : Good 0 subs0 := good0
   have a1 := (prog0 h).trans (chainO_eq (hit_good (l := []) lim (by simp) hg))
   have a2 := (refs0).trans (chainR_eq (L := subs0.tail) fun s hs => ref_good (l := []) lim hg s (List.mem_of_mem_tail hs))
   have e : (subs0.tail.find? fun s => !anyF [] lim s) = subs0.find? fun s => !anyF [] lim s := by
    show _ = ([] :: subs0.tail).find? _
    rw [List.find?_cons, any_nil h]; rfl
   rw [e] at a2
   exact ⟨oze_some (la0  lim a1), lv0  lim a2, hg⟩
 | [t0], lim, hl, h => by
   have hg : Good 1 subs1 := good1
   have a1 := (prog1 h).trans (chainO_eq (hit_good (l := [t0]) lim (by simp) hg))
   have a2 := (refs1 h).trans (chainR_eq (L := subs1.tail) fun s hs => ref_good (l := [t0]) lim hg s (List.mem_of_mem_tail hs))
   have e : (subs1.tail.find? fun s => !anyF [t0] lim s) = subs1.find? fun s => !anyF [t0] lim s := by
    show _ = ([] :: subs1.tail).find? _
    rw [List.find?_cons, any_nil h]; rfl
   rw [e] at a2
   exact ⟨oze_some (la1 t0 lim a1), lv1 t0 lim a2, hg⟩
 | [t0, t1], lim, hl, h => by
   have hg : Good 2 subs2 := good2
   have a1 := (prog2 h).trans (chainO_eq (hit_good (l := [t0, t1]) lim (by simp) hg))
   have a2 := (refs2 h).trans (chainR_eq (L := subs2.tail) fun s hs => ref_good (l := [t0, t1]) lim hg s (List.mem_of_mem_tail hs))
   have e : (subs2.tail.find? fun s => !anyF [t0, t1] lim s) = subs2.find? fun s => !anyF [t0, t1] lim s := by
    show _ = ([] :: subs2.tail).find? _
    rw [List.find?_cons, any_nil h]; rfl
   rw [e] at a2
   exact ⟨oze_some (la2 t0 t1 lim a1), lv2 t0 t1 lim a2, hg⟩
 | [t0, t1, t2], lim, hl, h => by
   have hg : Good 3 subs3 := good3
   have a1 := (prog3 h).trans (chainO_eq (hit_good (l := [t0, t1, t2]) lim (by simp) hg))
   have a2 := (refs3 h).trans (chainR_eq (L := subs3.tail) fun s hs => ref_good (l := [t0, t1, t2]) lim hg s (List.mem_of_mem_tail hs))
   have e : (subs3.tail.find? fun s => !anyF [t0, t1, t2] lim s) = subs3.find? fun s => !anyF [t0, t1, t2] lim s := by
    show _ = ([] :: subs3.tail).find? _
    rw [List.find?_cons, any_nil h]; rfl
   rw [e] at a2
   exact ⟨oze_some (la3 t0 t1 t2 lim a1), lv3 t0 t1 t2 lim a2, hg⟩
 | [t0, t1, t2, t3], lim, hl, h => by
   have hg : Good 4 subs4 := good4
   have a1 := (prog4 h).trans (chainO_eq (hit_good (l := [t0, t1, t2, t3]) lim (by simp) hg))
   have a2 := (refs4 h).trans (chainR_eq (L := subs4.tail) fun s hs => ref_good (l := [t0, t1, t2, t3]) lim hg s (List.mem_of_mem_tail hs))
   have e : (subs4.tail.find? fun s => !anyF [t0, t1, t2, t3] lim s) = subs4.find? fun s => !anyF [t0, t1, t2, t3] lim s := by
    show _ = ([] :: subs4.tail).find? _
    rw [List.find?_cons, any_nil h]; rfl
   rw [e] at a2
   exact ⟨oze_some (la4 t0 t1 t2 t3 lim a1), lv4 t0 t1 t2 t3 lim a2, hg⟩
 | [t0, t1, t2, t3, t4], lim, hl, h => by
   have hg : Good 5 subs5 := good5
   have a1 := (prog5 h).trans (chainO_eq (hit_good (l := [t0, t1, t2, t3, t4]) lim (by simp) hg))
   have a2 := (refs5 h).trans (chainR_eq (L := subs5.tail) fun s hs => ref_good (l := [t0, t1, t2, t3, t4]) lim hg s (List.mem_of_mem_tail hs))
   have e : (subs5.tail.find? fun s => !anyF [t0, t1, t2, t3, t4] lim s) = subs5.find? fun s => !anyF [t0, t1, t2, t3, t4] lim s := by
    show _ = ([] :: subs5.tail).find? _
    rw [List.find?_cons, any_nil h]; rfl
   rw [e] at a2
   exact ⟨oze_some (la5 t0 t1 t2 t3 t4 lim a1), lv5 t0 t1 t2 t3 t4 lim a2, hg⟩
 | _ :: _ :: _ :: _ :: _ :: _ :: _, _, hl, _ => absurd hl (by simp)
def okB : List (List Int) → List (List Int) → Bool
 | _, [] => true
 | pre, s :: r => ((List.range s.length).all fun i => pre.contains (s.eraseIdx i)) && okB (pre ++ [s]) r
theorem okB_at : ∀ {pre us bs : List (List Int)} {s : List Int}, okB pre (us ++ s :: bs) = true → ∀ i, i < s.length → s.eraseIdx i ∈ pre ++ us
 | pre, [], bs, s, h, i, hi => by
   simp only [List.nil_append, okB, Bool.and_eq_true, List.all_eq_true, List.mem_range] at h
   have := h.1 i hi
   simpa using this
 | pre, a :: us, bs, s, h, i, hi => by
   simp only [List.cons_append, okB, Bool.and_eq_true] at h
   have := okB_at h.2 i hi
   simpa using this
theorem okB_sets : ∀ n, n ≤ 5 → okB [] (setsL n) = true
 | 0, _ => by decide +kernel
 | 1, _ => by decide +kernel
 | 2, _ => by decide +kernel
 | 3, _ => by decide +kernel
 | 4, _ => by decide +kernel
 | 5, _ => by decide +kernel
 | n + 6, h => by omega
theorem cand_ge (l : List Tn) : ∀ (m : Nat) (d : Int) (rs : List (Int × Int)), rs.length ≤ (candF l m d rs).length
 | 0, d, rs => Nat.le_refl _
 | m + 1, d, rs => by
   unfold candF
   refine Nat.le_trans ?_ (cand_ge l m (d + 1) _)
   split
   ·unfold addR; split
    ·simp
    ·split <;> simp
   ·exact Nat.le_refl _
theorem add_pos (rs : List (Int × Int)) (d : Int) : 0 < (addR rs d).length := by
 unfold addR
 split
 ·simp
 ·split <;> simp <;> omega
theorem cand_any (l : List Tn) : ∀ (m : Nat) (d : Int) (rs : List (Int × Int)) (k : Nat), k < m → fitL l (d + (k : Int)) = true → 0 < (candF l m d rs).length
 | 0, d, rs, k, hk, _ => by omega
 | m + 1, d, rs, k, hk, hf => by
   unfold candF
   by_cases h0 : k = 0
   ·subst h0
    have hf : fitL l d = true := by simpa using hf
    rw [if_pos hf]
    exact Nat.lt_of_lt_of_le (add_pos rs d) (cand_ge l m (d + 1) _)
   ·exact cand_any l m (d + 1) _ (k - 1) (by omega) (by rw [show d + 1 + ((k - 1 : Nat) : Int) = d + (k : Int) by omega]; exact hf)
theorem tonE_of {l : List Tn} {lim : Int × Int} (h1 : l.length ≤ 8) (h2 : ∀ t ∈ l, tErr t = 0) (h3 : limE lim = 0) : tonE l lim = 0 := by
 unfold tonE
 have : (chkT l).2 = 0 := (chkE_zero tErr (0, 0, 0) 8 l).2 ⟨by omega, h2⟩
 rw [this]; exact h3
theorem limE_of {l : List Tn} {lim : Int × Int} (h : tonE l lim = 0) : limE lim = 0 := by
 unfold tonE at h
 cases hc : (chkT l).2 != 0 with
 | true =>
   rw [hc] at h
   have h : (chkT l).2 = 0 := h
   rw [h] at hc; cases hc
 | false => rw [hc] at h; exact h
def partK (l : List Tn) (s : List Int) (i k : Nat) : List Tn := ((List.range k).filter fun j => !(j == i)).map fun j => l.getD (s.getD j 0).toNat (0, 0, 0)
theorem partK_succ (l : List Tn) (s : List Int) (i k : Nat) : partK l s i (k + 1) = if k = i then partK l s i k else partK l s i k ++ [l.getD (s.getD k 0).toNat (0, 0, 0)] := by
 unfold partK
 rw [List.range_succ, List.filter_append, List.map_append]
 by_cases h : k = i
 ·rw [if_pos h]; simp [h]
 ·rw [if_neg h]; simp [h]
theorem partK_len (l : List Tn) (s : List Int) (i k : Nat) : (partK l s i k).length ≤ k := by
 unfold partK
 rw [List.length_map]
 have := List.length_filter_le (fun j => !(j == i)) (List.range k)
 rw [List.length_range] at this
 exact this
section
variable {l : List Tn} {lim : Int × Int} {s : List Int}
theorem sel_in (hin : ∀ i ∈ s, 0 ≤ i ∧ i < (l.length : Int)) {k : Nat} (hk : k < s.length) : ∃ j : Nat, s.getD k 0 = (j : Int) ∧ j < l.length := by
 have hm : s.getD k 0 ∈ s := by
  rw [List.getD_eq_getElem?_getD, List.getElem?_eq_getElem hk]; exact List.getElem_mem hk
 obtain ⟨h0, h1⟩ := hin _ hm
 exact ⟨(s.getD k 0).toNat, by omega, by omega⟩
theorem inner_part (hs : s.length ≤ 5) (hin : ∀ i ∈ s, 0 ≤ i ∧ i < (l.length : Int)) (i : Nat) : loopVal step3_2 (l, s, (i : Int), [], 0, lim) = some (l, s, (i : Int), partK l s i s.length, lim) := by
 refine loop_for (step := step3_2) (st := fun k => (l, s, (i : Int), partK l s i k, (k : Int), lim)) (n := s.length) (fun k hk => ?_) ?_ 0 (by omega)
 ·obtain ⟨j, hj, hlt⟩ := sel_in hin hk
  have hp := partK_len l s i k
  simp only [step3_2, lt_cast, inB_cast, hk, decide_true, cond_true, Int.toNat_natCast, hj, hlt, wr_succ (show k < 4611686018427387904 by omega), room_true (b := 24) (n := (partK l s i k).length + 1) (by omega) (by omega)]
  rw [partK_succ]
  by_cases hki : k = i
  ·rw [if_pos hki, show (((k : Nat) : Int) != (i : Int)) = false by rw [hki]; exact bne_self_eq_false _]; rfl
  ·rw [if_neg hki, show (((k : Nat) : Int) != (i : Int)) = true by rw [bne_iff_ne]; omega, hj, Int.toNat_natCast]; rfl
 ·simp only [step3_2, lt_cast, Nat.lt_irrefl, decide_false, cond_false]
theorem part_res (h : tonE l lim = 0) (hs : s.length ≤ 5) (hin : ∀ i ∈ s, 0 ≤ i ∧ i < (l.length : Int)) {i : Nat} (hany : anyF l lim (s.eraseIdx i) = true) : ∃ r, s12 (partK l s i s.length, lim) = some r ∧ (r.2 = 0 ∨ r.2 = 22) := by
 have hv := (tonE_zero h).2.1
 have ht : tonE (partK l s i s.length) lim = 0 := tonE_of (by have := partK_len l s i s.length; omega) (fun t ht => by
  unfold partK at ht
  obtain ⟨k, hk, rfl⟩ := List.mem_map.1 ht
  have hk := List.mem_range.1 (List.mem_filter.1 hk).1
  obtain ⟨j, hj, hlt⟩ := sel_in hin hk
  rw [hj, Int.toNat_natCast]
  exact hv _ (getD_mem ((0, 0, 0) : Tn) hlt)) (limE_of h)
 rw [res_good ht]
 refine ⟨_, rfl, ?_⟩
 have hpos : 0 < (cands (partK l s i s.length) lim).length := by
  unfold anyF anyD at hany
  rw [List.any_eq_true] at hany
  obtain ⟨k, hk, hf⟩ := hany
  refine cand_any _ (cnt lim) lim.1 [] k (List.mem_range.1 hk) ?_
  unfold fitL
  rw [List.all_eq_true]
  intro t ht
  unfold partK at ht
  obtain ⟨j, hj, rfl⟩ := List.mem_map.1 ht
  obtain ⟨hj1, hj2⟩ := List.mem_filter.1 hj
  have hj1 := List.mem_range.1 hj1
  have hji : j ≠ i := by simpa using hj2
  unfold fitS at hf
  rw [List.all_eq_true] at hf
  refine hf (s.getD j 0) ?_
  rw [List.mem_eraseIdx_iff_getElem]
  exact ⟨j, hj1, hji, by rw [List.getD_eq_getElem?_getD, List.getElem?_eq_getElem hj1]; rfl⟩
 unfold resE
 rw [if_neg (by omega)]
 split
 ·exact .inl rfl
 ·exact .inr rfl
theorem outer_part (h : tonE l lim = 0) (hs : s.length ≤ 5) (hin : ∀ i ∈ s, 0 ≤ i ∧ i < (l.length : Int)) (hany : ∀ i, i < s.length → anyF l lim (s.eraseIdx i) = true) : loopVal step3_0 (l, s, 0, lim) = some (.inr ()) := by
 refine loop_for (step := step3_0) (st := fun k => (l, s, (k : Int), lim)) (n := s.length) (e := .inr ()) (fun k hk => ?_) ?_ 0 (by omega)
 ·obtain ⟨r, hr, hr2⟩ := part_res h hs hin (hany k hk)
  simp only [step3_0, lt_cast, hk, decide_true, cond_true, inner_part hs hin k, optE_some, hr, wr_succ (show k < 4611686018427387904 by omega)]
  rcases hr2 with e | e
  ·rw [e]; rfl
  ·rw [e]; rfl
 ·simp only [step3_0, lt_cast, Nat.lt_irrefl, decide_false, cond_false]
end
theorem ints_self (s : List Int) (h : s.length ≤ 1000000) : s11 (s, s) = some true := by
 unfold s11
 have h1 := loop_for (step := step11_0) (st := fun k => (s, s, (k : Int))) (n := s.length) (e := .inr ()) (fun k hk => by
  simp only [step11_0, lt_cast, inB_cast, hk, decide_true, cond_true, Int.toNat_natCast, bne_self_eq_false, cond_false, wr_succ (show k < 4611686018427387904 by omega)]) (by simp only [step11_0, lt_cast, Nat.lt_irrefl, decide_false, cond_false]) 0 (by omega)
 rw [show ((0 : Nat) : Int) = 0 from rfl] at h1
 simp only [bne_self_eq_false, cond_false, h1, optE_some, sumE_r]
theorem sets_len : ∀ n, n ≤ 5 → ∀ s ∈ setsL n, s.length ≤ 5
 | 0, _ => by decide +kernel
 | 1, _ => by decide +kernel
 | 2, _ => by decide +kernel
 | 3, _ => by decide +kernel
 | 4, _ => by decide +kernel
 | 5, _ => by decide +kernel
 | n + 6, h => by omega
theorem few_true {l : List Tn} {lim : Int × Int} (hl : l.length ≤ 5) :
 optE (s8 l) (fun r2 => optE (oz7e (r2, lim)) (fun r3 => optE (s9 (l, lim)) (fun r4 => bif r4 != 0 then (bif r3.2 == r4 then some ((r3.1.length : Int) == 0) else some false) else
  optE (o10n5 (l, lim)) (fun r5 => bif !r5.2 then (bif r3.2 == 12 then some ((r3.1.length : Int) == 0) else some false) else bif r3.2 != 0 then some false else
   optE (s11 (r3.1, r5.1)) (fun r6 => bif !r6 then some false else optE (loopVal step3_0 (l, r3.1, 0, lim)) (fun e7 => sumE e7 (fun e8 => some e8) (fun _ => some true)) none) none) none) none) none) none = some true := by
 rw [copyT l (by omega)]
 simp only [optE_some, tonesErr_eq]
 by_cases ht : tonE l lim = 0
 ·obtain ⟨a1, a2, hg⟩ := sets_good l lim hl ht
  rw [a1, a2, ht]
  simp only [optE_some, bne_self_eq_false, cond_false]
  cases hf : (setsL l.length).find? fun s => !anyF l lim s with
  | none => rfl
  | some s =>
    obtain ⟨hs1, us, bs, hab, has⟩ := List.find?_eq_some_iff_append.1 hf
    have hm : s ∈ setsL l.length := by rw [hab]; simp
    have hlen := sets_len _ hl s hm
    have hin := (hg s hm).2.2.1
    have hany : ∀ i, i < s.length → anyF l lim (s.eraseIdx i) = true := fun i hi => by
     have hk := okB_sets _ hl
     rw [hab] at hk
     have := okB_at hk i hi
     rw [List.nil_append] at this
     have := has _ this
     simpa using this
    simp only [pickO, pickR, Bool.not_true, cond_false, bne_self_eq_false, ints_self s (by omega), optE_some, outer_part ht hlen hin hany, sumE_r]
 ·have hb : (tonE l lim != 0) = true := by simpa using ht
  rw [sets_bad l lim ht]
  simp only [optE_some, hb, cond_true, beq_self_eq_true]
  rfl
theorem toneSets_true (y : List Tn × (Int × Int)) : s3 y = some true := by
 obtain ⟨l, lim⟩ := y
 unfold s3
 simp only [Bool.not_true, cond_false]
 obtain ⟨b, hb, _⟩ := span_eq lim 200
 by_cases h5 : (l.length : Int) > 5
 ·rw [decide_eq_true h5, cond_true]
  by_cases h8 : (l.length : Int) ≤ 8
  ·rw [decide_eq_true h8]; rfl
  rw [decide_eq_false h8, cond_false]
  by_cases h10 : (l.length : Int) > 10
  ·rw [decide_eq_true h10]; rfl
  rw [decide_eq_false h10, cond_false, hb, optE_some]
  cases b with
  | false => rfl
  | true =>
    have hc : (chkT l).2 = 8 := by unfold chkT chkE; rw [decide_eq_true (show (l.length : Int) > 8 by omega)]; rfl
    have ht : tonE l lim = 8 := by unfold tonE; rw [hc]; rfl
    simp only [Bool.not_true, cond_false, copyT l (by omega), optE_some, tonesErr_eq, sets_bad l lim (by rw [ht]; decide), ht]
    rfl
 ·rw [decide_eq_false h5, cond_false]
  by_cases h10 : (l.length : Int) > 10
  ·omega
  rw [decide_eq_false h10, cond_false, hb, optE_some]
  cases b with
  | false => rfl
  | true =>
    simp only [Bool.not_true, cond_false]
    exact few_true (by omega)
end Go.Proofs.YtdoehknomnhlkaaDoor
