/- Printed by gen.py: specifications of functions. -/
import Derived.Test.YtgpfdacidgmelaaGb2
set_option linter.unusedSimpArgs false
set_option maxRecDepth 100000
namespace Go.Proofs.Ytgpfdacidgmelaa
open Go.Ev

/-! cassegrain cassegrainlaw01.few -/
noncomputable def s29 : ((List (Int × Int × Int × Int)) × Int) × ((List (Int × Int × Int × Int)) × Int) → Option (Bool) := fun (a, b) =>
  optE (s22 a) (fun r1 =>
    bif r1 then
      optE (s22 b) (fun r2 =>
        some (r2))
        (none)
    else
      some (false))
    (none)
theorem i29 : ItemOk Try.prog (.fn 29 [.d (.agg (.pair (.slice (.agg (.pair (.int .i64) (.pair (.int .i64) (.pair (.int .i64) (.int .i64)))))) (.int .i64))), .d (.agg (.pair (.slice (.agg (.pair (.int .i64) (.pair (.int .i64) (.pair (.int .i64) (.int .i64)))))) (.int .i64)))] [.d .bool] s29) := item_fnM md1 ext1 (U := 9) (n := 4) noSpecial mixed Gb2K14_ok (fun x => by kernel_rfl)
noncomputable def Gb3K1 : List Ev.Item := .fn 29 [.d (.agg (.pair (.slice (.agg (.pair (.int .i64) (.pair (.int .i64) (.pair (.int .i64) (.int .i64)))))) (.int .i64))), .d (.agg (.pair (.slice (.agg (.pair (.int .i64) (.pair (.int .i64) (.pair (.int .i64) (.int .i64)))))) (.int .i64)))] [.d .bool] s29 :: Gb2K14
theorem Gb3K1_ok : ∀ q ∈ Gb3K1, ItemOk Try.prog q := items_cons i29 Gb2K14_ok

/-! cassegrain cassegrainref01.TrackErr -/
noncomputable def s31 : (List (Int × Int × Int × Int)) × Int → Option (Int) := fun p =>
  optE (s26 p) (fun r1 =>
    some (r1.2))
    (none)
theorem i31 : ItemOk Try.prog (.fn 31 [.d (.agg (.pair (.slice (.agg (.pair (.int .i64) (.pair (.int .i64) (.pair (.int .i64) (.int .i64)))))) (.int .i64)))] [.d (.int .i64)] s31) := item_fnM md1 ext1 (U := 9) (n := 4) noSpecial mixed Gb3K1_ok (fun x => by kernel_rfl)
noncomputable def Gb3K2 : List Ev.Item := .fn 31 [.d (.agg (.pair (.slice (.agg (.pair (.int .i64) (.pair (.int .i64) (.pair (.int .i64) (.int .i64)))))) (.int .i64)))] [.d (.int .i64)] s31 :: Gb3K1
theorem Gb3K2_ok : ∀ q ∈ Gb3K2, ItemOk Try.prog q := items_cons i31 Gb3K1_ok

/-! cassegrain cassegrainref01.BothErr -/
noncomputable def s30 : ((List (Int × Int × Int × Int)) × Int) × ((List (Int × Int × Int × Int)) × Int) → Option (Int) := fun (a, b) =>
  optE (s31 a) (fun r1 =>
    bif r1 != 0 then
      some (r1)
    else
      optE (s31 b) (fun r2 =>
        some (r2))
        (none))
    (none)
theorem i30 : ItemOk Try.prog (.fn 30 [.d (.agg (.pair (.slice (.agg (.pair (.int .i64) (.pair (.int .i64) (.pair (.int .i64) (.int .i64)))))) (.int .i64))), .d (.agg (.pair (.slice (.agg (.pair (.int .i64) (.pair (.int .i64) (.pair (.int .i64) (.int .i64)))))) (.int .i64)))] [.d (.int .i64)] s30) := item_fnM md1 ext1 (U := 9) (n := 4) noSpecial mixed Gb3K2_ok (fun x => by kernel_rfl)
noncomputable def Gb3K3 : List Ev.Item := .fn 30 [.d (.agg (.pair (.slice (.agg (.pair (.int .i64) (.pair (.int .i64) (.pair (.int .i64) (.int .i64)))))) (.int .i64))), .d (.agg (.pair (.slice (.agg (.pair (.int .i64) (.pair (.int .i64) (.pair (.int .i64) (.int .i64)))))) (.int .i64)))] [.d (.int .i64)] s30 :: Gb3K2
theorem Gb3K3_ok : ∀ q ∈ Gb3K3, ItemOk Try.prog q := items_cons i30 Gb3K2_ok

/-! cassegrain cassegrainref01.TimesErr -/
noncomputable def s32 : ((List (Int × Int × Int × Int)) × Int) × ((List (Int × Int × Int × Int)) × Int) × Int → Option (Int) := fun (a, b, time) =>
  optE (s27 (a, time)) (fun r1 =>
    bif r1 != 0 then
      some (r1)
    else
      optE (s27 (b, time)) (fun r2 =>
        some (r2))
        (none))
    (none)
theorem i32 : ItemOk Try.prog (.fn 32 [.d (.agg (.pair (.slice (.agg (.pair (.int .i64) (.pair (.int .i64) (.pair (.int .i64) (.int .i64)))))) (.int .i64))), .d (.agg (.pair (.slice (.agg (.pair (.int .i64) (.pair (.int .i64) (.pair (.int .i64) (.int .i64)))))) (.int .i64))), .d (.int .i64)] [.d (.int .i64)] s32) := item_fnM md1 ext1 (U := 9) (n := 4) noSpecial mixed Gb3K3_ok (fun x => by kernel_rfl)
noncomputable def Gb3K4 : List Ev.Item := .fn 32 [.d (.agg (.pair (.slice (.agg (.pair (.int .i64) (.pair (.int .i64) (.pair (.int .i64) (.int .i64)))))) (.int .i64))), .d (.agg (.pair (.slice (.agg (.pair (.int .i64) (.pair (.int .i64) (.pair (.int .i64) (.int .i64)))))) (.int .i64))), .d (.int .i64)] [.d (.int .i64)] s32 :: Gb3K3
theorem Gb3K4_ok : ∀ q ∈ Gb3K4, ItemOk Try.prog q := items_cons i32 Gb3K3_ok

/-! cassegrain path.between -/
noncomputable def s69 : ((List (Int × Int × Int × Int)) × Int) × Int × ((List (Int × Int × Int × Int)) × Int) × Int → Option (((Int × Int × Int) × Int) × Int) := fun (a, s, b, r0) =>
  optE (s61 (a, s)) (fun r1 =>
    optE (s61 (b, r0)) (fun r2 =>
      some ((((wr ((wr (r2.1.1 * r1.2)) - (wr (r1.1.1 * r2.2))), wr ((wr (r2.1.2.1 * r1.2)) - (wr (r1.1.2.1 * r2.2))), wr ((wr (r2.1.2.2 * r1.2)) - (wr (r1.1.2.2 * r2.2)))), wr (r1.2 * r2.2)), wr (a.2 + b.2))))
      (none))
    (none)
theorem i69 : ItemOk Try.prog (.fn 69 [.d (.agg (.pair (.slice (.agg (.pair (.int .i64) (.pair (.int .i64) (.pair (.int .i64) (.int .i64)))))) (.int .i64))), .d (.int .i64), .d (.agg (.pair (.slice (.agg (.pair (.int .i64) (.pair (.int .i64) (.pair (.int .i64) (.int .i64)))))) (.int .i64))), .d (.int .i64)] [.d (.agg (.pair (.pair (.pair (.int .i64) (.pair (.int .i64) (.int .i64))) (.int .i64)) (.int .i64)))] s69) := item_fnM md1 ext1 (U := 9) (n := 4) noSpecial mixed Gb3K4_ok (fun x => by kernel_rfl)
noncomputable def Gb3K5 : List Ev.Item := .fn 69 [.d (.agg (.pair (.slice (.agg (.pair (.int .i64) (.pair (.int .i64) (.pair (.int .i64) (.int .i64)))))) (.int .i64))), .d (.int .i64), .d (.agg (.pair (.slice (.agg (.pair (.int .i64) (.pair (.int .i64) (.pair (.int .i64) (.int .i64)))))) (.int .i64))), .d (.int .i64)] [.d (.agg (.pair (.pair (.pair (.int .i64) (.pair (.int .i64) (.int .i64))) (.int .i64)) (.int .i64)))] s69 :: Gb3K4
theorem Gb3K5_ok : ∀ q ∈ Gb3K5, ItemOk Try.prog q := items_cons i69 Gb3K4_ok

/-! math bits.Mul64 -/
noncomputable def s119 : Int × Int → Option (Int × Int) := fun (x0, y0) =>
  some ((IntKind.u64.wrap ((IntKind.u64.wrap ((IntKind.u64.wrap ((shrI .u64 x0 32) * (shrI .u64 y0 32))) + (shrI .u64 (IntKind.u64.wrap ((IntKind.u64.wrap ((shrI .u64 x0 32) * (andI .u64 y0 4294967295))) + (shrI .u64 (IntKind.u64.wrap ((andI .u64 x0 4294967295) * (andI .u64 y0 4294967295))) 32))) 32))) + (shrI .u64 (IntKind.u64.wrap ((andI .u64 (IntKind.u64.wrap ((IntKind.u64.wrap ((shrI .u64 x0 32) * (andI .u64 y0 4294967295))) + (shrI .u64 (IntKind.u64.wrap ((andI .u64 x0 4294967295) * (andI .u64 y0 4294967295))) 32))) 4294967295) + (IntKind.u64.wrap ((andI .u64 x0 4294967295) * (shrI .u64 y0 32))))) 32)), IntKind.u64.wrap (x0 * y0)))
theorem i119 : ItemOk Try.prog (.fn 119 [.d (.int .u64), .d (.int .u64)] [.d (.int .u64), .d (.int .u64)] s119) := item_fnM md1 ext1 (U := 9) (n := 4) noSpecial mixed Gb3K5_ok (fun x => by kernel_rfl)
noncomputable def Gb3K6 : List Ev.Item := .fn 119 [.d (.int .u64), .d (.int .u64)] [.d (.int .u64), .d (.int .u64)] s119 :: Gb3K5
theorem Gb3K6_ok : ∀ q ∈ Gb3K6, ItemOk Try.prog q := items_cons i119 Gb3K5_ok

/-! cassegrain path.squared -/
noncomputable def s99 : Int → Option (Int × Int) := fun n =>
  optE (s119 (IntKind.u64.wrap (mx n (wr (-n))), IntKind.u64.wrap (mx n (wr (-n))))) (fun r1 =>
    some (r1))
    (none)
theorem i99 : ItemOk Try.prog (.fn 99 [.d (.int .i64)] [.d (.agg (.pair (.int .u64) (.int .u64)))] s99) := item_fnM md1 ext1 (U := 9) (n := 4) noSpecial mixed Gb3K6_ok (fun x => by kernel_rfl)
noncomputable def Gb3K7 : List Ev.Item := .fn 99 [.d (.int .i64)] [.d (.agg (.pair (.int .u64) (.int .u64)))] s99 :: Gb3K6
theorem Gb3K7_ok : ∀ q ∈ Gb3K7, ItemOk Try.prog q := items_cons i99 Gb3K6_ok

/-! (cassegrain path.wide).plus -/
noncomputable def s125 : (Int × Int) × (Int × Int) → Option (Int × Int) := fun (w, o) =>
  bif (decide (0 ≤ w.2)) && ((decide (0 ≤ o.2)) && true) then
    some ((IntKind.u64.wrap ((IntKind.u64.wrap (w.1 + o.1)) + ((w.2 + o.2 + 0) / 18446744073709551616)), (w.2 + o.2 + 0) % 18446744073709551616))
  else
    none
theorem i125 : ItemOk Try.prog (.fn 125 [.d (.agg (.pair (.int .u64) (.int .u64))), .d (.agg (.pair (.int .u64) (.int .u64)))] [.d (.agg (.pair (.int .u64) (.int .u64)))] s125) := item_fnM md1 ext1 (U := 9) (n := 4) noSpecial mixed Gb3K7_ok (fun x => by kernel_rfl)
noncomputable def Gb3K8 : List Ev.Item := .fn 125 [.d (.agg (.pair (.int .u64) (.int .u64))), .d (.agg (.pair (.int .u64) (.int .u64)))] [.d (.agg (.pair (.int .u64) (.int .u64)))] s125 :: Gb3K7
theorem Gb3K8_ok : ∀ q ∈ Gb3K8, ItemOk Try.prog q := items_cons i125 Gb3K7_ok

/-! (cassegrain path.gap).nearest -/
noncomputable def s95 : ((Int × Int × Int) × Int) × Int → Option (Int × Int) := fun g =>
  optE (s99 (mx 0 (wr ((mx g.1.1.1 (wr (-g.1.1.1))) - (wr (g.2 * g.1.2)))))) (fun r1 =>
    optE (s125 ((0, 0), r1)) (fun r2 =>
      optE (s99 (mx 0 (wr ((mx g.1.1.2.1 (wr (-g.1.1.2.1))) - (wr (g.2 * g.1.2)))))) (fun r3 =>
        optE (s125 (r2, r3)) (fun r4 =>
          optE (s99 (mx 0 (wr ((mx g.1.1.2.2 (wr (-g.1.1.2.2))) - (wr (g.2 * g.1.2)))))) (fun r5 =>
            optE (s125 (r4, r5)) (fun r6 =>
              some (r6))
              (none))
            (none))
          (none))
        (none))
      (none))
    (none)
theorem i95 : ItemOk Try.prog (.fn 95 [.d (.agg (.pair (.pair (.pair (.int .i64) (.pair (.int .i64) (.int .i64))) (.int .i64)) (.int .i64)))] [.d (.agg (.pair (.int .u64) (.int .u64)))] s95) := item_fnM md1 ext1 (U := 9) (n := 4) noSpecial mixed Gb3K8_ok (fun x => by kernel_rfl)
noncomputable def Gb3K9 : List Ev.Item := .fn 95 [.d (.agg (.pair (.pair (.pair (.int .i64) (.pair (.int .i64) (.int .i64))) (.int .i64)) (.int .i64)))] [.d (.agg (.pair (.int .u64) (.int .u64)))] s95 :: Gb3K8
theorem Gb3K9_ok : ∀ q ∈ Gb3K9, ItemOk Try.prog q := items_cons i95 Gb3K8_ok

/-! (cassegrain path.gap).farthest -/
noncomputable def s96 : ((Int × Int × Int) × Int) × Int → Option (Int × Int) := fun g =>
  optE (s99 (wr ((mx g.1.1.1 (wr (-g.1.1.1))) + (wr (g.2 * g.1.2))))) (fun r1 =>
    optE (s125 ((0, 0), r1)) (fun r2 =>
      optE (s99 (wr ((mx g.1.1.2.1 (wr (-g.1.1.2.1))) + (wr (g.2 * g.1.2))))) (fun r3 =>
        optE (s125 (r2, r3)) (fun r4 =>
          optE (s99 (wr ((mx g.1.1.2.2 (wr (-g.1.1.2.2))) + (wr (g.2 * g.1.2))))) (fun r5 =>
            optE (s125 (r4, r5)) (fun r6 =>
              some (r6))
              (none))
            (none))
          (none))
        (none))
      (none))
    (none)
theorem i96 : ItemOk Try.prog (.fn 96 [.d (.agg (.pair (.pair (.pair (.int .i64) (.pair (.int .i64) (.int .i64))) (.int .i64)) (.int .i64)))] [.d (.agg (.pair (.int .u64) (.int .u64)))] s96) := item_fnM md1 ext1 (U := 9) (n := 4) noSpecial mixed Gb3K9_ok (fun x => by kernel_rfl)
noncomputable def Gb3K10 : List Ev.Item := .fn 96 [.d (.agg (.pair (.pair (.pair (.int .i64) (.pair (.int .i64) (.int .i64))) (.int .i64)) (.int .i64)))] [.d (.agg (.pair (.int .u64) (.int .u64)))] s96 :: Gb3K9
theorem Gb3K10_ok : ∀ q ∈ Gb3K10, ItemOk Try.prog q := items_cons i96 Gb3K9_ok

/-! (cassegrain path.gap).distances -/
@[reducible] def T52_0a : Tmpl := ⟨26, [], [.val 1 (.clo 97 (.pair (.ptr (.pair (.int .u64) (.int .u64))) (.pair (.ptr (.pair (.int .i64) (.pair (.int .i64) (.pair (.int .i64) (.pair (.int .i64) (.int .i64)))))) .unit))), .val 5 (.int .i64), .val 6 (.int .i64)]⟩
@[reducible] def X52_0a : List (Ex × Tmpl) := [(.exit 0, ⟨26, [], [.val 5 (.int .i64)]⟩)]
/-- data: f, i, j; ends: exit 0: i -/
noncomputable def step52_0a : ((Int × Int) × (Int × Int × Int × Int × Int) × Unit) × Int × Int → Option ((((Int × Int) × (Int × Int × Int × Int × Int) × Unit) × Int × Int) ⊕ (Int)) := fun (f, i, j) =>
  bif decide (i < j) then
    optE (s99 (wr ((wr ((wr (shrI .u64 (IntKind.u64.wrap (wr (i + j))) 1)) + 1)) * f.2.1.2.2.2.1))) (fun r3 =>
      bif decide (f.1.1 < r3.1) then
        some (.inl (f, i, wr (shrI .u64 (IntKind.u64.wrap (wr (i + j))) 1)))
      else
        bif f.1.1 == r3.1 then
          bif !(decide (f.1.2 < r3.2)) then
            some (.inl (f, wr ((wr (shrI .u64 (IntKind.u64.wrap (wr (i + j))) 1)) + 1), j))
          else
            some (.inl (f, i, wr (shrI .u64 (IntKind.u64.wrap (wr (i + j))) 1)))
        else
          some (.inl (f, wr ((wr (shrI .u64 (IntKind.u64.wrap (wr (i + j))) 1)) + 1), j)))
      (none)
  else
    some (.inr i)
theorem one52_0a : oneLoop Try.prog 52 0 = true := by kernel_rfl
theorem lp52_0a : ItemOk Try.prog (.loop 52 0 T52_0a X52_0a (loopVal step52_0a)) := item_loopM md1 ext1 (U := 9) (n := 2) noSpecial mixed Gb3K10_ok one52_0a (fun x => by kernel_rfl)
noncomputable def Gb3K11 : List Ev.Item := .loop 52 0 T52_0a X52_0a (loopVal step52_0a) :: Gb3K10
theorem Gb3K11_ok : ∀ q ∈ Gb3K11, ItemOk Try.prog q := items_cons lp52_0a Gb3K10_ok
@[reducible] def T52_0b : Tmpl := ⟨26, [], [.val 1 (.clo 100 (.pair (.ptr (.pair (.int .i64) (.pair (.int .i64) (.pair (.int .i64) (.pair (.int .i64) (.int .i64)))))) (.pair (.ptr (.pair (.int .u64) (.int .u64))) .unit))), .val 5 (.int .i64), .val 6 (.int .i64)]⟩
@[reducible] def X52_0b : List (Ex × Tmpl) := [(.exit 0, ⟨26, [], [.val 5 (.int .i64)]⟩)]
/-- data: f, i, j; ends: exit 0: i -/
noncomputable def step52_0b : ((Int × Int × Int × Int × Int) × (Int × Int) × Unit) × Int × Int → Option ((((Int × Int × Int × Int × Int) × (Int × Int) × Unit) × Int × Int) ⊕ (Int)) := fun (f, i, j) =>
  bif decide (i < j) then
    optE (s99 (wr ((wr (shrI .u64 (IntKind.u64.wrap (wr (i + j))) 1)) * f.1.2.2.2.1))) (fun r4 =>
      bif decide (r4.1 < f.2.1.1) then
        some (.inl (f, wr ((wr (shrI .u64 (IntKind.u64.wrap (wr (i + j))) 1)) + 1), j))
      else
        bif r4.1 == f.2.1.1 then
          bif !(!(decide (r4.2 < f.2.1.2))) then
            some (.inl (f, wr ((wr (shrI .u64 (IntKind.u64.wrap (wr (i + j))) 1)) + 1), j))
          else
            some (.inl (f, i, wr (shrI .u64 (IntKind.u64.wrap (wr (i + j))) 1)))
        else
          some (.inl (f, i, wr (shrI .u64 (IntKind.u64.wrap (wr (i + j))) 1))))
      (none)
  else
    some (.inr i)
theorem one52_0b : oneLoop Try.prog 52 0 = true := by kernel_rfl
theorem lp52_0b : ItemOk Try.prog (.loop 52 0 T52_0b X52_0b (loopVal step52_0b)) := item_loopM md1 ext1 (U := 9) (n := 2) noSpecial mixed Gb3K11_ok one52_0b (fun x => by kernel_rfl)
noncomputable def Gb3K12 : List Ev.Item := .loop 52 0 T52_0b X52_0b (loopVal step52_0b) :: Gb3K11
theorem Gb3K12_ok : ∀ q ∈ Gb3K12, ItemOk Try.prog q := items_cons lp52_0b Gb3K11_ok
noncomputable def s70 : ((Int × Int × Int) × Int) × Int → Option (Int × Int) := fun g =>
  optE (s95 g) (fun r1 =>
    optE (s96 g) (fun r2 =>
      optE (loopVal step52_0a ((r1, (g.1.1.1, g.1.1.2.1, g.1.1.2.2, g.1.2, g.2), ()), 0, 8000000)) (fun e3 =>
        optE (loopVal step52_0b (((g.1.1.1, g.1.1.2.1, g.1.1.2.2, g.1.2, g.2), r2, ()), 0, 8000000)) (fun e4 =>
          some ((e3, e4)))
          (none))
        (none))
      (none))
    (none)
theorem i70 : ItemOk Try.prog (.fn 70 [.d (.agg (.pair (.pair (.pair (.int .i64) (.pair (.int .i64) (.int .i64))) (.int .i64)) (.int .i64)))] [.d (.agg (.pair (.int .i64) (.int .i64)))] s70) := item_fnM md1 ext1 (U := 9) (n := 4) noSpecial mixed Gb3K12_ok (fun x => by kernel_rfl)
noncomputable def Gb3K13 : List Ev.Item := .fn 70 [.d (.agg (.pair (.pair (.pair (.int .i64) (.pair (.int .i64) (.int .i64))) (.int .i64)) (.int .i64)))] [.d (.agg (.pair (.int .i64) (.int .i64)))] s70 :: Gb3K12
theorem Gb3K13_ok : ∀ q ∈ Gb3K13, ItemOk Try.prog q := items_cons i70 Gb3K12_ok

/-! cassegrain path.DistanceAt -/
noncomputable def s34 : ((List (Int × Int × Int × Int)) × Int) × ((List (Int × Int × Int × Int)) × Int) × Int → Option ((Int × Int) × Int) := fun (a, b, time) =>
  optE (s59 [a, b]) (fun r1 =>
    bif r1 != 0 then
      some (((0, 0), r1))
    else
      optE (s60 (time, [a, b])) (fun r2 =>
        bif r2 != 0 then
          some (((0, 0), r2))
        else
          optE (s69 (a, time, b, time)) (fun r3 =>
            optE (s70 r3) (fun r4 =>
              some ((r4, 0)))
              (none))
            (none))
        (none))
    (none)
theorem i34 : ItemOk Try.prog (.fn 34 [.d (.agg (.pair (.slice (.agg (.pair (.int .i64) (.pair (.int .i64) (.pair (.int .i64) (.int .i64)))))) (.int .i64))), .d (.agg (.pair (.slice (.agg (.pair (.int .i64) (.pair (.int .i64) (.pair (.int .i64) (.int .i64)))))) (.int .i64))), .d (.int .i64)] [.d (.agg (.pair (.int .i64) (.int .i64))), .d (.int .i64)] s34) := item_fnM md1 ext1 (U := 9) (n := 4) noSpecial mixed Gb3K13_ok (fun x => by kernel_rfl)
noncomputable def Gb3K14 : List Ev.Item := .fn 34 [.d (.agg (.pair (.slice (.agg (.pair (.int .i64) (.pair (.int .i64) (.pair (.int .i64) (.int .i64)))))) (.int .i64))), .d (.agg (.pair (.slice (.agg (.pair (.int .i64) (.pair (.int .i64) (.pair (.int .i64) (.int .i64)))))) (.int .i64))), .d (.int .i64)] [.d (.agg (.pair (.int .i64) (.int .i64))), .d (.int .i64)] s34 :: Gb3K13
theorem Gb3K14_ok : ∀ q ∈ Gb3K14, ItemOk Try.prog q := items_cons i34 Gb3K13_ok

/-! cassegrain cassegrainlaw01.PathEnclosed -/
@[reducible] def T6_0 : Tmpl := ⟨333, [(7, .ref 7 0 0 0), (10, .ref 10 0 0 0), (11, .ref 11 0 0 0), (13, .ref 13 0 0 0), (15, .ref 15 0 0 0), (17, .ref 17 0 0 0), (19, .ref 19 0 0 0), (21, .ref 21 0 0 0)], [.val 1 (.int .i64), .val 2 (.int .i64), .own 23 169 23 (.agg (.pair (.int .i64) (.int .i64))), .val 24 (.int .i64), .cells 7 [.d (.pair (.slice (.agg (.pair (.int .i64) (.pair (.int .i64) (.pair (.int .i64) (.int .i64)))))) (.int .i64))], .cells 10 [.d (.pair (.slice (.agg (.pair (.int .i64) (.pair (.int .i64) (.pair (.int .i64) (.int .i64)))))) (.int .i64))], .cells 11 [.d (.pair (.int .i64) (.int .i64))], .cells 13 [.d (.pair (.int .i64) (.int .i64))], .cells 15 [.d (.pair (.int .i64) (.int .i64))], .cells 17 [.d (.pair (.int .i64) (.int .i64))], .cells 19 [.d (.pair (.int .i64) (.int .i64))], .cells 21 [.d (.pair (.int .i64) (.int .i64))]]⟩
@[reducible] def X6_0 : List (Ex × Tmpl) := [(.ret, ⟨333, [], [.val 6 .bool]⟩), (.exit 0, ⟨333, [(7, .ref 7 0 0 0), (10, .ref 10 0 0 0), (11, .ref 11 0 0 0), (13, .ref 13 0 0 0), (15, .ref 15 0 0 0), (17, .ref 17 0 0 0), (19, .ref 19 0 0 0), (21, .ref 21 0 0 0)], [.val 1 (.int .i64), .val 2 (.int .i64), .cells 7 [.d (.pair (.slice (.agg (.pair (.int .i64) (.pair (.int .i64) (.pair (.int .i64) (.int .i64)))))) (.int .i64))], .cells 10 [.d (.pair (.slice (.agg (.pair (.int .i64) (.pair (.int .i64) (.pair (.int .i64) (.int .i64)))))) (.int .i64))], .cells 11 [.d (.pair (.int .i64) (.int .i64))], .cells 13 [.d (.pair (.int .i64) (.int .i64))], .cells 15 [.d (.pair (.int .i64) (.int .i64))], .cells 17 [.d (.pair (.int .i64) (.int .i64))], .cells 19 [.d (.pair (.int .i64) (.int .i64))], .cells 21 [.d (.pair (.int .i64) (.int .i64))]]⟩)]
/-- data: t1, t2, t23, t24, t7, t10, t11, t13, t15, t17, t19, t21; ends: ret: t6; exit 0: t1, t2, t7, t10, t11, t13, t15, t17, t19, t21 -/
noncomputable def step6_0 : Int × Int × (List (Int × Int)) × Int × ((List (Int × Int × Int × Int)) × Int) × ((List (Int × Int × Int × Int)) × Int) × (Int × Int) × (Int × Int) × (Int × Int) × (Int × Int) × (Int × Int) × (Int × Int) → Option ((Int × Int × (List (Int × Int)) × Int × ((List (Int × Int × Int × Int)) × Int) × ((List (Int × Int × Int × Int)) × Int) × (Int × Int) × (Int × Int) × (Int × Int) × (Int × Int) × (Int × Int) × (Int × Int)) ⊕ ((Bool) ⊕ (Int × Int × ((List (Int × Int × Int × Int)) × Int) × ((List (Int × Int × Int × Int)) × Int) × (Int × Int) × (Int × Int) × (Int × Int) × (Int × Int) × (Int × Int) × (Int × Int)))) := fun (t1, t2, t23, t24, t7, t10, t11, t13, t15, t17, t19, t21) =>
  bif decide (t24 < (t23.length : Int)) then
    bif inBounds t24 t23.length then
      optE (s33 ((t23.getD t24.toNat (0, 0)).1, 0, 10000000)) (fun r27 =>
        bif !r27 then
          some (.inr (.inl false))
        else
          bif inBounds t24 t23.length then
            bif inBounds t24 t23.length then
              optE (s33 ((t23.getD t24.toNat (0, 0)).2, (t23.getD t24.toNat (0, 0)).1, 10000000)) (fun r28 =>
                bif !r28 then
                  some (.inr (.inl false))
                else
                  some (.inl (t1, t2, t23, wr (t24 + 1), t7, t10, t11, t13, t15, t17, t19, t21)))
                (none)
            else
              none
          else
            none)
        (none)
    else
      none
  else
    some (.inr (.inr (t1, t2, t7, t10, t11, t13, t15, t17, t19, t21)))
theorem one6_0 : oneLoop Try.prog 6 0 = true := by kernel_rfl
theorem lp6_0 : ItemOk Try.prog (.loop 6 0 T6_0 X6_0 (loopVal step6_0)) := item_loopM md1 ext1 (U := 9) (n := 3) noSpecial mixed Gb3K14_ok one6_0 (fun x => by kernel_rfl)
noncomputable def Gb3K15 : List Ev.Item := .loop 6 0 T6_0 X6_0 (loopVal step6_0) :: Gb3K14
theorem Gb3K15_ok : ∀ q ∈ Gb3K15, ItemOk Try.prog q := items_cons lp6_0 Gb3K14_ok
@[reducible] def T6_2 : Tmpl := ⟨333, [(7, .ref 7 0 0 0)], [.val 2 (.int .i64), .own 29 271 23 (.agg (.pair (.int .i64) (.int .i64))), .own 30 278 23 (.agg (.pair (.int .i64) (.int .i64))), .val 31 (.int .i64), .cells 7 [.d (.pair (.slice (.agg (.pair (.int .i64) (.pair (.int .i64) (.pair (.int .i64) (.int .i64)))))) (.int .i64))]]⟩
@[reducible] def X6_2 : List (Ex × Tmpl) := [(.ret, ⟨333, [], [.val 6 .bool]⟩), (.exit 2, ⟨333, [], []⟩)]
/-- data: t2, t29, t30, t31, t7; ends: ret: t6; exit 2:  -/
noncomputable def step6_2 : Int × (List (Int × Int)) × (List (Int × Int)) × Int × ((List (Int × Int × Int × Int)) × Int) → Option ((Int × (List (Int × Int)) × (List (Int × Int)) × Int × ((List (Int × Int × Int × Int)) × Int)) ⊕ ((Bool) ⊕ (Unit))) := fun (t2, t29, t30, t31, t7) =>
  bif decide (t31 < 3) then
    bif inBounds t31 t30.length then
      bif inBounds t31 t29.length then
        bif (t30.getD t31.toNat (0, 0)).1 != (wr ((t29.getD t31.toNat (0, 0)).1 - t2)) then
          some (.inr (.inl false))
        else
          bif inBounds t31 t30.length then
            bif inBounds t31 t29.length then
              bif (t30.getD t31.toNat (0, 0)).2 != (wr ((t29.getD t31.toNat (0, 0)).2 + t2)) then
                some (.inr (.inl false))
              else
                bif inBounds t31 t29.length then
                  bif inBounds t31 t29.length then
                    optE (s33 (wr ((t29.getD t31.toNat (0, 0)).2 - (t29.getD t31.toNat (0, 0)).1), wr (2 * t7.2), wr ((wr (2 * t7.2)) + 1))) (fun r34 =>
                      bif !r34 then
                        some (.inr (.inl false))
                      else
                        some (.inl (t2, t29, t30, wr (t31 + 1), t7)))
                      (none)
                  else
                    none
                else
                  none
            else
              none
          else
            none
      else
        none
    else
      none
  else
    some (.inr (.inr ()))
theorem one6_2 : oneLoop Try.prog 6 2 = true := by kernel_rfl
theorem lp6_2 : ItemOk Try.prog (.loop 6 2 T6_2 X6_2 (loopVal step6_2)) := item_loopM md1 ext1 (U := 9) (n := 3) noSpecial mixed Gb3K15_ok one6_2 (fun x => by kernel_rfl)
noncomputable def Gb3K16 : List Ev.Item := .loop 6 2 T6_2 X6_2 (loopVal step6_2) :: Gb3K15
theorem Gb3K16_ok : ∀ q ∈ Gb3K16, ItemOk Try.prog q := items_cons lp6_2 Gb3K15_ok
noncomputable def s6 : (((List (Int × Int × Int × Int)) × Int) × ((List (Int × Int × Int × Int)) × Int) × (List (Int × Int × Int × Int)) × Int) × Int × Int → Option (Bool) := fun (a0, a1, a2) =>
  bif !true then
    some (false)
  else
    optE (s29 (a0.1, a0.2.1)) (fun r1 =>
      bif !r1 then
        some (true)
      else
        optE (s22 a0.2.2) (fun r2 =>
          bif !r2 then
            some (true)
          else
            optE (s30 (a0.1, a0.2.1)) (fun r3 =>
              bif r3 != 0 then
                some (true)
              else
                optE (s31 a0.2.2) (fun r4 =>
                  bif r4 != 0 then
                    some (true)
                  else
                    optE (s32 (a0.1, a0.2.1, a1)) (fun r5 =>
                      bif r5 != 0 then
                        some (true)
                      else
                        optE (s27 (a0.2.2, a1)) (fun r6 =>
                          bif r6 != 0 then
                            some (true)
                          else
                            optE (s33 (a2, 0, wr (1000 - a0.1.2))) (fun r7 =>
                              bif !r7 then
                                some (true)
                              else
                                optE (s24 a0.1) (fun r8 =>
                                  optE (s24 a0.1) (fun r9 =>
                                    optE (s24 a0.2.1) (fun r10 =>
                                      optE (s34 (r9, r10, a1)) (fun r11 =>
                                        optE (s24 a0.2.1) (fun r12 =>
                                          optE (s24 a0.1) (fun r13 =>
                                            optE (s34 (r12, r13, a1)) (fun r14 =>
                                              optE (s24 a0.1) (fun r15 =>
                                                optE (s24 a0.2.2) (fun r16 =>
                                                  optE (s34 (r15, r16, a1)) (fun r17 =>
                                                    optE (s24 a0.2.2) (fun r18 =>
                                                      optE (s24 a0.2.1) (fun r19 =>
                                                        optE (s34 (r18, r19, a1)) (fun r20 =>
                                                          optE (s24 (r8.1, wr (a0.1.2 + a2))) (fun r21 =>
                                                            optE (s24 a0.2.1) (fun r22 =>
                                                              optE (s34 (r21, r22, a1)) (fun r23 =>
                                                                optE (s24 a0.1) (fun r24 =>
                                                                  optE (s24 a0.1) (fun r25 =>
                                                                    optE (s34 (r24, r25, a1)) (fun r26 =>
                                                                      bif r11.2 != 0 then
                                                                        some (false)
                                                                      else
                                                                        bif r14.2 != 0 then
                                                                          some (false)
                                                                        else
                                                                          bif r17.2 != 0 then
                                                                            some (false)
                                                                          else
                                                                            bif r20.2 != 0 then
                                                                              some (false)
                                                                            else
                                                                              bif r23.2 != 0 then
                                                                                some (false)
                                                                              else
                                                                                bif r26.2 != 0 then
                                                                                  some (false)
                                                                                else
                                                                                  optE (loopVal step6_0 (a1, a2, [r11.1, r17.1, r20.1, r23.1, r26.1], 0, a0.1, (r8.1, wr (a0.1.2 + a2)), r11.1, r14.1, r17.1, r20.1, r23.1, r26.1)) (fun e27 =>
                                                                                    sumE e27 (fun e28 =>
                                                                                      some (e28)) (fun e29 =>
                                                                                      bif !((e29.2.2.2.2.1.1 == e29.2.2.2.2.2.1.1) && ((e29.2.2.2.2.1.2 == e29.2.2.2.2.2.1.2) && true)) then
                                                                                        some (false)
                                                                                      else
                                                                                        bif decide (e29.2.2.2.2.1.1 > (wr (e29.2.2.2.2.2.2.1.2 + e29.2.2.2.2.2.2.2.1.2))) then
                                                                                          some (false)
                                                                                        else
                                                                                          bif decide (e29.2.2.2.2.2.2.2.2.1.1 > e29.2.2.2.2.1.1) then
                                                                                            some (false)
                                                                                          else
                                                                                            bif decide (e29.2.2.2.2.2.2.2.2.1.2 < e29.2.2.2.2.1.2) then
                                                                                              some (false)
                                                                                            else
                                                                                              bif e29.2.2.2.2.2.2.2.2.2.1 != 0 then
                                                                                                some (false)
                                                                                              else
                                                                                                bif decide (e29.2.2.2.2.2.2.2.2.2.2 < (wr (2 * e29.2.2.1.2))) then
                                                                                                  some (false)
                                                                                                else
                                                                                                  bif decide (e29.2.2.2.2.2.2.2.2.2.2 > (wr (4 * e29.2.2.1.2))) then
                                                                                                    some (false)
                                                                                                  else
                                                                                                    optE (s24 e29.2.2.1) (fun r30 =>
                                                                                                      optE (s25 (r30, e29.1)) (fun r31 =>
                                                                                                        optE (s24 e29.2.2.2.1) (fun r32 =>
                                                                                                          optE (s25 (r32, e29.1)) (fun r33 =>
                                                                                                            bif r31.2 != 0 then
                                                                                                              some (false)
                                                                                                            else
                                                                                                              bif r33.2 != 0 then
                                                                                                                some (false)
                                                                                                              else
                                                                                                                optE (loopVal step6_2 (e29.2.1, [r31.1.1, r31.1.2.1, r31.1.2.2], [r33.1.1, r33.1.2.1, r33.1.2.2], 0, e29.2.2.1)) (fun e34 =>
                                                                                                                  sumE e34 (fun e35 =>
                                                                                                                    some (e35)) (fun _ =>
                                                                                                                    some (true)))
                                                                                                                  (none))
                                                                                                            (none))
                                                                                                          (none))
                                                                                                        (none))
                                                                                                      (none)))
                                                                                    (none))
                                                                      (none))
                                                                    (none))
                                                                  (none))
                                                                (none))
                                                              (none))
                                                            (none))
                                                          (none))
                                                        (none))
                                                      (none))
                                                    (none))
                                                  (none))
                                                (none))
                                              (none))
                                            (none))
                                          (none))
                                        (none))
                                      (none))
                                    (none))
                                  (none))
                              (none))
                          (none))
                      (none))
                  (none))
              (none))
          (none))
      (none)
theorem i6 : ItemOk Try.prog (.fn 6 [.d (.agg (.pair (.pair (.slice (.agg (.pair (.int .i64) (.pair (.int .i64) (.pair (.int .i64) (.int .i64)))))) (.int .i64)) (.pair (.pair (.slice (.agg (.pair (.int .i64) (.pair (.int .i64) (.pair (.int .i64) (.int .i64)))))) (.int .i64)) (.pair (.slice (.agg (.pair (.int .i64) (.pair (.int .i64) (.pair (.int .i64) (.int .i64)))))) (.int .i64))))), .d (.int .i64), .d (.int .i64)] [.d .bool] s6) := item_fnM md1 ext1 (U := 9) (n := 4) noSpecial mixed Gb3K16_ok (fun x => by kernel_rfl)
noncomputable def Gb3K17 : List Ev.Item := .fn 6 [.d (.agg (.pair (.pair (.slice (.agg (.pair (.int .i64) (.pair (.int .i64) (.pair (.int .i64) (.int .i64)))))) (.int .i64)) (.pair (.pair (.slice (.agg (.pair (.int .i64) (.pair (.int .i64) (.pair (.int .i64) (.int .i64)))))) (.int .i64)) (.pair (.slice (.agg (.pair (.int .i64) (.pair (.int .i64) (.pair (.int .i64) (.int .i64)))))) (.int .i64))))), .d (.int .i64), .d (.int .i64)] [.d .bool] s6 :: Gb3K16
theorem Gb3K17_ok : ∀ q ∈ Gb3K17, ItemOk Try.prog q := items_cons i6 Gb3K16_ok
end Go.Proofs.Ytgpfdacidgmelaa
