/- Printed by gen.py: specifications of functions. -/
import Derived.Test.YtgpfdacidgmelaaGreatGb2
set_option linter.unusedSimpArgs false
set_option maxRecDepth 100000
namespace Go.Proofs.YtgpfdacidgmelaaGreat
open Go.Ev

/-! cassegrain path.received -/
@[reducible] def T74_0c : Tmpl := ⟨26, [], [.val 1 (.clo 110 (.pair (.ptr (.pair (.slice (.agg (.pair (.int .i64) (.pair (.int .i64) (.pair (.int .i64) (.int .i64)))))) (.int .i64))) (.pair (.ptr (.int .i64)) (.pair (.ptr (.pair (.slice (.agg (.pair (.int .i64) (.pair (.int .i64) (.pair (.int .i64) (.int .i64)))))) (.int .i64))) .unit)))), .val 5 (.int .i64), .val 6 (.int .i64)]⟩
@[reducible] def X74_0c : List (Ex × Tmpl) := [(.exit 0, ⟨26, [], [.val 5 (.int .i64)]⟩)]
/-- data: f, i, j; ends: exit 0: i -/
noncomputable def step74_0c : (((List (Int × Int × Int × Int)) × Int) × Int × ((List (Int × Int × Int × Int)) × Int) × Unit) × Int × Int → Option (((((List (Int × Int × Int × Int)) × Int) × Int × ((List (Int × Int × Int × Int)) × Int) × Unit) × Int × Int) ⊕ (Int)) := fun (f, i, j) =>
  bif decide (i < j) then
    optE (s72 (f.1, f.2.1, f.2.2.1, wr (f.2.1 + (wr (shrI .u64 (IntKind.u64.wrap (wr (i + j))) 1))))) (fun r3 =>
      bif !r3 then
        some (.inl (f, wr ((wr (shrI .u64 (IntKind.u64.wrap (wr (i + j))) 1)) + 1), j))
      else
        some (.inl (f, i, wr (shrI .u64 (IntKind.u64.wrap (wr (i + j))) 1))))
      (none)
  else
    some (.inr i)
theorem one74_0c : oneLoop Tryz.prog 74 0 = true := by kernel_rfl
theorem lp74_0c : ItemOk Tryz.prog (.loop 74 0 T74_0c X74_0c (loopVal step74_0c)) := item_loopM md1 ext1 (U := 9) (n := 2) noSpecial mixed Gb2K9_ok one74_0c (fun x => by kernel_rfl)
noncomputable def Gb3K1 : List Ev.Item := .loop 74 0 T74_0c X74_0c (loopVal step74_0c) :: Gb2K9
theorem Gb3K1_ok : ∀ q ∈ Gb3K1, ItemOk Tryz.prog q := items_cons lp74_0c Gb2K9_ok
@[reducible] def T74_0d : Tmpl := ⟨26, [], [.val 1 (.clo 111 (.pair (.ptr (.pair (.slice (.agg (.pair (.int .i64) (.pair (.int .i64) (.pair (.int .i64) (.int .i64)))))) (.int .i64))) (.pair (.ptr (.int .i64)) (.pair (.ptr (.pair (.slice (.agg (.pair (.int .i64) (.pair (.int .i64) (.pair (.int .i64) (.int .i64)))))) (.int .i64))) .unit)))), .val 5 (.int .i64), .val 6 (.int .i64)]⟩
@[reducible] def X74_0d : List (Ex × Tmpl) := [(.exit 0, ⟨26, [], [.val 5 (.int .i64)]⟩)]
/-- data: f, i, j; ends: exit 0: i -/
noncomputable def step74_0d : (((List (Int × Int × Int × Int)) × Int) × Int × ((List (Int × Int × Int × Int)) × Int) × Unit) × Int × Int → Option (((((List (Int × Int × Int × Int)) × Int) × Int × ((List (Int × Int × Int × Int)) × Int) × Unit) × Int × Int) ⊕ (Int)) := fun (f, i, j) =>
  bif decide (i < j) then
    optE (s71 (f.1, f.2.1, f.2.2.1, wr (f.2.1 + (wr (shrI .u64 (IntKind.u64.wrap (wr (i + j))) 1))))) (fun r4 =>
      bif !(!r4) then
        some (.inl (f, wr ((wr (shrI .u64 (IntKind.u64.wrap (wr (i + j))) 1)) + 1), j))
      else
        some (.inl (f, i, wr (shrI .u64 (IntKind.u64.wrap (wr (i + j))) 1))))
      (none)
  else
    some (.inr i)
theorem one74_0d : oneLoop Tryz.prog 74 0 = true := by kernel_rfl
theorem lp74_0d : ItemOk Tryz.prog (.loop 74 0 T74_0d X74_0d (loopVal step74_0d)) := item_loopM md1 ext1 (U := 9) (n := 2) noSpecial mixed Gb3K1_ok one74_0d (fun x => by kernel_rfl)
noncomputable def Gb3K2 : List Ev.Item := .loop 74 0 T74_0d X74_0d (loopVal step74_0d) :: Gb3K1
theorem Gb3K2_ok : ∀ q ∈ Gb3K2, ItemOk Tryz.prog q := items_cons lp74_0d Gb3K1_ok
noncomputable def s73 : ((List (Int × Int × Int × Int)) × Int) × ((List (Int × Int × Int × Int)) × Int) × Int → Option ((Int × Int) × Int) := fun (a, b, sent) =>
  optE (s100 b) (fun r1 =>
    optE (s72 (a, sent, b, r1)) (fun r2 =>
      bif !r2 then
        some (((0, 0), 12))
      else
        optE (loopVal step74_0c ((a, sent, b, ()), 0, wr (r1 - sent))) (fun e3 =>
          optE (loopVal step74_0d ((a, sent, b, ()), 0, wr (r1 - sent))) (fun e4 =>
            some (((wr (sent + (mx 0 (wr (e4 - 1)))), wr (sent + e3)), 0)))
            (none))
          (none))
      (none))
    (none)
theorem i73 : ItemOk Tryz.prog (.fn 73 [.d (.agg (.pair (.slice (.agg (.pair (.int .i64) (.pair (.int .i64) (.pair (.int .i64) (.int .i64)))))) (.int .i64))), .d (.agg (.pair (.slice (.agg (.pair (.int .i64) (.pair (.int .i64) (.pair (.int .i64) (.int .i64)))))) (.int .i64))), .d (.int .i64)] [.d (.agg (.pair (.int .i64) (.int .i64))), .d (.int .i64)] s73) := item_fnM md1 ext1 (U := 9) (n := 4) noSpecial mixed Gb3K2_ok (fun x => by kernel_rfl)
noncomputable def Gb3K3 : List Ev.Item := .fn 73 [.d (.agg (.pair (.slice (.agg (.pair (.int .i64) (.pair (.int .i64) (.pair (.int .i64) (.int .i64)))))) (.int .i64))), .d (.agg (.pair (.slice (.agg (.pair (.int .i64) (.pair (.int .i64) (.pair (.int .i64) (.int .i64)))))) (.int .i64))), .d (.int .i64)] [.d (.agg (.pair (.int .i64) (.int .i64))), .d (.int .i64)] s73 :: Gb3K2
theorem Gb3K3_ok : ∀ q ∈ Gb3K3, ItemOk Tryz.prog q := items_cons i73 Gb3K2_ok

/-! cassegrain path.ReceivedAt -/
noncomputable def s24 : ((List (Int × Int × Int × Int)) × Int) × ((List (Int × Int × Int × Int)) × Int) × Int → Option ((Int × Int) × Int) := fun (a, b, sent) =>
  optE (s61 [a, b]) (fun r1 =>
    bif r1 != 0 then
      some (((0, 0), r1))
    else
      optE (s62 (sent, [a, b])) (fun r2 =>
        bif r2 != 0 then
          some (((0, 0), r2))
        else
          optE (s73 (a, b, sent)) (fun r3 =>
            some (r3))
            (none))
        (none))
    (none)
theorem i24 : ItemOk Tryz.prog (.fn 24 [.d (.agg (.pair (.slice (.agg (.pair (.int .i64) (.pair (.int .i64) (.pair (.int .i64) (.int .i64)))))) (.int .i64))), .d (.agg (.pair (.slice (.agg (.pair (.int .i64) (.pair (.int .i64) (.pair (.int .i64) (.int .i64)))))) (.int .i64))), .d (.int .i64)] [.d (.agg (.pair (.int .i64) (.int .i64))), .d (.int .i64)] s24) := item_fnM md1 ext1 (U := 9) (n := 4) noSpecial mixed Gb3K3_ok (fun x => by kernel_rfl)
noncomputable def Gb3K4 : List Ev.Item := .fn 24 [.d (.agg (.pair (.slice (.agg (.pair (.int .i64) (.pair (.int .i64) (.pair (.int .i64) (.int .i64)))))) (.int .i64))), .d (.agg (.pair (.slice (.agg (.pair (.int .i64) (.pair (.int .i64) (.pair (.int .i64) (.int .i64)))))) (.int .i64))), .d (.int .i64)] [.d (.agg (.pair (.int .i64) (.int .i64))), .d (.int .i64)] s24 :: Gb3K3
theorem Gb3K4_ok : ∀ q ∈ Gb3K4, ItemOk Tryz.prog q := items_cons i24 Gb3K3_ok

/-! cassegrain path.SentAt -/
@[reducible] def T74_0e : Tmpl := ⟨26, [], [.val 1 (.clo 75 (.pair (.ptr (.pair (.slice (.agg (.pair (.int .i64) (.pair (.int .i64) (.pair (.int .i64) (.int .i64)))))) (.int .i64))) (.pair (.ptr (.int .i64)) (.pair (.ptr (.pair (.slice (.agg (.pair (.int .i64) (.pair (.int .i64) (.pair (.int .i64) (.int .i64)))))) (.int .i64))) (.pair (.ptr (.int .i64)) .unit))))), .val 5 (.int .i64), .val 6 (.int .i64)]⟩
@[reducible] def X74_0e : List (Ex × Tmpl) := [(.exit 0, ⟨26, [], [.val 5 (.int .i64)]⟩)]
/-- data: f, i, j; ends: exit 0: i -/
noncomputable def step74_0e : (((List (Int × Int × Int × Int)) × Int) × Int × ((List (Int × Int × Int × Int)) × Int) × Int × Unit) × Int × Int → Option (((((List (Int × Int × Int × Int)) × Int) × Int × ((List (Int × Int × Int × Int)) × Int) × Int × Unit) × Int × Int) ⊕ (Int)) := fun (f, i, j) =>
  bif decide (i < j) then
    optE (s72 (f.1, wr (f.2.1 + (wr (shrI .u64 (IntKind.u64.wrap (wr (i + j))) 1))), f.2.2.1, f.2.2.2.1)) (fun r4 =>
      bif !(!r4) then
        some (.inl (f, wr ((wr (shrI .u64 (IntKind.u64.wrap (wr (i + j))) 1)) + 1), j))
      else
        some (.inl (f, i, wr (shrI .u64 (IntKind.u64.wrap (wr (i + j))) 1))))
      (none)
  else
    some (.inr i)
theorem one74_0e : oneLoop Tryz.prog 74 0 = true := by kernel_rfl
theorem lp74_0e : ItemOk Tryz.prog (.loop 74 0 T74_0e X74_0e (loopVal step74_0e)) := item_loopM md1 ext1 (U := 9) (n := 2) noSpecial mixed Gb3K4_ok one74_0e (fun x => by kernel_rfl)
noncomputable def Gb3K5 : List Ev.Item := .loop 74 0 T74_0e X74_0e (loopVal step74_0e) :: Gb3K4
theorem Gb3K5_ok : ∀ q ∈ Gb3K5, ItemOk Tryz.prog q := items_cons lp74_0e Gb3K4_ok
@[reducible] def T74_0f : Tmpl := ⟨26, [], [.val 1 (.clo 76 (.pair (.ptr (.pair (.slice (.agg (.pair (.int .i64) (.pair (.int .i64) (.pair (.int .i64) (.int .i64)))))) (.int .i64))) (.pair (.ptr (.int .i64)) (.pair (.ptr (.pair (.slice (.agg (.pair (.int .i64) (.pair (.int .i64) (.pair (.int .i64) (.int .i64)))))) (.int .i64))) (.pair (.ptr (.int .i64)) .unit))))), .val 5 (.int .i64), .val 6 (.int .i64)]⟩
@[reducible] def X74_0f : List (Ex × Tmpl) := [(.exit 0, ⟨26, [], [.val 5 (.int .i64)]⟩)]
/-- data: f, i, j; ends: exit 0: i -/
noncomputable def step74_0f : (((List (Int × Int × Int × Int)) × Int) × Int × ((List (Int × Int × Int × Int)) × Int) × Int × Unit) × Int × Int → Option (((((List (Int × Int × Int × Int)) × Int) × Int × ((List (Int × Int × Int × Int)) × Int) × Int × Unit) × Int × Int) ⊕ (Int)) := fun (f, i, j) =>
  bif decide (i < j) then
    optE (s71 (f.1, wr (f.2.1 + (wr (shrI .u64 (IntKind.u64.wrap (wr (i + j))) 1))), f.2.2.1, f.2.2.2.1)) (fun r5 =>
      bif !r5 then
        some (.inl (f, wr ((wr (shrI .u64 (IntKind.u64.wrap (wr (i + j))) 1)) + 1), j))
      else
        some (.inl (f, i, wr (shrI .u64 (IntKind.u64.wrap (wr (i + j))) 1))))
      (none)
  else
    some (.inr i)
theorem one74_0f : oneLoop Tryz.prog 74 0 = true := by kernel_rfl
theorem lp74_0f : ItemOk Tryz.prog (.loop 74 0 T74_0f X74_0f (loopVal step74_0f)) := item_loopM md1 ext1 (U := 9) (n := 2) noSpecial mixed Gb3K5_ok one74_0f (fun x => by kernel_rfl)
noncomputable def Gb3K6 : List Ev.Item := .loop 74 0 T74_0f X74_0f (loopVal step74_0f) :: Gb3K5
theorem Gb3K6_ok : ∀ q ∈ Gb3K6, ItemOk Tryz.prog q := items_cons lp74_0f Gb3K5_ok
noncomputable def s25 : ((List (Int × Int × Int × Int)) × Int) × ((List (Int × Int × Int × Int)) × Int) × Int → Option ((Int × Int) × Int) := fun (a, b, time) =>
  optE (s61 [a, b]) (fun r1 =>
    bif r1 != 0 then
      some (((0, 0), r1))
    else
      optE (s62 (time, [a, b])) (fun r2 =>
        bif r2 != 0 then
          some (((0, 0), r2))
        else
          bif inBounds 0 a.1.length then
            optE (s72 (a, (a.1.getD 0 (0, 0, 0, 0)).1, b, time)) (fun r3 =>
              bif !r3 then
                some (((0, 0), 12))
              else
                optE (loopVal step74_0e ((a, (a.1.getD 0 (0, 0, 0, 0)).1, b, time, ()), 0, wr ((wr (time - (a.1.getD 0 (0, 0, 0, 0)).1)) + 1))) (fun e4 =>
                  optE (loopVal step74_0f ((a, (a.1.getD 0 (0, 0, 0, 0)).1, b, time, ()), 0, wr (time - (a.1.getD 0 (0, 0, 0, 0)).1))) (fun e5 =>
                    some (((wr ((wr ((a.1.getD 0 (0, 0, 0, 0)).1 + e4)) - 1), wr ((a.1.getD 0 (0, 0, 0, 0)).1 + e5)), 0)))
                    (none))
                  (none))
              (none)
          else
            none)
        (none))
    (none)
theorem i25 : ItemOk Tryz.prog (.fn 25 [.d (.agg (.pair (.slice (.agg (.pair (.int .i64) (.pair (.int .i64) (.pair (.int .i64) (.int .i64)))))) (.int .i64))), .d (.agg (.pair (.slice (.agg (.pair (.int .i64) (.pair (.int .i64) (.pair (.int .i64) (.int .i64)))))) (.int .i64))), .d (.int .i64)] [.d (.agg (.pair (.int .i64) (.int .i64))), .d (.int .i64)] s25) := item_fnM md1 ext1 (U := 9) (n := 4) noSpecial mixed Gb3K6_ok (fun x => by kernel_rfl)
noncomputable def Gb3K7 : List Ev.Item := .fn 25 [.d (.agg (.pair (.slice (.agg (.pair (.int .i64) (.pair (.int .i64) (.pair (.int .i64) (.int .i64)))))) (.int .i64))), .d (.agg (.pair (.slice (.agg (.pair (.int .i64) (.pair (.int .i64) (.pair (.int .i64) (.int .i64)))))) (.int .i64))), .d (.int .i64)] [.d (.agg (.pair (.int .i64) (.int .i64))), .d (.int .i64)] s25 :: Gb3K6
theorem Gb3K7_ok : ∀ q ∈ Gb3K7, ItemOk Tryz.prog q := items_cons i25 Gb3K6_ok

/-! cassegrain cassegrainref01.ReceivedAt -/
@[reducible] def T26_0 : Tmpl := ⟨64, [(3, .ref 3 0 0 0), (4, .ref 4 0 0 0), (6, .ref 6 0 0 0)], [.val 2 (.int .i64), .val 8 (.int .i64), .val 9 (.int .i64), .cells 3 [.d (.pair (.slice (.agg (.pair (.int .i64) (.pair (.int .i64) (.pair (.int .i64) (.int .i64)))))) (.int .i64))], .cells 4 [.d (.pair (.slice (.agg (.pair (.int .i64) (.pair (.int .i64) (.pair (.int .i64) (.int .i64)))))) (.int .i64))], .cells 6 [.d (.pair (.int .i64) (.int .i64))]]⟩
@[reducible] def X26_0 : List (Ex × Tmpl) := [(.exit 0, ⟨64, [(3, .ref 3 0 0 0), (4, .ref 4 0 0 0), (6, .ref 6 0 0 0)], [.val 2 (.int .i64), .val 9 (.int .i64), .cells 3 [.d (.pair (.slice (.agg (.pair (.int .i64) (.pair (.int .i64) (.pair (.int .i64) (.int .i64)))))) (.int .i64))], .cells 4 [.d (.pair (.slice (.agg (.pair (.int .i64) (.pair (.int .i64) (.pair (.int .i64) (.int .i64)))))) (.int .i64))], .cells 6 [.d (.pair (.int .i64) (.int .i64))]]⟩)]
/-- data: sent, lo, hi, a, b, t6; ends: exit 0: sent, hi, a, b, t6 -/
noncomputable def step26_0 : Int × Int × Int × ((List (Int × Int × Int × Int)) × Int) × ((List (Int × Int × Int × Int)) × Int) × (Int × Int) → Option ((Int × Int × Int × ((List (Int × Int × Int × Int)) × Int) × ((List (Int × Int × Int × Int)) × Int) × (Int × Int)) ⊕ (Int × Int × ((List (Int × Int × Int × Int)) × Int) × ((List (Int × Int × Int × Int)) × Int) × (Int × Int))) := fun (sent, lo, hi, a, b, t6) =>
  bif decide (lo < hi) then
    optE (s30 (a, b, sent, wr (Int.tdiv (wr (lo + hi)) 2))) (fun r4 =>
      bif r4 then
        some (.inl (sent, lo, wr (Int.tdiv (wr (lo + hi)) 2), a, b, t6))
      else
        some (.inl (sent, wr ((wr (Int.tdiv (wr (lo + hi)) 2)) + 1), hi, a, b, t6)))
      (none)
  else
    some (.inr (sent, hi, a, b, t6))
theorem one26_0 : oneLoop Tryz.prog 26 0 = true := by kernel_rfl
theorem lp26_0 : ItemOk Tryz.prog (.loop 26 0 T26_0 X26_0 (loopVal step26_0)) := item_loopM md1 ext1 (U := 9) (n := 3) noSpecial mixed Gb3K7_ok one26_0 (fun x => by kernel_rfl)
noncomputable def Gb3K8 : List Ev.Item := .loop 26 0 T26_0 X26_0 (loopVal step26_0) :: Gb3K7
theorem Gb3K8_ok : ∀ q ∈ Gb3K8, ItemOk Tryz.prog q := items_cons lp26_0 Gb3K7_ok
@[reducible] def T26_2 : Tmpl := ⟨64, [(3, .ref 3 0 0 0), (4, .ref 4 0 0 0), (6, .ref 6 0 0 0), (11, .ref 11 0 0 0)], [.val 2 (.int .i64), .val 12 (.int .i64), .cells 3 [.d (.pair (.slice (.agg (.pair (.int .i64) (.pair (.int .i64) (.pair (.int .i64) (.int .i64)))))) (.int .i64))], .cells 4 [.d (.pair (.slice (.agg (.pair (.int .i64) (.pair (.int .i64) (.pair (.int .i64) (.int .i64)))))) (.int .i64))], .cells 6 [.d (.pair (.int .i64) (.int .i64))], .cells 11 [.d (.pair (.int .i64) (.int .i64))]]⟩
@[reducible] def X26_2 : List (Ex × Tmpl) := [(.exit 2, ⟨64, [(6, .ref 6 0 0 0), (11, .ref 11 0 0 0)], [.cells 6 [.d (.pair (.int .i64) (.int .i64))], .cells 11 [.d (.pair (.int .i64) (.int .i64))]]⟩)]
/-- data: sent, top, a, b, t6, out; ends: exit 2: t6, out -/
noncomputable def step26_2 : Int × Int × ((List (Int × Int × Int × Int)) × Int) × ((List (Int × Int × Int × Int)) × Int) × (Int × Int) × (Int × Int) → Option ((Int × Int × ((List (Int × Int × Int × Int)) × Int) × ((List (Int × Int × Int × Int)) × Int) × (Int × Int) × (Int × Int)) ⊕ ((Int × Int) × (Int × Int))) := fun (sent, top, a, b, t6, out) =>
  bif decide (out.1 < top) then
    optE (s31 (a, b, sent, wr (Int.tdiv (wr ((wr (out.1 + top)) + 1)) 2))) (fun r5 =>
      bif r5 then
        some (.inl (sent, top, a, b, t6, (wr (Int.tdiv (wr ((wr (out.1 + top)) + 1)) 2), out.2)))
      else
        some (.inl (sent, wr ((wr (Int.tdiv (wr ((wr (out.1 + top)) + 1)) 2)) - 1), a, b, t6, out)))
      (none)
  else
    some (.inr (t6, out))
theorem one26_2 : oneLoop Tryz.prog 26 2 = true := by kernel_rfl
theorem lp26_2 : ItemOk Tryz.prog (.loop 26 2 T26_2 X26_2 (loopVal step26_2)) := item_loopM md1 ext1 (U := 9) (n := 3) noSpecial mixed Gb3K8_ok one26_2 (fun x => by kernel_rfl)
noncomputable def Gb3K9 : List Ev.Item := .loop 26 2 T26_2 X26_2 (loopVal step26_2) :: Gb3K8
theorem Gb3K9_ok : ∀ q ∈ Gb3K9, ItemOk Tryz.prog q := items_cons lp26_2 Gb3K8_ok
noncomputable def s26 : ((List (Int × Int × Int × Int)) × Int) × ((List (Int × Int × Int × Int)) × Int) × Int → Option ((Int × Int) × Bool) := fun (a, b, sent) =>
  optE (s29 b) (fun r1 =>
    optE (s30 (a, b, sent, r1)) (fun r2 =>
      bif !r2 then
        some (((0, 0), false))
      else
        optE (s29 b) (fun r3 =>
          optE (loopVal step26_0 (sent, sent, r3, a, b, (0, 0))) (fun e4 =>
            optE (loopVal step26_2 (e4.1, e4.2.1, e4.2.2.1, e4.2.2.2.1, e4.2.2.2.2, (e4.1, e4.2.1))) (fun e5 =>
              some ((e5.2, true)))
              (none))
            (none))
          (none))
      (none))
    (none)
theorem i26 : ItemOk Tryz.prog (.fn 26 [.d (.agg (.pair (.slice (.agg (.pair (.int .i64) (.pair (.int .i64) (.pair (.int .i64) (.int .i64)))))) (.int .i64))), .d (.agg (.pair (.slice (.agg (.pair (.int .i64) (.pair (.int .i64) (.pair (.int .i64) (.int .i64)))))) (.int .i64))), .d (.int .i64)] [.d (.agg (.pair (.int .i64) (.int .i64))), .d .bool] s26) := item_fnM md1 ext1 (U := 9) (n := 4) noSpecial mixed Gb3K9_ok (fun x => by kernel_rfl)
noncomputable def Gb3K10 : List Ev.Item := .fn 26 [.d (.agg (.pair (.slice (.agg (.pair (.int .i64) (.pair (.int .i64) (.pair (.int .i64) (.int .i64)))))) (.int .i64))), .d (.agg (.pair (.slice (.agg (.pair (.int .i64) (.pair (.int .i64) (.pair (.int .i64) (.int .i64)))))) (.int .i64))), .d (.int .i64)] [.d (.agg (.pair (.int .i64) (.int .i64))), .d .bool] s26 :: Gb3K9
theorem Gb3K10_ok : ∀ q ∈ Gb3K10, ItemOk Tryz.prog q := items_cons i26 Gb3K9_ok

/-! cassegrain cassegrainref01.SentAt -/
@[reducible] def T27_0 : Tmpl := ⟨64, [(3, .ref 3 0 0 0), (4, .ref 4 0 0 0), (6, .ref 6 0 0 0)], [.val 2 (.int .i64), .val 8 (.int .i64), .val 9 (.int .i64), .cells 3 [.d (.pair (.slice (.agg (.pair (.int .i64) (.pair (.int .i64) (.pair (.int .i64) (.int .i64)))))) (.int .i64))], .cells 4 [.d (.pair (.slice (.agg (.pair (.int .i64) (.pair (.int .i64) (.pair (.int .i64) (.int .i64)))))) (.int .i64))], .cells 6 [.d (.pair (.int .i64) (.int .i64))]]⟩
@[reducible] def X27_0 : List (Ex × Tmpl) := [(.exit 0, ⟨64, [(3, .ref 3 0 0 0), (4, .ref 4 0 0 0), (6, .ref 6 0 0 0)], [.val 2 (.int .i64), .val 8 (.int .i64), .cells 3 [.d (.pair (.slice (.agg (.pair (.int .i64) (.pair (.int .i64) (.pair (.int .i64) (.int .i64)))))) (.int .i64))], .cells 4 [.d (.pair (.slice (.agg (.pair (.int .i64) (.pair (.int .i64) (.pair (.int .i64) (.int .i64)))))) (.int .i64))], .cells 6 [.d (.pair (.int .i64) (.int .i64))]]⟩)]
/-- data: received, lo, top, a, b, t6; ends: exit 0: received, lo, a, b, t6 -/
noncomputable def step27_0 : Int × Int × Int × ((List (Int × Int × Int × Int)) × Int) × ((List (Int × Int × Int × Int)) × Int) × (Int × Int) → Option ((Int × Int × Int × ((List (Int × Int × Int × Int)) × Int) × ((List (Int × Int × Int × Int)) × Int) × (Int × Int)) ⊕ (Int × Int × ((List (Int × Int × Int × Int)) × Int) × ((List (Int × Int × Int × Int)) × Int) × (Int × Int))) := fun (received, lo, top, a, b, t6) =>
  bif decide (lo < top) then
    optE (s30 (a, b, wr (Int.tdiv (wr ((wr (lo + top)) + 1)) 2), received)) (fun r4 =>
      bif r4 then
        some (.inl (received, wr (Int.tdiv (wr ((wr (lo + top)) + 1)) 2), top, a, b, t6))
      else
        some (.inl (received, lo, wr ((wr (Int.tdiv (wr ((wr (lo + top)) + 1)) 2)) - 1), a, b, t6)))
      (none)
  else
    some (.inr (received, lo, a, b, t6))
theorem one27_0 : oneLoop Tryz.prog 27 0 = true := by kernel_rfl
theorem lp27_0 : ItemOk Tryz.prog (.loop 27 0 T27_0 X27_0 (loopVal step27_0)) := item_loopM md1 ext1 (U := 9) (n := 3) noSpecial mixed Gb3K10_ok one27_0 (fun x => by kernel_rfl)
noncomputable def Gb3K11 : List Ev.Item := .loop 27 0 T27_0 X27_0 (loopVal step27_0) :: Gb3K10
theorem Gb3K11_ok : ∀ q ∈ Gb3K11, ItemOk Tryz.prog q := items_cons lp27_0 Gb3K10_ok
@[reducible] def T27_2 : Tmpl := ⟨64, [(3, .ref 3 0 0 0), (4, .ref 4 0 0 0), (6, .ref 6 0 0 0), (11, .ref 11 0 0 0)], [.val 2 (.int .i64), .val 12 (.int .i64), .cells 3 [.d (.pair (.slice (.agg (.pair (.int .i64) (.pair (.int .i64) (.pair (.int .i64) (.int .i64)))))) (.int .i64))], .cells 4 [.d (.pair (.slice (.agg (.pair (.int .i64) (.pair (.int .i64) (.pair (.int .i64) (.int .i64)))))) (.int .i64))], .cells 6 [.d (.pair (.int .i64) (.int .i64))], .cells 11 [.d (.pair (.int .i64) (.int .i64))]]⟩
@[reducible] def X27_2 : List (Ex × Tmpl) := [(.exit 2, ⟨64, [(6, .ref 6 0 0 0), (11, .ref 11 0 0 0)], [.cells 6 [.d (.pair (.int .i64) (.int .i64))], .cells 11 [.d (.pair (.int .i64) (.int .i64))]]⟩)]
/-- data: received, from0, a, b, t6, out; ends: exit 2: t6, out -/
noncomputable def step27_2 : Int × Int × ((List (Int × Int × Int × Int)) × Int) × ((List (Int × Int × Int × Int)) × Int) × (Int × Int) × (Int × Int) → Option ((Int × Int × ((List (Int × Int × Int × Int)) × Int) × ((List (Int × Int × Int × Int)) × Int) × (Int × Int) × (Int × Int)) ⊕ ((Int × Int) × (Int × Int))) := fun (received, from0, a, b, t6, out) =>
  bif decide (from0 < out.2) then
    optE (s31 (a, b, wr (Int.tdiv (wr (from0 + out.2)) 2), received)) (fun r5 =>
      bif r5 then
        some (.inl (received, from0, a, b, t6, (out.1, wr (Int.tdiv (wr (from0 + out.2)) 2))))
      else
        some (.inl (received, wr ((wr (Int.tdiv (wr (from0 + out.2)) 2)) + 1), a, b, t6, out)))
      (none)
  else
    some (.inr (t6, out))
theorem one27_2 : oneLoop Tryz.prog 27 2 = true := by kernel_rfl
theorem lp27_2 : ItemOk Tryz.prog (.loop 27 2 T27_2 X27_2 (loopVal step27_2)) := item_loopM md1 ext1 (U := 9) (n := 3) noSpecial mixed Gb3K11_ok one27_2 (fun x => by kernel_rfl)
noncomputable def Gb3K12 : List Ev.Item := .loop 27 2 T27_2 X27_2 (loopVal step27_2) :: Gb3K11
theorem Gb3K12_ok : ∀ q ∈ Gb3K12, ItemOk Tryz.prog q := items_cons lp27_2 Gb3K11_ok
noncomputable def s27 : ((List (Int × Int × Int × Int)) × Int) × ((List (Int × Int × Int × Int)) × Int) × Int → Option ((Int × Int) × Bool) := fun (a, b, received) =>
  optE (s32 a) (fun r1 =>
    optE (s30 (a, b, r1, received)) (fun r2 =>
      bif !r2 then
        some (((0, 0), false))
      else
        optE (s32 a) (fun r3 =>
          optE (loopVal step27_0 (received, r3, received, a, b, (0, 0))) (fun e4 =>
            optE (loopVal step27_2 (e4.1, e4.2.1, e4.2.2.1, e4.2.2.2.1, e4.2.2.2.2, (e4.2.1, e4.1))) (fun e5 =>
              some ((e5.2, true)))
              (none))
            (none))
          (none))
      (none))
    (none)
theorem i27 : ItemOk Tryz.prog (.fn 27 [.d (.agg (.pair (.slice (.agg (.pair (.int .i64) (.pair (.int .i64) (.pair (.int .i64) (.int .i64)))))) (.int .i64))), .d (.agg (.pair (.slice (.agg (.pair (.int .i64) (.pair (.int .i64) (.pair (.int .i64) (.int .i64)))))) (.int .i64))), .d (.int .i64)] [.d (.agg (.pair (.int .i64) (.int .i64))), .d .bool] s27) := item_fnM md1 ext1 (U := 9) (n := 4) noSpecial mixed Gb3K12_ok (fun x => by kernel_rfl)
noncomputable def Gb3K13 : List Ev.Item := .fn 27 [.d (.agg (.pair (.slice (.agg (.pair (.int .i64) (.pair (.int .i64) (.pair (.int .i64) (.int .i64)))))) (.int .i64))), .d (.agg (.pair (.slice (.agg (.pair (.int .i64) (.pair (.int .i64) (.pair (.int .i64) (.int .i64)))))) (.int .i64))), .d (.int .i64)] [.d (.agg (.pair (.int .i64) (.int .i64))), .d .bool] s27 :: Gb3K12
theorem Gb3K13_ok : ∀ q ∈ Gb3K13, ItemOk Tryz.prog q := items_cons i27 Gb3K12_ok

/-! cassegrain cassegrainlaw01.PathReceived -/
noncomputable def s6 : ((List (Int × Int × Int × Int)) × Int) × ((List (Int × Int × Int × Int)) × Int) × Int → Option (Bool) := fun (a0, a1, a2) =>
  bif !true then
    some (false)
  else
    optE (s12 (a0, a1)) (fun r1 =>
      bif !r1 then
        some (true)
      else
        optE (s14 a0) (fun r2 =>
          optE (s14 a1) (fun r3 =>
            optE (s24 (r2, r3, a2)) (fun r4 =>
              optE (s14 a0) (fun r5 =>
                optE (s14 a1) (fun r6 =>
                  optE (s25 (r5, r6, a2)) (fun r7 =>
                    optE (s16 (a0, a1)) (fun r8 =>
                      bif r8 == 0 then
                        optE (s17 (a0, a1, a2)) (fun r9 =>
                          bif r9 != 0 then
                            bif r4.2 == r9 then
                              bif r7.2 == r9 then
                                bif (r4.1.1 == 0) && ((r4.1.2 == 0) && true) then
                                  some ((r7.1.1 == 0) && ((r7.1.2 == 0) && true))
                                else
                                  some (false)
                              else
                                some (false)
                            else
                              some (false)
                          else
                            optE (s26 (a0, a1, a2)) (fun r10 =>
                              bif r10.2 then
                                bif r4.2 != 0 then
                                  some (false)
                                else
                                  bif !((r4.1.1 == r10.1.1) && ((r4.1.2 == r10.1.2) && true)) then
                                    some (false)
                                  else
                                    bif !r10.2 then
                                      bif r4.2 != 12 then
                                        some (false)
                                      else
                                        bif !((r4.1.1 == 0) && ((r4.1.2 == 0) && true)) then
                                          some (false)
                                        else
                                          optE (s27 (a0, a1, a2)) (fun r11 =>
                                            bif r11.2 then
                                              bif r7.2 == 0 then
                                                bif (r7.1.1 == r11.1.1) && ((r7.1.2 == r11.1.2) && true) then
                                                  some (true)
                                                else
                                                  bif !r11.2 then
                                                    bif r7.2 == 12 then
                                                      some ((r7.1.1 == 0) && ((r7.1.2 == 0) && true))
                                                    else
                                                      some (false)
                                                  else
                                                    some (false)
                                              else
                                                bif !r11.2 then
                                                  bif r7.2 == 12 then
                                                    some ((r7.1.1 == 0) && ((r7.1.2 == 0) && true))
                                                  else
                                                    some (false)
                                                else
                                                  some (false)
                                            else
                                              bif !r11.2 then
                                                bif r7.2 == 12 then
                                                  some ((r7.1.1 == 0) && ((r7.1.2 == 0) && true))
                                                else
                                                  some (false)
                                              else
                                                some (false))
                                            (none)
                                    else
                                      optE (s27 (a0, a1, a2)) (fun r12 =>
                                        bif r12.2 then
                                          bif r7.2 == 0 then
                                            bif (r7.1.1 == r12.1.1) && ((r7.1.2 == r12.1.2) && true) then
                                              some (true)
                                            else
                                              bif !r12.2 then
                                                bif r7.2 == 12 then
                                                  some ((r7.1.1 == 0) && ((r7.1.2 == 0) && true))
                                                else
                                                  some (false)
                                              else
                                                some (false)
                                          else
                                            bif !r12.2 then
                                              bif r7.2 == 12 then
                                                some ((r7.1.1 == 0) && ((r7.1.2 == 0) && true))
                                              else
                                                some (false)
                                            else
                                              some (false)
                                        else
                                          bif !r12.2 then
                                            bif r7.2 == 12 then
                                              some ((r7.1.1 == 0) && ((r7.1.2 == 0) && true))
                                            else
                                              some (false)
                                          else
                                            some (false))
                                        (none)
                              else
                                bif !r10.2 then
                                  bif r4.2 != 12 then
                                    some (false)
                                  else
                                    bif !((r4.1.1 == 0) && ((r4.1.2 == 0) && true)) then
                                      some (false)
                                    else
                                      optE (s27 (a0, a1, a2)) (fun r13 =>
                                        bif r13.2 then
                                          bif r7.2 == 0 then
                                            bif (r7.1.1 == r13.1.1) && ((r7.1.2 == r13.1.2) && true) then
                                              some (true)
                                            else
                                              bif !r13.2 then
                                                bif r7.2 == 12 then
                                                  some ((r7.1.1 == 0) && ((r7.1.2 == 0) && true))
                                                else
                                                  some (false)
                                              else
                                                some (false)
                                          else
                                            bif !r13.2 then
                                              bif r7.2 == 12 then
                                                some ((r7.1.1 == 0) && ((r7.1.2 == 0) && true))
                                              else
                                                some (false)
                                            else
                                              some (false)
                                        else
                                          bif !r13.2 then
                                            bif r7.2 == 12 then
                                              some ((r7.1.1 == 0) && ((r7.1.2 == 0) && true))
                                            else
                                              some (false)
                                          else
                                            some (false))
                                        (none)
                                else
                                  optE (s27 (a0, a1, a2)) (fun r14 =>
                                    bif r14.2 then
                                      bif r7.2 == 0 then
                                        bif (r7.1.1 == r14.1.1) && ((r7.1.2 == r14.1.2) && true) then
                                          some (true)
                                        else
                                          bif !r14.2 then
                                            bif r7.2 == 12 then
                                              some ((r7.1.1 == 0) && ((r7.1.2 == 0) && true))
                                            else
                                              some (false)
                                          else
                                            some (false)
                                      else
                                        bif !r14.2 then
                                          bif r7.2 == 12 then
                                            some ((r7.1.1 == 0) && ((r7.1.2 == 0) && true))
                                          else
                                            some (false)
                                        else
                                          some (false)
                                    else
                                      bif !r14.2 then
                                        bif r7.2 == 12 then
                                          some ((r7.1.1 == 0) && ((r7.1.2 == 0) && true))
                                        else
                                          some (false)
                                      else
                                        some (false))
                                    (none))
                              (none))
                          (none)
                      else
                        bif r8 != 0 then
                          bif r4.2 == r8 then
                            bif r7.2 == r8 then
                              bif (r4.1.1 == 0) && ((r4.1.2 == 0) && true) then
                                some ((r7.1.1 == 0) && ((r7.1.2 == 0) && true))
                              else
                                some (false)
                            else
                              some (false)
                          else
                            some (false)
                        else
                          optE (s26 (a0, a1, a2)) (fun r15 =>
                            bif r15.2 then
                              bif r4.2 != 0 then
                                some (false)
                              else
                                bif !((r4.1.1 == r15.1.1) && ((r4.1.2 == r15.1.2) && true)) then
                                  some (false)
                                else
                                  bif !r15.2 then
                                    bif r4.2 != 12 then
                                      some (false)
                                    else
                                      bif !((r4.1.1 == 0) && ((r4.1.2 == 0) && true)) then
                                        some (false)
                                      else
                                        optE (s27 (a0, a1, a2)) (fun r16 =>
                                          bif r16.2 then
                                            bif r7.2 == 0 then
                                              bif (r7.1.1 == r16.1.1) && ((r7.1.2 == r16.1.2) && true) then
                                                some (true)
                                              else
                                                bif !r16.2 then
                                                  bif r7.2 == 12 then
                                                    some ((r7.1.1 == 0) && ((r7.1.2 == 0) && true))
                                                  else
                                                    some (false)
                                                else
                                                  some (false)
                                            else
                                              bif !r16.2 then
                                                bif r7.2 == 12 then
                                                  some ((r7.1.1 == 0) && ((r7.1.2 == 0) && true))
                                                else
                                                  some (false)
                                              else
                                                some (false)
                                          else
                                            bif !r16.2 then
                                              bif r7.2 == 12 then
                                                some ((r7.1.1 == 0) && ((r7.1.2 == 0) && true))
                                              else
                                                some (false)
                                            else
                                              some (false))
                                          (none)
                                  else
                                    optE (s27 (a0, a1, a2)) (fun r17 =>
                                      bif r17.2 then
                                        bif r7.2 == 0 then
                                          bif (r7.1.1 == r17.1.1) && ((r7.1.2 == r17.1.2) && true) then
                                            some (true)
                                          else
                                            bif !r17.2 then
                                              bif r7.2 == 12 then
                                                some ((r7.1.1 == 0) && ((r7.1.2 == 0) && true))
                                              else
                                                some (false)
                                            else
                                              some (false)
                                        else
                                          bif !r17.2 then
                                            bif r7.2 == 12 then
                                              some ((r7.1.1 == 0) && ((r7.1.2 == 0) && true))
                                            else
                                              some (false)
                                          else
                                            some (false)
                                      else
                                        bif !r17.2 then
                                          bif r7.2 == 12 then
                                            some ((r7.1.1 == 0) && ((r7.1.2 == 0) && true))
                                          else
                                            some (false)
                                        else
                                          some (false))
                                      (none)
                            else
                              bif !r15.2 then
                                bif r4.2 != 12 then
                                  some (false)
                                else
                                  bif !((r4.1.1 == 0) && ((r4.1.2 == 0) && true)) then
                                    some (false)
                                  else
                                    optE (s27 (a0, a1, a2)) (fun r18 =>
                                      bif r18.2 then
                                        bif r7.2 == 0 then
                                          bif (r7.1.1 == r18.1.1) && ((r7.1.2 == r18.1.2) && true) then
                                            some (true)
                                          else
                                            bif !r18.2 then
                                              bif r7.2 == 12 then
                                                some ((r7.1.1 == 0) && ((r7.1.2 == 0) && true))
                                              else
                                                some (false)
                                            else
                                              some (false)
                                        else
                                          bif !r18.2 then
                                            bif r7.2 == 12 then
                                              some ((r7.1.1 == 0) && ((r7.1.2 == 0) && true))
                                            else
                                              some (false)
                                          else
                                            some (false)
                                      else
                                        bif !r18.2 then
                                          bif r7.2 == 12 then
                                            some ((r7.1.1 == 0) && ((r7.1.2 == 0) && true))
                                          else
                                            some (false)
                                        else
                                          some (false))
                                      (none)
                              else
                                optE (s27 (a0, a1, a2)) (fun r19 =>
                                  bif r19.2 then
                                    bif r7.2 == 0 then
                                      bif (r7.1.1 == r19.1.1) && ((r7.1.2 == r19.1.2) && true) then
                                        some (true)
                                      else
                                        bif !r19.2 then
                                          bif r7.2 == 12 then
                                            some ((r7.1.1 == 0) && ((r7.1.2 == 0) && true))
                                          else
                                            some (false)
                                        else
                                          some (false)
                                    else
                                      bif !r19.2 then
                                        bif r7.2 == 12 then
                                          some ((r7.1.1 == 0) && ((r7.1.2 == 0) && true))
                                        else
                                          some (false)
                                      else
                                        some (false)
                                  else
                                    bif !r19.2 then
                                      bif r7.2 == 12 then
                                        some ((r7.1.1 == 0) && ((r7.1.2 == 0) && true))
                                      else
                                        some (false)
                                    else
                                      some (false))
                                  (none))
                            (none))
                      (none))
                    (none))
                  (none))
                (none))
              (none))
            (none))
          (none))
      (none)
theorem i6 : ItemOk Tryz.prog (.fn 6 [.d (.agg (.pair (.slice (.agg (.pair (.int .i64) (.pair (.int .i64) (.pair (.int .i64) (.int .i64)))))) (.int .i64))), .d (.agg (.pair (.slice (.agg (.pair (.int .i64) (.pair (.int .i64) (.pair (.int .i64) (.int .i64)))))) (.int .i64))), .d (.int .i64)] [.d .bool] s6) := item_fnM md1 ext1 (U := 9) (n := 4) noSpecial mixed Gb3K13_ok (fun x => by kernel_rfl)
noncomputable def Gb3K14 : List Ev.Item := .fn 6 [.d (.agg (.pair (.slice (.agg (.pair (.int .i64) (.pair (.int .i64) (.pair (.int .i64) (.int .i64)))))) (.int .i64))), .d (.agg (.pair (.slice (.agg (.pair (.int .i64) (.pair (.int .i64) (.pair (.int .i64) (.int .i64)))))) (.int .i64))), .d (.int .i64)] [.d .bool] s6 :: Gb3K13
theorem Gb3K14_ok : ∀ q ∈ Gb3K14, ItemOk Tryz.prog q := items_cons i6 Gb3K13_ok
end Go.Proofs.YtgpfdacidgmelaaGreat
