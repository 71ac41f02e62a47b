/- Printed by gen.py: specifications of functions. -/
import Derived.Test.YtinkhmfciealkaaGa20
set_option linter.unusedSimpArgs false
set_option maxRecDepth 100000
namespace Go.Proofs.Ytinkhmfciealkaa
open Go.Ev

/-! cassegrain cassegrainref02.Counters -/
@[reducible] def T73_0 : Tmpl := ⟨36, [], [.val 0 (.slice (.agg (.pair (.int .i64) (.pair (.int .i64) (.pair (.pair (.int .i64) (.int .i64)) (.pair (.pair (.int .i64) (.int .i64)) (.pair (.pair (.int .i64) (.int .i64)) (.pair (.pair (.int .i64) (.int .i64)) (.pair (.pair (.int .i64) (.int .i64)) (.pair (.pair (.int .i64) (.int .i64)) (.pair (.pair (.int .i64) (.int .i64)) (.pair (.int .i64) (.int .i64))))))))))))), .own 3 20 3 (.int .i64), .val 4 (.int .i64)]⟩
@[reducible] def X73_0 : List (Ex × Tmpl) := [(.exit 0, ⟨36, [], [.own 3 34 3 (.int .i64)]⟩)]
/-- data: l, out, i; ends: exit 0: out -/
noncomputable def step73_0 : (List Pkt) × (List Int) × Int → Option (((List Pkt) × (List Int) × Int) ⊕ (List Int)) := fun (l, out, i) =>
  bif decide (i < (l.length : Int)) then
    bif i == 0 then
      bif inBounds 0 l.length then
        bif room 8 (out.length + 1) then
          some (.inl (l, out ++ [wr ((l.getD 0 pkt0).1 + 1024)], wr (i + 1)))
        else
          none
      else
        none
    else
      bif inBounds (wr (i - 1)) out.length then
        bif inBounds i l.length then
          optE (p22 (out.getD (wr (i - 1)).toNat 0, (l.getD i.toNat pkt0).1)) (fun r1 =>
            bif room 8 (out.length + 1) then
              some (.inl (l, out ++ [r1], wr (i + 1)))
            else
              none)
            (none)
        else
          none
      else
        none
  else
    some (.inr out)
theorem one73_0 : oneLoop Try.prog 73 0 = true := by kernel_rfl
theorem lp73_0 : ItemOk Try.prog (.loop 73 0 T73_0 X73_0 (loopVal step73_0)) := item_loop (U := 9) (n := 3) noSpecial mixed Ga20K11_ok one73_0 (fun x => by kernel_rfl)
noncomputable def Ga21K1 : List Ev.Item := .loop 73 0 T73_0 X73_0 (loopVal step73_0) :: Ga20K11
theorem Ga21K1_ok : ∀ q ∈ Ga21K1, ItemOk Try.prog q := items_cons lp73_0 Ga20K11_ok
noncomputable def s73 : List Pkt → Option (List Int) := fun l =>
  optE (loopVal step73_0 (l, [], 0)) (fun e1 =>
    some (e1))
    (none)
theorem i73 : ItemOk Try.prog (.fn 73 [.d (.slice (.agg (.pair (.int .i64) (.pair (.int .i64) (.pair (.pair (.int .i64) (.int .i64)) (.pair (.pair (.int .i64) (.int .i64)) (.pair (.pair (.int .i64) (.int .i64)) (.pair (.pair (.int .i64) (.int .i64)) (.pair (.pair (.int .i64) (.int .i64)) (.pair (.pair (.int .i64) (.int .i64)) (.pair (.pair (.int .i64) (.int .i64)) (.pair (.int .i64) (.int .i64)))))))))))))] [.own 3 (.int .i64)] s73) := item_fn (U := 9) (n := 4) noSpecial mixed Ga21K1_ok (fun x => by kernel_rfl)
noncomputable def Ga21K2 : List Ev.Item := .fn 73 [.d (.slice (.agg (.pair (.int .i64) (.pair (.int .i64) (.pair (.pair (.int .i64) (.int .i64)) (.pair (.pair (.int .i64) (.int .i64)) (.pair (.pair (.int .i64) (.int .i64)) (.pair (.pair (.int .i64) (.int .i64)) (.pair (.pair (.int .i64) (.int .i64)) (.pair (.pair (.int .i64) (.int .i64)) (.pair (.pair (.int .i64) (.int .i64)) (.pair (.int .i64) (.int .i64)))))))))))))] [.own 3 (.int .i64)] s73 :: Ga21K1
theorem Ga21K2_ok : ∀ q ∈ Ga21K2, ItemOk Try.prog q := items_cons i73 Ga21K1_ok

/-! cassegrain cassegrainref02.ends -/
@[reducible] def T123_0 : Tmpl := ⟨33, [], [.val 0 (.slice (.int .i64)), .val 4 (.int .i64), .val 5 (.int .i64), .val 6 (.int .i64)]⟩
@[reducible] def X123_0 : List (Ex × Tmpl) := [(.exit 0, ⟨33, [], [.val 4 (.int .i64), .val 5 (.int .i64)]⟩)]
/-- data: l, lo, hi, i; ends: exit 0: lo, hi -/
noncomputable def step123_0 : (List Int) × Int × Int × Int → Option (((List Int) × Int × Int × Int) ⊕ (Int × Int)) := fun (l, lo, hi, i) =>
  bif decide (i < (l.length : Int)) then
    bif inBounds i l.length then
      bif inBounds i l.length then
        some (.inl (l, mn lo (l.getD i.toNat 0), mx hi (l.getD i.toNat 0), wr (i + 1)))
      else
        none
    else
      none
  else
    some (.inr (lo, hi))
theorem one123_0 : oneLoop Try.prog 123 0 = true := by kernel_rfl
theorem lp123_0 : ItemOk Try.prog (.loop 123 0 T123_0 X123_0 (loopVal step123_0)) := item_loop (U := 9) (n := 3) noSpecial mixed Ga21K2_ok one123_0 (fun x => by kernel_rfl)
noncomputable def Ga21K3 : List Ev.Item := .loop 123 0 T123_0 X123_0 (loopVal step123_0) :: Ga21K2
theorem Ga21K3_ok : ∀ q ∈ Ga21K3, ItemOk Try.prog q := items_cons lp123_0 Ga21K2_ok
noncomputable def s123 : List Int → Option (Int × Int) := fun l =>
  bif inBounds 0 l.length then
    bif inBounds 0 l.length then
      optE (loopVal step123_0 (l, l.getD 0 0, l.getD 0 0, 0)) (fun e1 =>
        some (e1))
        (none)
    else
      none
  else
    none
theorem i123 : ItemOk Try.prog (.fn 123 [.d (.slice (.int .i64))] [.d (.int .i64), .d (.int .i64)] s123) := item_fn (U := 9) (n := 4) noSpecial mixed Ga21K3_ok (fun x => by kernel_rfl)
noncomputable def Ga21K4 : List Ev.Item := .fn 123 [.d (.slice (.int .i64))] [.d (.int .i64), .d (.int .i64)] s123 :: Ga21K3
theorem Ga21K4_ok : ∀ q ∈ Ga21K4, ItemOk Try.prog q := items_cons i123 Ga21K3_ok

/-! cassegrain cassegrainref02.earlier -/
@[reducible] def T124_0 : Tmpl := ⟨22, [], [.val 0 (.slice (.int .i64)), .val 1 (.int .i64), .val 5 (.int .i64)]⟩
@[reducible] def X124_0 : List (Ex × Tmpl) := [(.ret, ⟨22, [], [.val 4 (.int .i64)]⟩), (.exit 0, ⟨22, [], [.val 1 (.int .i64)]⟩)]
/-- data: counters, at0, i; ends: ret: t4; exit 0: at0 -/
noncomputable def step124_0 : (List Int) × Int × Int → Option (((List Int) × Int × Int) ⊕ ((Int) ⊕ (Int))) := fun (counters, at0, i) =>
  bif decide (i < at0) then
    bif inBounds i counters.length then
      bif inBounds at0 counters.length then
        bif (counters.getD i.toNat 0) == (counters.getD at0.toNat 0) then
          some (.inr (.inl i))
        else
          some (.inl (counters, at0, wr (i + 1)))
      else
        none
    else
      none
  else
    some (.inr (.inr at0))
theorem one124_0 : oneLoop Try.prog 124 0 = true := by kernel_rfl
theorem lp124_0 : ItemOk Try.prog (.loop 124 0 T124_0 X124_0 (loopVal step124_0)) := item_loop (U := 9) (n := 3) noSpecial mixed Ga21K4_ok one124_0 (fun x => by kernel_rfl)
noncomputable def Ga21K5 : List Ev.Item := .loop 124 0 T124_0 X124_0 (loopVal step124_0) :: Ga21K4
theorem Ga21K5_ok : ∀ q ∈ Ga21K5, ItemOk Try.prog q := items_cons lp124_0 Ga21K4_ok
noncomputable def s124 : (List Int) × Int → Option (Int) := fun (counters, at0) =>
  optE (loopVal step124_0 (counters, at0, 0)) (fun e1 =>
    sumE e1 (fun e2 =>
      some (e2)) (fun e3 =>
      some (e3)))
    (none)
theorem i124 : ItemOk Try.prog (.fn 124 [.d (.slice (.int .i64)), .d (.int .i64)] [.d (.int .i64)] s124) := item_fn (U := 9) (n := 4) noSpecial mixed Ga21K5_ok (fun x => by kernel_rfl)
noncomputable def Ga21K6 : List Ev.Item := .fn 124 [.d (.slice (.int .i64)), .d (.int .i64)] [.d (.int .i64)] s124 :: Ga21K5
theorem Ga21K6_ok : ∀ q ∈ Ga21K6, ItemOk Try.prog q := items_cons i124 Ga21K5_ok

/-! cassegrain cassegrainref02.PacketsErr -/
@[reducible] def T68_0 : Tmpl := ⟨57, [], [.val 0 (.slice (.agg (.pair (.int .i64) (.pair (.int .i64) (.pair (.pair (.int .i64) (.int .i64)) (.pair (.pair (.int .i64) (.int .i64)) (.pair (.pair (.int .i64) (.int .i64)) (.pair (.pair (.int .i64) (.int .i64)) (.pair (.pair (.int .i64) (.int .i64)) (.pair (.pair (.int .i64) (.int .i64)) (.pair (.pair (.int .i64) (.int .i64)) (.pair (.int .i64) (.int .i64))))))))))))), .val 3 (.int .i64)]⟩
@[reducible] def X68_0 : List (Ex × Tmpl) := [(.ret, ⟨57, [], [.val 2 (.int .i64)]⟩), (.exit 0, ⟨57, [], [.val 0 (.slice (.agg (.pair (.int .i64) (.pair (.int .i64) (.pair (.pair (.int .i64) (.int .i64)) (.pair (.pair (.int .i64) (.int .i64)) (.pair (.pair (.int .i64) (.int .i64)) (.pair (.pair (.int .i64) (.int .i64)) (.pair (.pair (.int .i64) (.int .i64)) (.pair (.pair (.int .i64) (.int .i64)) (.pair (.pair (.int .i64) (.int .i64)) (.pair (.int .i64) (.int .i64)))))))))))))]⟩)]
/-- data: l, i; ends: ret: t2; exit 0: l -/
noncomputable def step68_0 : (List Pkt) × Int → Option (((List Pkt) × Int) ⊕ ((Int) ⊕ (List Pkt))) := fun (l, i) =>
  bif decide (i < (l.length : Int)) then
    bif inBounds i l.length then
      bif (unl (okPkt (l.getD i.toNat pkt0)) 2) != 0 then
        some (.inr (.inl (unl (okPkt (l.getD i.toNat pkt0)) 2)))
      else
        some (.inl (l, wr (i + 1)))
    else
      none
  else
    some (.inr (.inr l))
theorem one68_0 : oneLoop Try.prog 68 0 = true := by kernel_rfl
theorem lp68_0 : ItemOk Try.prog (.loop 68 0 T68_0 X68_0 (loopVal step68_0)) := item_loop (U := 9) (n := 3) noSpecial mixed Ga21K6_ok one68_0 (fun x => by kernel_rfl)
noncomputable def Ga21K7 : List Ev.Item := .loop 68 0 T68_0 X68_0 (loopVal step68_0) :: Ga21K6
theorem Ga21K7_ok : ∀ q ∈ Ga21K7, ItemOk Try.prog q := items_cons lp68_0 Ga21K6_ok
@[reducible] def T68_2 : Tmpl := ⟨57, [], [.val 0 (.slice (.agg (.pair (.int .i64) (.pair (.int .i64) (.pair (.pair (.int .i64) (.int .i64)) (.pair (.pair (.int .i64) (.int .i64)) (.pair (.pair (.int .i64) (.int .i64)) (.pair (.pair (.int .i64) (.int .i64)) (.pair (.pair (.int .i64) (.int .i64)) (.pair (.pair (.int .i64) (.int .i64)) (.pair (.pair (.int .i64) (.int .i64)) (.pair (.int .i64) (.int .i64))))))))))))), .own 5 30 3 (.int .i64), .val 8 (.int .i64)]⟩
@[reducible] def X68_2 : List (Ex × Tmpl) := [(.ret, ⟨57, [], [.val 2 (.int .i64)]⟩), (.exit 2, ⟨57, [], []⟩)]
/-- data: l, c, i; ends: ret: t2; exit 2:  -/
noncomputable def step68_2 : (List Pkt) × (List Int) × Int → Option (((List Pkt) × (List Int) × Int) ⊕ ((Int) ⊕ (Unit))) := fun (l, c, i) =>
  bif decide (i < (l.length : Int)) then
    optE (s124 (c, i)) (fun r6 =>
      bif inBounds r6 l.length then
        bif inBounds i l.length then
          bif !(pktEq (l.getD r6.toNat pkt0) (l.getD i.toNat pkt0)) then
            some (.inr (.inl 13))
          else
            some (.inl (l, c, wr (i + 1)))
        else
          none
      else
        none)
      (none)
  else
    some (.inr (.inr ()))
theorem one68_2 : oneLoop Try.prog 68 2 = true := by kernel_rfl
theorem lp68_2 : ItemOk Try.prog (.loop 68 2 T68_2 X68_2 (loopVal step68_2)) := item_loop (U := 9) (n := 3) noSpecial mixed Ga21K7_ok one68_2 (fun x => by kernel_rfl)
noncomputable def Ga21K8 : List Ev.Item := .loop 68 2 T68_2 X68_2 (loopVal step68_2) :: Ga21K7
theorem Ga21K8_ok : ∀ q ∈ Ga21K8, ItemOk Try.prog q := items_cons lp68_2 Ga21K7_ok
noncomputable def s68 : List Pkt → Option (Int) := fun l =>
  bif (l.length : Int) == 0 then
    some (10)
  else
    bif decide ((l.length : Int) > 30) then
      some (8)
    else
      optE (loopVal step68_0 (l, 0)) (fun e1 =>
        sumE e1 (fun e2 =>
          some (e2)) (fun e3 =>
          optE (s73 e3) (fun r4 =>
            optE (s123 r4) (fun r5 =>
              bif decide ((wr (r5.2 - r5.1)) ≥ 40) then
                some (8)
              else
                optE (loopVal step68_2 (e3, r4, 0)) (fun e6 =>
                  sumE e6 (fun e7 =>
                    some (e7)) (fun _ =>
                    some (0)))
                  (none))
              (none))
            (none)))
        (none)
theorem i68 : ItemOk Try.prog (.fn 68 [.d (.slice (.agg (.pair (.int .i64) (.pair (.int .i64) (.pair (.pair (.int .i64) (.int .i64)) (.pair (.pair (.int .i64) (.int .i64)) (.pair (.pair (.int .i64) (.int .i64)) (.pair (.pair (.int .i64) (.int .i64)) (.pair (.pair (.int .i64) (.int .i64)) (.pair (.pair (.int .i64) (.int .i64)) (.pair (.pair (.int .i64) (.int .i64)) (.pair (.int .i64) (.int .i64)))))))))))))] [.d (.int .i64)] s68) := item_fn (U := 9) (n := 4) noSpecial mixed Ga21K8_ok (fun x => by kernel_rfl)
noncomputable def Ga21K9 : List Ev.Item := .fn 68 [.d (.slice (.agg (.pair (.int .i64) (.pair (.int .i64) (.pair (.pair (.int .i64) (.int .i64)) (.pair (.pair (.int .i64) (.int .i64)) (.pair (.pair (.int .i64) (.int .i64)) (.pair (.pair (.int .i64) (.int .i64)) (.pair (.pair (.int .i64) (.int .i64)) (.pair (.pair (.int .i64) (.int .i64)) (.pair (.pair (.int .i64) (.int .i64)) (.pair (.int .i64) (.int .i64)))))))))))))] [.d (.int .i64)] s68 :: Ga21K8
theorem Ga21K9_ok : ∀ q ∈ Ga21K9, ItemOk Try.prog q := items_cons i68 Ga21K8_ok

/-! cassegrain cassegrainref02.KindsOf -/
@[reducible] def T70_2 : Tmpl := ⟨40, [], [.own 3 9 3 (.int .i64), .own 4 38 3 (.int .i64), .val 5 (.int .i64), .val 6 (.int .i64), .val 7 (.int .i64)]⟩
@[reducible] def X70_2 : List (Ex × Tmpl) := [(.exit 2, ⟨40, [], [.own 3 9 3 (.int .i64), .own 4 38 3 (.int .i64), .val 5 (.int .i64), .val 6 (.int .i64)]⟩)]
/-- data: c, out, i, kind, k; ends: exit 2: c, out, i, kind -/
noncomputable def step70_2 : (List Int) × (List Int) × Int × Int × Int → Option (((List Int) × (List Int) × Int × Int × Int) ⊕ ((List Int) × (List Int) × Int × Int)) := fun (c, out, i, kind, k) =>
  bif decide (k < i) then
    bif inBounds k c.length then
      bif inBounds i c.length then
        bif decide ((c.getD k.toNat 0) > (c.getD i.toNat 0)) then
          some (.inl (c, out, i, 1, wr (k + 1)))
        else
          some (.inl (c, out, i, kind, wr (k + 1)))
      else
        none
    else
      none
  else
    some (.inr (c, out, i, kind))
theorem one70_2 : oneLoop Try.prog 70 2 = true := by kernel_rfl
theorem lp70_2 : ItemOk Try.prog (.loop 70 2 T70_2 X70_2 (loopVal step70_2)) := item_loop (U := 9) (n := 3) noSpecial mixed Ga21K9_ok one70_2 (fun x => by kernel_rfl)
noncomputable def Ga21K10 : List Ev.Item := .loop 70 2 T70_2 X70_2 (loopVal step70_2) :: Ga21K9
theorem Ga21K10_ok : ∀ q ∈ Ga21K10, ItemOk Try.prog q := items_cons lp70_2 Ga21K9_ok
@[reducible] def T70_0 : Tmpl := ⟨40, [], [.own 3 9 3 (.int .i64), .own 4 38 3 (.int .i64), .val 5 (.int .i64)]⟩
@[reducible] def X70_0 : List (Ex × Tmpl) := [(.exit 0, ⟨40, [], [.own 4 38 3 (.int .i64)]⟩)]
/-- data: c, out, i; ends: exit 0: out -/
noncomputable def step70_0 : (List Int) × (List Int) × Int → Option (((List Int) × (List Int) × Int) ⊕ (List Int)) := fun (c, out, i) =>
  bif decide (i < (c.length : Int)) then
    optE (loopVal step70_2 (c, out, i, 0, 0)) (fun e2 =>
      optE (s124 (e2.1, e2.2.2.1)) (fun r3 =>
        bif r3 != e2.2.2.1 then
          bif room 8 (e2.2.1.length + 1) then
            some (.inl (e2.1, e2.2.1 ++ [2], wr (e2.2.2.1 + 1)))
          else
            none
        else
          bif room 8 (e2.2.1.length + 1) then
            some (.inl (e2.1, e2.2.1 ++ [e2.2.2.2], wr (e2.2.2.1 + 1)))
          else
            none)
        (none))
      (none)
  else
    some (.inr out)
theorem one70_0 : oneLoop Try.prog 70 0 = true := by kernel_rfl
theorem lp70_0 : ItemOk Try.prog (.loop 70 0 T70_0 X70_0 (loopVal step70_0)) := item_loop (U := 9) (n := 3) noSpecial mixed Ga21K10_ok one70_0 (fun x => by kernel_rfl)
noncomputable def Ga21K11 : List Ev.Item := .loop 70 0 T70_0 X70_0 (loopVal step70_0) :: Ga21K10
theorem Ga21K11_ok : ∀ q ∈ Ga21K11, ItemOk Try.prog q := items_cons lp70_0 Ga21K10_ok
noncomputable def s70 : List Pkt → Option (List Int) := fun l =>
  optE (s73 l) (fun r1 =>
    optE (loopVal step70_0 (r1, [], 0)) (fun e2 =>
      some (e2))
      (none))
    (none)
theorem i70 : ItemOk Try.prog (.fn 70 [.d (.slice (.agg (.pair (.int .i64) (.pair (.int .i64) (.pair (.pair (.int .i64) (.int .i64)) (.pair (.pair (.int .i64) (.int .i64)) (.pair (.pair (.int .i64) (.int .i64)) (.pair (.pair (.int .i64) (.int .i64)) (.pair (.pair (.int .i64) (.int .i64)) (.pair (.pair (.int .i64) (.int .i64)) (.pair (.pair (.int .i64) (.int .i64)) (.pair (.int .i64) (.int .i64)))))))))))))] [.own 3 (.int .i64)] s70) := item_fn (U := 9) (n := 4) noSpecial mixed Ga21K11_ok (fun x => by kernel_rfl)
noncomputable def Ga21K12 : List Ev.Item := .fn 70 [.d (.slice (.agg (.pair (.int .i64) (.pair (.int .i64) (.pair (.pair (.int .i64) (.int .i64)) (.pair (.pair (.int .i64) (.int .i64)) (.pair (.pair (.int .i64) (.int .i64)) (.pair (.pair (.int .i64) (.int .i64)) (.pair (.pair (.int .i64) (.int .i64)) (.pair (.pair (.int .i64) (.int .i64)) (.pair (.pair (.int .i64) (.int .i64)) (.pair (.int .i64) (.int .i64)))))))))))))] [.own 3 (.int .i64)] s70 :: Ga21K11
theorem Ga21K12_ok : ∀ q ∈ Ga21K12, ItemOk Try.prog q := items_cons i70 Ga21K11_ok

/-! cassegrain cassegrainbase.Has -/
@[reducible] def T74_0 : Tmpl := ⟨18, [], [.val 0 (.slice (.int .i64)), .val 1 (.int .i64), .val 5 (.int .i64)]⟩
@[reducible] def X74_0 : List (Ex × Tmpl) := [(.ret, ⟨18, [], [.val 4 .bool]⟩), (.exit 0, ⟨18, [], []⟩)]
/-- data: l, n, i; ends: ret: t4; exit 0:  -/
noncomputable def step74_0 : (List Int) × Int × Int → Option (((List Int) × Int × Int) ⊕ ((Bool) ⊕ (Unit))) := fun (l, n, i) =>
  bif decide (i < (l.length : Int)) then
    bif inBounds i l.length then
      bif (l.getD i.toNat 0) == n then
        some (.inr (.inl true))
      else
        some (.inl (l, n, wr (i + 1)))
    else
      none
  else
    some (.inr (.inr ()))
theorem one74_0 : oneLoop Try.prog 74 0 = true := by kernel_rfl
theorem lp74_0 : ItemOk Try.prog (.loop 74 0 T74_0 X74_0 (loopVal step74_0)) := item_loop (U := 9) (n := 3) noSpecial mixed Ga21K12_ok one74_0 (fun x => by kernel_rfl)
noncomputable def Ga21K13 : List Ev.Item := .loop 74 0 T74_0 X74_0 (loopVal step74_0) :: Ga21K12
theorem Ga21K13_ok : ∀ q ∈ Ga21K13, ItemOk Try.prog q := items_cons lp74_0 Ga21K12_ok
noncomputable def s74 : (List Int) × Int → Option (Bool) := fun (l, n) =>
  optE (loopVal step74_0 (l, n, 0)) (fun e1 =>
    sumE e1 (fun e2 =>
      some (e2)) (fun _ =>
      some (false)))
    (none)
theorem i74 : ItemOk Try.prog (.fn 74 [.d (.slice (.int .i64)), .d (.int .i64)] [.d .bool] s74) := item_fn (U := 9) (n := 4) noSpecial mixed Ga21K13_ok (fun x => by kernel_rfl)
noncomputable def Ga21K14 : List Ev.Item := .fn 74 [.d (.slice (.int .i64)), .d (.int .i64)] [.d .bool] s74 :: Ga21K13
theorem Ga21K14_ok : ∀ q ∈ Ga21K14, ItemOk Try.prog q := items_cons i74 Ga21K13_ok

/-! cassegrain cassegrainref02.MissingOf -/
@[reducible] def T71_0 : Tmpl := ⟨30, [], [.own 3 9 3 (.int .i64), .val 5 (.int .i64), .own 6 28 3 (.int .i64), .val 7 (.int .i64)]⟩
@[reducible] def X71_0 : List (Ex × Tmpl) := [(.exit 0, ⟨30, [], [.own 6 28 3 (.int .i64)]⟩)]
/-- data: c, hi, out, n; ends: exit 0: out -/
noncomputable def step71_0 : (List Int) × Int × (List Int) × Int → Option (((List Int) × Int × (List Int) × Int) ⊕ (List Int)) := fun (c, hi, out, n) =>
  bif decide (n ≤ hi) then
    optE (s74 (c, n)) (fun r3 =>
      bif !r3 then
        bif room 8 (out.length + 1) then
          some (.inl (c, hi, out ++ [n], wr (n + 1)))
        else
          none
      else
        some (.inl (c, hi, out, wr (n + 1))))
      (none)
  else
    some (.inr out)
theorem one71_0 : oneLoop Try.prog 71 0 = true := by kernel_rfl
theorem lp71_0 : ItemOk Try.prog (.loop 71 0 T71_0 X71_0 (loopVal step71_0)) := item_loop (U := 9) (n := 3) noSpecial mixed Ga21K14_ok one71_0 (fun x => by kernel_rfl)
noncomputable def Ga21K15 : List Ev.Item := .loop 71 0 T71_0 X71_0 (loopVal step71_0) :: Ga21K14
theorem Ga21K15_ok : ∀ q ∈ Ga21K15, ItemOk Try.prog q := items_cons lp71_0 Ga21K14_ok
noncomputable def s71 : List Pkt → Option (List Int) := fun l =>
  optE (s73 l) (fun r1 =>
    optE (s123 r1) (fun r2 =>
      optE (loopVal step71_0 (r1, r2.2, [], r2.1)) (fun e3 =>
        some (e3))
        (none))
      (none))
    (none)
theorem i71 : ItemOk Try.prog (.fn 71 [.d (.slice (.agg (.pair (.int .i64) (.pair (.int .i64) (.pair (.pair (.int .i64) (.int .i64)) (.pair (.pair (.int .i64) (.int .i64)) (.pair (.pair (.int .i64) (.int .i64)) (.pair (.pair (.int .i64) (.int .i64)) (.pair (.pair (.int .i64) (.int .i64)) (.pair (.pair (.int .i64) (.int .i64)) (.pair (.pair (.int .i64) (.int .i64)) (.pair (.int .i64) (.int .i64)))))))))))))] [.own 3 (.int .i64)] s71) := item_fn (U := 9) (n := 4) noSpecial mixed Ga21K15_ok (fun x => by kernel_rfl)
noncomputable def Ga21K16 : List Ev.Item := .fn 71 [.d (.slice (.agg (.pair (.int .i64) (.pair (.int .i64) (.pair (.pair (.int .i64) (.int .i64)) (.pair (.pair (.int .i64) (.int .i64)) (.pair (.pair (.int .i64) (.int .i64)) (.pair (.pair (.int .i64) (.int .i64)) (.pair (.pair (.int .i64) (.int .i64)) (.pair (.pair (.int .i64) (.int .i64)) (.pair (.pair (.int .i64) (.int .i64)) (.pair (.int .i64) (.int .i64)))))))))))))] [.own 3 (.int .i64)] s71 :: Ga21K15
theorem Ga21K16_ok : ∀ q ∈ Ga21K16, ItemOk Try.prog q := items_cons i71 Ga21K15_ok

/-! cassegrain cassegrainref02.Assembled -/
@[reducible] def T72_2 : Tmpl := ⟨93, [(2, .ref 2 0 0 0), (6, .ref 6 0 0 0), (8, .ref 8 0 0 0)], [.val 0 (.slice (.agg (.pair (.int .i64) (.pair (.int .i64) (.pair (.pair (.int .i64) (.int .i64)) (.pair (.pair (.int .i64) (.int .i64)) (.pair (.pair (.int .i64) (.int .i64)) (.pair (.pair (.int .i64) (.int .i64)) (.pair (.pair (.int .i64) (.int .i64)) (.pair (.pair (.int .i64) (.int .i64)) (.pair (.pair (.int .i64) (.int .i64)) (.pair (.int .i64) (.int .i64))))))))))))), .own 3 14 3 (.int .i64), .val 4 (.int .i64), .val 5 (.int .i64), .val 7 (.int .i64), .val 9 (.int .i64), .cells 2 [.d (.pair (.int .i64) (.pair (.slice (.agg (.pair (.int .i64) (.int .i64)))) (.slice (.agg (.pair (.int .i64) (.int .i64))))))], .cells 6 [.d (.int .i64), .own 48 23 (.agg (.pair (.int .i64) (.int .i64))), .own 90 104 (.agg (.pair (.int .i64) (.int .i64)))], .arrp 8 (.agg (.pair (.int .i64) (.int .i64))) 8 (.pair (.agg (.pair (.int .i64) (.int .i64))) (.pair (.agg (.pair (.int .i64) (.int .i64))) (.pair (.agg (.pair (.int .i64) (.int .i64))) (.pair (.agg (.pair (.int .i64) (.int .i64))) (.pair (.agg (.pair (.int .i64) (.int .i64))) (.pair (.agg (.pair (.int .i64) (.int .i64))) (.pair (.agg (.pair (.int .i64) (.int .i64))) (.agg (.pair (.int .i64) (.int .i64))))))))))]⟩
@[reducible] def X72_2 : List (Ex × Tmpl) := [(.exit 2, ⟨93, [(2, .ref 2 0 0 0), (6, .ref 6 0 0 0), (8, .ref 8 0 0 0)], [.val 0 (.slice (.agg (.pair (.int .i64) (.pair (.int .i64) (.pair (.pair (.int .i64) (.int .i64)) (.pair (.pair (.int .i64) (.int .i64)) (.pair (.pair (.int .i64) (.int .i64)) (.pair (.pair (.int .i64) (.int .i64)) (.pair (.pair (.int .i64) (.int .i64)) (.pair (.pair (.int .i64) (.int .i64)) (.pair (.pair (.int .i64) (.int .i64)) (.pair (.int .i64) (.int .i64))))))))))))), .own 3 14 3 (.int .i64), .val 4 (.int .i64), .val 5 (.int .i64), .val 7 (.int .i64), .cells 2 [.d (.pair (.int .i64) (.pair (.slice (.agg (.pair (.int .i64) (.int .i64)))) (.slice (.agg (.pair (.int .i64) (.int .i64))))))], .cells 6 [.d (.int .i64), .own 48 23 (.agg (.pair (.int .i64) (.int .i64))), .own 90 104 (.agg (.pair (.int .i64) (.int .i64)))], .arrp 8 (.agg (.pair (.int .i64) (.int .i64))) 8 (.pair (.agg (.pair (.int .i64) (.int .i64))) (.pair (.agg (.pair (.int .i64) (.int .i64))) (.pair (.agg (.pair (.int .i64) (.int .i64))) (.pair (.agg (.pair (.int .i64) (.int .i64))) (.pair (.agg (.pair (.int .i64) (.int .i64))) (.pair (.agg (.pair (.int .i64) (.int .i64))) (.pair (.agg (.pair (.int .i64) (.int .i64))) (.agg (.pair (.int .i64) (.int .i64))))))))))]⟩)]
/-- data: t0, t3, t4, t5, t7, t9, t2, t6, t8; ends: exit 2: t0, t3, t4, t5, t7, t2, t6, t8 -/
noncomputable def step72_2 : (List Pkt) × (List Int) × Int × Int × Int × Int × (Int × (List (Int × Int)) × List (Int × Int)) × (Int × (List (Int × Int)) × (List (Int × Int))) × ((Int × Int) × (Int × Int) × (Int × Int) × (Int × Int) × (Int × Int) × (Int × Int) × (Int × Int) × Int × Int) → Option (((List Pkt) × (List Int) × Int × Int × Int × Int × (Int × (List (Int × Int)) × List (Int × Int)) × (Int × (List (Int × Int)) × (List (Int × Int))) × ((Int × Int) × (Int × Int) × (Int × Int) × (Int × Int) × (Int × Int) × (Int × Int) × (Int × Int) × Int × Int)) ⊕ ((List Pkt) × (List Int) × Int × Int × Int × (Int × (List (Int × Int)) × List (Int × Int)) × (Int × (List (Int × Int)) × (List (Int × Int))) × ((Int × Int) × (Int × Int) × (Int × Int) × (Int × Int) × (Int × Int) × (Int × Int) × (Int × Int) × Int × Int))) := fun (t0, t3, t4, t5, t7, t9, t2, t6, t8) =>
  bif decide (t9 < (t0.length : Int)) then
    bif inBounds t9 t3.length then
      bif (t3.getD t9.toNat 0) == t7 then
        bif inBounds t9 t0.length then
          some (.inl (t0, t3, t4, t5, t7, wr (t9 + 1), t2, t6, (t0.getD t9.toNat pkt0).2.2))
        else
          none
      else
        some (.inl (t0, t3, t4, t5, t7, wr (t9 + 1), t2, t6, t8))
    else
      none
  else
    some (.inr (t0, t3, t4, t5, t7, t2, t6, t8))
theorem one72_2 : oneLoop Try.prog 72 2 = true := by kernel_rfl
theorem lp72_2 : ItemOk Try.prog (.loop 72 2 T72_2 X72_2 (loopVal step72_2)) := item_loop (U := 9) (n := 3) noSpecial mixed Ga21K16_ok one72_2 (fun x => by kernel_rfl)
noncomputable def Ga21K17 : List Ev.Item := .loop 72 2 T72_2 X72_2 (loopVal step72_2) :: Ga21K16
theorem Ga21K17_ok : ∀ q ∈ Ga21K17, ItemOk Try.prog q := items_cons lp72_2 Ga21K16_ok
@[reducible] def T72_0 : Tmpl := ⟨93, [(2, .ref 2 0 0 0), (6, .ref 6 0 0 0)], [.val 0 (.slice (.agg (.pair (.int .i64) (.pair (.int .i64) (.pair (.pair (.int .i64) (.int .i64)) (.pair (.pair (.int .i64) (.int .i64)) (.pair (.pair (.int .i64) (.int .i64)) (.pair (.pair (.int .i64) (.int .i64)) (.pair (.pair (.int .i64) (.int .i64)) (.pair (.pair (.int .i64) (.int .i64)) (.pair (.pair (.int .i64) (.int .i64)) (.pair (.int .i64) (.int .i64))))))))))))), .own 3 14 3 (.int .i64), .val 4 (.int .i64), .val 5 (.int .i64), .val 7 (.int .i64), .cells 2 [.d (.pair (.int .i64) (.pair (.slice (.agg (.pair (.int .i64) (.int .i64)))) (.slice (.agg (.pair (.int .i64) (.int .i64))))))], .cells 6 [.d (.int .i64), .own 48 23 (.agg (.pair (.int .i64) (.int .i64))), .own 90 104 (.agg (.pair (.int .i64) (.int .i64)))]]⟩
@[reducible] def X72_0 : List (Ex × Tmpl) := [(.exit 0, ⟨93, [(2, .ref 2 0 0 0), (6, .ref 6 0 0 0)], [.cells 2 [.d (.pair (.int .i64) (.pair (.slice (.agg (.pair (.int .i64) (.int .i64)))) (.slice (.agg (.pair (.int .i64) (.int .i64))))))], .cells 6 [.d (.int .i64), .own 48 23 (.agg (.pair (.int .i64) (.int .i64))), .own 90 104 (.agg (.pair (.int .i64) (.int .i64)))]]⟩)]
/-- data: t0, t3, t4, t5, t7, t2, t6; ends: exit 0: t2, t6 -/
noncomputable def step72_0 : (List Pkt) × (List Int) × Int × Int × Int × (Int × (List (Int × Int)) × List (Int × Int)) × (Int × (List (Int × Int)) × (List (Int × Int))) → Option (((List Pkt) × (List Int) × Int × Int × Int × (Int × (List (Int × Int)) × List (Int × Int)) × (Int × (List (Int × Int)) × (List (Int × Int)))) ⊕ ((Int × (List (Int × Int)) × List (Int × Int)) × (Int × (List (Int × Int)) × (List (Int × Int))))) := fun (t0, t3, t4, t5, t7, t2, t6) =>
  bif decide (t7 ≤ t5) then
    optE (loopVal step72_2 (t0, t3, t4, t5, t7, 0, t2, t6, ((0, 0), (0, 0), (0, 0), (0, 0), (0, 0), (0, 0), (0, 0), 0, 0))) (fun e3 =>
      bif room 16 (e3.2.2.2.2.2.2.1.2.1.length + 8) then
        optE (s74 (e3.2.1, e3.2.2.2.2.1)) (fun r4 =>
          bif r4 then
            some (.inl (e3.1, e3.2.1, e3.2.2.1, e3.2.2.2.1, wr (e3.2.2.2.2.1 + 1), e3.2.2.2.2.2.1, (e3.2.2.2.2.2.2.1.1, e3.2.2.2.2.2.2.1.2.1 ++ [e3.2.2.2.2.2.2.2.1, e3.2.2.2.2.2.2.2.2.1, e3.2.2.2.2.2.2.2.2.2.1, e3.2.2.2.2.2.2.2.2.2.2.1, e3.2.2.2.2.2.2.2.2.2.2.2.1, e3.2.2.2.2.2.2.2.2.2.2.2.2.1, e3.2.2.2.2.2.2.2.2.2.2.2.2.2.1, e3.2.2.2.2.2.2.2.2.2.2.2.2.2.2], e3.2.2.2.2.2.2.1.2.2)))
          else
            bif decide ((wr ((e3.2.2.2.2.2.2.1.2.2.length : Int) - 1)) ≥ 0) then
              bif inBounds (wr ((e3.2.2.2.2.2.2.1.2.2.length : Int) - 1)) e3.2.2.2.2.2.2.1.2.2.length then
                bif (e3.2.2.2.2.2.2.1.2.2.getD (wr ((e3.2.2.2.2.2.2.1.2.2.length : Int) - 1)).toNat (0, 0)).2 == (wr ((wr ((wr (e3.2.2.2.2.1 - e3.2.2.1)) * 8)) - 1)) then
                  bif inBounds (wr ((e3.2.2.2.2.2.2.1.2.2.length : Int) - 1)) e3.2.2.2.2.2.2.1.2.2.length then
                    some (.inl (e3.1, e3.2.1, e3.2.2.1, e3.2.2.2.1, wr (e3.2.2.2.2.1 + 1), e3.2.2.2.2.2.1, (e3.2.2.2.2.2.2.1.1, e3.2.2.2.2.2.2.1.2.1 ++ [e3.2.2.2.2.2.2.2.1, e3.2.2.2.2.2.2.2.2.1, e3.2.2.2.2.2.2.2.2.2.1, e3.2.2.2.2.2.2.2.2.2.2.1, e3.2.2.2.2.2.2.2.2.2.2.2.1, e3.2.2.2.2.2.2.2.2.2.2.2.2.1, e3.2.2.2.2.2.2.2.2.2.2.2.2.2.1, e3.2.2.2.2.2.2.2.2.2.2.2.2.2.2], e3.2.2.2.2.2.2.1.2.2.set (wr ((e3.2.2.2.2.2.2.1.2.2.length : Int) - 1)).toNat ((e3.2.2.2.2.2.2.1.2.2.getD (wr ((e3.2.2.2.2.2.2.1.2.2.length : Int) - 1)).toNat (0, 0)).1, wr ((wr ((wr ((wr (e3.2.2.2.2.1 - e3.2.2.1)) * 8)) + 8)) - 1)))))
                  else
                    none
                else
                  bif room 16 (e3.2.2.2.2.2.2.1.2.2.length + 1) then
                    some (.inl (e3.1, e3.2.1, e3.2.2.1, e3.2.2.2.1, wr (e3.2.2.2.2.1 + 1), e3.2.2.2.2.2.1, (e3.2.2.2.2.2.2.1.1, e3.2.2.2.2.2.2.1.2.1 ++ [e3.2.2.2.2.2.2.2.1, e3.2.2.2.2.2.2.2.2.1, e3.2.2.2.2.2.2.2.2.2.1, e3.2.2.2.2.2.2.2.2.2.2.1, e3.2.2.2.2.2.2.2.2.2.2.2.1, e3.2.2.2.2.2.2.2.2.2.2.2.2.1, e3.2.2.2.2.2.2.2.2.2.2.2.2.2.1, e3.2.2.2.2.2.2.2.2.2.2.2.2.2.2], e3.2.2.2.2.2.2.1.2.2 ++ [(wr ((wr (e3.2.2.2.2.1 - e3.2.2.1)) * 8), wr ((wr ((wr ((wr (e3.2.2.2.2.1 - e3.2.2.1)) * 8)) + 8)) - 1))])))
                  else
                    none
              else
                none
            else
              bif room 16 (e3.2.2.2.2.2.2.1.2.2.length + 1) then
                some (.inl (e3.1, e3.2.1, e3.2.2.1, e3.2.2.2.1, wr (e3.2.2.2.2.1 + 1), e3.2.2.2.2.2.1, (e3.2.2.2.2.2.2.1.1, e3.2.2.2.2.2.2.1.2.1 ++ [e3.2.2.2.2.2.2.2.1, e3.2.2.2.2.2.2.2.2.1, e3.2.2.2.2.2.2.2.2.2.1, e3.2.2.2.2.2.2.2.2.2.2.1, e3.2.2.2.2.2.2.2.2.2.2.2.1, e3.2.2.2.2.2.2.2.2.2.2.2.2.1, e3.2.2.2.2.2.2.2.2.2.2.2.2.2.1, e3.2.2.2.2.2.2.2.2.2.2.2.2.2.2], e3.2.2.2.2.2.2.1.2.2 ++ [(wr ((wr (e3.2.2.2.2.1 - e3.2.2.1)) * 8), wr ((wr ((wr ((wr (e3.2.2.2.2.1 - e3.2.2.1)) * 8)) + 8)) - 1))])))
              else
                none)
          (none)
      else
        none)
      (none)
  else
    some (.inr (t2, t6))
theorem one72_0 : oneLoop Try.prog 72 0 = true := by kernel_rfl
theorem lp72_0 : ItemOk Try.prog (.loop 72 0 T72_0 X72_0 (loopVal step72_0)) := item_loop (U := 9) (n := 3) noSpecial mixed Ga21K17_ok one72_0 (fun x => by kernel_rfl)
noncomputable def Ga21K18 : List Ev.Item := .loop 72 0 T72_0 X72_0 (loopVal step72_0) :: Ga21K17
theorem Ga21K18_ok : ∀ q ∈ Ga21K18, ItemOk Try.prog q := items_cons lp72_0 Ga21K17_ok
noncomputable def s72 : List Pkt → Option (Int × (List (Int × Int)) × List (Int × Int)) := fun a0 =>
  optE (s73 a0) (fun r1 =>
    optE (s123 r1) (fun r2 =>
      optE (loopVal step72_0 (a0, r1, r2.1, r2.2, r2.1, (0, [], []), (r2.1, [], []))) (fun e3 =>
        some (e3.2))
        (none))
      (none))
    (none)
theorem i72 : ItemOk Try.prog (.fn 72 [.d (.slice (.agg (.pair (.int .i64) (.pair (.int .i64) (.pair (.pair (.int .i64) (.int .i64)) (.pair (.pair (.int .i64) (.int .i64)) (.pair (.pair (.int .i64) (.int .i64)) (.pair (.pair (.int .i64) (.int .i64)) (.pair (.pair (.int .i64) (.int .i64)) (.pair (.pair (.int .i64) (.int .i64)) (.pair (.pair (.int .i64) (.int .i64)) (.pair (.int .i64) (.int .i64)))))))))))))] [.d (.agg (.pair (.int .i64) (.pair (.slice (.agg (.pair (.int .i64) (.int .i64)))) (.slice (.agg (.pair (.int .i64) (.int .i64)))))))] s72) := item_fn (U := 9) (n := 4) noSpecial mixed Ga21K18_ok (fun x => by kernel_rfl)
noncomputable def Ga21K19 : List Ev.Item := .fn 72 [.d (.slice (.agg (.pair (.int .i64) (.pair (.int .i64) (.pair (.pair (.int .i64) (.int .i64)) (.pair (.pair (.int .i64) (.int .i64)) (.pair (.pair (.int .i64) (.int .i64)) (.pair (.pair (.int .i64) (.int .i64)) (.pair (.pair (.int .i64) (.int .i64)) (.pair (.pair (.int .i64) (.int .i64)) (.pair (.pair (.int .i64) (.int .i64)) (.pair (.int .i64) (.int .i64)))))))))))))] [.d (.agg (.pair (.int .i64) (.pair (.slice (.agg (.pair (.int .i64) (.int .i64)))) (.slice (.agg (.pair (.int .i64) (.int .i64)))))))] s72 :: Ga21K18
theorem Ga21K19_ok : ∀ q ∈ Ga21K19, ItemOk Try.prog q := items_cons i72 Ga21K18_ok

/-! cassegrain cassegrainref02.SameStream -/
noncomputable def s69 : (Int × (List (Int × Int)) × List (Int × Int)) × (Int × (List (Int × Int)) × List (Int × Int)) → Option (Bool) := fun (a, b) =>
  bif a.1 == b.1 then
    optE (same60 (a.2.1, b.2.1)) (fun r1 =>
      bif r1 then
        optE (same125 (a.2.2, b.2.2)) (fun r2 =>
          some (r2))
          (none)
      else
        some (false))
      (none)
  else
    some (false)
theorem i69 : ItemOk Try.prog (.fn 69 [.d (.agg (.pair (.int .i64) (.pair (.slice (.agg (.pair (.int .i64) (.int .i64)))) (.slice (.agg (.pair (.int .i64) (.int .i64))))))), .d (.agg (.pair (.int .i64) (.pair (.slice (.agg (.pair (.int .i64) (.int .i64)))) (.slice (.agg (.pair (.int .i64) (.int .i64)))))))] [.d .bool] s69) := item_fn (U := 9) (n := 4) noSpecial mixed Ga21K19_ok (fun x => by kernel_rfl)
noncomputable def Ga21K20 : List Ev.Item := .fn 69 [.d (.agg (.pair (.int .i64) (.pair (.slice (.agg (.pair (.int .i64) (.int .i64)))) (.slice (.agg (.pair (.int .i64) (.int .i64))))))), .d (.agg (.pair (.int .i64) (.pair (.slice (.agg (.pair (.int .i64) (.int .i64)))) (.slice (.agg (.pair (.int .i64) (.int .i64)))))))] [.d .bool] s69 :: Ga21K19
theorem Ga21K20_ok : ∀ q ∈ Ga21K20, ItemOk Try.prog q := items_cons i69 Ga21K19_ok

/-! cassegrain cassegrainref02.CopyPackets -/
noncomputable def s65 : List Pkt → Option (List Pkt) := fun l =>
  bif room 144 (0 + l.length) then
    some (l)
  else
    none
theorem i65 : ItemOk Try.prog (.fn 65 [.d (.slice (.agg (.pair (.int .i64) (.pair (.int .i64) (.pair (.pair (.int .i64) (.int .i64)) (.pair (.pair (.int .i64) (.int .i64)) (.pair (.pair (.int .i64) (.int .i64)) (.pair (.pair (.int .i64) (.int .i64)) (.pair (.pair (.int .i64) (.int .i64)) (.pair (.pair (.int .i64) (.int .i64)) (.pair (.pair (.int .i64) (.int .i64)) (.pair (.int .i64) (.int .i64)))))))))))))] [.own 26 (.agg (.pair (.int .i64) (.pair (.int .i64) (.pair (.pair (.int .i64) (.int .i64)) (.pair (.pair (.int .i64) (.int .i64)) (.pair (.pair (.int .i64) (.int .i64)) (.pair (.pair (.int .i64) (.int .i64)) (.pair (.pair (.int .i64) (.int .i64)) (.pair (.pair (.int .i64) (.int .i64)) (.pair (.pair (.int .i64) (.int .i64)) (.pair (.int .i64) (.int .i64))))))))))))] s65) := item_fn (U := 9) (n := 4) noSpecial mixed Ga21K20_ok (fun x => by kernel_rfl)
noncomputable def Ga21K21 : List Ev.Item := .fn 65 [.d (.slice (.agg (.pair (.int .i64) (.pair (.int .i64) (.pair (.pair (.int .i64) (.int .i64)) (.pair (.pair (.int .i64) (.int .i64)) (.pair (.pair (.int .i64) (.int .i64)) (.pair (.pair (.int .i64) (.int .i64)) (.pair (.pair (.int .i64) (.int .i64)) (.pair (.pair (.int .i64) (.int .i64)) (.pair (.pair (.int .i64) (.int .i64)) (.pair (.int .i64) (.int .i64)))))))))))))] [.own 26 (.agg (.pair (.int .i64) (.pair (.int .i64) (.pair (.pair (.int .i64) (.int .i64)) (.pair (.pair (.int .i64) (.int .i64)) (.pair (.pair (.int .i64) (.int .i64)) (.pair (.pair (.int .i64) (.int .i64)) (.pair (.pair (.int .i64) (.int .i64)) (.pair (.pair (.int .i64) (.int .i64)) (.pair (.pair (.int .i64) (.int .i64)) (.pair (.int .i64) (.int .i64))))))))))))] s65 :: Ga21K20
theorem Ga21K21_ok : ∀ q ∈ Ga21K21, ItemOk Try.prog q := items_cons i65 Ga21K20_ok

/-! cassegrain cassegrainlaw02.few -/
noncomputable def s63 : List Pkt → Option (Bool) := fun l =>
  some (decide ((l.length : Int) ≤ 32))
theorem i63 : ItemOk Try.prog (.fn 63 [.d (.slice (.agg (.pair (.int .i64) (.pair (.int .i64) (.pair (.pair (.int .i64) (.int .i64)) (.pair (.pair (.int .i64) (.int .i64)) (.pair (.pair (.int .i64) (.int .i64)) (.pair (.pair (.int .i64) (.int .i64)) (.pair (.pair (.int .i64) (.int .i64)) (.pair (.pair (.int .i64) (.int .i64)) (.pair (.pair (.int .i64) (.int .i64)) (.pair (.int .i64) (.int .i64)))))))))))))] [.d .bool] s63) := item_fn (U := 9) (n := 4) noSpecial mixed Ga21K21_ok (fun x => by kernel_rfl)
noncomputable def Ga21K22 : List Ev.Item := .fn 63 [.d (.slice (.agg (.pair (.int .i64) (.pair (.int .i64) (.pair (.pair (.int .i64) (.int .i64)) (.pair (.pair (.int .i64) (.int .i64)) (.pair (.pair (.int .i64) (.int .i64)) (.pair (.pair (.int .i64) (.int .i64)) (.pair (.pair (.int .i64) (.int .i64)) (.pair (.pair (.int .i64) (.int .i64)) (.pair (.pair (.int .i64) (.int .i64)) (.pair (.int .i64) (.int .i64)))))))))))))] [.d .bool] s63 :: Ga21K21
theorem Ga21K22_ok : ∀ q ∈ Ga21K22, ItemOk Try.prog q := items_cons i63 Ga21K21_ok
end Go.Proofs.Ytinkhmfciealkaa
