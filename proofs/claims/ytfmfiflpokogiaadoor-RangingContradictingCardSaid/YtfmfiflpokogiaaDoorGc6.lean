import Derived.Test.YtfmfiflpokogiaaDoorGc5
set_option linter.unusedSimpArgs false
set_option maxRecDepth 100000
namespace Go.Proofs.YtfmfiflpokogiaaDoor
open Go.Ev
@[reducible] def T32_0 : Tmpl := ⟨22, [], [.own 5 9 36 (.agg zP), .val 6 zI], [], none⟩
@[reducible] def X32_0 : List (Ex × Tmpl) := [(.ret, ⟨22, [], [.val 4 .bool], [], none⟩), (.exit 0, ⟨22, [], [], [], none⟩)]
noncomputable def step32_0 : (List (Int × Int)) × Int → Option (((List (Int × Int)) × Int) ⊕ ((Bool) ⊕ (Unit))) := fun (r0, i) =>
 bif decide (i < (r0.length : Int)) then
  bif inBounds i r0.length then
   bif (r0.getD i.toNat (0, 0)).1 != 0 then
    some (.inr (.inl false))
   else
    some (.inl (r0, wr (i + 1)))
  else
   none
 else
  some (.inr (.inr ()))
theorem one32_0 : oneLoop Tryd.prog 32 0 = true := by kernel_rfl
theorem lp32_0 : ItemOk Tryd.prog (.loop 32 0 T32_0 X32_0 (loopVal step32_0)) := item_loopM md7 ext7 (U := 9) (n := 3) noSpecial mixed Gc5K18_ok one32_0 (fun x => by kernel_rfl)
noncomputable def Gc6K1 : List Ev.Item := .loop 32 0 T32_0 X32_0 (loopVal step32_0) :: Gc5K18
theorem Gc6K1_ok : ∀ q ∈ Gc6K1, ItemOk Tryd.prog q := items_cons lp32_0 Gc5K18_ok
noncomputable def s32 : (List (Int × Int × Int × Int × Int)) × ((Int × Int) × Int × Int) → Option (Bool) := fun (l, x0) =>
 optE (s49 (l, x0)) (fun r1 =>
  optE (loopVal step32_0 (r1, 0)) (fun e2 =>
   sumE e2 (fun e3 =>
    some (e3)) (fun _ =>
    some (true)))
   (none))
  (none)
theorem i32 : ItemOk Tryd.prog (.fn 32 [.d zS, .d (.agg (.pair zP zP))] [.d .bool] s32) := item_fnM md7 ext7 (U := 9) (n := 4) noSpecial mixed Gc6K1_ok (fun x => by kernel_rfl)
noncomputable def Gc6K2 : List Ev.Item := .fn 32 [.d zS, .d (.agg (.pair zP zP))] [.d .bool] s32 :: Gc6K1
theorem Gc6K2_ok : ∀ q ∈ Gc6K2, ItemOk Tryd.prog q := items_cons i32 Gc6K1_ok
noncomputable def s66 : (Int × Bool) × (Int × Int) × (List (Int × Bool × Int)) × Int → Option ((Int × Bool) × (Int × Int) × (List (Int × Bool × Int)) × Int) := fun c =>
 bif room 24 (0 + c.2.2.1.length) then
  some (c)
 else
  none
theorem i66 : ItemOk Tryd.prog (.fn 66 [.d (.agg (.pair (.pair zI .bool) (.pair zP (.pair (.slice (.agg (.pair zI (.pair .bool zI)))) zI))))] [.d (.agg (.pair (.pair zI .bool) (.pair zP (.pair (.slice (.agg (.pair zI (.pair .bool zI)))) zI))))] s66) := item_fnM md7 ext7 (U := 9) (n := 4) noSpecial mixed Gc6K2_ok (fun x => by kernel_rfl)
noncomputable def Gc6K3 : List Ev.Item := .fn 66 [.d (.agg (.pair (.pair zI .bool) (.pair zP (.pair (.slice (.agg (.pair zI (.pair .bool zI)))) zI))))] [.d (.agg (.pair (.pair zI .bool) (.pair zP (.pair (.slice (.agg (.pair zI (.pair .bool zI)))) zI))))] s66 :: Gc6K2
theorem Gc6K3_ok : ∀ q ∈ Gc6K3, ItemOk Tryd.prog q := items_cons i66 Gc6K2_ok
@[reducible] def T114_0 : Tmpl := ⟨45, [], [.own 3 42 174 (.agg (.pair zP (.pair zI (.pair zI .bool)))), .val 7 zS, .val 8 zI, .val 9 zI], [], none⟩
@[reducible] def X114_0 : List (Ex × Tmpl) := [(.exit 0, ⟨45, [], [.own 3 42 174 (.agg (.pair zP (.pair zI (.pair zI .bool))))], [], none⟩)]
noncomputable def step114_0 : (List ((Int × Int) × Int × Int × Bool)) × (List (Int × Int × Int × Int × Int)) × Int × Int → Option (((List ((Int × Int) × Int × Int × Bool)) × (List (Int × Int × Int × Int × Int)) × Int × Int) ⊕ (List ((Int × Int) × Int × Int × Bool))) := fun (out, t7, t8, t9) =>
 bif decide (t9 < t8) then
  bif inBounds t9 t7.length then
   bif (t7.getD t9.toNat (0, 0, 0, 0, 0)).1 == 1 then
    optE (s117 (0, wr ((t7.getD t9.toNat (0, 0, 0, 0, 0)).2.2.1 - (t7.getD t9.toNat (0, 0, 0, 0, 0)).2.1))) (fun r1 =>
     bif room 40 (out.length + 2) then
      some (.inl (out ++ [((0, wr ((t7.getD t9.toNat (0, 0, 0, 0, 0)).2.2.1 - (t7.getD t9.toNat (0, 0, 0, 0, 0)).2.1)), (t7.getD t9.toNat (0, 0, 0, 0, 0)).2.2.2.2, t9, true), (r1, wr (-(t7.getD t9.toNat (0, 0, 0, 0, 0)).2.2.2.1), t9, false)], t7, t8, wr (t9 + 1)))
     else
      none)
     (none)
   else
    optE (s117 (1, (t7.getD t9.toNat (0, 0, 0, 0, 0)).2.2.1)) (fun r2 =>
     bif room 40 (out.length + 2) then
      some (.inl (out ++ [((1, (t7.getD t9.toNat (0, 0, 0, 0, 0)).2.2.1), (t7.getD t9.toNat (0, 0, 0, 0, 0)).2.2.2.2, t9, true), (r2, wr (-(t7.getD t9.toNat (0, 0, 0, 0, 0)).2.2.2.1), t9, false)], t7, t8, wr (t9 + 1)))
     else
      none)
     (none)
  else
   none
 else
  some (.inr out)
theorem one114_0 : oneLoop Tryd.prog 114 0 = true := by kernel_rfl
theorem lp114_0 : ItemOk Tryd.prog (.loop 114 0 T114_0 X114_0 (loopVal step114_0)) := item_loopM md7 ext7 (U := 9) (n := 3) noSpecial mixed Gc6K3_ok one114_0 (fun x => by kernel_rfl)
noncomputable def Gc6K4 : List Ev.Item := .loop 114 0 T114_0 X114_0 (loopVal step114_0) :: Gc6K3
theorem Gc6K4_ok : ∀ q ∈ Gc6K4, ItemOk Tryd.prog q := items_cons lp114_0 Gc6K3_ok
noncomputable def s114 : List (Int × Int × Int × Int × Int) → Option (List ((Int × Int) × Int × Int × Bool)) := fun l =>
 optE (loopVal step114_0 ([], l, (l.length : Int), 0)) (fun e1 =>
  some (e1))
  (none)
theorem i114 : ItemOk Tryd.prog (.fn 114 [.d zS] [.d (.slice (.agg (.pair zP (.pair zI (.pair zI .bool)))))] s114) := item_fnM md7 ext7 (U := 9) (n := 4) noSpecial mixed Gc6K4_ok (fun x => by kernel_rfl)
noncomputable def Gc6K5 : List Ev.Item := .fn 114 [.d zS] [.d (.slice (.agg (.pair zP (.pair zI (.pair zI .bool)))))] s114 :: Gc6K4
theorem Gc6K5_ok : ∀ q ∈ Gc6K5, ItemOk Tryd.prog q := items_cons i114 Gc6K4_ok
noncomputable def s105 : List (Int × Int × Int × Int × Int) → Option ((List ((Int × Int) × Int × Int × Bool)) × Int) := fun l =>
 optE (s18 l) (fun r1 =>
  bif r1.2 != 0 then
   some (([], r1.2))
  else
   optE (s114 l) (fun r2 =>
    some ((r2, 0)))
    (none))
  (none)
theorem i105 : ItemOk Tryd.prog (.fn 105 [.d zS] [.d (.slice (.agg (.pair zP (.pair zI (.pair zI .bool))))), .d zI] s105) := item_fnM md7 ext7 (U := 9) (n := 4) noSpecial mixed Gc6K5_ok (fun x => by kernel_rfl)
noncomputable def Gc6K6 : List Ev.Item := .fn 105 [.d zS] [.d (.slice (.agg (.pair zP (.pair zI (.pair zI .bool))))), .d zI] s105 :: Gc6K5
theorem Gc6K6_ok : ∀ q ∈ Gc6K6, ItemOk Tryd.prog q := items_cons i105 Gc6K5_ok
noncomputable def s106 : Int × Bool → Option (Int × Int) := fun q0 =>
 bif !q0.2 then
  optE (s117 (1, q0.1)) (fun r1 =>
   some (r1))
   (none)
 else
  some ((1, q0.1))
theorem i106 : ItemOk Tryd.prog (.fn 106 [.d (.agg (.pair zI .bool))] [.d (.agg zP)] s106) := item_fnM md7 ext7 (U := 9) (n := 4) noSpecial mixed Gc6K6_ok (fun x => by kernel_rfl)
noncomputable def Gc6K7 : List Ev.Item := .fn 106 [.d (.agg (.pair zI .bool))] [.d (.agg zP)] s106 :: Gc6K6
theorem Gc6K7_ok : ∀ q ∈ Gc6K7, ItemOk Tryd.prog q := items_cons i106 Gc6K6_ok
noncomputable def s127 : Int × Int → Option (Int × Int) := fun (x0, y0) =>
 some ((IntKind.u64.wrap ((IntKind.u64.wrap ((IntKind.u64.wrap ((shrI .u64 x0 32) * (shrI .u64 y0 32))) + (shrI .u64 (IntKind.u64.wrap ((IntKind.u64.wrap ((shrI .u64 x0 32) * (andI .u64 y0 4294967295))) + (shrI .u64 (IntKind.u64.wrap ((andI .u64 x0 4294967295) * (andI .u64 y0 4294967295))) 32))) 32))) + (shrI .u64 (IntKind.u64.wrap ((andI .u64 (IntKind.u64.wrap ((IntKind.u64.wrap ((shrI .u64 x0 32) * (andI .u64 y0 4294967295))) + (shrI .u64 (IntKind.u64.wrap ((andI .u64 x0 4294967295) * (andI .u64 y0 4294967295))) 32))) 4294967295) + (IntKind.u64.wrap ((andI .u64 x0 4294967295) * (shrI .u64 y0 32))))) 32)), IntKind.u64.wrap (x0 * y0)))
theorem i127 : ItemOk Tryd.prog (.fn 127 [.d (.int .u64), .d (.int .u64)] [.d (.int .u64), .d (.int .u64)] s127) := item_fnM md7 ext7 (U := 9) (n := 4) noSpecial mixed Gc6K7_ok (fun x => by kernel_rfl)
noncomputable def Gc6K8 : List Ev.Item := .fn 127 [.d (.int .u64), .d (.int .u64)] [.d (.int .u64), .d (.int .u64)] s127 :: Gc6K7
theorem Gc6K8_ok : ∀ q ∈ Gc6K8, ItemOk Tryd.prog q := items_cons i127 Gc6K7_ok
noncomputable def s107 : Int × Int × Int × Int → Option (Bool) := fun (a, b, c, d) =>
 bif !((decide (a < 0)) == (decide (c < 0))) then
  some (decide (c < 0))
 else
  optE (s126 a) (fun r1 =>
   optE (s127 (IntKind.u64.wrap r1, IntKind.u64.wrap b)) (fun r2 =>
    optE (s126 c) (fun r3 =>
     optE (s127 (IntKind.u64.wrap r3, IntKind.u64.wrap d)) (fun r4 =>
      bif r2.1 == r4.1 then
       bif r2.2 == r4.2 then
        some (false)
       else
        bif decide (r2.1 > r4.1) then
         some (!(true == (decide (a < 0))))
        else
         bif r2.1 == r4.1 then
          some (!((decide (r2.2 > r4.2)) == (decide (a < 0))))
         else
          some (!(false == (decide (a < 0))))
      else
       bif decide (r2.1 > r4.1) then
        some (!(true == (decide (a < 0))))
       else
        bif r2.1 == r4.1 then
         some (!((decide (r2.2 > r4.2)) == (decide (a < 0))))
        else
         some (!(false == (decide (a < 0)))))
      (none))
     (none))
    (none))
   (none)
theorem i107 : ItemOk Tryd.prog (.fn 107 [.d zI, .d zI, .d zI, .d zI] [.d .bool] s107) := item_fnM md7 ext7 (U := 9) (n := 4) noSpecial mixed Gc6K8_ok (fun x => by kernel_rfl)
noncomputable def Gc6K9 : List Ev.Item := .fn 107 [.d zI, .d zI, .d zI, .d zI] [.d .bool] s107 :: Gc6K8
theorem Gc6K9_ok : ∀ q ∈ Gc6K9, ItemOk Tryd.prog q := items_cons i107 Gc6K8_ok
@[reducible] def T65_0 : Tmpl := ⟨153, [(3, .ref 3 0 0 0), (7, .ref 7 0 0 0)], [.val 0 zS, .val 5 (.slice (.agg (.pair zP (.pair zI (.pair zI .bool))))), .val 8 zI, .val 47 (.slice (.agg (.pair zI (.pair .bool zI)))), .val 48 zI, .val 49 zI, .cells 3 [.d (.pair (.pair zI .bool) (.pair zP (.pair (.slice (.agg (.pair zI (.pair .bool zI)))) zI)))], .cells 7 [.d zP]], [], none⟩
@[reducible] def X65_0 : List (Ex × Tmpl) := [(.ret, ⟨153, [], [.val 4 zI], [], none⟩), (.exit 0, ⟨153, [(3, .ref 3 0 0 0), (7, .ref 7 0 0 0)], [.val 8 zI, .cells 3 [.d (.pair (.pair zI .bool) (.pair zP (.pair (.slice (.agg (.pair zI (.pair .bool zI)))) zI)))], .cells 7 [.d zP]], [], none⟩)]
noncomputable def step65_0 : (List (Int × Int × Int × Int × Int)) × (List ((Int × Int) × Int × Int × Bool)) × Int × (List (Int × Bool × Int)) × Int × Int × ((Int × Bool) × (Int × Int) × (List (Int × Bool × Int)) × Int) × (Int × Int) → Option (((List (Int × Int × Int × Int × Int)) × (List ((Int × Int) × Int × Int × Bool)) × Int × (List (Int × Bool × Int)) × Int × Int × ((Int × Bool) × (Int × Int) × (List (Int × Bool × Int)) × Int) × (Int × Int)) ⊕ ((Int) ⊕ (Int × ((Int × Bool) × (Int × Int) × (List (Int × Bool × Int)) × Int) × (Int × Int)))) := fun (l, all0, right, t47, t48, t49, c, sum) =>
 bif decide (t49 < t48) then
  bif inBounds t49 t47.length then
   bif (firstE [unl (win (t47.getD t49.toNat (0, false, 0)).1 0 (wr ((l.length : Int) - 1))) 6, unl (win (t47.getD t49.toNat (0, false, 0)).2.2 1 100000000) 2]) != 0 then
    some (.inr (.inl (firstE [unl (win (t47.getD t49.toNat (0, false, 0)).1 0 (wr ((l.length : Int) - 1))) 6, unl (win (t47.getD t49.toNat (0, false, 0)).2.2 1 100000000) 2])))
   else
    bif inBounds (wr (2 * (t47.getD t49.toNat (0, false, 0)).1)) all0.length then
     bif !(t47.getD t49.toNat (0, false, 0)).2.1 then
      bif inBounds (wr ((wr (2 * (t47.getD t49.toNat (0, false, 0)).1)) + 1)) all0.length then
       some (.inl (l, all0, wr (right + (wr ((t47.getD t49.toNat (0, false, 0)).2.2 * (all0.getD (wr ((wr (2 * (t47.getD t49.toNat (0, false, 0)).1)) + 1)).toNat ((0, 0), 0, 0, false)).2.1))), t47, t48, wr (t49 + 1), c, (wr (sum.1 + (wr ((t47.getD t49.toNat (0, false, 0)).2.2 * (all0.getD (wr ((wr (2 * (t47.getD t49.toNat (0, false, 0)).1)) + 1)).toNat ((0, 0), 0, 0, false)).1.1))), wr (sum.2 + (wr ((t47.getD t49.toNat (0, false, 0)).2.2 * (all0.getD (wr ((wr (2 * (t47.getD t49.toNat (0, false, 0)).1)) + 1)).toNat ((0, 0), 0, 0, false)).1.2))))))
      else
       none
     else
      some (.inl (l, all0, wr (right + (wr ((t47.getD t49.toNat (0, false, 0)).2.2 * (all0.getD (wr (2 * (t47.getD t49.toNat (0, false, 0)).1)).toNat ((0, 0), 0, 0, false)).2.1))), t47, t48, wr (t49 + 1), c, (wr (sum.1 + (wr ((t47.getD t49.toNat (0, false, 0)).2.2 * (all0.getD (wr (2 * (t47.getD t49.toNat (0, false, 0)).1)).toNat ((0, 0), 0, 0, false)).1.1))), wr (sum.2 + (wr ((t47.getD t49.toNat (0, false, 0)).2.2 * (all0.getD (wr (2 * (t47.getD t49.toNat (0, false, 0)).1)).toNat ((0, 0), 0, 0, false)).1.2))))))
    else
     none
  else
   none
 else
  some (.inr (.inr (right, c, sum)))
theorem one65_0 : oneLoop Tryd.prog 65 0 = true := by kernel_rfl
theorem lp65_0 : ItemOk Tryd.prog (.loop 65 0 T65_0 X65_0 (loopVal step65_0)) := item_loopM md7 ext7 (U := 9) (n := 3) noSpecial mixed Gc6K9_ok one65_0 (fun x => by kernel_rfl)
noncomputable def Gc6K10 : List Ev.Item := .loop 65 0 T65_0 X65_0 (loopVal step65_0) :: Gc6K9
theorem Gc6K10_ok : ∀ q ∈ Gc6K10, ItemOk Tryd.prog q := items_cons lp65_0 Gc6K9_ok
noncomputable def s65 : (List (Int × Int × Int × Int × Int)) × ((Int × Bool) × (Int × Int) × (List (Int × Bool × Int)) × Int) → Option (Int) := fun (l, c) =>
 optE (s105 l) (fun r1 =>
  optE (s98 (c.2.1, 1000000000, 1000000000)) (fun r2 =>
   bif (firstE [r1.2, unl (win c.1.1 0 1000) 2, r2, unl (win c.2.2.2 1 100000000) 2, unl (decide ((c.2.2.1.length : Int) ≤ 6)) 8]) != 0 then
    some (firstE [r1.2, unl (win c.1.1 0 1000) 2, r2, unl (win c.2.2.2 1 100000000) 2, unl (decide ((c.2.2.1.length : Int) ≤ 6)) 8])
   else
    optE (loopVal step65_0 (l, r1.1, 0, c.2.2.1, (c.2.2.1.length : Int), 0, c, (0, 0))) (fun e3 =>
     sumE e3 (fun e4 =>
      some (e4)) (fun e5 =>
      optE (s106 e5.2.1.1) (fun r6 =>
       bif !e5.2.1.1.2 then
        bif (e5.2.2.1 == (wr (e5.2.1.2.2.2 * r6.1))) && ((e5.2.2.2 == (wr (e5.2.1.2.2.2 * r6.2))) && true) then
         optE (s107 (e5.1, e5.2.1.2.1.2, wr (-e5.2.1.2.1.1), e5.2.1.2.2.2)) (fun r7 =>
          some (unl (!r7) 19))
          (none)
        else
         some (unl false 19)
       else
        bif (e5.2.2.1 == (wr (e5.2.1.2.2.2 * r6.1))) && ((e5.2.2.2 == (wr (e5.2.1.2.2.2 * r6.2))) && true) then
         optE (s107 (e5.1, e5.2.1.2.1.2, e5.2.1.2.1.1, e5.2.1.2.2.2)) (fun r8 =>
          some (unl (!r8) 19))
          (none)
        else
         some (unl false 19))
       (none)))
     (none))
   (none))
  (none)
theorem i65 : ItemOk Tryd.prog (.fn 65 [.d zS, .d (.agg (.pair (.pair zI .bool) (.pair zP (.pair (.slice (.agg (.pair zI (.pair .bool zI)))) zI))))] [.d zI] s65) := item_fnM md7 ext7 (U := 9) (n := 4) noSpecial mixed Gc6K10_ok (fun x => by kernel_rfl)
noncomputable def Gc6K11 : List Ev.Item := .fn 65 [.d zS, .d (.agg (.pair (.pair zI .bool) (.pair zP (.pair (.slice (.agg (.pair zI (.pair .bool zI)))) zI))))] [.d zI] s65 :: Gc6K10
theorem Gc6K11_ok : ∀ q ∈ Gc6K11, ItemOk Tryd.prog q := items_cons i65 Gc6K10_ok
noncomputable def s29 : Int → Option (Int) := fun n =>
 bif !(win n 0 1000) then
  some (2)
 else
  some (0)
theorem i29 : ItemOk Tryd.prog (.fn 29 [.d zI] [.d zI] s29) := item_fnM md7 ext7 (U := 9) (n := 4) noSpecial mixed Gc6K11_ok (fun x => by kernel_rfl)
noncomputable def Gc6K12 : List Ev.Item := .fn 29 [.d zI] [.d zI] s29 :: Gc6K11
theorem Gc6K12_ok : ∀ q ∈ Gc6K12, ItemOk Tryd.prog q := items_cons i29 Gc6K11_ok
noncomputable def s86 : Int × Int → Option (Int) := fun (n, by0) =>
 bif !(by0 == 0) then
  bif !(by0 == 0) then
   bif decide ((Int.tmod n by0) < 0) then
    some (wr ((wr (Int.tdiv n by0)) - 1))
   else
    some (wr (Int.tdiv n by0))
  else
   none
 else
  none
theorem i86 : ItemOk Tryd.prog (.fn 86 [.d zI, .d zI] [.d zI] s86) := item_fnM md7 ext7 (U := 9) (n := 4) noSpecial mixed Gc6K12_ok (fun x => by kernel_rfl)
noncomputable def Gc6K13 : List Ev.Item := .fn 86 [.d zI, .d zI] [.d zI] s86 :: Gc6K12
theorem Gc6K13_ok : ∀ q ∈ Gc6K13, ItemOk Tryd.prog q := items_cons i86 Gc6K12_ok
@[reducible] def T34_0 : Tmpl := ⟨47, [], [.val 0 zI, .val 1 zI, .val 2 zI, .val 3 zI], [], none⟩
@[reducible] def X34_0 : List (Ex × Tmpl) := [(.ret, ⟨47, [], [.val 8 zI], [], none⟩)]
noncomputable def step34_0 : Int × Int × Int × Int → Option ((Int × Int × Int × Int) ⊕ (Int)) := fun (n, d, m, k) =>
 optE (s86 (n, d)) (fun r1 =>
  optE (s86 (m, k)) (fun r2 =>
   bif decide (r1 < r2) then
    some (.inr (-1))
   else
    bif decide (r1 > r2) then
     some (.inr 1)
    else
     bif (wr (n - (wr (r1 * d)))) == 0 then
      bif (wr (m - (wr (r2 * k)))) == 0 then
       some (.inr 0)
      else
       bif (wr (n - (wr (r1 * d)))) == 0 then
        some (.inr (-1))
       else
        bif (wr (m - (wr (r2 * k)))) == 0 then
         some (.inr 1)
        else
         some (.inl (k, wr (m - (wr (r2 * k))), d, wr (n - (wr (r1 * d)))))
     else
      bif (wr (n - (wr (r1 * d)))) == 0 then
       some (.inr (-1))
      else
       bif (wr (m - (wr (r2 * k)))) == 0 then
        some (.inr 1)
       else
        some (.inl (k, wr (m - (wr (r2 * k))), d, wr (n - (wr (r1 * d))))))
   (none))
  (none)
theorem one34_0 : oneLoop Tryd.prog 34 0 = true := by kernel_rfl
theorem lp34_0 : ItemOk Tryd.prog (.loop 34 0 T34_0 X34_0 (loopVal step34_0)) := item_loopM md7 ext7 (U := 9) (n := 3) noSpecial mixed Gc6K13_ok one34_0 (fun x => by kernel_rfl)
noncomputable def Gc6K14 : List Ev.Item := .loop 34 0 T34_0 X34_0 (loopVal step34_0) :: Gc6K13
theorem Gc6K14_ok : ∀ q ∈ Gc6K14, ItemOk Tryd.prog q := items_cons lp34_0 Gc6K13_ok
noncomputable def s34 : Int × Int × Int × Int → Option (Int) := fun (n, d, m, k) =>
 optE (loopVal step34_0 (n, d, m, k)) (fun e1 =>
  some (e1))
  (none)
theorem i34 : ItemOk Tryd.prog (.fn 34 [.d zI, .d zI, .d zI, .d zI] [.d zI] s34) := item_fnM md7 ext7 (U := 9) (n := 4) noSpecial mixed Gc6K14_ok (fun x => by kernel_rfl)
noncomputable def Gc6K15 : List Ev.Item := .fn 34 [.d zI, .d zI, .d zI, .d zI] [.d zI] s34 :: Gc6K14
theorem Gc6K15_ok : ∀ q ∈ Gc6K15, ItemOk Tryd.prog q := items_cons i34 Gc6K14_ok
noncomputable def s15 : (List (Int × Int × Int × Int × Int)) × ((Int × Bool) × (Int × Int) × (List (Int × Bool × Int)) × Int) × ((Int × Int) × Int × Int) → Option (Bool) := fun (l, c, x0) =>
 bif !true then
  some (false)
 else
  bif decide ((l.length : Int) > 6) then
   some (true)
  else
   bif decide ((c.2.2.1.length : Int) > 8) then
    some (true)
   else
    optE (s23 l) (fun r1 =>
     bif r1 != 0 then
      some (true)
     else
      optE (s31 x0) (fun r2 =>
       bif r2 != 0 then
        some (true)
       else
        optE (s32 (l, x0)) (fun r3 =>
         bif !r3 then
          some (true)
         else
          optE (s19 l) (fun r4 =>
           optE (s66 c) (fun r5 =>
            optE (s65 (r4, r5)) (fun r6 =>
             bif r6 != 0 then
              some (true)
             else
              optE (s29 c.1.1) (fun r7 =>
               bif r7 != 0 then
                some (false)
               else
                optE (s33 c.2.1) (fun r8 =>
                 bif !r8 then
                  some (false)
                 else
                  optE (s50 c.2.1) (fun r9 =>
                   bif !r9 then
                    some (false)
                   else
                    optE (s34 (wr ((wr (x0.1.1 * x0.2.2)) + (wr ((wr (c.1.1 * x0.2.1)) * x0.1.2))), wr (x0.1.2 * x0.2.2), c.2.1.1, c.2.1.2)) (fun r10 =>
                     bif c.1.2 then
                      bif decide (r10 ≤ 0) then
                       some (true)
                      else
                       bif !c.1.2 then
                        some (decide (r10 ≥ 0))
                       else
                        some (false)
                     else
                      bif !c.1.2 then
                       some (decide (r10 ≥ 0))
                      else
                       some (false))
                     (none))
                   (none))
                 (none))
               (none))
             (none))
            (none))
           (none))
         (none))
       (none))
     (none)
theorem i15 : ItemOk Tryd.prog (.fn 15 [.d zS, .d (.agg (.pair (.pair zI .bool) (.pair zP (.pair (.slice (.agg (.pair zI (.pair .bool zI)))) zI)))), .d (.agg (.pair zP zP))] [.d .bool] s15) := item_fnM md7 ext7 (U := 9) (n := 4) noSpecial mixed Gc6K15_ok (fun x => by kernel_rfl)
noncomputable def Gc6K16 : List Ev.Item := .fn 15 [.d zS, .d (.agg (.pair (.pair zI .bool) (.pair zP (.pair (.slice (.agg (.pair zI (.pair .bool zI)))) zI)))), .d (.agg (.pair zP zP))] [.d .bool] s15 :: Gc6K15
theorem Gc6K16_ok : ∀ q ∈ Gc6K16, ItemOk Tryd.prog q := items_cons i15 Gc6K15_ok
noncomputable def s21 : List (Int × Int × Int × Int × Int) → Option (Bool) := fun l =>
 bif decide ((l.length : Int) ≤ 6) then
  some (true)
 else
  bif decide ((l.length : Int) > 12) then
   some (decide ((l.length : Int) ≤ 14))
  else
   some (false)
theorem i21 : ItemOk Tryd.prog (.fn 21 [.d zS] [.d .bool] s21) := item_fnM md7 ext7 (U := 9) (n := 4) noSpecial mixed Gc6K16_ok (fun x => by kernel_rfl)
noncomputable def Gc6K17 : List Ev.Item := .fn 21 [.d zS] [.d .bool] s21 :: Gc6K16
theorem Gc6K17_ok : ∀ q ∈ Gc6K17, ItemOk Tryd.prog q := items_cons i21 Gc6K16_ok
@[reducible] def T67_0 : Tmpl := ⟨165, [(3, .ref 3 0 0 0)], [.val 0 zS, .val 6 zI, .cells 3 [.d (.pair (.pair zI .bool) (.pair zP (.pair (.slice (.agg (.pair zI (.pair .bool zI)))) zI)))]], [], none⟩
@[reducible] def X67_0 : List (Ex × Tmpl) := [(.ret, ⟨165, [], [.val 4 zI], [], none⟩), (.exit 0, ⟨165, [(3, .ref 3 0 0 0)], [.val 0 zS, .cells 3 [.d (.pair (.pair zI .bool) (.pair zP (.pair (.slice (.agg (.pair zI (.pair .bool zI)))) zI)))]], [], none⟩)]
noncomputable def step67_0 : (List (Int × Int × Int × Int × Int)) × Int × ((Int × Bool) × (Int × Int) × (List (Int × Bool × Int)) × Int) → Option (((List (Int × Int × Int × Int × Int)) × Int × ((Int × Bool) × (Int × Int) × (List (Int × Bool × Int)) × Int)) ⊕ ((Int) ⊕ ((List (Int × Int × Int × Int × Int)) × ((Int × Bool) × (Int × Int) × (List (Int × Bool × Int)) × Int)))) := fun (l, i, c) =>
 bif decide (i < (c.2.2.1.length : Int)) then
  bif inBounds i c.2.2.1.length then
   bif !(win (c.2.2.1.getD i.toNat (0, false, 0)).1 0 (wr ((l.length : Int) - 1))) then
    some (.inr (.inl 6))
   else
    bif !(win (c.2.2.1.getD i.toNat (0, false, 0)).2.2 1 100000000) then
     some (.inr (.inl 2))
    else
     some (.inl (l, wr (i + 1), c))
  else
   none
 else
  some (.inr (.inr (l, c)))
theorem one67_0 : oneLoop Tryd.prog 67 0 = true := by kernel_rfl
theorem lp67_0 : ItemOk Tryd.prog (.loop 67 0 T67_0 X67_0 (loopVal step67_0)) := item_loopM md7 ext7 (U := 9) (n := 3) noSpecial mixed Gc6K17_ok one67_0 (fun x => by kernel_rfl)
noncomputable def Gc6K18 : List Ev.Item := .loop 67 0 T67_0 X67_0 (loopVal step67_0) :: Gc6K17
theorem Gc6K18_ok : ∀ q ∈ Gc6K18, ItemOk Tryd.prog q := items_cons lp67_0 Gc6K17_ok
@[reducible] def T67_2 : Tmpl := ⟨165, [(3, .ref 3 0 0 0)], [.val 0 zS, .val 8 zI, .val 9 zI, .val 10 zI, .val 11 zI, .cells 3 [.d (.pair (.pair zI .bool) (.pair zP (.pair (.slice (.agg (.pair zI (.pair .bool zI)))) zI)))]], [], none⟩
@[reducible] def X67_2 : List (Ex × Tmpl) := [(.exit 2, ⟨165, [(3, .ref 3 0 0 0)], [.val 8 zI, .val 9 zI, .val 10 zI, .cells 3 [.d (.pair (.pair zI .bool) (.pair zP (.pair (.slice (.agg (.pair zI (.pair .bool zI)))) zI)))]], [], none⟩)]
noncomputable def step67_2 : (List (Int × Int × Int × Int × Int)) × Int × Int × Int × Int × ((Int × Bool) × (Int × Int) × (List (Int × Bool × Int)) × Int) → Option (((List (Int × Int × Int × Int × Int)) × Int × Int × Int × Int × ((Int × Bool) × (Int × Int) × (List (Int × Bool × Int)) × Int)) ⊕ (Int × Int × Int × ((Int × Bool) × (Int × Int) × (List (Int × Bool × Int)) × Int))) := fun (l, a, b, s, i, c) =>
 bif decide (i < (c.2.2.1.length : Int)) then
  bif inBounds i c.2.2.1.length then
   bif inBounds (c.2.2.1.getD i.toNat (0, false, 0)).1 l.length then
    optE (s100 ((l.getD (c.2.2.1.getD i.toNat (0, false, 0)).1.toNat (0, 0, 0, 0, 0)), (c.2.2.1.getD i.toNat (0, false, 0)).2.1)) (fun r6 =>
     some (.inl (l, wr (a + (wr ((c.2.2.1.getD i.toNat (0, false, 0)).2.2 * r6.1))), wr (b + (wr ((c.2.2.1.getD i.toNat (0, false, 0)).2.2 * r6.2.1))), wr (s + (wr ((c.2.2.1.getD i.toNat (0, false, 0)).2.2 * r6.2.2))), wr (i + 1), c)))
     (none)
   else
    none
  else
   none
 else
  some (.inr (a, b, s, c))
theorem one67_2 : oneLoop Tryd.prog 67 2 = true := by kernel_rfl
theorem lp67_2 : ItemOk Tryd.prog (.loop 67 2 T67_2 X67_2 (loopVal step67_2)) := item_loopM md7 ext7 (U := 9) (n := 3) noSpecial mixed Gc6K18_ok one67_2 (fun x => by kernel_rfl)
noncomputable def Gc6K19 : List Ev.Item := .loop 67 2 T67_2 X67_2 (loopVal step67_2) :: Gc6K18
theorem Gc6K19_ok : ∀ q ∈ Gc6K19, ItemOk Tryd.prog q := items_cons lp67_2 Gc6K18_ok
noncomputable def s67 : (List (Int × Int × Int × Int × Int)) × ((Int × Bool) × (Int × Int) × (List (Int × Bool × Int)) × Int) → Option (Int) := fun (l, c) =>
 optE (s29 c.1.1) (fun r1 =>
  bif r1 != 0 then
   some (r1)
  else
   optE (s33 c.2.1) (fun r2 =>
    bif !r2 then
     some (3)
    else
     bif !(win c.2.1.1 (-1000000000) 1000000000) then
      some (2)
     else
      bif decide (c.2.1.2 > 1000000000) then
       some (2)
      else
       bif !(win c.2.2.2 1 100000000) then
        some (2)
       else
        bif decide ((c.2.2.1.length : Int) > 6) then
         some (8)
        else
         optE (loopVal step67_0 (l, 0, c)) (fun e3 =>
          sumE e3 (fun e4 =>
           some (e4)) (fun e5 =>
           optE (loopVal step67_2 (e5.1, 0, 0, 0, 0, e5.2)) (fun e6 =>
            bif !e6.2.2.2.1.2 then
             bif e6.1 != (wr ((-1) * e6.2.2.2.2.2.2)) then
              some (19)
             else
              bif e6.2.1 != (wr ((wr ((-1) * e6.2.2.2.2.2.2)) * e6.2.2.2.1.1)) then
               some (19)
              else
               optE (s92 e6.2.2.1) (fun r7 =>
                optE (s92 e6.2.2.2.2.1.2) (fun r8 =>
                 optE (s93 (r7, r8)) (fun r9 =>
                  optE (s92 (wr ((-1) * e6.2.2.2.2.2.2))) (fun r10 =>
                   optE (s92 e6.2.2.2.2.1.1) (fun r11 =>
                    optE (s93 (r10, r11)) (fun r12 =>
                     optE (s94 (r9, r12)) (fun r13 =>
                      bif decide (r13 > 0) then
                       some (19)
                      else
                       some (0))
                      (none))
                     (none))
                    (none))
                   (none))
                  (none))
                 (none))
                (none)
            else
             bif e6.1 != (wr (1 * e6.2.2.2.2.2.2)) then
              some (19)
             else
              bif e6.2.1 != (wr ((wr (1 * e6.2.2.2.2.2.2)) * e6.2.2.2.1.1)) then
               some (19)
              else
               optE (s92 e6.2.2.1) (fun r14 =>
                optE (s92 e6.2.2.2.2.1.2) (fun r15 =>
                 optE (s93 (r14, r15)) (fun r16 =>
                  optE (s92 (wr (1 * e6.2.2.2.2.2.2))) (fun r17 =>
                   optE (s92 e6.2.2.2.2.1.1) (fun r18 =>
                    optE (s93 (r17, r18)) (fun r19 =>
                     optE (s94 (r16, r19)) (fun r20 =>
                      bif decide (r20 > 0) then
                       some (19)
                      else
                       some (0))
                      (none))
                     (none))
                    (none))
                   (none))
                  (none))
                 (none))
                (none))
            (none)))
          (none))
    (none))
  (none)
theorem i67 : ItemOk Tryd.prog (.fn 67 [.d zS, .d (.agg (.pair (.pair zI .bool) (.pair zP (.pair (.slice (.agg (.pair zI (.pair .bool zI)))) zI))))] [.d zI] s67) := item_fnM md7 ext7 (U := 9) (n := 4) noSpecial mixed Gc6K19_ok (fun x => by kernel_rfl)
noncomputable def Gc6K20 : List Ev.Item := .fn 67 [.d zS, .d (.agg (.pair (.pair zI .bool) (.pair zP (.pair (.slice (.agg (.pair zI (.pair .bool zI)))) zI))))] [.d zI] s67 :: Gc6K19
theorem Gc6K20_ok : ∀ q ∈ Gc6K20, ItemOk Tryd.prog q := items_cons i67 Gc6K19_ok
noncomputable def s14 : (List (Int × Int × Int × Int × Int)) × ((Int × Bool) × (Int × Int) × (List (Int × Bool × Int)) × Int) → Option (Bool) := fun (l, c) =>
 bif !true then
  some (false)
 else
  optE (s21 l) (fun r1 =>
   bif !r1 then
    some (true)
   else
    bif decide ((c.2.2.1.length : Int) > 8) then
     some (true)
    else
     optE (s19 l) (fun r2 =>
      optE (s66 c) (fun r3 =>
       optE (s65 (r2, r3)) (fun r4 =>
        optE (s23 l) (fun r5 =>
         bif r5 == 0 then
          optE (s67 (l, c)) (fun r6 =>
           some (r4 == r6))
           (none)
         else
          some (r4 == r5))
         (none))
        (none))
       (none))
      (none))
   (none)
theorem i14 : ItemOk Tryd.prog (.fn 14 [.d zS, .d (.agg (.pair (.pair zI .bool) (.pair zP (.pair (.slice (.agg (.pair zI (.pair .bool zI)))) zI))))] [.d .bool] s14) := item_fnM md7 ext7 (U := 9) (n := 4) noSpecial mixed Gc6K20_ok (fun x => by kernel_rfl)
noncomputable def Gc6K21 : List Ev.Item := .fn 14 [.d zS, .d (.agg (.pair (.pair zI .bool) (.pair zP (.pair (.slice (.agg (.pair zI (.pair .bool zI)))) zI))))] [.d .bool] s14 :: Gc6K20
theorem Gc6K21_ok : ∀ q ∈ Gc6K21, ItemOk Tryd.prog q := items_cons i14 Gc6K20_ok
end Go.Proofs.YtfmfiflpokogiaaDoor
