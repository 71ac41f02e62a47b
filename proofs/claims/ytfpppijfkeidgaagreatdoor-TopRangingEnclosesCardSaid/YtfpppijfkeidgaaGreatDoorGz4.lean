/- Printed by gen.py: specifications of functions. -/
import Derived.Test.YtfpppijfkeidgaaGreatDoorGz2
set_option linter.unusedSimpArgs false
set_option maxRecDepth 100000
namespace Go.Proofs.YtfpppijfkeidgaaGreatDoor
open Go.Ev
noncomputable def s47 : List (Int × Int × Int × Int × Int) → Option ((List ((Int × Int) × Int × Int × Bool)) × Int) := fun l =>
 optE (s32 l) (fun r1 =>
  bif r1.2 != 0 then
   some (([], r1.2))
  else
   optE (s62 l) (fun r2 =>
    some ((r2, 0)))
    (none))
  (none)
theorem i47 : ItemOk Tryz.prog (.fn 47 [.d zS] [.d (.slice (.agg (.pair zP (.pair zI (.pair zI .bool))))), .d zI] s47) := item_fnM md5 ext5 (U := 9) (n := 12) noSpecial mixed Gz2K15_ok (fun x => by kernel_rfl)
noncomputable def Gz3K1 : List Ev.Item := .fn 47 [.d zS] [.d (.slice (.agg (.pair zP (.pair zI (.pair zI .bool))))), .d zI] s47 :: Gz2K15
theorem Gz3K1_ok : ∀ q ∈ Gz3K1, ItemOk Tryz.prog q := items_cons i47 Gz2K15_ok
noncomputable def s49 : Int × Bool → Option (Int × Int) := fun q0 =>
 bif !q0.2 then
  optE (s65 (1, q0.1)) (fun r1 =>
   some (r1))
   (none)
 else
  some ((1, q0.1))
theorem i49 : ItemOk Tryz.prog (.fn 49 [.d (.agg (.pair zI .bool))] [.d (.agg zP)] s49) := item_fnM md5 ext5 (U := 9) (n := 12) noSpecial mixed Gz3K1_ok (fun x => by kernel_rfl)
noncomputable def Gz3K2 : List Ev.Item := .fn 49 [.d (.agg (.pair zI .bool))] [.d (.agg zP)] s49 :: Gz3K1
theorem Gz3K2_ok : ∀ q ∈ Gz3K2, ItemOk Tryz.prog q := items_cons i49 Gz3K1_ok
noncomputable def s19 : (List (Int × Int × Int × Int × Int)) × (Int × Bool) → Option (((List (Int × Bool × Int)) × Int) × Int) := fun (l, q0) =>
 optE (s47 l) (fun r1 =>
  bif (firstE [r1.2, unl (win q0.1 0 1000) 2]) != 0 then
   some ((([], 0), firstE [r1.2, unl (win q0.1 0 1000) 2]))
  else
   optE (s41 l) (fun r2 =>
    bif !r2 then
     some ((([], 0), 13))
    else
     optE (s49 q0) (fun r3 =>
      optE (s48 (r1.1, r3)) (fun r4 =>
       bif !r4.2 then
        some ((([], 0), 22))
       else
        some ((r4.1.1, 0)))
       (none))
      (none))
    (none))
  (none)
theorem i19 : ItemOk Tryz.prog (.fn 19 [.d zS, .d (.agg (.pair zI .bool))] [.d (.agg (.pair (.slice (.agg (.pair zI (.pair .bool zI)))) zI)), .d zI] s19) := item_fnM md5 ext5 (U := 9) (n := 12) noSpecial mixed Gz3K2_ok (fun x => by kernel_rfl)
noncomputable def Gz3K3 : List Ev.Item := .fn 19 [.d zS, .d (.agg (.pair zI .bool))] [.d (.agg (.pair (.slice (.agg (.pair zI (.pair .bool zI)))) zI)), .d zI] s19 :: Gz3K2
theorem Gz3K3_ok : ∀ q ∈ Gz3K3, ItemOk Tryz.prog q := items_cons i19 Gz3K2_ok
noncomputable def s50 : (Int × Int) × Int × Int → Option (Int) := fun (f, most, mostDen) =>
 bif decide (f.2 > 0) then
  optE (s73 f) (fun r1 =>
   optE (s72 r1) (fun r2 =>
    bif win f.1 (wr (-most)) most then
     some (firstE [unl (r2 == 1) 3, unl (decide (f.2 ≤ mostDen)) 2])
    else
     some (firstE [unl (r2 == 1) 3, unl false 2]))
    (none))
   (none)
 else
  bif win f.1 (wr (-most)) most then
   some (firstE [unl false 3, unl (decide (f.2 ≤ mostDen)) 2])
  else
   some (firstE [unl false 3, unl false 2])
theorem i50 : ItemOk Tryz.prog (.fn 50 [.d (.agg zP), .d zI, .d zI] [.d zI] s50) := item_fnM md5 ext5 (U := 9) (n := 12) noSpecial mixed Gz3K3_ok (fun x => by kernel_rfl)
noncomputable def Gz3K4 : List Ev.Item := .fn 50 [.d (.agg zP), .d zI, .d zI] [.d zI] s50 :: Gz3K3
theorem Gz3K4_ok : ∀ q ∈ Gz3K4, ItemOk Tryz.prog q := items_cons i50 Gz3K3_ok
noncomputable def s74 : Int × Int → Option (Int × Int) := fun (x0, y0) =>
 some ((IntKind.u64.wrap ((IntKind.u64.wrap ((IntKind.u64.wrap ((shrI .u64 x0 32) * (shrI .u64 y0 32))) + (shrI .u64 (IntKind.u64.wrap ((IntKind.u64.wrap ((shrI .u64 x0 32) * (andI .u64 y0 4294967295))) + (shrI .u64 (IntKind.u64.wrap ((andI .u64 x0 4294967295) * (andI .u64 y0 4294967295))) 32))) 32))) + (shrI .u64 (IntKind.u64.wrap ((andI .u64 (IntKind.u64.wrap ((IntKind.u64.wrap ((shrI .u64 x0 32) * (andI .u64 y0 4294967295))) + (shrI .u64 (IntKind.u64.wrap ((andI .u64 x0 4294967295) * (andI .u64 y0 4294967295))) 32))) 4294967295) + (IntKind.u64.wrap ((andI .u64 x0 4294967295) * (shrI .u64 y0 32))))) 32)), IntKind.u64.wrap (x0 * y0)))
theorem i74 : ItemOk Tryz.prog (.fn 74 [.d (.int .u64), .d (.int .u64)] [.d (.int .u64), .d (.int .u64)] s74) := item_fnM md5 ext5 (U := 9) (n := 12) noSpecial mixed Gz3K4_ok (fun x => by kernel_rfl)
noncomputable def Gz3K5 : List Ev.Item := .fn 74 [.d (.int .u64), .d (.int .u64)] [.d (.int .u64), .d (.int .u64)] s74 :: Gz3K4
theorem Gz3K5_ok : ∀ q ∈ Gz3K5, ItemOk Tryz.prog q := items_cons i74 Gz3K4_ok
noncomputable def s51 : Int × Int × Int × Int → Option (Bool) := fun (a, b, c, d) =>
 bif !((decide (a < 0)) == (decide (c < 0))) then
  some (decide (c < 0))
 else
  optE (s72 a) (fun r1 =>
   optE (s74 (IntKind.u64.wrap r1, IntKind.u64.wrap b)) (fun r2 =>
    optE (s72 c) (fun r3 =>
     optE (s74 (IntKind.u64.wrap r3, IntKind.u64.wrap d)) (fun r4 =>
      bif r2.1 == r4.1 then
       bif r2.2 == r4.2 then
        some (false)
       else
        bif decide (r2.1 > r4.1) then
         some (!(true == (decide (a < 0))))
        else
         bif r2.1 == r4.1 then
          some (!((decide (r2.2 > r4.2)) == (decide (a < 0))))
         else
          some (!(false == (decide (a < 0))))
      else
       bif decide (r2.1 > r4.1) then
        some (!(true == (decide (a < 0))))
       else
        bif r2.1 == r4.1 then
         some (!((decide (r2.2 > r4.2)) == (decide (a < 0))))
        else
         some (!(false == (decide (a < 0)))))
      (none))
     (none))
    (none))
   (none)
theorem i51 : ItemOk Tryz.prog (.fn 51 [.d zI, .d zI, .d zI, .d zI] [.d .bool] s51) := item_fnM md5 ext5 (U := 9) (n := 12) noSpecial mixed Gz3K5_ok (fun x => by kernel_rfl)
noncomputable def Gz3K6 : List Ev.Item := .fn 51 [.d zI, .d zI, .d zI, .d zI] [.d .bool] s51 :: Gz3K5
theorem Gz3K6_ok : ∀ q ∈ Gz3K6, ItemOk Tryz.prog q := items_cons i51 Gz3K5_ok
@[reducible] def T20_0 : Tmpl := ⟨153, [(3, .ref 3 0 0 0), (7, .ref 7 0 0 0)], [.val 0 zS, .val 5 (.slice (.agg (.pair zP (.pair zI (.pair zI .bool))))), .val 8 zI, .val 47 (.slice (.agg (.pair zI (.pair .bool zI)))), .val 48 zI, .val 49 zI, .cells 3 [.d (.pair (.pair zI .bool) (.pair zP (.pair (.slice (.agg (.pair zI (.pair .bool zI)))) zI)))], .cells 7 [.d zP]], [], none⟩
@[reducible] def X20_0 : List (Ex × Tmpl) := [(.ret, ⟨153, [], [.val 4 zI], [], none⟩), (.exit 0, ⟨153, [(3, .ref 3 0 0 0), (7, .ref 7 0 0 0)], [.val 8 zI, .cells 3 [.d (.pair (.pair zI .bool) (.pair zP (.pair (.slice (.agg (.pair zI (.pair .bool zI)))) zI)))], .cells 7 [.d zP]], [], none⟩)]
noncomputable def step20_0 : (List (Int × Int × Int × Int × Int)) × (List ((Int × Int) × Int × Int × Bool)) × Int × (List (Int × Bool × Int)) × Int × Int × ((Int × Bool) × (Int × Int) × (List (Int × Bool × Int)) × Int) × (Int × Int) → Option (((List (Int × Int × Int × Int × Int)) × (List ((Int × Int) × Int × Int × Bool)) × Int × (List (Int × Bool × Int)) × Int × Int × ((Int × Bool) × (Int × Int) × (List (Int × Bool × Int)) × Int) × (Int × Int)) ⊕ ((Int) ⊕ (Int × ((Int × Bool) × (Int × Int) × (List (Int × Bool × Int)) × Int) × (Int × Int)))) := fun (l, all0, right, t47, t48, t49, c, sum) =>
 bif decide (t49 < t48) then
  bif inBounds t49 t47.length then
   bif (firstE [unl (win (t47.getD t49.toNat (0, false, 0)).1 0 (wr ((l.length : Int) - 1))) 6, unl (win (t47.getD t49.toNat (0, false, 0)).2.2 1 100000000) 2]) != 0 then
    some (.inr (.inl (firstE [unl (win (t47.getD t49.toNat (0, false, 0)).1 0 (wr ((l.length : Int) - 1))) 6, unl (win (t47.getD t49.toNat (0, false, 0)).2.2 1 100000000) 2])))
   else
    bif inBounds (wr (2 * (t47.getD t49.toNat (0, false, 0)).1)) all0.length then
     bif !(t47.getD t49.toNat (0, false, 0)).2.1 then
      bif inBounds (wr ((wr (2 * (t47.getD t49.toNat (0, false, 0)).1)) + 1)) all0.length then
       some (.inl (l, all0, wr (right + (wr ((t47.getD t49.toNat (0, false, 0)).2.2 * (all0.getD (wr ((wr (2 * (t47.getD t49.toNat (0, false, 0)).1)) + 1)).toNat ((0, 0), 0, 0, false)).2.1))), t47, t48, wr (t49 + 1), c, (wr (sum.1 + (wr ((t47.getD t49.toNat (0, false, 0)).2.2 * (all0.getD (wr ((wr (2 * (t47.getD t49.toNat (0, false, 0)).1)) + 1)).toNat ((0, 0), 0, 0, false)).1.1))), wr (sum.2 + (wr ((t47.getD t49.toNat (0, false, 0)).2.2 * (all0.getD (wr ((wr (2 * (t47.getD t49.toNat (0, false, 0)).1)) + 1)).toNat ((0, 0), 0, 0, false)).1.2))))))
      else
       none
     else
      some (.inl (l, all0, wr (right + (wr ((t47.getD t49.toNat (0, false, 0)).2.2 * (all0.getD (wr (2 * (t47.getD t49.toNat (0, false, 0)).1)).toNat ((0, 0), 0, 0, false)).2.1))), t47, t48, wr (t49 + 1), c, (wr (sum.1 + (wr ((t47.getD t49.toNat (0, false, 0)).2.2 * (all0.getD (wr (2 * (t47.getD t49.toNat (0, false, 0)).1)).toNat ((0, 0), 0, 0, false)).1.1))), wr (sum.2 + (wr ((t47.getD t49.toNat (0, false, 0)).2.2 * (all0.getD (wr (2 * (t47.getD t49.toNat (0, false, 0)).1)).toNat ((0, 0), 0, 0, false)).1.2))))))
    else
     none
  else
   none
 else
  some (.inr (.inr (right, c, sum)))
theorem one20_0 : oneLoop Tryz.prog 20 0 = true := by kernel_rfl
theorem lp20_0 : ItemOk Tryz.prog (.loop 20 0 T20_0 X20_0 (loopVal step20_0)) := item_loopM md5 ext5 (U := 9) (n := 11) noSpecial mixed Gz3K6_ok one20_0 (fun x => by kernel_rfl)
noncomputable def Gz3K7 : List Ev.Item := .loop 20 0 T20_0 X20_0 (loopVal step20_0) :: Gz3K6
theorem Gz3K7_ok : ∀ q ∈ Gz3K7, ItemOk Tryz.prog q := items_cons lp20_0 Gz3K6_ok
noncomputable def s20 : (List (Int × Int × Int × Int × Int)) × ((Int × Bool) × (Int × Int) × (List (Int × Bool × Int)) × Int) → Option (Int) := fun (l, c) =>
 optE (s47 l) (fun r1 =>
  optE (s50 (c.2.1, 1000000000, 1000000000)) (fun r2 =>
   bif (firstE [r1.2, unl (win c.1.1 0 1000) 2, r2, unl (win c.2.2.2 1 100000000) 2, unl (decide ((c.2.2.1.length : Int) ≤ 6)) 8]) != 0 then
    some (firstE [r1.2, unl (win c.1.1 0 1000) 2, r2, unl (win c.2.2.2 1 100000000) 2, unl (decide ((c.2.2.1.length : Int) ≤ 6)) 8])
   else
    optE (loopVal step20_0 (l, r1.1, 0, c.2.2.1, (c.2.2.1.length : Int), 0, c, (0, 0))) (fun e3 =>
     sumE e3 (fun e4 =>
      some (e4)) (fun e5 =>
      optE (s49 e5.2.1.1) (fun r6 =>
       bif !e5.2.1.1.2 then
        bif (e5.2.2.1 == (wr (e5.2.1.2.2.2 * r6.1))) && ((e5.2.2.2 == (wr (e5.2.1.2.2.2 * r6.2))) && true) then
         optE (s51 (e5.1, e5.2.1.2.1.2, wr (-e5.2.1.2.1.1), e5.2.1.2.2.2)) (fun r7 =>
          some (unl (!r7) 19))
          (none)
        else
         some (unl false 19)
       else
        bif (e5.2.2.1 == (wr (e5.2.1.2.2.2 * r6.1))) && ((e5.2.2.2 == (wr (e5.2.1.2.2.2 * r6.2))) && true) then
         optE (s51 (e5.1, e5.2.1.2.1.2, e5.2.1.2.1.1, e5.2.1.2.2.2)) (fun r8 =>
          some (unl (!r8) 19))
          (none)
        else
         some (unl false 19))
       (none)))
     (none))
   (none))
  (none)
theorem i20 : ItemOk Tryz.prog (.fn 20 [.d zS, .d (.agg (.pair (.pair zI .bool) (.pair zP (.pair (.slice (.agg (.pair zI (.pair .bool zI)))) zI))))] [.d zI] s20) := item_fnM md5 ext5 (U := 9) (n := 12) noSpecial mixed Gz3K7_ok (fun x => by kernel_rfl)
noncomputable def Gz3K8 : List Ev.Item := .fn 20 [.d zS, .d (.agg (.pair (.pair zI .bool) (.pair zP (.pair (.slice (.agg (.pair zI (.pair .bool zI)))) zI))))] [.d zI] s20 :: Gz3K7
theorem Gz3K8_ok : ∀ q ∈ Gz3K8, ItemOk Tryz.prog q := items_cons i20 Gz3K7_ok
noncomputable def s21 : (Int × Bool) × (Int × Int) × (List (Int × Bool × Int)) × Int → Option ((Int × Bool) × (Int × Int) × (List (Int × Bool × Int)) × Int) := fun c =>
 bif room 24 (0 + c.2.2.1.length) then
  some (c)
 else
  none
theorem i21 : ItemOk Tryz.prog (.fn 21 [.d (.agg (.pair (.pair zI .bool) (.pair zP (.pair (.slice (.agg (.pair zI (.pair .bool zI)))) zI))))] [.d (.agg (.pair (.pair zI .bool) (.pair zP (.pair (.slice (.agg (.pair zI (.pair .bool zI)))) zI))))] s21) := item_fnM md5 ext5 (U := 9) (n := 12) noSpecial mixed Gz3K8_ok (fun x => by kernel_rfl)
noncomputable def Gz3K9 : List Ev.Item := .fn 21 [.d (.agg (.pair (.pair zI .bool) (.pair zP (.pair (.slice (.agg (.pair zI (.pair .bool zI)))) zI))))] [.d (.agg (.pair (.pair zI .bool) (.pair zP (.pair (.slice (.agg (.pair zI (.pair .bool zI)))) zI))))] s21 :: Gz3K8
theorem Gz3K9_ok : ∀ q ∈ Gz3K9, ItemOk Tryz.prog q := items_cons i21 Gz3K8_ok
end Go.Proofs.YtfpppijfkeidgaaGreatDoor
set_option linter.unusedSimpArgs false
set_option maxRecDepth 100000
namespace Go.Proofs.YtfpppijfkeidgaaGreatDoor
open Go.Ev
noncomputable def s42 : List Int → Option (List Int) := fun s =>
 bif decide (0 < s.length) then
  bif room 8 (0 + s.length) then
   some (s)
  else
   none
 else
  none
theorem i42 : ItemOk Tryz.prog (.fn 42 [.d (.slice zI)] [.own 3 zI] s42) := item_fnM md5 ext5 (U := 9) (n := 12) noSpecial mixed Gz3K9_ok (fun x => by kernel_rfl)
noncomputable def Gz4K1 : List Ev.Item := .fn 42 [.d (.slice zI)] [.own 3 zI] s42 :: Gz3K9
theorem Gz4K1_ok : ∀ q ∈ Gz4K1, ItemOk Tryz.prog q := items_cons i42 Gz3K9_ok
@[reducible] def T61_0 : Tmpl := ⟨36, [(1, .ref 2004 0 0 0), (4, .ref 3900 0 0 0), (5, .ref 2005 0 0 0), (16001, .ref 2004 0 0 0), (16004, .ref 3900 0 0 0), (16005, .ref 2005 0 0 0), (48001, .ref 3001 0 0 0), (48002, .ref 3002 0 0 0), (48003, .ref 3003 0 0 0), (48006, .int .i64 2), (48047, .mref 4900), (80000001, .ref 3001 0 0 0), (80000002, .ref 3002 0 0 0), (80000003, .ref 3003 0 0 0)], [.val 8 zI, .val 16008 zI, .cells 2004 [.ownp 1025 3 zI 1 zI], .cells 3900 [.d zI], .cells 2005 [.clo 61 [.ref 2004, .ref 3901, .ref 2003, .ref 3900, .ref 2005]], .cells 3001 [.d zS], .cells 3002 [.d (.slice zI)], .cells 3003 [.lit .i64 0], .cells 3901 [.lit .i64 2], .cells 2003 [.hd 4900]], [36, 9, 48], some (4900, .ready)⟩
@[reducible] def X61_0 : List (Ex × Tmpl) := [(.ret, ⟨36, [(7, .bool false), (16001, .ref 2004 0 0 0), (16004, .ref 3900 0 0 0), (16005, .ref 2005 0 0 0), (48001, .ref 3001 0 0 0), (48002, .ref 3002 0 0 0), (48003, .ref 3003 0 0 0), (48006, .int .i64 2), (48047, .mref 4900), (80000001, .ref 3001 0 0 0), (80000002, .ref 3002 0 0 0), (80000003, .ref 3003 0 0 0)], [.val 16008 zI, .cells 2004 [.ownp 25 3 zI 2 zP], .cells 3900 [.d zI], .cells 2005 [.clo 61 [.ref 2004, .ref 3901, .ref 2003, .ref 3900, .ref 2005]], .cells 3001 [.d zS], .cells 3002 [.own 900 3 zI], .cells 3003 [.lit .i64 0], .cells 3901 [.lit .i64 2], .cells 2003 [.hd 4900]], [36, 9, 48], some (4900, .done none)⟩), (.exit 0, ⟨36, [(16001, .ref 2004 0 0 0), (16004, .ref 3900 0 0 0), (16005, .ref 2005 0 0 0), (48001, .ref 3001 0 0 0), (48002, .ref 3002 0 0 0), (48003, .ref 3003 0 0 0), (48006, .int .i64 2), (48047, .mref 4900), (80000001, .ref 3001 0 0 0), (80000002, .ref 3002 0 0 0), (80000003, .ref 3003 0 0 0)], [.val 16008 zI, .cells 2004 [.ownp 1025 3 zI 1 zI], .cells 3900 [.d zI], .cells 2005 [.clo 61 [.ref 2004, .ref 3901, .ref 2003, .ref 3900, .ref 2005]], .cells 3001 [.d zS], .cells 3002 [.d (.slice zI)], .cells 3003 [.lit .i64 0], .cells 3901 [.lit .i64 2], .cells 2003 [.hd 4900]], [36, 9, 48], some (4900, .ready)⟩)]
noncomputable def Lp15_0 : LpI := lpOf Tryz.prog 15 0 false
noncomputable def step61_0 : Int × Int × Int × Int × Unit × (List (Int × Int × Int × Int × Int)) × (List Int) × Unit × Unit × Unit → Option (LpI × ((Int × Int × Int × Int × Unit × (List (Int × Int × Int × Int × Int)) × (List Int) × Unit × Unit × Unit) ⊕ ((Int × (Int × Int) × Int × Unit × (List (Int × Int × Int × Int × Int)) × (List Int) × Unit × Unit × Unit) ⊕ (Int × Int × Int × Unit × (List (Int × Int × Int × Int × Int)) × (List Int) × Unit × Unit × Unit)))) := fun (i, i', t2004, t3900, _, l, t3002, _, _, _) =>
 bif decide (i < t3900) then
  bif inBounds t2004 l.length then
   bif inBounds i l.length then
    optE (s41 [(l.getD t2004.toNat (0, 0, 0, 0, 0)), (l.getD i.toNat (0, 0, 0, 0, 0))]) (fun r2 =>
     bif !r2 then
      optE (s42 [t2004, i]) (fun r3 =>
       some (Lp15_0, .inr (.inl (i', (t2004, i), t3900, (), l, r3, (), (), ()))))
       (none)
     else
      some (Lp15_0, .inl (wr (i + 1), i', t2004, t3900, (), l, t3002, (), (), ())))
     (none)
   else
    none
  else
   none
 else
  some (Lp15_0, .inr (.inr (i', t2004, t3900, (), l, t3002, (), (), ())))
theorem one61_0 : oneLoop Tryz.prog 61 0 = true := by kernel_rfl
theorem lp61_0 : ItemOk Tryz.prog (.loopI 61 0 Lp15_0 T61_0 X61_0 (loopVal (strip Lp15_0 step61_0))) := item_loopI md5 ext5 (U := 9) (n := 12) noSpecial mixed Gz4K1_ok one61_0 (fun x => by kernel_rfl)
noncomputable def Gz4K2 : List Ev.Item := .loopI 61 0 Lp15_0 T61_0 X61_0 (loopVal (strip Lp15_0 step61_0)) :: Gz4K1
theorem Gz4K2_ok : ∀ q ∈ Gz4K2, ItemOk Tryz.prog q := items_cons lp61_0 Gz4K1_ok
@[reducible] def T61_0a : Tmpl := ⟨36, [(1, .ref 1004 0 0 0), (4, .ref 2900 0 0 0), (5, .ref 1005 0 0 0), (32001, .ref 2001 0 0 0), (32002, .ref 2002 0 0 0), (32003, .ref 2003 0 0 0), (32006, .int .i64 2), (32047, .mref 3900), (64000001, .ref 2001 0 0 0), (64000002, .ref 2002 0 0 0), (64000003, .ref 2003 0 0 0)], [.val 8 zI, .cells 1004 [.ownp 25 3 zI 0 .unit], .cells 2900 [.d zI], .cells 1005 [.clo 61 [.ref 1004, .ref 2901, .ref 1003, .ref 2900, .ref 1005]], .cells 2001 [.d zS], .cells 2002 [.d (.slice zI)], .cells 2003 [.lit .i64 0], .cells 2901 [.lit .i64 2], .cells 1003 [.hd 3900]], [9, 48], some (3900, .ready)⟩
@[reducible] def X61_0a : List (Ex × Tmpl) := [(.ret, ⟨36, [(7, .bool false), (32001, .ref 2001 0 0 0), (32002, .ref 2002 0 0 0), (32003, .ref 2003 0 0 0), (32006, .int .i64 2), (32047, .mref 3900), (64000001, .ref 2001 0 0 0), (64000002, .ref 2002 0 0 0), (64000003, .ref 2003 0 0 0)], [.cells 2001 [.d zS], .cells 2002 [.own 901 3 zI], .cells 2003 [.lit .i64 0]], [9, 48], some (3900, .done none)⟩), (.exit 0, ⟨36, [(32001, .ref 2001 0 0 0), (32002, .ref 2002 0 0 0), (32003, .ref 2003 0 0 0), (32006, .int .i64 2), (32047, .mref 3900), (64000001, .ref 2001 0 0 0), (64000002, .ref 2002 0 0 0), (64000003, .ref 2003 0 0 0)], [.cells 2001 [.d zS], .cells 2002 [.d (.slice zI)], .cells 2003 [.lit .i64 0]], [9, 48], some (3900, .ready)⟩)]
noncomputable def step61_0a : Int × Unit × Int × Unit × (List (Int × Int × Int × Int × Int)) × (List Int) × Unit × Unit × Unit → Option (LpI × ((Int × Unit × Int × Unit × (List (Int × Int × Int × Int × Int)) × (List Int) × Unit × Unit × Unit) ⊕ (((List (Int × Int × Int × Int × Int)) × (List Int) × Unit) ⊕ ((List (Int × Int × Int × Int × Int)) × (List Int) × Unit)))) := fun (i, _, t2900, _, l, t2002, _, _, _) =>
 bif decide (i < t2900) then
  optE (onlyAt Lp15_0 Lp15_0 <| loopVal (strip Lp15_0 step61_0) (wr (i + 1), i, i, t2900, (), l, t2002, (), (), ())) (fun e2 =>
   sumE e2 (fun e3 =>
    some (Lp15_0, .inr (.inl (e3.2.2.2.2.1, e3.2.2.2.2.2.1, ())))) (fun e4 =>
    some (Lp15_0, .inl (wr (e4.1 + 1), (), e4.2.2.1, (), e4.2.2.2.2.1, e4.2.2.2.2.2.1, (), (), ()))))
   (none)
 else
  some (Lp15_0, .inr (.inr (l, t2002, ())))
theorem one61_0a : oneLoop Tryz.prog 61 0 = true := by kernel_rfl
theorem lp61_0a : ItemOk Tryz.prog (.loopI 61 0 Lp15_0 T61_0a X61_0a (loopVal (strip Lp15_0 step61_0a))) := item_loopI md5 ext5 (U := 9) (n := 13) noSpecial mixed Gz4K2_ok one61_0a (fun x => by kernel_rfl)
noncomputable def Gz4K3 : List Ev.Item := .loopI 61 0 Lp15_0 T61_0a X61_0a (loopVal (strip Lp15_0 step61_0a)) :: Gz4K2
theorem Gz4K3_ok : ∀ q ∈ Gz4K3, ItemOk Tryz.prog q := items_cons lp61_0a Gz4K2_ok
@[reducible] def T61_0b : Tmpl := ⟨36, [(1, .ref 3004 0 0 0), (4, .ref 4900 0 0 0), (5, .ref 3005 0 0 0), (16001, .ref 3004 0 0 0), (16004, .ref 4900 0 0 0), (16005, .ref 3005 0 0 0), (32001, .ref 3004 0 0 0), (32004, .ref 4900 0 0 0), (32005, .ref 3005 0 0 0), (64001, .ref 4001 0 0 0), (64002, .ref 4002 0 0 0), (64003, .ref 4003 0 0 0), (64006, .int .i64 3), (64047, .mref 5900), (96000001, .ref 4001 0 0 0), (96000002, .ref 4002 0 0 0), (96000003, .ref 4003 0 0 0)], [.val 8 zI, .val 16008 zI, .val 32008 zI, .cells 3004 [.ownp 1025 3 zI 2 zP], .cells 4900 [.d zI], .cells 3005 [.clo 61 [.ref 3004, .ref 4901, .ref 3003, .ref 4900, .ref 3005]], .cells 4001 [.d zS], .cells 4002 [.d (.slice zI)], .cells 4003 [.lit .i64 0], .cells 4901 [.lit .i64 3], .cells 3003 [.hd 5900]], [36, 36, 9, 48], some (5900, .ready)⟩
@[reducible] def X61_0b : List (Ex × Tmpl) := [(.ret, ⟨36, [(7, .bool false), (16001, .ref 3004 0 0 0), (16004, .ref 4900 0 0 0), (16005, .ref 3005 0 0 0), (32001, .ref 3004 0 0 0), (32004, .ref 4900 0 0 0), (32005, .ref 3005 0 0 0), (64001, .ref 4001 0 0 0), (64002, .ref 4002 0 0 0), (64003, .ref 4003 0 0 0), (64006, .int .i64 3), (64047, .mref 5900), (96000001, .ref 4001 0 0 0), (96000002, .ref 4002 0 0 0), (96000003, .ref 4003 0 0 0)], [.val 16008 zI, .val 32008 zI, .cells 3004 [.ownp 25 3 zI 3 (.pair zI zP)], .cells 4900 [.d zI], .cells 3005 [.clo 61 [.ref 3004, .ref 4901, .ref 3003, .ref 4900, .ref 3005]], .cells 4001 [.d zS], .cells 4002 [.own 900 3 zI], .cells 4003 [.lit .i64 0], .cells 4901 [.lit .i64 3], .cells 3003 [.hd 5900]], [36, 36, 9, 48], some (5900, .done none)⟩), (.exit 0, ⟨36, [(16001, .ref 3004 0 0 0), (16004, .ref 4900 0 0 0), (16005, .ref 3005 0 0 0), (32001, .ref 3004 0 0 0), (32004, .ref 4900 0 0 0), (32005, .ref 3005 0 0 0), (64001, .ref 4001 0 0 0), (64002, .ref 4002 0 0 0), (64003, .ref 4003 0 0 0), (64006, .int .i64 3), (64047, .mref 5900), (96000001, .ref 4001 0 0 0), (96000002, .ref 4002 0 0 0), (96000003, .ref 4003 0 0 0)], [.val 16008 zI, .val 32008 zI, .cells 3004 [.ownp 1025 3 zI 2 zP], .cells 4900 [.d zI], .cells 3005 [.clo 61 [.ref 3004, .ref 4901, .ref 3003, .ref 4900, .ref 3005]], .cells 4001 [.d zS], .cells 4002 [.d (.slice zI)], .cells 4003 [.lit .i64 0], .cells 4901 [.lit .i64 3], .cells 3003 [.hd 5900]], [36, 36, 9, 48], some (5900, .ready)⟩)]
noncomputable def step61_0b : Int × Int × Int × (Int × Int) × Int × Unit × (List (Int × Int × Int × Int × Int)) × (List Int) × Unit × Unit × Unit → Option (LpI × ((Int × Int × Int × (Int × Int) × Int × Unit × (List (Int × Int × Int × Int × Int)) × (List Int) × Unit × Unit × Unit) ⊕ ((Int × Int × (Int × Int × Int) × Int × Unit × (List (Int × Int × Int × Int × Int)) × (List Int) × Unit × Unit × Unit) ⊕ (Int × Int × (Int × Int) × Int × Unit × (List (Int × Int × Int × Int × Int)) × (List Int) × Unit × Unit × Unit)))) := fun (i, i', i'', t3004, t4900, _, l, t4002, _, _, _) =>
 bif decide (i < t4900) then
  bif inBounds t3004.1 l.length then
   bif inBounds t3004.2 l.length then
    bif inBounds i l.length then
     optE (s41 [(l.getD t3004.1.toNat (0, 0, 0, 0, 0)), (l.getD t3004.2.toNat (0, 0, 0, 0, 0)), (l.getD i.toNat (0, 0, 0, 0, 0))]) (fun r5 =>
      bif !r5 then
       optE (s42 [t3004.1, t3004.2, i]) (fun r6 =>
        some (Lp15_0, .inr (.inl (i', i'', (t3004.1, t3004.2, i), t4900, (), l, r6, (), (), ()))))
        (none)
      else
       some (Lp15_0, .inl (wr (i + 1), i', i'', t3004, t4900, (), l, t4002, (), (), ())))
      (none)
    else
     none
   else
    none
  else
   none
 else
  some (Lp15_0, .inr (.inr (i', i'', t3004, t4900, (), l, t4002, (), (), ())))
theorem one61_0b : oneLoop Tryz.prog 61 0 = true := by kernel_rfl
theorem lp61_0b : ItemOk Tryz.prog (.loopI 61 0 Lp15_0 T61_0b X61_0b (loopVal (strip Lp15_0 step61_0b))) := item_loopI md5 ext5 (U := 9) (n := 11) noSpecial mixed Gz4K3_ok one61_0b (fun x => by kernel_rfl)
noncomputable def Gz4K4 : List Ev.Item := .loopI 61 0 Lp15_0 T61_0b X61_0b (loopVal (strip Lp15_0 step61_0b)) :: Gz4K3
theorem Gz4K4_ok : ∀ q ∈ Gz4K4, ItemOk Tryz.prog q := items_cons lp61_0b Gz4K3_ok
@[reducible] def T61_0c : Tmpl := ⟨36, [(1, .ref 2004 0 0 0), (4, .ref 3900 0 0 0), (5, .ref 2005 0 0 0), (16001, .ref 2004 0 0 0), (16004, .ref 3900 0 0 0), (16005, .ref 2005 0 0 0), (48001, .ref 3001 0 0 0), (48002, .ref 3002 0 0 0), (48003, .ref 3003 0 0 0), (48006, .int .i64 3), (48047, .mref 4900), (80000001, .ref 3001 0 0 0), (80000002, .ref 3002 0 0 0), (80000003, .ref 3003 0 0 0)], [.val 8 zI, .val 16008 zI, .cells 2004 [.ownp 1025 3 zI 1 zI], .cells 3900 [.d zI], .cells 2005 [.clo 61 [.ref 2004, .ref 3901, .ref 2003, .ref 3900, .ref 2005]], .cells 3001 [.d zS], .cells 3002 [.d (.slice zI)], .cells 3003 [.lit .i64 0], .cells 3901 [.lit .i64 3], .cells 2003 [.hd 4900]], [36, 9, 48], some (4900, .ready)⟩
@[reducible] def X61_0c : List (Ex × Tmpl) := [(.ret, ⟨36, [(7, .bool false), (16001, .ref 2004 0 0 0), (16004, .ref 3900 0 0 0), (16005, .ref 2005 0 0 0), (48001, .ref 3001 0 0 0), (48002, .ref 3002 0 0 0), (48003, .ref 3003 0 0 0), (48006, .int .i64 3), (48047, .mref 4900), (80000001, .ref 3001 0 0 0), (80000002, .ref 3002 0 0 0), (80000003, .ref 3003 0 0 0)], [.val 16008 zI, .cells 2004 [.ownp 900 3 zI 3 (.pair zI zP)], .cells 3900 [.d zI], .cells 2005 [.clo 61 [.ref 2004, .ref 3901, .ref 2003, .ref 3900, .ref 2005]], .cells 3001 [.d zS], .cells 3002 [.own 901 3 zI], .cells 3003 [.lit .i64 0], .cells 3901 [.lit .i64 3], .cells 2003 [.hd 4900]], [36, 9, 48], some (4900, .done none)⟩), (.exit 0, ⟨36, [(16001, .ref 2004 0 0 0), (16004, .ref 3900 0 0 0), (16005, .ref 2005 0 0 0), (48001, .ref 3001 0 0 0), (48002, .ref 3002 0 0 0), (48003, .ref 3003 0 0 0), (48006, .int .i64 3), (48047, .mref 4900), (80000001, .ref 3001 0 0 0), (80000002, .ref 3002 0 0 0), (80000003, .ref 3003 0 0 0)], [.val 16008 zI, .cells 2004 [.ownp 1025 3 zI 1 zI], .cells 3900 [.d zI], .cells 2005 [.clo 61 [.ref 2004, .ref 3901, .ref 2003, .ref 3900, .ref 2005]], .cells 3001 [.d zS], .cells 3002 [.d (.slice zI)], .cells 3003 [.lit .i64 0], .cells 3901 [.lit .i64 3], .cells 2003 [.hd 4900]], [36, 9, 48], some (4900, .ready)⟩)]
noncomputable def step61_0c : Int × Int × Int × Int × Unit × (List (Int × Int × Int × Int × Int)) × (List Int) × Unit × Unit × Unit → Option (LpI × ((Int × Int × Int × Int × Unit × (List (Int × Int × Int × Int × Int)) × (List Int) × Unit × Unit × Unit) ⊕ ((Int × (Int × Int × Int) × Int × Unit × (List (Int × Int × Int × Int × Int)) × (List Int) × Unit × Unit × Unit) ⊕ (Int × Int × Int × Unit × (List (Int × Int × Int × Int × Int)) × (List Int) × Unit × Unit × Unit)))) := fun (i, i', t2004, t3900, _, l, t3002, _, _, _) =>
 bif decide (i < t3900) then
  optE (onlyAt Lp15_0 Lp15_0 <| loopVal (strip Lp15_0 step61_0b) (wr (i + 1), i, i', (t2004, i), t3900, (), l, t3002, (), (), ())) (fun e5 =>
   sumE e5 (fun e6 =>
    some (Lp15_0, .inr (.inl (e6.2.1, e6.2.2.1, e6.2.2.2.1, (), e6.2.2.2.2.2.1, e6.2.2.2.2.2.2.1, (), (), ())))) (fun e7 =>
    some (Lp15_0, .inl (wr (e7.1 + 1), e7.2.1, e7.2.2.1.1, e7.2.2.2.1, (), e7.2.2.2.2.2.1, e7.2.2.2.2.2.2.1, (), (), ()))))
   (none)
 else
  some (Lp15_0, .inr (.inr (i', t2004, t3900, (), l, t3002, (), (), ())))
theorem one61_0c : oneLoop Tryz.prog 61 0 = true := by kernel_rfl
theorem lp61_0c : ItemOk Tryz.prog (.loopI 61 0 Lp15_0 T61_0c X61_0c (loopVal (strip Lp15_0 step61_0c))) := item_loopI md5 ext5 (U := 9) (n := 12) noSpecial mixed Gz4K4_ok one61_0c (fun x => by kernel_rfl)
noncomputable def Gz4K5 : List Ev.Item := .loopI 61 0 Lp15_0 T61_0c X61_0c (loopVal (strip Lp15_0 step61_0c)) :: Gz4K4
theorem Gz4K5_ok : ∀ q ∈ Gz4K5, ItemOk Tryz.prog q := items_cons lp61_0c Gz4K4_ok
@[reducible] def T61_0d : Tmpl := ⟨36, [(1, .ref 1004 0 0 0), (4, .ref 2900 0 0 0), (5, .ref 1005 0 0 0), (32001, .ref 2001 0 0 0), (32002, .ref 2002 0 0 0), (32003, .ref 2003 0 0 0), (32006, .int .i64 3), (32047, .mref 3900), (64000001, .ref 2001 0 0 0), (64000002, .ref 2002 0 0 0), (64000003, .ref 2003 0 0 0)], [.val 8 zI, .cells 1004 [.ownp 25 3 zI 0 .unit], .cells 2900 [.d zI], .cells 1005 [.clo 61 [.ref 1004, .ref 2901, .ref 1003, .ref 2900, .ref 1005]], .cells 2001 [.d zS], .cells 2002 [.d (.slice zI)], .cells 2003 [.lit .i64 0], .cells 2901 [.lit .i64 3], .cells 1003 [.hd 3900]], [9, 48], some (3900, .ready)⟩
@[reducible] def X61_0d : List (Ex × Tmpl) := [(.ret, ⟨36, [(7, .bool false), (32001, .ref 2001 0 0 0), (32002, .ref 2002 0 0 0), (32003, .ref 2003 0 0 0), (32006, .int .i64 3), (32047, .mref 3900), (64000001, .ref 2001 0 0 0), (64000002, .ref 2002 0 0 0), (64000003, .ref 2003 0 0 0)], [.cells 2001 [.d zS], .cells 2002 [.own 901 3 zI], .cells 2003 [.lit .i64 0]], [9, 48], some (3900, .done none)⟩), (.exit 0, ⟨36, [(32001, .ref 2001 0 0 0), (32002, .ref 2002 0 0 0), (32003, .ref 2003 0 0 0), (32006, .int .i64 3), (32047, .mref 3900), (64000001, .ref 2001 0 0 0), (64000002, .ref 2002 0 0 0), (64000003, .ref 2003 0 0 0)], [.cells 2001 [.d zS], .cells 2002 [.d (.slice zI)], .cells 2003 [.lit .i64 0]], [9, 48], some (3900, .ready)⟩)]
noncomputable def step61_0d : Int × Unit × Int × Unit × (List (Int × Int × Int × Int × Int)) × (List Int) × Unit × Unit × Unit → Option (LpI × ((Int × Unit × Int × Unit × (List (Int × Int × Int × Int × Int)) × (List Int) × Unit × Unit × Unit) ⊕ (((List (Int × Int × Int × Int × Int)) × (List Int) × Unit) ⊕ ((List (Int × Int × Int × Int × Int)) × (List Int) × Unit)))) := fun (i, _, t2900, _, l, t2002, _, _, _) =>
 bif decide (i < t2900) then
  optE (onlyAt Lp15_0 Lp15_0 <| loopVal (strip Lp15_0 step61_0c) (wr (i + 1), i, i, t2900, (), l, t2002, (), (), ())) (fun e5 =>
   sumE e5 (fun e6 =>
    some (Lp15_0, .inr (.inl (e6.2.2.2.2.1, e6.2.2.2.2.2.1, ())))) (fun e7 =>
    some (Lp15_0, .inl (wr (e7.1 + 1), (), e7.2.2.1, (), e7.2.2.2.2.1, e7.2.2.2.2.2.1, (), (), ()))))
   (none)
 else
  some (Lp15_0, .inr (.inr (l, t2002, ())))
theorem one61_0d : oneLoop Tryz.prog 61 0 = true := by kernel_rfl
theorem lp61_0d : ItemOk Tryz.prog (.loopI 61 0 Lp15_0 T61_0d X61_0d (loopVal (strip Lp15_0 step61_0d))) := item_loopI md5 ext5 (U := 9) (n := 13) noSpecial mixed Gz4K5_ok one61_0d (fun x => by kernel_rfl)
noncomputable def Gz4K6 : List Ev.Item := .loopI 61 0 Lp15_0 T61_0d X61_0d (loopVal (strip Lp15_0 step61_0d)) :: Gz4K5
theorem Gz4K6_ok : ∀ q ∈ Gz4K6, ItemOk Tryz.prog q := items_cons lp61_0d Gz4K5_ok
noncomputable def s15 : List (Int × Int × Int × Int × Int) → Option ((List Int) × Int) := fun l =>
 optE (s32 l) (fun r1 =>
  bif r1.2 != 0 then
   some (([], r1.2))
  else
   optE (onlyAt Lp15_0 Lp15_0 <| loopVal (strip Lp15_0 step61_0a) (0, (), (l.length : Int), (), l, [], (), (), ())) (fun e2 =>
    sumE e2 (fun e3 =>
     some ((e3.2.1, 0))) (fun e4 =>
     optE (onlyAt Lp15_0 Lp15_0 <| loopVal (strip Lp15_0 step61_0d) (0, (), (e4.1.length : Int), (), e4.1, e4.2.1, (), (), ())) (fun e5 =>
      sumE e5 (fun e6 =>
       some ((e6.2.1, 0))) (fun _ =>
       some (([], 12))))
      (none)))
    (none))
  (none)
theorem i15 : ItemOk Tryz.prog (.fn 15 [.d zS] [.own 3 zI, .d zI] s15) := item_fnM md5 ext5 (U := 9) (n := 16) noSpecial mixed Gz4K6_ok (fun x => by kernel_rfl)
noncomputable def Gz4K7 : List Ev.Item := .fn 15 [.d zS] [.own 3 zI, .d zI] s15 :: Gz4K6
theorem Gz4K7_ok : ∀ q ∈ Gz4K7, ItemOk Tryz.prog q := items_cons i15 Gz4K6_ok
end Go.Proofs.YtfpppijfkeidgaaGreatDoor
