/- Printed by gen.py: specifications of functions. -/
import Derived.Test.YthckjfbhdjjnkaaDoorGd9
import Derived.Test.YthckjfbhdjjnkaaDoorClone4
set_option linter.unusedSimpArgs false
set_option maxRecDepth 100000
namespace Go.Proofs.YthckjfbhdjjnkaaDoor
open Go.Ev
noncomputable def s102 : Int × Int × Int → Option (((Int × Int × Int) × Int) × Int) := fun r0 =>
 optE (s79 (r0.1, 1, 8)) (fun r1 =>
  bif !r1 then
   some (((r0, r0.2.2), 2))
  else
   bif decide (0 ≤ r0.1) then
    optE (s79 (r0.2.1, 1, wr ((shlI .i64 1 r0.1) - 1))) (fun r2 =>
     bif r2 then
      bif decide (0 ≤ r0.1) then
       optE (s79 (r0.2.2, 1, wr ((shlI .i64 1 r0.1) - 1))) (fun r3 =>
        optE (s82 (r3, 2)) (fun r4 =>
         optE (s82 ((andI .i64 r0.2.1 1) == 1, 3)) (fun r5 =>
          optE (s80 [r4, r5]) (fun r6 =>
           some (((r0, r0.2.2), r6)))
           (none))
          (none))
         (none))
        (none)
      else
       none
     else
      optE (s82 (false, 2)) (fun r7 =>
       optE (s82 ((andI .i64 r0.2.1 1) == 1, 3)) (fun r8 =>
        optE (s80 [r7, r8]) (fun r9 =>
         some (((r0, r0.2.2), r9)))
         (none))
        (none))
       (none))
     (none)
   else
    none)
  (none)
theorem i102 : ItemOk Tryd.prog (.fn 102 [.d (.agg (.pair zI zP))] [.d (.agg (.pair (.pair zI zP) zI)), .d zI] s102) := item_fnM md4 ext4 (U := 9) (n := 12) noSpecial mixed Gd9K3_ok (fun x => by kernel_rfl)
noncomputable def Gd10K1 : List Ev.Item := .fn 102 [.d (.agg (.pair zI zP))] [.d (.agg (.pair (.pair zI zP) zI)), .d zI] s102 :: Gd9K3
theorem Gd10K1_ok : ∀ q ∈ Gd10K1, ItemOk Tryd.prog q := items_cons i102 Gd9K3_ok
noncomputable def s141 : Int → Option (Int) := fun x0 =>
 some (andI .i64 (wr (IntKind.u64.wrap ((IntKind.u64.wrap ((IntKind.u64.wrap ((andI .u64 (IntKind.u64.wrap ((shrI .u64 (IntKind.u64.wrap ((andI .u64 (shrI .u64 (IntKind.u64.wrap ((andI .u64 (shrI .u64 x0 1) 6148914691236517205) + (andI .u64 x0 6148914691236517205))) 2) 3689348814741910323) + (andI .u64 (IntKind.u64.wrap ((andI .u64 (shrI .u64 x0 1) 6148914691236517205) + (andI .u64 x0 6148914691236517205))) 3689348814741910323))) 4) + (IntKind.u64.wrap ((andI .u64 (shrI .u64 (IntKind.u64.wrap ((andI .u64 (shrI .u64 x0 1) 6148914691236517205) + (andI .u64 x0 6148914691236517205))) 2) 3689348814741910323) + (andI .u64 (IntKind.u64.wrap ((andI .u64 (shrI .u64 x0 1) 6148914691236517205) + (andI .u64 x0 6148914691236517205))) 3689348814741910323))))) 1085102592571150095) + (shrI .u64 (andI .u64 (IntKind.u64.wrap ((shrI .u64 (IntKind.u64.wrap ((andI .u64 (shrI .u64 (IntKind.u64.wrap ((andI .u64 (shrI .u64 x0 1) 6148914691236517205) + (andI .u64 x0 6148914691236517205))) 2) 3689348814741910323) + (andI .u64 (IntKind.u64.wrap ((andI .u64 (shrI .u64 x0 1) 6148914691236517205) + (andI .u64 x0 6148914691236517205))) 3689348814741910323))) 4) + (IntKind.u64.wrap ((andI .u64 (shrI .u64 (IntKind.u64.wrap ((andI .u64 (shrI .u64 x0 1) 6148914691236517205) + (andI .u64 x0 6148914691236517205))) 2) 3689348814741910323) + (andI .u64 (IntKind.u64.wrap ((andI .u64 (shrI .u64 x0 1) 6148914691236517205) + (andI .u64 x0 6148914691236517205))) 3689348814741910323))))) 1085102592571150095) 8))) + (shrI .u64 (IntKind.u64.wrap ((andI .u64 (IntKind.u64.wrap ((shrI .u64 (IntKind.u64.wrap ((andI .u64 (shrI .u64 (IntKind.u64.wrap ((andI .u64 (shrI .u64 x0 1) 6148914691236517205) + (andI .u64 x0 6148914691236517205))) 2) 3689348814741910323) + (andI .u64 (IntKind.u64.wrap ((andI .u64 (shrI .u64 x0 1) 6148914691236517205) + (andI .u64 x0 6148914691236517205))) 3689348814741910323))) 4) + (IntKind.u64.wrap ((andI .u64 (shrI .u64 (IntKind.u64.wrap ((andI .u64 (shrI .u64 x0 1) 6148914691236517205) + (andI .u64 x0 6148914691236517205))) 2) 3689348814741910323) + (andI .u64 (IntKind.u64.wrap ((andI .u64 (shrI .u64 x0 1) 6148914691236517205) + (andI .u64 x0 6148914691236517205))) 3689348814741910323))))) 1085102592571150095) + (shrI .u64 (andI .u64 (IntKind.u64.wrap ((shrI .u64 (IntKind.u64.wrap ((andI .u64 (shrI .u64 (IntKind.u64.wrap ((andI .u64 (shrI .u64 x0 1) 6148914691236517205) + (andI .u64 x0 6148914691236517205))) 2) 3689348814741910323) + (andI .u64 (IntKind.u64.wrap ((andI .u64 (shrI .u64 x0 1) 6148914691236517205) + (andI .u64 x0 6148914691236517205))) 3689348814741910323))) 4) + (IntKind.u64.wrap ((andI .u64 (shrI .u64 (IntKind.u64.wrap ((andI .u64 (shrI .u64 x0 1) 6148914691236517205) + (andI .u64 x0 6148914691236517205))) 2) 3689348814741910323) + (andI .u64 (IntKind.u64.wrap ((andI .u64 (shrI .u64 x0 1) 6148914691236517205) + (andI .u64 x0 6148914691236517205))) 3689348814741910323))))) 1085102592571150095) 8))) 16))) + (shrI .u64 (IntKind.u64.wrap ((IntKind.u64.wrap ((andI .u64 (IntKind.u64.wrap ((shrI .u64 (IntKind.u64.wrap ((andI .u64 (shrI .u64 (IntKind.u64.wrap ((andI .u64 (shrI .u64 x0 1) 6148914691236517205) + (andI .u64 x0 6148914691236517205))) 2) 3689348814741910323) + (andI .u64 (IntKind.u64.wrap ((andI .u64 (shrI .u64 x0 1) 6148914691236517205) + (andI .u64 x0 6148914691236517205))) 3689348814741910323))) 4) + (IntKind.u64.wrap ((andI .u64 (shrI .u64 (IntKind.u64.wrap ((andI .u64 (shrI .u64 x0 1) 6148914691236517205) + (andI .u64 x0 6148914691236517205))) 2) 3689348814741910323) + (andI .u64 (IntKind.u64.wrap ((andI .u64 (shrI .u64 x0 1) 6148914691236517205) + (andI .u64 x0 6148914691236517205))) 3689348814741910323))))) 1085102592571150095) + (shrI .u64 (andI .u64 (IntKind.u64.wrap ((shrI .u64 (IntKind.u64.wrap ((andI .u64 (shrI .u64 (IntKind.u64.wrap ((andI .u64 (shrI .u64 x0 1) 6148914691236517205) + (andI .u64 x0 6148914691236517205))) 2) 3689348814741910323) + (andI .u64 (IntKind.u64.wrap ((andI .u64 (shrI .u64 x0 1) 6148914691236517205) + (andI .u64 x0 6148914691236517205))) 3689348814741910323))) 4) + (IntKind.u64.wrap ((andI .u64 (shrI .u64 (IntKind.u64.wrap ((andI .u64 (shrI .u64 x0 1) 6148914691236517205) + (andI .u64 x0 6148914691236517205))) 2) 3689348814741910323) + (andI .u64 (IntKind.u64.wrap ((andI .u64 (shrI .u64 x0 1) 6148914691236517205) + (andI .u64 x0 6148914691236517205))) 3689348814741910323))))) 1085102592571150095) 8))) + (shrI .u64 (IntKind.u64.wrap ((andI .u64 (IntKind.u64.wrap ((shrI .u64 (IntKind.u64.wrap ((andI .u64 (shrI .u64 (IntKind.u64.wrap ((andI .u64 (shrI .u64 x0 1) 6148914691236517205) + (andI .u64 x0 6148914691236517205))) 2) 3689348814741910323) + (andI .u64 (IntKind.u64.wrap ((andI .u64 (shrI .u64 x0 1) 6148914691236517205) + (andI .u64 x0 6148914691236517205))) 3689348814741910323))) 4) + (IntKind.u64.wrap ((andI .u64 (shrI .u64 (IntKind.u64.wrap ((andI .u64 (shrI .u64 x0 1) 6148914691236517205) + (andI .u64 x0 6148914691236517205))) 2) 3689348814741910323) + (andI .u64 (IntKind.u64.wrap ((andI .u64 (shrI .u64 x0 1) 6148914691236517205) + (andI .u64 x0 6148914691236517205))) 3689348814741910323))))) 1085102592571150095) + (shrI .u64 (andI .u64 (IntKind.u64.wrap ((shrI .u64 (IntKind.u64.wrap ((andI .u64 (shrI .u64 (IntKind.u64.wrap ((andI .u64 (shrI .u64 x0 1) 6148914691236517205) + (andI .u64 x0 6148914691236517205))) 2) 3689348814741910323) + (andI .u64 (IntKind.u64.wrap ((andI .u64 (shrI .u64 x0 1) 6148914691236517205) + (andI .u64 x0 6148914691236517205))) 3689348814741910323))) 4) + (IntKind.u64.wrap ((andI .u64 (shrI .u64 (IntKind.u64.wrap ((andI .u64 (shrI .u64 x0 1) 6148914691236517205) + (andI .u64 x0 6148914691236517205))) 2) 3689348814741910323) + (andI .u64 (IntKind.u64.wrap ((andI .u64 (shrI .u64 x0 1) 6148914691236517205) + (andI .u64 x0 6148914691236517205))) 3689348814741910323))))) 1085102592571150095) 8))) 16))) 32)))) 127)
theorem i141 : ItemOk Tryd.prog (.fn 141 [.d (.int .u64)] [.d zI] s141) := item_fnM md4 ext4 (U := 9) (n := 12) noSpecial mixed Gd10K1_ok (fun x => by kernel_rfl)
noncomputable def Gd10K3 : List Ev.Item := .fn 141 [.d (.int .u64)] [.d zI] s141 :: Gd10K1
theorem Gd10K3_ok : ∀ q ∈ Gd10K3, ItemOk Tryd.prog q := items_cons i141 Gd10K1_ok
noncomputable def s127 : Int → Option (Int) := fun x0 =>
 optE (s141 x0) (fun r1 =>
  some (r1))
  (none)
theorem i127 : ItemOk Tryd.prog (.fn 127 [.d (.int .u64)] [.d zI] s127) := item_fnM md4 ext4 (U := 9) (n := 12) noSpecial mixed Gd10K3_ok (fun x => by kernel_rfl)
noncomputable def Gd10K4 : List Ev.Item := .fn 127 [.d (.int .u64)] [.d zI] s127 :: Gd10K3
theorem Gd10K4_ok : ∀ q ∈ Gd10K4, ItemOk Tryd.prog q := items_cons i127 Gd10K3_ok
@[reducible] def T49_0 : Tmpl := ⟨32, [(6, .ref 6 0 0 0)], [.own 8 29 3 zI, .val 23 zI, .val 24 zI, .cells 6 [.d (.pair (.pair zI zP) zI)]], [], none⟩
@[reducible] def X49_0 : List (Ex × Tmpl) := [(.exit 0, ⟨32, [], [.own 8 29 3 zI], [], none⟩)]
noncomputable def step49_0 : (List Int) × Int × Int × ((Int × Int × Int) × Int) → Option (((List Int) × Int × Int × ((Int × Int × Int) × Int)) ⊕ (List Int)) := fun (out, t23, t24, x0) =>
 bif decide (t24 < t23) then
  optE (s127 (IntKind.u64.wrap (andI .i64 x0.2 x0.1.2.1))) (fun r5 =>
   bif decide (0 ≤ (wr (x0.1.1 - 1))) then
    bif room 8 (out.length + 1) then
     some (.inl (out ++ [andI .i64 x0.2 1], t23, wr (t24 + 1), (x0.1, orI .i64 (shrI .i64 x0.2 1) (shlI .i64 (andI .i64 r5 1) (wr (x0.1.1 - 1))))))
    else
     none
   else
    none)
   (none)
 else
  some (.inr out)
theorem one49_0 : oneLoop Tryd.prog 49 0 = true := by kernel_rfl
theorem lp49_0 : ItemOk Tryd.prog (.loop 49 0 T49_0 X49_0 (loopVal step49_0)) := item_loopM md4 ext4 (U := 9) (n := 11) noSpecial mixed Gd10K4_ok one49_0 (fun x => by kernel_rfl)
noncomputable def Gd10K5 : List Ev.Item := .loop 49 0 T49_0 X49_0 (loopVal step49_0) :: Gd10K4
theorem Gd10K5_ok : ∀ q ∈ Gd10K5, ItemOk Tryd.prog q := items_cons lp49_0 Gd10K4_ok
noncomputable def s49 : (Int × Int × Int) × Int → Option ((List Int) × Int) := fun (r0, count) =>
 optE (s102 r0) (fun r1 =>
  optE (s79 (count, 0, 600)) (fun r2 =>
   optE (s82 (r2, 2)) (fun r3 =>
    optE (s80 [r1.2, r3]) (fun r4 =>
     bif r4 != 0 then
      some (([], r4))
     else
      optE (loopVal step49_0 ([], count, 0, r1.1)) (fun e5 =>
       some ((e5, 0)))
       (none))
     (none))
    (none))
   (none))
  (none)
theorem i49 : ItemOk Tryd.prog (.fn 49 [.d (.agg (.pair zI zP)), .d zI] [.own 3 zI, .d zI] s49) := item_fnM md4 ext4 (U := 9) (n := 12) noSpecial mixed Gd10K5_ok (fun x => by kernel_rfl)
noncomputable def Gd10K6 : List Ev.Item := .fn 49 [.d (.agg (.pair zI zP)), .d zI] [.own 3 zI, .d zI] s49 :: Gd10K5
theorem Gd10K6_ok : ∀ q ∈ Gd10K6, ItemOk Tryd.prog q := items_cons i49 Gd10K5_ok
@[reducible] def T50_0 : Tmpl := ⟨25, [(1, .ref 1 0 0 0), (4, .ref 4 0 0 0)], [.val 6 zI, .cells 1 [.d (.pair zI zP)], .cells 4 [.d (.pair (.pair zI zP) zI)]], [], none⟩
@[reducible] def X50_0 : List (Ex × Tmpl) := [(.exit 0, ⟨25, [], [.val 6 zI], [], none⟩)]
noncomputable def step50_0 : Int × (Int × Int × Int) × ((Int × Int × Int) × Int) → Option ((Int × (Int × Int × Int) × ((Int × Int × Int) × Int)) ⊕ (Int)) := fun (period, r0, x0) =>
 bif x0.2 != r0.2.2 then
  optE (s127 (IntKind.u64.wrap (andI .i64 x0.2 x0.1.2.1))) (fun r3 =>
   bif decide (0 ≤ (wr (x0.1.1 - 1))) then
    some (.inl (wr (period + 1), r0, (x0.1, orI .i64 (shrI .i64 x0.2 1) (shlI .i64 (andI .i64 r3 1) (wr (x0.1.1 - 1))))))
   else
    none)
   (none)
 else
  some (.inr period)
theorem one50_0 : oneLoop Tryd.prog 50 0 = true := by kernel_rfl
theorem lp50_0 : ItemOk Tryd.prog (.loop 50 0 T50_0 X50_0 (loopVal step50_0)) := item_loopM md4 ext4 (U := 9) (n := 11) noSpecial mixed Gd10K6_ok one50_0 (fun x => by kernel_rfl)
noncomputable def Gd10K7 : List Ev.Item := .loop 50 0 T50_0 X50_0 (loopVal step50_0) :: Gd10K6
theorem Gd10K7_ok : ∀ q ∈ Gd10K7, ItemOk Tryd.prog q := items_cons lp50_0 Gd10K6_ok
noncomputable def s50 : Int × Int × Int → Option (Int × Int) := fun r0 =>
 optE (s102 r0) (fun r1 =>
  bif r1.2 != 0 then
   some ((0, r1.2))
  else
   optE (s127 (IntKind.u64.wrap (andI .i64 r1.1.2 r1.1.1.2.1))) (fun r2 =>
    bif decide (0 ≤ (wr (r1.1.1.1 - 1))) then
     optE (loopVal step50_0 (1, r0, (r1.1.1, orI .i64 (shrI .i64 r1.1.2 1) (shlI .i64 (andI .i64 r2 1) (wr (r1.1.1.1 - 1)))))) (fun e3 =>
      some ((e3, 0)))
      (none)
    else
     none)
    (none))
  (none)
theorem i50 : ItemOk Tryd.prog (.fn 50 [.d (.agg (.pair zI zP))] [.d zI, .d zI] s50) := item_fnM md4 ext4 (U := 9) (n := 12) noSpecial mixed Gd10K7_ok (fun x => by kernel_rfl)
noncomputable def Gd10K8 : List Ev.Item := .fn 50 [.d (.agg (.pair zI zP))] [.d zI, .d zI] s50 :: Gd10K7
theorem Gd10K8_ok : ∀ q ∈ Gd10K8, ItemOk Tryd.prog q := items_cons i50 Gd10K7_ok
noncomputable def Gd10K9 : List Ev.Item := .fn 101 [.d (.slice zI)] [.own 3 zI] cloneF :: Gd10K8
theorem Gd10K9_ok : ∀ q ∈ Gd10K9, ItemOk Tryd.prog q := items_cons clone_ok Gd10K8_ok
@[reducible] def T51_0 : Tmpl := ⟨42, [(6, .ref 6 0 0 0)], [.own 8 24 3 zI, .val 26 zI, .val 27 zI, .cells 6 [.d (.pair (.pair zI zP) zI)]], [], none⟩
@[reducible] def X51_0 : List (Ex × Tmpl) := [(.exit 0, ⟨42, [], [.own 8 24 3 zI], [], none⟩)]
noncomputable def step51_0 : (List Int) × Int × Int × ((Int × Int × Int) × Int) → Option (((List Int) × Int × Int × ((Int × Int × Int) × Int)) ⊕ (List Int)) := fun (out, t26, t27, x0) =>
 bif decide (t27 < t26) then
  optE (s127 (IntKind.u64.wrap (andI .i64 x0.2 x0.1.2.1))) (fun r5 =>
   bif decide (0 ≤ (wr (x0.1.1 - 1))) then
    bif (andI .i64 x0.2 1) == 1 then
     bif inBounds t27 out.length then
      bif inBounds t27 out.length then
       some (.inl (out.set t27.toNat (wr (-(out.getD t27.toNat 0))), t26, wr (t27 + 1), (x0.1, orI .i64 (shrI .i64 x0.2 1) (shlI .i64 (andI .i64 r5 1) (wr (x0.1.1 - 1))))))
      else
       none
     else
      none
    else
     some (.inl (out, t26, wr (t27 + 1), (x0.1, orI .i64 (shrI .i64 x0.2 1) (shlI .i64 (andI .i64 r5 1) (wr (x0.1.1 - 1))))))
   else
    none)
   (none)
 else
  some (.inr out)
theorem one51_0 : oneLoop Tryd.prog 51 0 = true := by kernel_rfl
theorem lp51_0 : ItemOk Tryd.prog (.loop 51 0 T51_0 X51_0 (loopVal step51_0)) := item_loopM md4 ext4 (U := 9) (n := 11) noSpecial mixed Gd10K9_ok one51_0 (fun x => by kernel_rfl)
noncomputable def Gd10K10 : List Ev.Item := .loop 51 0 T51_0 X51_0 (loopVal step51_0) :: Gd10K9
theorem Gd10K10_ok : ∀ q ∈ Gd10K10, ItemOk Tryd.prog q := items_cons lp51_0 Gd10K9_ok
noncomputable def s51 : (Int × Int × Int) × (List Int) → Option ((List Int) × Int) := fun (r0, soft) =>
 optE (s102 r0) (fun r1 =>
  optE (s85 soft) (fun r2 =>
   optE (s80 [r1.2, r2]) (fun r3 =>
    bif r3 != 0 then
     some (([], r3))
    else
     optE (cloneF soft) (fun r4 =>
      optE (loopVal step51_0 (r4, (r4.length : Int), 0, r1.1)) (fun e5 =>
       some ((e5, 0)))
       (none))
      (none))
    (none))
   (none))
  (none)
theorem i51 : ItemOk Tryd.prog (.fn 51 [.d (.agg (.pair zI zP)), .d (.slice zI)] [.own 3 zI, .d zI] s51) := item_fnM md4 ext4 (U := 9) (n := 12) noSpecial mixed Gd10K10_ok (fun x => by kernel_rfl)
noncomputable def Gd10K11 : List Ev.Item := .fn 51 [.d (.agg (.pair zI zP)), .d (.slice zI)] [.own 3 zI, .d zI] s51 :: Gd10K10
theorem Gd10K11_ok : ∀ q ∈ Gd10K11, ItemOk Tryd.prog q := items_cons i51 Gd10K10_ok
noncomputable def s52 : Int × Int × Int → Option (Int) := fun r0 =>
 optE (s28 (r0.1, 1, 8)) (fun r1 =>
  bif !r1 then
   some (2)
  else
   bif decide (0 ≤ r0.1) then
    optE (s28 (r0.2.1, 1, wr ((shlI .i64 1 r0.1) - 1))) (fun r2 =>
     bif !r2 then
      some (2)
     else
      bif decide (0 ≤ r0.1) then
       optE (s28 (r0.2.2, 1, wr ((shlI .i64 1 r0.1) - 1))) (fun r3 =>
        bif !r3 then
         some (2)
        else
         bif (Int.tmod r0.2.1 2) == 0 then
          some (3)
         else
          some (0))
        (none)
      else
       none)
     (none)
   else
    none)
  (none)
theorem i52 : ItemOk Tryd.prog (.fn 52 [.d (.agg (.pair zI zP))] [.d zI] s52) := item_fnM md4 ext4 (U := 9) (n := 12) noSpecial mixed Gd10K11_ok (fun x => by kernel_rfl)
noncomputable def Gd10K12 : List Ev.Item := .fn 52 [.d (.agg (.pair zI zP))] [.d zI] s52 :: Gd10K11
theorem Gd10K12_ok : ∀ q ∈ Gd10K12, ItemOk Tryd.prog q := items_cons i52 Gd10K11_ok
@[reducible] def T128_0 : Tmpl := ⟨23, [], [.val 0 zI, .own 5 8 3 zI, .val 6 zI], [], none⟩
@[reducible] def X128_0 : List (Ex × Tmpl) := [(.exit 0, ⟨23, [], [.own 5 8 3 zI], [], none⟩)]
noncomputable def step128_0 : Int × (List Int) × Int → Option ((Int × (List Int) × Int) ⊕ (List Int)) := fun (n, out, i) =>
 bif decide (i ≥ 0) then
  bif inBounds i out.length then
   some (.inl (wr (Int.tdiv n 2), out.set i.toNat (Int.tmod n 2), wr (i - 1)))
  else
   none
 else
  some (.inr out)
theorem one128_0 : oneLoop Tryd.prog 128 0 = true := by kernel_rfl
theorem lp128_0 : ItemOk Tryd.prog (.loop 128 0 T128_0 X128_0 (loopVal step128_0)) := item_loopM md4 ext4 (U := 9) (n := 11) noSpecial mixed Gd10K12_ok one128_0 (fun x => by kernel_rfl)
noncomputable def Gd10K13 : List Ev.Item := .loop 128 0 T128_0 X128_0 (loopVal step128_0) :: Gd10K12
theorem Gd10K13_ok : ∀ q ∈ Gd10K13, ItemOk Tryd.prog q := items_cons lp128_0 Gd10K12_ok
noncomputable def s128 : Int × Int → Option (List Int) := fun (n, count) =>
 bif (decide (0 ≤ count)) && ((decide (count = count)) && (room 8 count.toNat)) then
  optE (loopVal step128_0 (n, List.replicate count.toNat 0, wr (count - 1))) (fun e1 =>
   some (e1))
   (none)
 else
  none
theorem i128 : ItemOk Tryd.prog (.fn 128 [.d zI, .d zI] [.own 3 zI] s128) := item_fnM md4 ext4 (U := 9) (n := 12) noSpecial mixed Gd10K13_ok (fun x => by kernel_rfl)
noncomputable def Gd10K14 : List Ev.Item := .fn 128 [.d zI, .d zI] [.own 3 zI] s128 :: Gd10K13
theorem Gd10K14_ok : ∀ q ∈ Gd10K14, ItemOk Tryd.prog q := items_cons i128 Gd10K13_ok
@[reducible] def T104_0 : Tmpl := ⟨36, [(2, .ref 2 0 0 0)], [.val 1 zI, .own 5 14 3 zI, .val 6 zI, .val 7 zI, .cells 2 [.d (.pair zI zP)]], [], none⟩
@[reducible] def X104_0 : List (Ex × Tmpl) := [(.exit 0, ⟨36, [(2, .ref 2 0 0 0)], [.val 1 zI, .val 6 zI, .cells 2 [.d (.pair zI zP)]], [], none⟩)]
noncomputable def step104_0 : Int × (List Int) × Int × Int × (Int × Int × Int) → Option ((Int × (List Int) × Int × Int × (Int × Int × Int)) ⊕ (Int × Int × (Int × Int × Int))) := fun (register, bits, n, i, r0) =>
 bif decide (i < (bits.length : Int)) then
  bif inBounds i bits.length then
   some (.inl (register, bits, wr (n + (bits.getD i.toNat 0)), wr (i + 1), r0))
  else
   none
 else
  some (.inr (register, n, r0))
theorem one104_0 : oneLoop Tryd.prog 104 0 = true := by kernel_rfl
theorem lp104_0 : ItemOk Tryd.prog (.loop 104 0 T104_0 X104_0 (loopVal step104_0)) := item_loopM md4 ext4 (U := 9) (n := 11) noSpecial mixed Gd10K14_ok one104_0 (fun x => by kernel_rfl)
noncomputable def Gd10K15 : List Ev.Item := .loop 104 0 T104_0 X104_0 (loopVal step104_0) :: Gd10K14
theorem Gd10K15_ok : ∀ q ∈ Gd10K15, ItemOk Tryd.prog q := items_cons lp104_0 Gd10K14_ok
noncomputable def s104 : (Int × Int × Int) × Int → Option (Int) := fun (r0, register) =>
 optE (s128 (andI .i64 register r0.2.1, r0.1)) (fun r1 =>
  optE (loopVal step104_0 (register, r1, 0, 0, r0)) (fun e2 =>
   bif decide (0 ≤ (wr (e2.2.2.1 - 1))) then
    some (wr ((wr (Int.tdiv e2.1 2)) + (shlI .i64 (Int.tmod e2.2.1 2) (wr (e2.2.2.1 - 1)))))
   else
    none)
   (none))
  (none)
theorem i104 : ItemOk Tryd.prog (.fn 104 [.d (.agg (.pair zI zP)), .d zI] [.d zI] s104) := item_fnM md4 ext4 (U := 9) (n := 12) noSpecial mixed Gd10K15_ok (fun x => by kernel_rfl)
noncomputable def Gd10K16 : List Ev.Item := .fn 104 [.d (.agg (.pair zI zP)), .d zI] [.d zI] s104 :: Gd10K15
theorem Gd10K16_ok : ∀ q ∈ Gd10K16, ItemOk Tryd.prog q := items_cons i104 Gd10K15_ok
@[reducible] def T53_0 : Tmpl := ⟨19, [(1, .ref 1 0 0 0)], [.val 3 zI, .val 4 zI, .cells 1 [.d (.pair zI zP)]], [], none⟩
@[reducible] def X53_0 : List (Ex × Tmpl) := [(.exit 0, ⟨19, [], [.val 4 zI], [], none⟩)]
noncomputable def step53_0 : Int × Int × (Int × Int × Int) → Option ((Int × Int × (Int × Int × Int)) ⊕ (Int)) := fun (register, n, r0) =>
 bif register != r0.2.2 then
  optE (s104 (r0, register)) (fun r2 =>
   some (.inl (r2, wr (n + 1), r0)))
   (none)
 else
  some (.inr n)
theorem one53_0 : oneLoop Tryd.prog 53 0 = true := by kernel_rfl
theorem lp53_0 : ItemOk Tryd.prog (.loop 53 0 T53_0 X53_0 (loopVal step53_0)) := item_loopM md4 ext4 (U := 9) (n := 11) noSpecial mixed Gd10K16_ok one53_0 (fun x => by kernel_rfl)
noncomputable def Gd10K17 : List Ev.Item := .loop 53 0 T53_0 X53_0 (loopVal step53_0) :: Gd10K16
theorem Gd10K17_ok : ∀ q ∈ Gd10K17, ItemOk Tryd.prog q := items_cons lp53_0 Gd10K16_ok
noncomputable def s53 : Int × Int × Int → Option (Int) := fun r0 =>
 optE (s104 (r0, r0.2.2)) (fun r1 =>
  optE (loopVal step53_0 (r1, 1, r0)) (fun e2 =>
   some (e2))
   (none))
  (none)
theorem i53 : ItemOk Tryd.prog (.fn 53 [.d (.agg (.pair zI zP))] [.d zI] s53) := item_fnM md4 ext4 (U := 9) (n := 12) noSpecial mixed Gd10K17_ok (fun x => by kernel_rfl)
noncomputable def Gd10K18 : List Ev.Item := .fn 53 [.d (.agg (.pair zI zP))] [.d zI] s53 :: Gd10K17
theorem Gd10K18_ok : ∀ q ∈ Gd10K18, ItemOk Tryd.prog q := items_cons i53 Gd10K17_ok
@[reducible] def T54_0 : Tmpl := ⟨24, [(2, .ref 2 0 0 0)], [.val 1 zI, .own 5 19 3 zI, .val 6 zI, .val 7 zI, .cells 2 [.d (.pair zI zP)]], [], none⟩
@[reducible] def X54_0 : List (Ex × Tmpl) := [(.exit 0, ⟨24, [], [.own 5 19 3 zI], [], none⟩)]
noncomputable def step54_0 : Int × (List Int) × Int × Int × (Int × Int × Int) → Option ((Int × (List Int) × Int × Int × (Int × Int × Int)) ⊕ (List Int)) := fun (count, out, register, i, r0) =>
 bif decide (i < count) then
  bif room 8 (out.length + 1) then
   optE (s104 (r0, register)) (fun r1 =>
    some (.inl (count, out ++ [Int.tmod register 2], r1, wr (i + 1), r0)))
    (none)
  else
   none
 else
  some (.inr out)
theorem one54_0 : oneLoop Tryd.prog 54 0 = true := by kernel_rfl
theorem lp54_0 : ItemOk Tryd.prog (.loop 54 0 T54_0 X54_0 (loopVal step54_0)) := item_loopM md4 ext4 (U := 9) (n := 11) noSpecial mixed Gd10K18_ok one54_0 (fun x => by kernel_rfl)
noncomputable def Gd10K19 : List Ev.Item := .loop 54 0 T54_0 X54_0 (loopVal step54_0) :: Gd10K18
theorem Gd10K19_ok : ∀ q ∈ Gd10K19, ItemOk Tryd.prog q := items_cons lp54_0 Gd10K18_ok
noncomputable def s54 : (Int × Int × Int) × Int → Option (List Int) := fun (r0, count) =>
 optE (loopVal step54_0 (count, [], r0.2.2, 0, r0)) (fun e1 =>
  some (e1))
  (none)
theorem i54 : ItemOk Tryd.prog (.fn 54 [.d (.agg (.pair zI zP)), .d zI] [.own 3 zI] s54) := item_fnM md4 ext4 (U := 9) (n := 12) noSpecial mixed Gd10K19_ok (fun x => by kernel_rfl)
noncomputable def Gd10K20 : List Ev.Item := .fn 54 [.d (.agg (.pair zI zP)), .d zI] [.own 3 zI] s54 :: Gd10K19
theorem Gd10K20_ok : ∀ q ∈ Gd10K20, ItemOk Tryd.prog q := items_cons i54 Gd10K19_ok
@[reducible] def T55_0 : Tmpl := ⟨33, [], [.val 1 (.slice zI), .own 5 11 3 zI, .own 6 31 3 zI, .val 7 zI], [], none⟩
@[reducible] def X55_0 : List (Ex × Tmpl) := [(.exit 0, ⟨33, [], [.own 6 31 3 zI], [], none⟩)]
noncomputable def step55_0 : (List Int) × (List Int) × (List Int) × Int → Option (((List Int) × (List Int) × (List Int) × Int) ⊕ (List Int)) := fun (l, bits, out, i) =>
 bif decide (i < (l.length : Int)) then
  bif inBounds i l.length then
   bif inBounds i bits.length then
    bif room 8 (out.length + 1) then
     some (.inl (l, bits, out ++ [wr ((l.getD i.toNat 0) * (wr (1 - (wr (2 * (bits.getD i.toNat 0))))))], wr (i + 1)))
    else
     none
   else
    none
  else
   none
 else
  some (.inr out)
theorem one55_0 : oneLoop Tryd.prog 55 0 = true := by kernel_rfl
theorem lp55_0 : ItemOk Tryd.prog (.loop 55 0 T55_0 X55_0 (loopVal step55_0)) := item_loopM md4 ext4 (U := 9) (n := 11) noSpecial mixed Gd10K20_ok one55_0 (fun x => by kernel_rfl)
noncomputable def Gd10K21 : List Ev.Item := .loop 55 0 T55_0 X55_0 (loopVal step55_0) :: Gd10K20
theorem Gd10K21_ok : ∀ q ∈ Gd10K21, ItemOk Tryd.prog q := items_cons lp55_0 Gd10K20_ok
noncomputable def s55 : (Int × Int × Int) × (List Int) → Option (List Int) := fun (r0, l) =>
 optE (s54 (r0, (l.length : Int))) (fun r1 =>
  optE (loopVal step55_0 (l, r1, [], 0)) (fun e2 =>
   some (e2))
   (none))
  (none)
theorem i55 : ItemOk Tryd.prog (.fn 55 [.d (.agg (.pair zI zP)), .d (.slice zI)] [.own 3 zI] s55) := item_fnM md4 ext4 (U := 9) (n := 12) noSpecial mixed Gd10K21_ok (fun x => by kernel_rfl)
noncomputable def Gd10K22 : List Ev.Item := .fn 55 [.d (.agg (.pair zI zP)), .d (.slice zI)] [.own 3 zI] s55 :: Gd10K21
theorem Gd10K22_ok : ∀ q ∈ Gd10K22, ItemOk Tryd.prog q := items_cons i55 Gd10K21_ok
noncomputable def s9 : (Int × Int × Int) × Int × (List Int) → Option (Bool) := fun (r0, count, soft) =>
 bif !true then
  some (false)
 else
  optE (s17 soft) (fun r1 =>
   bif !r1 then
    some (true)
   else
    optE (s49 (r0, count)) (fun r2 =>
     optE (s50 r0) (fun r3 =>
      optE (s22 soft) (fun r4 =>
       optE (s51 (r0, r4)) (fun r5 =>
        optE (s52 r0) (fun r6 =>
         bif r6 != 0 then
          bif r2.2 == r6 then
           bif r3.2 == r6 then
            bif r5.2 == r6 then
             bif (wr ((r2.1.length : Int) + (r5.1.length : Int))) == 0 then
              some (r3.1 == 0)
             else
              some (false)
            else
             some (false)
           else
            some (false)
          else
           some (false)
         else
          bif r3.2 != 0 then
           some (false)
          else
           optE (s53 r0) (fun r7 =>
            bif r3.1 != r7 then
             some (false)
            else
             optE (s28 (count, 0, 600)) (fun r8 =>
              (fun (k1 : Unit → Option (Bool)) =>
                bif !r8 then
                 bif r2.2 != 2 then
                  some (false)
                 else
                  bif (r2.1.length : Int) != 0 then
                   some (false)
                  else
                   k1 ()
                else
                 k1 ()) (fun _ =>
                optE (s28 (count, 0, 600)) (fun r9 =>
                 (fun (k2 : Unit → Option (Bool)) =>
                   bif r9 then
                    bif r2.2 != 0 then
                     some (false)
                    else
                     optE (s54 (r0, count)) (fun r10 =>
                      optE (s26 (r2.1, r10)) (fun r11 =>
                       bif !r11 then
                        some (false)
                       else
                        k2 ())
                       (none))
                      (none)
                   else
                    k2 ()) (fun _ =>
                   optE (s30 soft) (fun r12 =>
                    bif r12 != 0 then
                     bif r5.2 == r12 then
                      some ((r5.1.length : Int) == 0)
                     else
                      some (false)
                    else
                     bif r5.2 == 0 then
                      optE (s55 (r0, soft)) (fun r13 =>
                       optE (s26 (r5.1, r13)) (fun r14 =>
                        some (r14))
                        (none))
                       (none)
                     else
                      some (false))
                    (none)))
                 (none)))
              (none))
            (none))
         (none))
        (none))
       (none))
      (none))
     (none))
   (none)
theorem i9 : ItemOk Tryd.prog (.fn 9 [.d (.agg (.pair zI zP)), .d zI, .d (.slice zI)] [.d .bool] s9) := item_fnM md4 ext4 (U := 9) (n := 12) noSpecial mixed Gd10K22_ok (fun x => by kernel_rfl)
noncomputable def Gd10K23 : List Ev.Item := .fn 9 [.d (.agg (.pair zI zP)), .d zI, .d (.slice zI)] [.d .bool] s9 :: Gd10K22
theorem Gd10K23_ok : ∀ q ∈ Gd10K23, ItemOk Tryd.prog q := items_cons i9 Gd10K22_ok
end Go.Proofs.YthckjfbhdjjnkaaDoor
