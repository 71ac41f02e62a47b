/- Printed by gen.py: specifications of functions. -/
import Derived.Test.YtfpppijfkeidgaaGreatDoorGz1
set_option linter.unusedSimpArgs false
set_option maxRecDepth 100000
namespace Go.Proofs.YtfpppijfkeidgaaGreatDoor
open Go.Ev
@[reducible] def T90_2 : Tmpl := ⟨90, [(0, .mref 2900), (1, .ref 1900 0 0 0), (2, .ref 1901 0 0 0), (5, .ref 5 0 0 0), (16004, .ref 1004 0 0 0), (16006, .ref 1006 0 0 0), (16007, .ref 1007 0 0 0), (16023, .mref 2900), (48000006, .ref 1006 0 0 0), (48000007, .ref 1007 0 0 0)], [.val 14 (.slice (.agg (.pair zP (.pair zI (.pair zI .bool))))), .val 15 zI, .val 16 zI, .val 38 (.slice (.agg (.pair zP (.pair zI (.pair zI .bool))))), .val 39 zI, .val 40 zI, .cells 1900 [.d (.slice (.agg (.pair zP (.pair zI (.pair zI .bool)))))], .cells 1901 [.d zI, .d zI], .cells 5 [.d (.pair zP (.pair zI (.pair zI .bool)))], .cells 1004 [.d (.pair (.pair (.slice (.agg (.pair zI (.pair .bool zI)))) zI) zI)], .cells 1006 [.own 900 119 (.agg (.pair zI (.pair .bool zI))), .d zI, .d zI], .cells 1007 [.d .bool]], [24], some (2900, .ready)⟩
@[reducible] def X90_2 : List (Ex × Tmpl) := [(.exit 2, ⟨90, [(0, .mref 2900), (1, .ref 1900 0 0 0), (2, .ref 1901 0 0 0), (16004, .ref 1004 0 0 0), (16006, .ref 1006 0 0 0), (16007, .ref 1007 0 0 0), (16023, .mref 2900), (48000006, .ref 1006 0 0 0), (48000007, .ref 1007 0 0 0)], [.val 14 (.slice (.agg (.pair zP (.pair zI (.pair zI .bool))))), .val 15 zI, .val 16 zI, .cells 1900 [.d (.slice (.agg (.pair zP (.pair zI (.pair zI .bool)))))], .cells 1901 [.d zI, .d zI], .cells 1004 [.d (.pair (.pair (.slice (.agg (.pair zI (.pair .bool zI)))) zI) zI)], .cells 1006 [.own 900 119 (.agg (.pair zI (.pair .bool zI))), .d zI, .d zI], .cells 1007 [.d .bool]], [24], some (2900, .ready)⟩)]
noncomputable def Lp48_0 : LpI := lpOf Tryz.prog 48 0 false
noncomputable def step90_2 : (List ((Int × Int) × Int × Int × Bool)) × Int × Int × (List ((Int × Int) × Int × Int × Bool)) × Int × Int × (List ((Int × Int) × Int × Int × Bool)) × (Int × Int) × ((Int × Int) × Int × Int × Bool) × (((List (Int × Bool × Int)) × Int) × Int) × ((List (Int × Bool × Int)) × Int × Int) × Bool → Option (LpI × (((List ((Int × Int) × Int × Int × Bool)) × Int × Int × (List ((Int × Int) × Int × Int × Bool)) × Int × Int × (List ((Int × Int) × Int × Int × Bool)) × (Int × Int) × ((Int × Int) × Int × Int × Bool) × (((List (Int × Bool × Int)) × Int) × Int) × ((List (Int × Bool × Int)) × Int × Int) × Bool) ⊕ ((List ((Int × Int) × Int × Int × Bool)) × Int × Int × (List ((Int × Int) × Int × Int × Bool)) × (Int × Int) × (((List (Int × Bool × Int)) × Int) × Int) × ((List (Int × Bool × Int)) × Int × Int) × Bool))) := fun (t14, t15, t16, t38, t39, t40, t1900, t1901, r0, t1004, out, found) =>
 bif decide (t40 < t39) then
  bif inBounds t40 t38.length then
   optE (s63 ((t38.getD t40.toNat ((0, 0), 0, 0, false)).1, r0.1)) (fun r13 =>
    optE (s63 (t1901, r0.1)) (fun r14 =>
     optE (s63 ((t38.getD t40.toNat ((0, 0), 0, 0, false)).1, t1901)) (fun r15 =>
      bif decide (r13 < 0) then
       bif (wr (-r13)) == 0 then
        some (Lp48_0, .inl (t14, t15, t16, t38, t39, wr (t40 + 1), t1900, t1901, r0, t1004, out, found))
       else
        bif decide ((wr (-r14)) < 0) then
         some (Lp48_0, .inl (t14, t15, t16, t38, t39, wr (t40 + 1), t1900, t1901, r0, t1004, out, found))
        else
         bif decide ((wr (-r15)) < 0) then
          some (Lp48_0, .inl (t14, t15, t16, t38, t39, wr (t40 + 1), t1900, t1901, r0, t1004, out, found))
         else
          bif decide ((wr (-r14)) > 0) then
           bif decide ((wr (-r15)) > 0) then
            bif !found then
             some (Lp48_0, .inl (t14, t15, t16, t38, t39, wr (t40 + 1), t1900, t1901, r0, t1004, ([((t38.getD t40.toNat ((0, 0), 0, 0, false)).2.2.1, (t38.getD t40.toNat ((0, 0), 0, 0, false)).2.2.2, wr (-r14)), (r0.2.2.1, r0.2.2.2, wr (-r15))], wr (-r13), wr ((wr (0 + (wr ((wr (-r14)) * (t38.getD t40.toNat ((0, 0), 0, 0, false)).2.1)))) + (wr ((wr (-r15)) * r0.2.1)))), true))
            else
             optE (s71 ((([((t38.getD t40.toNat ((0, 0), 0, 0, false)).2.2.1, (t38.getD t40.toNat ((0, 0), 0, 0, false)).2.2.2, wr (-r14)), (r0.2.2.1, r0.2.2.2, wr (-r15))], wr (-r13)), wr ((wr (0 + (wr ((wr (-r14)) * (t38.getD t40.toNat ((0, 0), 0, 0, false)).2.1)))) + (wr ((wr (-r15)) * r0.2.1)))), ((out.1, out.2.1), out.2.2))) (fun r16 =>
              bif r16 then
               some (Lp48_0, .inl (t14, t15, t16, t38, t39, wr (t40 + 1), t1900, t1901, r0, t1004, ([((t38.getD t40.toNat ((0, 0), 0, 0, false)).2.2.1, (t38.getD t40.toNat ((0, 0), 0, 0, false)).2.2.2, wr (-r14)), (r0.2.2.1, r0.2.2.2, wr (-r15))], wr (-r13), wr ((wr (0 + (wr ((wr (-r14)) * (t38.getD t40.toNat ((0, 0), 0, 0, false)).2.1)))) + (wr ((wr (-r15)) * r0.2.1)))), true))
              else
               some (Lp48_0, .inl (t14, t15, t16, t38, t39, wr (t40 + 1), t1900, t1901, r0, t1004, out, found)))
              (none)
           else
            bif !found then
             some (Lp48_0, .inl (t14, t15, t16, t38, t39, wr (t40 + 1), t1900, t1901, r0, t1004, ([((t38.getD t40.toNat ((0, 0), 0, 0, false)).2.2.1, (t38.getD t40.toNat ((0, 0), 0, 0, false)).2.2.2, wr (-r14))], wr (-r13), wr (0 + (wr ((wr (-r14)) * (t38.getD t40.toNat ((0, 0), 0, 0, false)).2.1)))), true))
            else
             optE (s71 ((([((t38.getD t40.toNat ((0, 0), 0, 0, false)).2.2.1, (t38.getD t40.toNat ((0, 0), 0, 0, false)).2.2.2, wr (-r14))], wr (-r13)), wr (0 + (wr ((wr (-r14)) * (t38.getD t40.toNat ((0, 0), 0, 0, false)).2.1)))), ((out.1, out.2.1), out.2.2))) (fun r17 =>
              bif r17 then
               some (Lp48_0, .inl (t14, t15, t16, t38, t39, wr (t40 + 1), t1900, t1901, r0, t1004, ([((t38.getD t40.toNat ((0, 0), 0, 0, false)).2.2.1, (t38.getD t40.toNat ((0, 0), 0, 0, false)).2.2.2, wr (-r14))], wr (-r13), wr (0 + (wr ((wr (-r14)) * (t38.getD t40.toNat ((0, 0), 0, 0, false)).2.1)))), true))
              else
               some (Lp48_0, .inl (t14, t15, t16, t38, t39, wr (t40 + 1), t1900, t1901, r0, t1004, out, found)))
              (none)
          else
           bif decide ((wr (-r15)) > 0) then
            bif !found then
             some (Lp48_0, .inl (t14, t15, t16, t38, t39, wr (t40 + 1), t1900, t1901, r0, t1004, ([(r0.2.2.1, r0.2.2.2, wr (-r15))], wr (-r13), wr (0 + (wr ((wr (-r15)) * r0.2.1)))), true))
            else
             optE (s71 ((([(r0.2.2.1, r0.2.2.2, wr (-r15))], wr (-r13)), wr (0 + (wr ((wr (-r15)) * r0.2.1)))), ((out.1, out.2.1), out.2.2))) (fun r18 =>
              bif r18 then
               some (Lp48_0, .inl (t14, t15, t16, t38, t39, wr (t40 + 1), t1900, t1901, r0, t1004, ([(r0.2.2.1, r0.2.2.2, wr (-r15))], wr (-r13), wr (0 + (wr ((wr (-r15)) * r0.2.1)))), true))
              else
               some (Lp48_0, .inl (t14, t15, t16, t38, t39, wr (t40 + 1), t1900, t1901, r0, t1004, out, found)))
              (none)
           else
            bif !found then
             some (Lp48_0, .inl (t14, t15, t16, t38, t39, wr (t40 + 1), t1900, t1901, r0, t1004, ([], wr (-r13), 0), true))
            else
             optE (s71 ((([], wr (-r13)), 0), ((out.1, out.2.1), out.2.2))) (fun r19 =>
              bif r19 then
               some (Lp48_0, .inl (t14, t15, t16, t38, t39, wr (t40 + 1), t1900, t1901, r0, t1004, ([], wr (-r13), 0), true))
              else
               some (Lp48_0, .inl (t14, t15, t16, t38, t39, wr (t40 + 1), t1900, t1901, r0, t1004, out, found)))
              (none)
      else
       bif r13 == 0 then
        some (Lp48_0, .inl (t14, t15, t16, t38, t39, wr (t40 + 1), t1900, t1901, r0, t1004, out, found))
       else
        bif decide (r14 < 0) then
         some (Lp48_0, .inl (t14, t15, t16, t38, t39, wr (t40 + 1), t1900, t1901, r0, t1004, out, found))
        else
         bif decide (r15 < 0) then
          some (Lp48_0, .inl (t14, t15, t16, t38, t39, wr (t40 + 1), t1900, t1901, r0, t1004, out, found))
         else
          bif decide (r14 > 0) then
           bif decide (r15 > 0) then
            bif !found then
             some (Lp48_0, .inl (t14, t15, t16, t38, t39, wr (t40 + 1), t1900, t1901, r0, t1004, ([((t38.getD t40.toNat ((0, 0), 0, 0, false)).2.2.1, (t38.getD t40.toNat ((0, 0), 0, 0, false)).2.2.2, r14), (r0.2.2.1, r0.2.2.2, r15)], r13, wr ((wr (0 + (wr (r14 * (t38.getD t40.toNat ((0, 0), 0, 0, false)).2.1)))) + (wr (r15 * r0.2.1)))), true))
            else
             optE (s71 ((([((t38.getD t40.toNat ((0, 0), 0, 0, false)).2.2.1, (t38.getD t40.toNat ((0, 0), 0, 0, false)).2.2.2, r14), (r0.2.2.1, r0.2.2.2, r15)], r13), wr ((wr (0 + (wr (r14 * (t38.getD t40.toNat ((0, 0), 0, 0, false)).2.1)))) + (wr (r15 * r0.2.1)))), ((out.1, out.2.1), out.2.2))) (fun r20 =>
              bif r20 then
               some (Lp48_0, .inl (t14, t15, t16, t38, t39, wr (t40 + 1), t1900, t1901, r0, t1004, ([((t38.getD t40.toNat ((0, 0), 0, 0, false)).2.2.1, (t38.getD t40.toNat ((0, 0), 0, 0, false)).2.2.2, r14), (r0.2.2.1, r0.2.2.2, r15)], r13, wr ((wr (0 + (wr (r14 * (t38.getD t40.toNat ((0, 0), 0, 0, false)).2.1)))) + (wr (r15 * r0.2.1)))), true))
              else
               some (Lp48_0, .inl (t14, t15, t16, t38, t39, wr (t40 + 1), t1900, t1901, r0, t1004, out, found)))
              (none)
           else
            bif !found then
             some (Lp48_0, .inl (t14, t15, t16, t38, t39, wr (t40 + 1), t1900, t1901, r0, t1004, ([((t38.getD t40.toNat ((0, 0), 0, 0, false)).2.2.1, (t38.getD t40.toNat ((0, 0), 0, 0, false)).2.2.2, r14)], r13, wr (0 + (wr (r14 * (t38.getD t40.toNat ((0, 0), 0, 0, false)).2.1)))), true))
            else
             optE (s71 ((([((t38.getD t40.toNat ((0, 0), 0, 0, false)).2.2.1, (t38.getD t40.toNat ((0, 0), 0, 0, false)).2.2.2, r14)], r13), wr (0 + (wr (r14 * (t38.getD t40.toNat ((0, 0), 0, 0, false)).2.1)))), ((out.1, out.2.1), out.2.2))) (fun r21 =>
              bif r21 then
               some (Lp48_0, .inl (t14, t15, t16, t38, t39, wr (t40 + 1), t1900, t1901, r0, t1004, ([((t38.getD t40.toNat ((0, 0), 0, 0, false)).2.2.1, (t38.getD t40.toNat ((0, 0), 0, 0, false)).2.2.2, r14)], r13, wr (0 + (wr (r14 * (t38.getD t40.toNat ((0, 0), 0, 0, false)).2.1)))), true))
              else
               some (Lp48_0, .inl (t14, t15, t16, t38, t39, wr (t40 + 1), t1900, t1901, r0, t1004, out, found)))
              (none)
          else
           bif decide (r15 > 0) then
            bif !found then
             some (Lp48_0, .inl (t14, t15, t16, t38, t39, wr (t40 + 1), t1900, t1901, r0, t1004, ([(r0.2.2.1, r0.2.2.2, r15)], r13, wr (0 + (wr (r15 * r0.2.1)))), true))
            else
             optE (s71 ((([(r0.2.2.1, r0.2.2.2, r15)], r13), wr (0 + (wr (r15 * r0.2.1)))), ((out.1, out.2.1), out.2.2))) (fun r22 =>
              bif r22 then
               some (Lp48_0, .inl (t14, t15, t16, t38, t39, wr (t40 + 1), t1900, t1901, r0, t1004, ([(r0.2.2.1, r0.2.2.2, r15)], r13, wr (0 + (wr (r15 * r0.2.1)))), true))
              else
               some (Lp48_0, .inl (t14, t15, t16, t38, t39, wr (t40 + 1), t1900, t1901, r0, t1004, out, found)))
              (none)
           else
            bif !found then
             some (Lp48_0, .inl (t14, t15, t16, t38, t39, wr (t40 + 1), t1900, t1901, r0, t1004, ([], r13, 0), true))
            else
             optE (s71 ((([], r13), 0), ((out.1, out.2.1), out.2.2))) (fun r23 =>
              bif r23 then
               some (Lp48_0, .inl (t14, t15, t16, t38, t39, wr (t40 + 1), t1900, t1901, r0, t1004, ([], r13, 0), true))
              else
               some (Lp48_0, .inl (t14, t15, t16, t38, t39, wr (t40 + 1), t1900, t1901, r0, t1004, out, found)))
              (none))
      (none))
     (none))
    (none)
  else
   none
 else
  some (Lp48_0, .inr (t14, t15, t16, t1900, t1901, t1004, out, found))
theorem one90_2 : oneLoop Tryz.prog 90 2 = true := by kernel_rfl
theorem lp90_2 : ItemOk Tryz.prog (.loopI 90 2 Lp48_0 T90_2 X90_2 (loopVal (strip Lp48_0 step90_2))) := item_loopI md5 ext5 (U := 9) (n := 10) noSpecial mixed Gz1K4_ok one90_2 (fun x => by kernel_rfl)
noncomputable def Gz2K1 : List Ev.Item := .loopI 90 2 Lp48_0 T90_2 X90_2 (loopVal (strip Lp48_0 step90_2)) :: Gz1K4
theorem Gz2K1_ok : ∀ q ∈ Gz2K1, ItemOk Tryz.prog q := items_cons lp90_2 Gz1K4_ok
@[reducible] def T90_0 : Tmpl := ⟨90, [(0, .mref 2900), (1, .ref 1900 0 0 0), (2, .ref 1901 0 0 0), (16004, .ref 1004 0 0 0), (16006, .ref 1006 0 0 0), (16007, .ref 1007 0 0 0), (16023, .mref 2900), (48000006, .ref 1006 0 0 0), (48000007, .ref 1007 0 0 0)], [.val 14 (.slice (.agg (.pair zP (.pair zI (.pair zI .bool))))), .val 15 zI, .val 16 zI, .cells 1900 [.d (.slice (.agg (.pair zP (.pair zI (.pair zI .bool)))))], .cells 1901 [.d zI, .d zI], .cells 1004 [.d (.pair (.pair (.slice (.agg (.pair zI (.pair .bool zI)))) zI) zI)], .cells 1006 [.own 900 119 (.agg (.pair zI (.pair .bool zI))), .d zI, .d zI], .cells 1007 [.d .bool]], [24], some (2900, .ready)⟩
@[reducible] def X90_0 : List (Ex × Tmpl) := [(.exit 0, ⟨90, [(16004, .ref 1004 0 0 0), (16006, .ref 1006 0 0 0), (16007, .ref 1007 0 0 0), (16023, .mref 2900), (48000006, .ref 1006 0 0 0), (48000007, .ref 1007 0 0 0)], [.cells 1004 [.d (.pair (.pair (.slice (.agg (.pair zI (.pair .bool zI)))) zI) zI)], .cells 1006 [.own 900 119 (.agg (.pair zI (.pair .bool zI))), .d zI, .d zI], .cells 1007 [.d .bool]], [24], some (2900, .ready)⟩)]
noncomputable def step90_0 : (List ((Int × Int) × Int × Int × Bool)) × Int × Int × (List ((Int × Int) × Int × Int × Bool)) × (Int × Int) × (((List (Int × Bool × Int)) × Int) × Int) × ((List (Int × Bool × Int)) × Int × Int) × Bool → Option (LpI × (((List ((Int × Int) × Int × Int × Bool)) × Int × Int × (List ((Int × Int) × Int × Int × Bool)) × (Int × Int) × (((List (Int × Bool × Int)) × Int) × Int) × ((List (Int × Bool × Int)) × Int × Int) × Bool) ⊕ ((((List (Int × Bool × Int)) × Int) × Int) × ((List (Int × Bool × Int)) × Int × Int) × Bool))) := fun (t14, t15, t16, t1900, t1901, t1004, out, found) =>
 bif decide (t16 < t15) then
  bif inBounds t16 t14.length then
   optE (s64 ((t14.getD t16.toNat ((0, 0), 0, 0, false)).1, t1901)) (fun r1 =>
    bif decide (r1 > 0) then
     bif !found then
      bif (decide (0 ≤ t16)) && (decide (t16 ≤ (t1900.length : Int))) then
       optE (onlyAt Lp48_0 Lp48_0 <| loopVal (strip Lp48_0 step90_2) (t14, t15, t16, t1900.take t16.toNat, ((t1900.take t16.toNat).length : Int), 0, t1900, t1901, (t14.getD t16.toNat ((0, 0), 0, 0, false)), t1004, ([((t14.getD t16.toNat ((0, 0), 0, 0, false)).2.2.1, (t14.getD t16.toNat ((0, 0), 0, 0, false)).2.2.2, 1)], r1, wr (0 + (wr (1 * (t14.getD t16.toNat ((0, 0), 0, 0, false)).2.1)))), true)) (fun e2 =>
        some (Lp48_0, .inl (e2.1, e2.2.1, wr (e2.2.2.1 + 1), e2.2.2.2.1, e2.2.2.2.2.1, e2.2.2.2.2.2.1, e2.2.2.2.2.2.2.1, e2.2.2.2.2.2.2.2)))
        (none)
      else
       none
     else
      optE (s71 ((([((t14.getD t16.toNat ((0, 0), 0, 0, false)).2.2.1, (t14.getD t16.toNat ((0, 0), 0, 0, false)).2.2.2, 1)], r1), wr (0 + (wr (1 * (t14.getD t16.toNat ((0, 0), 0, 0, false)).2.1)))), ((out.1, out.2.1), out.2.2))) (fun r3 =>
       bif r3 then
        bif (decide (0 ≤ t16)) && (decide (t16 ≤ (t1900.length : Int))) then
         optE (onlyAt Lp48_0 Lp48_0 <| loopVal (strip Lp48_0 step90_2) (t14, t15, t16, t1900.take t16.toNat, ((t1900.take t16.toNat).length : Int), 0, t1900, t1901, (t14.getD t16.toNat ((0, 0), 0, 0, false)), t1004, ([((t14.getD t16.toNat ((0, 0), 0, 0, false)).2.2.1, (t14.getD t16.toNat ((0, 0), 0, 0, false)).2.2.2, 1)], r1, wr (0 + (wr (1 * (t14.getD t16.toNat ((0, 0), 0, 0, false)).2.1)))), true)) (fun e4 =>
          some (Lp48_0, .inl (e4.1, e4.2.1, wr (e4.2.2.1 + 1), e4.2.2.2.1, e4.2.2.2.2.1, e4.2.2.2.2.2.1, e4.2.2.2.2.2.2.1, e4.2.2.2.2.2.2.2)))
          (none)
        else
         none
       else
        bif (decide (0 ≤ t16)) && (decide (t16 ≤ (t1900.length : Int))) then
         optE (onlyAt Lp48_0 Lp48_0 <| loopVal (strip Lp48_0 step90_2) (t14, t15, t16, t1900.take t16.toNat, ((t1900.take t16.toNat).length : Int), 0, t1900, t1901, (t14.getD t16.toNat ((0, 0), 0, 0, false)), t1004, out, found)) (fun e5 =>
          some (Lp48_0, .inl (e5.1, e5.2.1, wr (e5.2.2.1 + 1), e5.2.2.2.1, e5.2.2.2.2.1, e5.2.2.2.2.2.1, e5.2.2.2.2.2.2.1, e5.2.2.2.2.2.2.2)))
          (none)
        else
         none)
       (none)
    else
     bif (decide (0 ≤ t16)) && (decide (t16 ≤ (t1900.length : Int))) then
      optE (onlyAt Lp48_0 Lp48_0 <| loopVal (strip Lp48_0 step90_2) (t14, t15, t16, t1900.take t16.toNat, ((t1900.take t16.toNat).length : Int), 0, t1900, t1901, (t14.getD t16.toNat ((0, 0), 0, 0, false)), t1004, out, found)) (fun e6 =>
       some (Lp48_0, .inl (e6.1, e6.2.1, wr (e6.2.2.1 + 1), e6.2.2.2.1, e6.2.2.2.2.1, e6.2.2.2.2.2.1, e6.2.2.2.2.2.2.1, e6.2.2.2.2.2.2.2)))
       (none)
     else
      none)
    (none)
  else
   none
 else
  some (Lp48_0, .inr (t1004, out, found))
theorem one90_0 : oneLoop Tryz.prog 90 0 = true := by kernel_rfl
theorem lp90_0 : ItemOk Tryz.prog (.loopI 90 0 Lp48_0 T90_0 X90_0 (loopVal (strip Lp48_0 step90_0))) := item_loopI md5 ext5 (U := 9) (n := 10) noSpecial mixed Gz2K1_ok one90_0 (fun x => by kernel_rfl)
noncomputable def Gz2K2 : List Ev.Item := .loopI 90 0 Lp48_0 T90_0 X90_0 (loopVal (strip Lp48_0 step90_0)) :: Gz2K1
theorem Gz2K2_ok : ∀ q ∈ Gz2K2, ItemOk Tryz.prog q := items_cons lp90_0 Gz2K1_ok
noncomputable def s48 : (List ((Int × Int) × Int × Int × Bool)) × (Int × Int) → Option ((((List (Int × Bool × Int)) × Int) × Int) × Bool) := fun (l, of) =>
 optE (onlyAt Lp48_0 Lp48_0 <| loopVal (strip Lp48_0 step90_0) (l, (l.length : Int), 0, l, of, (([], 0), 0), ([], 0, 0), false)) (fun e1 =>
  some ((((e1.2.1.1, e1.2.1.2.1), e1.2.1.2.2), e1.2.2)))
  (none)
theorem i48 : ItemOk Tryz.prog (.fn 48 [.d (.slice (.agg (.pair zP (.pair zI (.pair zI .bool))))), .d (.agg zP)] [.d (.agg (.pair (.pair (.slice (.agg (.pair zI (.pair .bool zI)))) zI) zI)), .d .bool] s48) := item_fnM md5 ext5 (U := 9) (n := 12) noSpecial mixed Gz2K2_ok (fun x => by kernel_rfl)
noncomputable def Gz2K3 : List Ev.Item := .fn 48 [.d (.slice (.agg (.pair zP (.pair zI (.pair zI .bool))))), .d (.agg zP)] [.d (.agg (.pair (.pair (.slice (.agg (.pair zI (.pair .bool zI)))) zI) zI)), .d .bool] s48 :: Gz2K2
theorem Gz2K3_ok : ∀ q ∈ Gz2K3, ItemOk Tryz.prog q := items_cons i48 Gz2K2_ok
@[reducible] def T62_0 : Tmpl := ⟨45, [], [.own 3 42 121 (.agg (.pair zP (.pair zI (.pair zI .bool)))), .val 7 zS, .val 8 zI, .val 9 zI], [], none⟩
@[reducible] def X62_0 : List (Ex × Tmpl) := [(.exit 0, ⟨45, [], [.own 3 42 121 (.agg (.pair zP (.pair zI (.pair zI .bool))))], [], none⟩)]
noncomputable def step62_0 : (List ((Int × Int) × Int × Int × Bool)) × (List (Int × Int × Int × Int × Int)) × Int × Int → Option (((List ((Int × Int) × Int × Int × Bool)) × (List (Int × Int × Int × Int × Int)) × Int × Int) ⊕ (List ((Int × Int) × Int × Int × Bool))) := fun (out, t7, t8, t9) =>
 bif decide (t9 < t8) then
  bif inBounds t9 t7.length then
   bif (t7.getD t9.toNat (0, 0, 0, 0, 0)).1 == 1 then
    optE (s65 (0, wr ((t7.getD t9.toNat (0, 0, 0, 0, 0)).2.2.1 - (t7.getD t9.toNat (0, 0, 0, 0, 0)).2.1))) (fun r1 =>
     bif room 40 (out.length + 2) then
      some (.inl (out ++ [((0, wr ((t7.getD t9.toNat (0, 0, 0, 0, 0)).2.2.1 - (t7.getD t9.toNat (0, 0, 0, 0, 0)).2.1)), (t7.getD t9.toNat (0, 0, 0, 0, 0)).2.2.2.2, t9, true), (r1, wr (-(t7.getD t9.toNat (0, 0, 0, 0, 0)).2.2.2.1), t9, false)], t7, t8, wr (t9 + 1)))
     else
      none)
     (none)
   else
    optE (s65 (1, (t7.getD t9.toNat (0, 0, 0, 0, 0)).2.2.1)) (fun r2 =>
     bif room 40 (out.length + 2) then
      some (.inl (out ++ [((1, (t7.getD t9.toNat (0, 0, 0, 0, 0)).2.2.1), (t7.getD t9.toNat (0, 0, 0, 0, 0)).2.2.2.2, t9, true), (r2, wr (-(t7.getD t9.toNat (0, 0, 0, 0, 0)).2.2.2.1), t9, false)], t7, t8, wr (t9 + 1)))
     else
      none)
     (none)
  else
   none
 else
  some (.inr out)
theorem one62_0 : oneLoop Tryz.prog 62 0 = true := by kernel_rfl
theorem lp62_0 : ItemOk Tryz.prog (.loop 62 0 T62_0 X62_0 (loopVal step62_0)) := item_loopM md5 ext5 (U := 9) (n := 11) noSpecial mixed Gz2K3_ok one62_0 (fun x => by kernel_rfl)
noncomputable def Gz2K4 : List Ev.Item := .loop 62 0 T62_0 X62_0 (loopVal step62_0) :: Gz2K3
theorem Gz2K4_ok : ∀ q ∈ Gz2K4, ItemOk Tryz.prog q := items_cons lp62_0 Gz2K3_ok
noncomputable def s62 : List (Int × Int × Int × Int × Int) → Option (List ((Int × Int) × Int × Int × Bool)) := fun l =>
 optE (loopVal step62_0 ([], l, (l.length : Int), 0)) (fun e1 =>
  some (e1))
  (none)
theorem i62 : ItemOk Tryz.prog (.fn 62 [.d zS] [.d (.slice (.agg (.pair zP (.pair zI (.pair zI .bool)))))] s62) := item_fnM md5 ext5 (U := 9) (n := 12) noSpecial mixed Gz2K4_ok (fun x => by kernel_rfl)
noncomputable def Gz2K5 : List Ev.Item := .fn 62 [.d zS] [.d (.slice (.agg (.pair zP (.pair zI (.pair zI .bool)))))] s62 :: Gz2K4
theorem Gz2K5_ok : ∀ q ∈ Gz2K5, ItemOk Tryz.prog q := items_cons i62 Gz2K4_ok
@[reducible] def T41_2 : Tmpl := ⟨98, [(5, .ref 5 0 0 0)], [.val 3 (.slice (.agg (.pair zP (.pair zI (.pair zI .bool))))), .val 14 (.slice (.agg (.pair zP (.pair zI (.pair zI .bool))))), .val 15 zI, .val 16 zI, .val 23 (.slice (.agg (.pair zP (.pair zI (.pair zI .bool))))), .val 24 zI, .val 25 zI, .cells 5 [.d (.pair zP (.pair zI (.pair zI .bool)))]], [], none⟩
@[reducible] def X41_2 : List (Ex × Tmpl) := [(.ret, ⟨98, [], [.val 2 .bool], [], none⟩), (.exit 2, ⟨98, [], [.val 3 (.slice (.agg (.pair zP (.pair zI (.pair zI .bool))))), .val 14 (.slice (.agg (.pair zP (.pair zI (.pair zI .bool))))), .val 15 zI, .val 16 zI], [], none⟩)]
noncomputable def step41_2 : (List ((Int × Int) × Int × Int × Bool)) × (List ((Int × Int) × Int × Int × Bool)) × Int × Int × (List ((Int × Int) × Int × Int × Bool)) × Int × Int × ((Int × Int) × Int × Int × Bool) → Option (((List ((Int × Int) × Int × Int × Bool)) × (List ((Int × Int) × Int × Int × Bool)) × Int × Int × (List ((Int × Int) × Int × Int × Bool)) × Int × Int × ((Int × Int) × Int × Int × Bool)) ⊕ ((Bool) ⊕ ((List ((Int × Int) × Int × Int × Bool)) × (List ((Int × Int) × Int × Int × Bool)) × Int × Int))) := fun (all0, t14, t15, t16, t23, t24, t25, r0) =>
 bif decide (t25 < t24) then
  bif inBounds t25 t23.length then
   optE (s63 (r0.1, (t23.getD t25.toNat ((0, 0), 0, 0, false)).1)) (fun r2 =>
    bif r2 == 0 then
     bif r0.1.1 == (wr (-(t23.getD t25.toNat ((0, 0), 0, 0, false)).1.1)) then
      optE (s65 (t23.getD t25.toNat ((0, 0), 0, 0, false)).1) (fun r3 =>
       optE (s64 (r0.1, r3)) (fun r4 =>
        bif decide (r4 > 0) then
         optE (s66 (r0, (t23.getD t25.toNat ((0, 0), 0, 0, false)))) (fun r5 =>
          bif !r5 then
           some (.inr (.inl false))
          else
           some (.inl (all0, t14, t15, t16, t23, t24, wr (t25 + 1), r0)))
          (none)
        else
         some (.inl (all0, t14, t15, t16, t23, t24, wr (t25 + 1), r0)))
        (none))
       (none)
     else
      some (.inl (all0, t14, t15, t16, t23, t24, wr (t25 + 1), r0))
    else
     some (.inl (all0, t14, t15, t16, t23, t24, wr (t25 + 1), r0)))
    (none)
  else
   none
 else
  some (.inr (.inr (all0, t14, t15, t16)))
theorem one41_2 : oneLoop Tryz.prog 41 2 = true := by kernel_rfl
theorem lp41_2 : ItemOk Tryz.prog (.loop 41 2 T41_2 X41_2 (loopVal step41_2)) := item_loopM md5 ext5 (U := 9) (n := 11) noSpecial mixed Gz2K5_ok one41_2 (fun x => by kernel_rfl)
noncomputable def Gz2K6 : List Ev.Item := .loop 41 2 T41_2 X41_2 (loopVal step41_2) :: Gz2K5
theorem Gz2K6_ok : ∀ q ∈ Gz2K6, ItemOk Tryz.prog q := items_cons lp41_2 Gz2K5_ok
@[reducible] def T41_0 : Tmpl := ⟨98, [], [.val 3 (.slice (.agg (.pair zP (.pair zI (.pair zI .bool))))), .val 14 (.slice (.agg (.pair zP (.pair zI (.pair zI .bool))))), .val 15 zI, .val 16 zI], [], none⟩
@[reducible] def X41_0 : List (Ex × Tmpl) := [(.ret, ⟨98, [], [.val 2 .bool], [], none⟩), (.exit 0, ⟨98, [], [.val 3 (.slice (.agg (.pair zP (.pair zI (.pair zI .bool)))))], [], none⟩)]
noncomputable def step41_0 : (List ((Int × Int) × Int × Int × Bool)) × (List ((Int × Int) × Int × Int × Bool)) × Int × Int → Option (((List ((Int × Int) × Int × Int × Bool)) × (List ((Int × Int) × Int × Int × Bool)) × Int × Int) ⊕ ((Bool) ⊕ (List ((Int × Int) × Int × Int × Bool)))) := fun (all0, t14, t15, t16) =>
 bif decide (t16 < t15) then
  bif inBounds t16 t14.length then
   bif (decide (0 ≤ t16)) && (decide (t16 ≤ (all0.length : Int))) then
    optE (loopVal step41_2 (all0, t14, t15, t16, all0.take t16.toNat, ((all0.take t16.toNat).length : Int), 0, (t14.getD t16.toNat ((0, 0), 0, 0, false)))) (fun e2 =>
     sumE e2 (fun e3 =>
      some (.inr (.inl e3))) (fun e4 =>
      some (.inl (e4.1, e4.2.1, e4.2.2.1, wr (e4.2.2.2 + 1)))))
     (none)
   else
    none
  else
   none
 else
  some (.inr (.inr all0))
theorem one41_0 : oneLoop Tryz.prog 41 0 = true := by kernel_rfl
theorem lp41_0 : ItemOk Tryz.prog (.loop 41 0 T41_0 X41_0 (loopVal step41_0)) := item_loopM md5 ext5 (U := 9) (n := 11) noSpecial mixed Gz2K6_ok one41_0 (fun x => by kernel_rfl)
noncomputable def Gz2K7 : List Ev.Item := .loop 41 0 T41_0 X41_0 (loopVal step41_0) :: Gz2K6
theorem Gz2K7_ok : ∀ q ∈ Gz2K7, ItemOk Tryz.prog q := items_cons lp41_0 Gz2K6_ok
noncomputable def s41 : List (Int × Int × Int × Int × Int) → Option (Bool) := fun l =>
 optE (s62 l) (fun r1 =>
  optE (loopVal step41_0 (r1, r1, (r1.length : Int), 0)) (fun e2 =>
   sumE e2 (fun e3 =>
    some (e3)) (fun e4 =>
    optE (s48 (e4, (0, (-1)))) (fun r5 =>
     optE (s48 (e4, (0, 1))) (fun r6 =>
      bif !r5.2 then
       some (true)
      else
       bif !r6.2 then
        some (true)
       else
        some (decide ((wr ((wr (-r5.1.2)) * r6.1.1.2)) ≤ (wr (r6.1.2 * r5.1.1.2)))))
      (none))
     (none)))
   (none))
  (none)
theorem i41 : ItemOk Tryz.prog (.fn 41 [.d zS] [.d .bool] s41) := item_fnM md5 ext5 (U := 9) (n := 12) noSpecial mixed Gz2K7_ok (fun x => by kernel_rfl)
noncomputable def Gz2K8 : List Ev.Item := .fn 41 [.d zS] [.d .bool] s41 :: Gz2K7
theorem Gz2K8_ok : ∀ q ∈ Gz2K8, ItemOk Tryz.prog q := items_cons i41 Gz2K7_ok
@[reducible] def T73_0 : Tmpl := ⟨12, [], [.val 0 zI, .val 1 zI], [], none⟩
@[reducible] def X73_0 : List (Ex × Tmpl) := [(.exit 0, ⟨12, [], [.val 0 zI], [], none⟩)]
noncomputable def step73_0 : Int × Int → Option ((Int × Int) ⊕ (Int)) := fun (a, b) =>
 bif b != 0 then
  bif !(b == 0) then
   some (.inl (b, Int.tmod a b))
  else
   none
 else
  some (.inr a)
theorem one73_0 : oneLoop Tryz.prog 73 0 = true := by kernel_rfl
theorem lp73_0 : ItemOk Tryz.prog (.loop 73 0 T73_0 X73_0 (loopVal step73_0)) := item_loopM md5 ext5 (U := 9) (n := 11) noSpecial mixed Gz2K8_ok one73_0 (fun x => by kernel_rfl)
noncomputable def Gz2K9 : List Ev.Item := .loop 73 0 T73_0 X73_0 (loopVal step73_0) :: Gz2K8
theorem Gz2K9_ok : ∀ q ∈ Gz2K9, ItemOk Tryz.prog q := items_cons lp73_0 Gz2K8_ok
noncomputable def s73 : Int × Int → Option (Int) := fun (a, b) =>
 optE (loopVal step73_0 (a, b)) (fun e1 =>
  some (e1))
  (none)
theorem i73 : ItemOk Tryz.prog (.fn 73 [.d zI, .d zI] [.d zI] s73) := item_fnM md5 ext5 (U := 9) (n := 12) noSpecial mixed Gz2K9_ok (fun x => by kernel_rfl)
noncomputable def Gz2K10 : List Ev.Item := .fn 73 [.d zI, .d zI] [.d zI] s73 :: Gz2K9
theorem Gz2K10_ok : ∀ q ∈ Gz2K10, ItemOk Tryz.prog q := items_cons i73 Gz2K9_ok
noncomputable def s88 : Int × Int → Option (Int × Int) := fun (num, den) =>
 optE (s73 (num, den)) (fun r1 =>
  optE (s72 r1) (fun r2 =>
   bif !(r2 == 0) then
    bif !(r2 == 0) then
     some ((wr (Int.tdiv num r2), wr (Int.tdiv den r2)))
    else
     none
   else
    none)
   (none))
  (none)
theorem i88 : ItemOk Tryz.prog (.fn 88 [.d zI, .d zI] [.d (.agg zP)] s88) := item_fnM md5 ext5 (U := 9) (n := 12) noSpecial mixed Gz2K10_ok (fun x => by kernel_rfl)
noncomputable def Gz2K11 : List Ev.Item := .fn 88 [.d zI, .d zI] [.d (.agg zP)] s88 :: Gz2K10
theorem Gz2K11_ok : ∀ q ∈ Gz2K11, ItemOk Tryz.prog q := items_cons i88 Gz2K10_ok
noncomputable def s67 : ((List (Int × Bool × Int)) × Int) × Int → Option (Int × Int) := fun b =>
 optE (s88 (b.2, b.1.2)) (fun r1 =>
  some (r1))
  (none)
theorem i67 : ItemOk Tryz.prog (.fn 67 [.d (.agg (.pair (.pair (.slice (.agg (.pair zI (.pair .bool zI)))) zI) zI))] [.d (.agg zP)] s67) := item_fnM md5 ext5 (U := 9) (n := 12) noSpecial mixed Gz2K11_ok (fun x => by kernel_rfl)
noncomputable def Gz2K12 : List Ev.Item := .fn 67 [.d (.agg (.pair (.pair (.slice (.agg (.pair zI (.pair .bool zI)))) zI) zI))] [.d (.agg zP)] s67 :: Gz2K11
theorem Gz2K12_ok : ∀ q ∈ Gz2K12, ItemOk Tryz.prog q := items_cons i67 Gz2K11_ok
noncomputable def s44 : (List (Int × Int × Int × Int × Int)) × (Int × Int) → Option (((Int × Int) × Int × Int) × Int) := fun (l, of) =>
 optE (s41 l) (fun r1 =>
  bif !r1 then
   some ((((0, 0), 0, 0), 13))
  else
   optE (s62 l) (fun r2 =>
    optE (s65 of) (fun r3 =>
     optE (s48 (r2, r3)) (fun r4 =>
      optE (s48 (r2, of)) (fun r5 =>
       bif !r4.2 then
        some ((((0, 0), 0, 0), 22))
       else
        bif !r5.2 then
         some ((((0, 0), 0, 0), 22))
        else
         optE (s67 r4.1) (fun r6 =>
          optE (s67 r5.1) (fun r7 =>
           some ((((wr (-r6.1), r6.2), r7.1, r7.2), 0)))
           (none))
          (none))
       (none))
      (none))
     (none))
    (none))
  (none)
theorem i44 : ItemOk Tryz.prog (.fn 44 [.d zS, .d (.agg zP)] [.d (.agg (.pair zP zP)), .d zI] s44) := item_fnM md5 ext5 (U := 9) (n := 12) noSpecial mixed Gz2K12_ok (fun x => by kernel_rfl)
noncomputable def Gz2K13 : List Ev.Item := .fn 44 [.d zS, .d (.agg zP)] [.d (.agg (.pair zP zP)), .d zI] s44 :: Gz2K12
theorem Gz2K13_ok : ∀ q ∈ Gz2K13, ItemOk Tryz.prog q := items_cons i44 Gz2K12_ok
noncomputable def s16 : (List (Int × Int × Int × Int × Int)) × Int → Option (((Int × Int) × Int × Int) × Int) := fun (l, time) =>
 optE (s32 l) (fun r1 =>
  bif (firstE [r1.2, unl (win time 0 1000) 2]) != 0 then
   some ((((0, 0), 0, 0), firstE [r1.2, unl (win time 0 1000) 2]))
  else
   optE (s44 (l, (1, time))) (fun r2 =>
    some (r2))
    (none))
  (none)
theorem i16 : ItemOk Tryz.prog (.fn 16 [.d zS, .d zI] [.d (.agg (.pair zP zP)), .d zI] s16) := item_fnM md5 ext5 (U := 9) (n := 12) noSpecial mixed Gz2K13_ok (fun x => by kernel_rfl)
noncomputable def Gz2K14 : List Ev.Item := .fn 16 [.d zS, .d zI] [.d (.agg (.pair zP zP)), .d zI] s16 :: Gz2K13
theorem Gz2K14_ok : ∀ q ∈ Gz2K14, ItemOk Tryz.prog q := items_cons i16 Gz2K13_ok
noncomputable def s17 : List (Int × Int × Int × Int × Int) → Option (((Int × Int) × Int × Int) × Int) := fun l =>
 optE (s32 l) (fun r1 =>
  bif r1.2 != 0 then
   some ((((0, 0), 0, 0), r1.2))
  else
   optE (s44 (l, (0, 1))) (fun r2 =>
    some (r2))
    (none))
  (none)
theorem i17 : ItemOk Tryz.prog (.fn 17 [.d zS] [.d (.agg (.pair zP zP)), .d zI] s17) := item_fnM md5 ext5 (U := 9) (n := 12) noSpecial mixed Gz2K14_ok (fun x => by kernel_rfl)
noncomputable def Gz2K15 : List Ev.Item := .fn 17 [.d zS] [.d (.agg (.pair zP zP)), .d zI] s17 :: Gz2K14
theorem Gz2K15_ok : ∀ q ∈ Gz2K15, ItemOk Tryz.prog q := items_cons i17 Gz2K14_ok
end Go.Proofs.YtfpppijfkeidgaaGreatDoor
