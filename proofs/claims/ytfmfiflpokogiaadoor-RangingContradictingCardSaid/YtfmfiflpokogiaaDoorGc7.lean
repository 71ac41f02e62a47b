import Derived.Test.YtfmfiflpokogiaaDoorGc6
set_option linter.unusedSimpArgs false
set_option maxRecDepth 100000
namespace Go.Proofs.YtfmfiflpokogiaaDoor
open Go.Ev
@[reducible] def T135_2 : Tmpl := ⟨90, [(0, .mref 2900), (1, .ref 1901 0 0 0), (2, .ref 1900 0 0 0), (5, .ref 5 0 0 0), (16004, .ref 1004 0 0 0), (16006, .ref 1006 0 0 0), (16007, .ref 1007 0 0 0), (16023, .mref 2900), (48000006, .ref 1006 0 0 0), (48000007, .ref 1007 0 0 0)], [.val 14 (.slice (.agg (.pair zP (.pair zI (.pair zI .bool))))), .val 15 zI, .val 16 zI, .val 38 (.slice (.agg (.pair zP (.pair zI (.pair zI .bool))))), .val 39 zI, .val 40 zI, .cells 1901 [.d (.slice (.agg (.pair zP (.pair zI (.pair zI .bool)))))], .cells 1900 [.d zI, .d zI], .cells 5 [.d (.pair zP (.pair zI (.pair zI .bool)))], .cells 1004 [.d (.pair (.pair (.slice (.agg (.pair zI (.pair .bool zI)))) zI) zI)], .cells 1006 [.own 900 172 (.agg (.pair zI (.pair .bool zI))), .d zI, .d zI], .cells 1007 [.d .bool]], [24], some (2900, .ready)⟩
@[reducible] def X135_2 : List (Ex × Tmpl) := [(.exit 2, ⟨90, [(0, .mref 2900), (1, .ref 1901 0 0 0), (2, .ref 1900 0 0 0), (16004, .ref 1004 0 0 0), (16006, .ref 1006 0 0 0), (16007, .ref 1007 0 0 0), (16023, .mref 2900), (48000006, .ref 1006 0 0 0), (48000007, .ref 1007 0 0 0)], [.val 14 (.slice (.agg (.pair zP (.pair zI (.pair zI .bool))))), .val 15 zI, .val 16 zI, .cells 1901 [.d (.slice (.agg (.pair zP (.pair zI (.pair zI .bool)))))], .cells 1900 [.d zI, .d zI], .cells 1004 [.d (.pair (.pair (.slice (.agg (.pair zI (.pair .bool zI)))) zI) zI)], .cells 1006 [.own 900 172 (.agg (.pair zI (.pair .bool zI))), .d zI, .d zI], .cells 1007 [.d .bool]], [24], some (2900, .ready)⟩)]
noncomputable def Lp108_0 : LpI := lpOf Tryd.prog 108 0 false
noncomputable def step135_2 : (List ((Int × Int) × Int × Int × Bool)) × Int × Int × (List ((Int × Int) × Int × Int × Bool)) × Int × Int × (List ((Int × Int) × Int × Int × Bool)) × (Int × Int) × ((Int × Int) × Int × Int × Bool) × (((List (Int × Bool × Int)) × Int) × Int) × ((List (Int × Bool × Int)) × Int × Int) × Bool → Option (LpI × (((List ((Int × Int) × Int × Int × Bool)) × Int × Int × (List ((Int × Int) × Int × Int × Bool)) × Int × Int × (List ((Int × Int) × Int × Int × Bool)) × (Int × Int) × ((Int × Int) × Int × Int × Bool) × (((List (Int × Bool × Int)) × Int) × Int) × ((List (Int × Bool × Int)) × Int × Int) × Bool) ⊕ ((List ((Int × Int) × Int × Int × Bool)) × Int × Int × (List ((Int × Int) × Int × Int × Bool)) × (Int × Int) × (((List (Int × Bool × Int)) × Int) × Int) × ((List (Int × Bool × Int)) × Int × Int) × Bool))) := fun (t14, t15, t16, t38, t39, t40, t1901, t1900, r0, t1004, out, found) =>
 bif decide (t40 < t39) then
  bif inBounds t40 t38.length then
   optE (s115 ((t38.getD t40.toNat ((0, 0), 0, 0, false)).1, r0.1)) (fun r13 =>
    optE (s115 (t1900, r0.1)) (fun r14 =>
     optE (s115 ((t38.getD t40.toNat ((0, 0), 0, 0, false)).1, t1900)) (fun r15 =>
      bif decide (r13 < 0) then
       bif (wr (-r13)) == 0 then
        some (Lp108_0, .inl (t14, t15, t16, t38, t39, wr (t40 + 1), t1901, t1900, r0, t1004, out, found))
       else
        bif decide ((wr (-r14)) < 0) then
         some (Lp108_0, .inl (t14, t15, t16, t38, t39, wr (t40 + 1), t1901, t1900, r0, t1004, out, found))
        else
         bif decide ((wr (-r15)) < 0) then
          some (Lp108_0, .inl (t14, t15, t16, t38, t39, wr (t40 + 1), t1901, t1900, r0, t1004, out, found))
         else
          bif decide ((wr (-r14)) > 0) then
           bif decide ((wr (-r15)) > 0) then
            bif !found then
             some (Lp108_0, .inl (t14, t15, t16, t38, t39, wr (t40 + 1), t1901, t1900, r0, t1004, ([((t38.getD t40.toNat ((0, 0), 0, 0, false)).2.2.1, (t38.getD t40.toNat ((0, 0), 0, 0, false)).2.2.2, wr (-r14)), (r0.2.2.1, r0.2.2.2, wr (-r15))], wr (-r13), wr ((wr (0 + (wr ((wr (-r14)) * (t38.getD t40.toNat ((0, 0), 0, 0, false)).2.1)))) + (wr ((wr (-r15)) * r0.2.1)))), true))
            else
             optE (s129 ((([((t38.getD t40.toNat ((0, 0), 0, 0, false)).2.2.1, (t38.getD t40.toNat ((0, 0), 0, 0, false)).2.2.2, wr (-r14)), (r0.2.2.1, r0.2.2.2, wr (-r15))], wr (-r13)), wr ((wr (0 + (wr ((wr (-r14)) * (t38.getD t40.toNat ((0, 0), 0, 0, false)).2.1)))) + (wr ((wr (-r15)) * r0.2.1)))), ((out.1, out.2.1), out.2.2))) (fun r16 =>
              bif r16 then
               some (Lp108_0, .inl (t14, t15, t16, t38, t39, wr (t40 + 1), t1901, t1900, r0, t1004, ([((t38.getD t40.toNat ((0, 0), 0, 0, false)).2.2.1, (t38.getD t40.toNat ((0, 0), 0, 0, false)).2.2.2, wr (-r14)), (r0.2.2.1, r0.2.2.2, wr (-r15))], wr (-r13), wr ((wr (0 + (wr ((wr (-r14)) * (t38.getD t40.toNat ((0, 0), 0, 0, false)).2.1)))) + (wr ((wr (-r15)) * r0.2.1)))), true))
              else
               some (Lp108_0, .inl (t14, t15, t16, t38, t39, wr (t40 + 1), t1901, t1900, r0, t1004, out, found)))
              (none)
           else
            bif !found then
             some (Lp108_0, .inl (t14, t15, t16, t38, t39, wr (t40 + 1), t1901, t1900, r0, t1004, ([((t38.getD t40.toNat ((0, 0), 0, 0, false)).2.2.1, (t38.getD t40.toNat ((0, 0), 0, 0, false)).2.2.2, wr (-r14))], wr (-r13), wr (0 + (wr ((wr (-r14)) * (t38.getD t40.toNat ((0, 0), 0, 0, false)).2.1)))), true))
            else
             optE (s129 ((([((t38.getD t40.toNat ((0, 0), 0, 0, false)).2.2.1, (t38.getD t40.toNat ((0, 0), 0, 0, false)).2.2.2, wr (-r14))], wr (-r13)), wr (0 + (wr ((wr (-r14)) * (t38.getD t40.toNat ((0, 0), 0, 0, false)).2.1)))), ((out.1, out.2.1), out.2.2))) (fun r17 =>
              bif r17 then
               some (Lp108_0, .inl (t14, t15, t16, t38, t39, wr (t40 + 1), t1901, t1900, r0, t1004, ([((t38.getD t40.toNat ((0, 0), 0, 0, false)).2.2.1, (t38.getD t40.toNat ((0, 0), 0, 0, false)).2.2.2, wr (-r14))], wr (-r13), wr (0 + (wr ((wr (-r14)) * (t38.getD t40.toNat ((0, 0), 0, 0, false)).2.1)))), true))
              else
               some (Lp108_0, .inl (t14, t15, t16, t38, t39, wr (t40 + 1), t1901, t1900, r0, t1004, out, found)))
              (none)
          else
           bif decide ((wr (-r15)) > 0) then
            bif !found then
             some (Lp108_0, .inl (t14, t15, t16, t38, t39, wr (t40 + 1), t1901, t1900, r0, t1004, ([(r0.2.2.1, r0.2.2.2, wr (-r15))], wr (-r13), wr (0 + (wr ((wr (-r15)) * r0.2.1)))), true))
            else
             optE (s129 ((([(r0.2.2.1, r0.2.2.2, wr (-r15))], wr (-r13)), wr (0 + (wr ((wr (-r15)) * r0.2.1)))), ((out.1, out.2.1), out.2.2))) (fun r18 =>
              bif r18 then
               some (Lp108_0, .inl (t14, t15, t16, t38, t39, wr (t40 + 1), t1901, t1900, r0, t1004, ([(r0.2.2.1, r0.2.2.2, wr (-r15))], wr (-r13), wr (0 + (wr ((wr (-r15)) * r0.2.1)))), true))
              else
               some (Lp108_0, .inl (t14, t15, t16, t38, t39, wr (t40 + 1), t1901, t1900, r0, t1004, out, found)))
              (none)
           else
            bif !found then
             some (Lp108_0, .inl (t14, t15, t16, t38, t39, wr (t40 + 1), t1901, t1900, r0, t1004, ([], wr (-r13), 0), true))
            else
             optE (s129 ((([], wr (-r13)), 0), ((out.1, out.2.1), out.2.2))) (fun r19 =>
              bif r19 then
               some (Lp108_0, .inl (t14, t15, t16, t38, t39, wr (t40 + 1), t1901, t1900, r0, t1004, ([], wr (-r13), 0), true))
              else
               some (Lp108_0, .inl (t14, t15, t16, t38, t39, wr (t40 + 1), t1901, t1900, r0, t1004, out, found)))
              (none)
      else
       bif r13 == 0 then
        some (Lp108_0, .inl (t14, t15, t16, t38, t39, wr (t40 + 1), t1901, t1900, r0, t1004, out, found))
       else
        bif decide (r14 < 0) then
         some (Lp108_0, .inl (t14, t15, t16, t38, t39, wr (t40 + 1), t1901, t1900, r0, t1004, out, found))
        else
         bif decide (r15 < 0) then
          some (Lp108_0, .inl (t14, t15, t16, t38, t39, wr (t40 + 1), t1901, t1900, r0, t1004, out, found))
         else
          bif decide (r14 > 0) then
           bif decide (r15 > 0) then
            bif !found then
             some (Lp108_0, .inl (t14, t15, t16, t38, t39, wr (t40 + 1), t1901, t1900, r0, t1004, ([((t38.getD t40.toNat ((0, 0), 0, 0, false)).2.2.1, (t38.getD t40.toNat ((0, 0), 0, 0, false)).2.2.2, r14), (r0.2.2.1, r0.2.2.2, r15)], r13, wr ((wr (0 + (wr (r14 * (t38.getD t40.toNat ((0, 0), 0, 0, false)).2.1)))) + (wr (r15 * r0.2.1)))), true))
            else
             optE (s129 ((([((t38.getD t40.toNat ((0, 0), 0, 0, false)).2.2.1, (t38.getD t40.toNat ((0, 0), 0, 0, false)).2.2.2, r14), (r0.2.2.1, r0.2.2.2, r15)], r13), wr ((wr (0 + (wr (r14 * (t38.getD t40.toNat ((0, 0), 0, 0, false)).2.1)))) + (wr (r15 * r0.2.1)))), ((out.1, out.2.1), out.2.2))) (fun r20 =>
              bif r20 then
               some (Lp108_0, .inl (t14, t15, t16, t38, t39, wr (t40 + 1), t1901, t1900, r0, t1004, ([((t38.getD t40.toNat ((0, 0), 0, 0, false)).2.2.1, (t38.getD t40.toNat ((0, 0), 0, 0, false)).2.2.2, r14), (r0.2.2.1, r0.2.2.2, r15)], r13, wr ((wr (0 + (wr (r14 * (t38.getD t40.toNat ((0, 0), 0, 0, false)).2.1)))) + (wr (r15 * r0.2.1)))), true))
              else
               some (Lp108_0, .inl (t14, t15, t16, t38, t39, wr (t40 + 1), t1901, t1900, r0, t1004, out, found)))
              (none)
           else
            bif !found then
             some (Lp108_0, .inl (t14, t15, t16, t38, t39, wr (t40 + 1), t1901, t1900, r0, t1004, ([((t38.getD t40.toNat ((0, 0), 0, 0, false)).2.2.1, (t38.getD t40.toNat ((0, 0), 0, 0, false)).2.2.2, r14)], r13, wr (0 + (wr (r14 * (t38.getD t40.toNat ((0, 0), 0, 0, false)).2.1)))), true))
            else
             optE (s129 ((([((t38.getD t40.toNat ((0, 0), 0, 0, false)).2.2.1, (t38.getD t40.toNat ((0, 0), 0, 0, false)).2.2.2, r14)], r13), wr (0 + (wr (r14 * (t38.getD t40.toNat ((0, 0), 0, 0, false)).2.1)))), ((out.1, out.2.1), out.2.2))) (fun r21 =>
              bif r21 then
               some (Lp108_0, .inl (t14, t15, t16, t38, t39, wr (t40 + 1), t1901, t1900, r0, t1004, ([((t38.getD t40.toNat ((0, 0), 0, 0, false)).2.2.1, (t38.getD t40.toNat ((0, 0), 0, 0, false)).2.2.2, r14)], r13, wr (0 + (wr (r14 * (t38.getD t40.toNat ((0, 0), 0, 0, false)).2.1)))), true))
              else
               some (Lp108_0, .inl (t14, t15, t16, t38, t39, wr (t40 + 1), t1901, t1900, r0, t1004, out, found)))
              (none)
          else
           bif decide (r15 > 0) then
            bif !found then
             some (Lp108_0, .inl (t14, t15, t16, t38, t39, wr (t40 + 1), t1901, t1900, r0, t1004, ([(r0.2.2.1, r0.2.2.2, r15)], r13, wr (0 + (wr (r15 * r0.2.1)))), true))
            else
             optE (s129 ((([(r0.2.2.1, r0.2.2.2, r15)], r13), wr (0 + (wr (r15 * r0.2.1)))), ((out.1, out.2.1), out.2.2))) (fun r22 =>
              bif r22 then
               some (Lp108_0, .inl (t14, t15, t16, t38, t39, wr (t40 + 1), t1901, t1900, r0, t1004, ([(r0.2.2.1, r0.2.2.2, r15)], r13, wr (0 + (wr (r15 * r0.2.1)))), true))
              else
               some (Lp108_0, .inl (t14, t15, t16, t38, t39, wr (t40 + 1), t1901, t1900, r0, t1004, out, found)))
              (none)
           else
            bif !found then
             some (Lp108_0, .inl (t14, t15, t16, t38, t39, wr (t40 + 1), t1901, t1900, r0, t1004, ([], r13, 0), true))
            else
             optE (s129 ((([], r13), 0), ((out.1, out.2.1), out.2.2))) (fun r23 =>
              bif r23 then
               some (Lp108_0, .inl (t14, t15, t16, t38, t39, wr (t40 + 1), t1901, t1900, r0, t1004, ([], r13, 0), true))
              else
               some (Lp108_0, .inl (t14, t15, t16, t38, t39, wr (t40 + 1), t1901, t1900, r0, t1004, out, found)))
              (none))
      (none))
     (none))
    (none)
  else
   none
 else
  some (Lp108_0, .inr (t14, t15, t16, t1901, t1900, t1004, out, found))
theorem one135_2 : oneLoop Tryd.prog 135 2 = true := by kernel_rfl
theorem lp135_2 : ItemOk Tryd.prog (.loopI 135 2 Lp108_0 T135_2 X135_2 (loopVal (strip Lp108_0 step135_2))) := item_loopI md7 ext7 (U := 9) (n := 10) noSpecial mixed Gc6K21_ok one135_2 (fun x => by kernel_rfl)
noncomputable def Gc7K1 : List Ev.Item := .loopI 135 2 Lp108_0 T135_2 X135_2 (loopVal (strip Lp108_0 step135_2)) :: Gc6K21
theorem Gc7K1_ok : ∀ q ∈ Gc7K1, ItemOk Tryd.prog q := items_cons lp135_2 Gc6K21_ok
@[reducible] def T135_0 : Tmpl := ⟨90, [(0, .mref 2900), (1, .ref 1901 0 0 0), (2, .ref 1900 0 0 0), (16004, .ref 1004 0 0 0), (16006, .ref 1006 0 0 0), (16007, .ref 1007 0 0 0), (16023, .mref 2900), (48000006, .ref 1006 0 0 0), (48000007, .ref 1007 0 0 0)], [.val 14 (.slice (.agg (.pair zP (.pair zI (.pair zI .bool))))), .val 15 zI, .val 16 zI, .cells 1901 [.d (.slice (.agg (.pair zP (.pair zI (.pair zI .bool)))))], .cells 1900 [.d zI, .d zI], .cells 1004 [.d (.pair (.pair (.slice (.agg (.pair zI (.pair .bool zI)))) zI) zI)], .cells 1006 [.own 900 172 (.agg (.pair zI (.pair .bool zI))), .d zI, .d zI], .cells 1007 [.d .bool]], [24], some (2900, .ready)⟩
@[reducible] def X135_0 : List (Ex × Tmpl) := [(.exit 0, ⟨90, [(16004, .ref 1004 0 0 0), (16006, .ref 1006 0 0 0), (16007, .ref 1007 0 0 0), (16023, .mref 2900), (48000006, .ref 1006 0 0 0), (48000007, .ref 1007 0 0 0)], [.cells 1004 [.d (.pair (.pair (.slice (.agg (.pair zI (.pair .bool zI)))) zI) zI)], .cells 1006 [.own 900 172 (.agg (.pair zI (.pair .bool zI))), .d zI, .d zI], .cells 1007 [.d .bool]], [24], some (2900, .ready)⟩)]
noncomputable def step135_0 : (List ((Int × Int) × Int × Int × Bool)) × Int × Int × (List ((Int × Int) × Int × Int × Bool)) × (Int × Int) × (((List (Int × Bool × Int)) × Int) × Int) × ((List (Int × Bool × Int)) × Int × Int) × Bool → Option (LpI × (((List ((Int × Int) × Int × Int × Bool)) × Int × Int × (List ((Int × Int) × Int × Int × Bool)) × (Int × Int) × (((List (Int × Bool × Int)) × Int) × Int) × ((List (Int × Bool × Int)) × Int × Int) × Bool) ⊕ ((((List (Int × Bool × Int)) × Int) × Int) × ((List (Int × Bool × Int)) × Int × Int) × Bool))) := fun (t14, t15, t16, t1901, t1900, t1004, out, found) =>
 bif decide (t16 < t15) then
  bif inBounds t16 t14.length then
   optE (s116 ((t14.getD t16.toNat ((0, 0), 0, 0, false)).1, t1900)) (fun r1 =>
    bif decide (r1 > 0) then
     bif !found then
      bif (decide (0 ≤ t16)) && (decide (t16 ≤ (t1901.length : Int))) then
       optE (onlyAt Lp108_0 Lp108_0 <| loopVal (strip Lp108_0 step135_2) (t14, t15, t16, t1901.take t16.toNat, ((t1901.take t16.toNat).length : Int), 0, t1901, t1900, (t14.getD t16.toNat ((0, 0), 0, 0, false)), t1004, ([((t14.getD t16.toNat ((0, 0), 0, 0, false)).2.2.1, (t14.getD t16.toNat ((0, 0), 0, 0, false)).2.2.2, 1)], r1, wr (0 + (wr (1 * (t14.getD t16.toNat ((0, 0), 0, 0, false)).2.1)))), true)) (fun e2 =>
        some (Lp108_0, .inl (e2.1, e2.2.1, wr (e2.2.2.1 + 1), e2.2.2.2.1, e2.2.2.2.2.1, e2.2.2.2.2.2.1, e2.2.2.2.2.2.2.1, e2.2.2.2.2.2.2.2)))
        (none)
      else
       none
     else
      optE (s129 ((([((t14.getD t16.toNat ((0, 0), 0, 0, false)).2.2.1, (t14.getD t16.toNat ((0, 0), 0, 0, false)).2.2.2, 1)], r1), wr (0 + (wr (1 * (t14.getD t16.toNat ((0, 0), 0, 0, false)).2.1)))), ((out.1, out.2.1), out.2.2))) (fun r3 =>
       bif r3 then
        bif (decide (0 ≤ t16)) && (decide (t16 ≤ (t1901.length : Int))) then
         optE (onlyAt Lp108_0 Lp108_0 <| loopVal (strip Lp108_0 step135_2) (t14, t15, t16, t1901.take t16.toNat, ((t1901.take t16.toNat).length : Int), 0, t1901, t1900, (t14.getD t16.toNat ((0, 0), 0, 0, false)), t1004, ([((t14.getD t16.toNat ((0, 0), 0, 0, false)).2.2.1, (t14.getD t16.toNat ((0, 0), 0, 0, false)).2.2.2, 1)], r1, wr (0 + (wr (1 * (t14.getD t16.toNat ((0, 0), 0, 0, false)).2.1)))), true)) (fun e4 =>
          some (Lp108_0, .inl (e4.1, e4.2.1, wr (e4.2.2.1 + 1), e4.2.2.2.1, e4.2.2.2.2.1, e4.2.2.2.2.2.1, e4.2.2.2.2.2.2.1, e4.2.2.2.2.2.2.2)))
          (none)
        else
         none
       else
        bif (decide (0 ≤ t16)) && (decide (t16 ≤ (t1901.length : Int))) then
         optE (onlyAt Lp108_0 Lp108_0 <| loopVal (strip Lp108_0 step135_2) (t14, t15, t16, t1901.take t16.toNat, ((t1901.take t16.toNat).length : Int), 0, t1901, t1900, (t14.getD t16.toNat ((0, 0), 0, 0, false)), t1004, out, found)) (fun e5 =>
          some (Lp108_0, .inl (e5.1, e5.2.1, wr (e5.2.2.1 + 1), e5.2.2.2.1, e5.2.2.2.2.1, e5.2.2.2.2.2.1, e5.2.2.2.2.2.2.1, e5.2.2.2.2.2.2.2)))
          (none)
        else
         none)
       (none)
    else
     bif (decide (0 ≤ t16)) && (decide (t16 ≤ (t1901.length : Int))) then
      optE (onlyAt Lp108_0 Lp108_0 <| loopVal (strip Lp108_0 step135_2) (t14, t15, t16, t1901.take t16.toNat, ((t1901.take t16.toNat).length : Int), 0, t1901, t1900, (t14.getD t16.toNat ((0, 0), 0, 0, false)), t1004, out, found)) (fun e6 =>
       some (Lp108_0, .inl (e6.1, e6.2.1, wr (e6.2.2.1 + 1), e6.2.2.2.1, e6.2.2.2.2.1, e6.2.2.2.2.2.1, e6.2.2.2.2.2.2.1, e6.2.2.2.2.2.2.2)))
       (none)
     else
      none)
    (none)
  else
   none
 else
  some (Lp108_0, .inr (t1004, out, found))
theorem one135_0 : oneLoop Tryd.prog 135 0 = true := by kernel_rfl
theorem lp135_0 : ItemOk Tryd.prog (.loopI 135 0 Lp108_0 T135_0 X135_0 (loopVal (strip Lp108_0 step135_0))) := item_loopI md7 ext7 (U := 9) (n := 10) noSpecial mixed Gc7K1_ok one135_0 (fun x => by kernel_rfl)
noncomputable def Gc7K2 : List Ev.Item := .loopI 135 0 Lp108_0 T135_0 X135_0 (loopVal (strip Lp108_0 step135_0)) :: Gc7K1
theorem Gc7K2_ok : ∀ q ∈ Gc7K2, ItemOk Tryd.prog q := items_cons lp135_0 Gc7K1_ok
noncomputable def s108 : (List ((Int × Int) × Int × Int × Bool)) × (Int × Int) → Option ((((List (Int × Bool × Int)) × Int) × Int) × Bool) := fun (l, of) =>
 optE (onlyAt Lp108_0 Lp108_0 <| loopVal (strip Lp108_0 step135_0) (l, (l.length : Int), 0, l, of, (([], 0), 0), ([], 0, 0), false)) (fun e1 =>
  some ((((e1.2.1.1, e1.2.1.2.1), e1.2.1.2.2), e1.2.2)))
  (none)
theorem i108 : ItemOk Tryd.prog (.fn 108 [.d (.slice (.agg (.pair zP (.pair zI (.pair zI .bool))))), .d (.agg zP)] [.d (.agg (.pair (.pair (.slice (.agg (.pair zI (.pair .bool zI)))) zI) zI)), .d .bool] s108) := item_fnM md7 ext7 (U := 9) (n := 12) noSpecial mixed Gc7K2_ok (fun x => by kernel_rfl)
noncomputable def Gc7K3 : List Ev.Item := .fn 108 [.d (.slice (.agg (.pair zP (.pair zI (.pair zI .bool))))), .d (.agg zP)] [.d (.agg (.pair (.pair (.slice (.agg (.pair zI (.pair .bool zI)))) zI) zI)), .d .bool] s108 :: Gc7K2
theorem Gc7K3_ok : ∀ q ∈ Gc7K3, ItemOk Tryd.prog q := items_cons i108 Gc7K2_ok
end Go.Proofs.YtfmfiflpokogiaaDoor
