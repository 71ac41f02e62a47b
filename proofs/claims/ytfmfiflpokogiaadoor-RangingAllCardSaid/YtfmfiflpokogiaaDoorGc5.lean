import Derived.Test.YtfmfiflpokogiaaDoorGc4
set_option linter.unusedSimpArgs false
set_option maxRecDepth 100000
namespace Go.Proofs.YtfmfiflpokogiaaDoor
open Go.Ev
@[reducible] def T9_0 : Tmpl := ⟨228, [(4, .ref 4 0 0 0), (5, .ref 5 0 0 0)], [.val 0 (.slice (.agg (.pair zI zP))), .val 7 (.slice (.agg zP)), .val 9 (.slice (.agg zP)), .val 10 zI, .val 11 zI, .val 12 zI, .val 13 .bool, .val 14 zI, .cells 4 [.d zP], .arrp 5 zI 2 zP], [], none⟩
@[reducible] def X9_0 : List (Ex × Tmpl) := [(.ret, ⟨228, [], [.val 6 .bool], [], none⟩), (.exit 0, ⟨228, [(5, .ref 5 0 0 0)], [.val 0 (.slice (.agg (.pair zI zP))), .val 9 (.slice (.agg zP)), .val 10 zI, .val 11 zI, .val 12 zI, .val 13 .bool, .arrp 5 zI 2 zP], [], none⟩)]
noncomputable def step9_0 : (List (Int × Int × Int)) × (List (Int × Int)) × (List (Int × Int)) × Int × Int × Int × Bool × Int × (Int × Int) × (Int × Int) → Option (((List (Int × Int × Int)) × (List (Int × Int)) × (List (Int × Int)) × Int × Int × Int × Bool × Int × (Int × Int) × (Int × Int)) ⊕ ((Bool) ⊕ ((List (Int × Int × Int)) × (List (Int × Int)) × Int × Int × Int × Bool × (Int × Int)))) := fun (l, c, fewer, f, a, g, in0, i, limit, x0) =>
 bif decide (i < (c.length : Int)) then
  bif inBounds i c.length then
   bif inBounds i c.length then
    bif decide ((c.getD i.toNat (0, 0)).1 > (c.getD i.toNat (0, 0)).2) then
     some (.inr (.inl false))
    else
     bif inBounds i c.length then
      bif !(win (c.getD i.toNat (0, 0)).1 limit.1 limit.2) then
       some (.inr (.inl false))
      else
       bif inBounds i c.length then
        bif !(win (c.getD i.toNat (0, 0)).2 limit.1 limit.2) then
         some (.inr (.inl false))
        else
         bif decide (i > 0) then
          bif inBounds i c.length then
           bif inBounds (wr (i - 1)) c.length then
            bif decide ((c.getD i.toNat (0, 0)).1 ≤ (wr ((c.getD (wr (i - 1)).toNat (0, 0)).2 + 1))) then
             some (.inr (.inl false))
            else
             bif in0 then
              some (.inl (l, c, fewer, f, a, g, true, wr (i + 1), limit, x0))
             else
              bif inBounds i c.length then
               bif inBounds i c.length then
                some (.inl (l, c, fewer, f, a, g, win x0.1 (c.getD i.toNat (0, 0)).1 (c.getD i.toNat (0, 0)).2, wr (i + 1), limit, x0))
               else
                none
              else
               none
           else
            none
          else
           none
         else
          bif in0 then
           some (.inl (l, c, fewer, f, a, g, true, wr (i + 1), limit, x0))
          else
           bif inBounds i c.length then
            bif inBounds i c.length then
             some (.inl (l, c, fewer, f, a, g, win x0.1 (c.getD i.toNat (0, 0)).1 (c.getD i.toNat (0, 0)).2, wr (i + 1), limit, x0))
            else
             none
           else
            none
       else
        none
     else
      none
   else
    none
  else
   none
 else
  some (.inr (.inr (l, fewer, f, a, g, in0, x0)))
theorem one9_0 : oneLoop Tryd.prog 9 0 = true := by kernel_rfl
theorem lp9_0 : ItemOk Tryd.prog (.loop 9 0 T9_0 X9_0 (loopVal step9_0)) := item_loopM md7 ext7 (U := 9) (n := 3) noSpecial mixed Gc4K20_ok one9_0 (fun x => by kernel_rfl)
noncomputable def Gc5K1 : List Ev.Item := .loop 9 0 T9_0 X9_0 (loopVal step9_0) :: Gc4K20
theorem Gc5K1_ok : ∀ q ∈ Gc5K1, ItemOk Tryd.prog q := items_cons lp9_0 Gc4K20_ok
@[reducible] def T9_2 : Tmpl := ⟨228, [(5, .ref 5 0 0 0)], [.val 0 (.slice (.agg (.pair zI zP))), .val 9 (.slice (.agg zP)), .val 11 zI, .val 12 zI, .val 15 .bool, .val 16 zI, .arrp 5 zI 2 zP], [], none⟩
@[reducible] def X9_2 : List (Ex × Tmpl) := [(.exit 2, ⟨228, [(5, .ref 5 0 0 0)], [.val 0 (.slice (.agg (.pair zI zP))), .val 11 zI, .val 12 zI, .val 15 .bool, .arrp 5 zI 2 zP], [], none⟩)]
noncomputable def step9_2 : (List (Int × Int × Int)) × (List (Int × Int)) × Int × Int × Bool × Int × (Int × Int) → Option (((List (Int × Int × Int)) × (List (Int × Int)) × Int × Int × Bool × Int × (Int × Int)) ⊕ ((List (Int × Int × Int)) × Int × Int × Bool × (Int × Int))) := fun (l, fewer, a, g, found, i, x0) =>
 bif decide (i < (fewer.length : Int)) then
  bif found then
   some (.inl (l, fewer, a, g, true, wr (i + 1), x0))
  else
   bif inBounds i fewer.length then
    bif inBounds i fewer.length then
     some (.inl (l, fewer, a, g, win x0.1 (fewer.getD i.toNat (0, 0)).1 (fewer.getD i.toNat (0, 0)).2, wr (i + 1), x0))
    else
     none
   else
    none
 else
  some (.inr (l, a, g, found, x0))
theorem one9_2 : oneLoop Tryd.prog 9 2 = true := by kernel_rfl
theorem lp9_2 : ItemOk Tryd.prog (.loop 9 2 T9_2 X9_2 (loopVal step9_2)) := item_loopM md7 ext7 (U := 9) (n := 3) noSpecial mixed Gc5K1_ok one9_2 (fun x => by kernel_rfl)
noncomputable def Gc5K2 : List Ev.Item := .loop 9 2 T9_2 X9_2 (loopVal step9_2) :: Gc5K1
theorem Gc5K2_ok : ∀ q ∈ Gc5K2, ItemOk Tryd.prog q := items_cons lp9_2 Gc5K1_ok
@[reducible] def T9_4 : Tmpl := ⟨228, [(5, .ref 5 0 0 0)], [.val 0 (.slice (.agg (.pair zI zP))), .val 11 zI, .val 17 zI, .arrp 5 zI 2 zP], [], none⟩
@[reducible] def X9_4 : List (Ex × Tmpl) := [(.ret, ⟨228, [], [.val 6 .bool], [], none⟩), (.exit 4, ⟨228, [(5, .ref 5 0 0 0)], [.val 0 (.slice (.agg (.pair zI zP))), .val 11 zI, .arrp 5 zI 2 zP], [], none⟩)]
noncomputable def step9_4 : (List (Int × Int × Int)) × Int × Int × (Int × Int) → Option (((List (Int × Int × Int)) × Int × Int × (Int × Int)) ⊕ ((Bool) ⊕ ((List (Int × Int × Int)) × Int × (Int × Int)))) := fun (l, a, i, x0) =>
 bif decide (i < (l.length : Int)) then
  bif inBounds i l.length then
   bif !((l.getD i.toNat (0, 0, 0)).1 == 0) then
    bif (Int.tmod a (l.getD i.toNat (0, 0, 0)).1) != 0 then
     some (.inr (.inl false))
    else
     some (.inl (l, a, wr (i + 1), x0))
   else
    none
  else
   none
 else
  some (.inr (.inr (l, a, x0)))
theorem one9_4 : oneLoop Tryd.prog 9 4 = true := by kernel_rfl
theorem lp9_4 : ItemOk Tryd.prog (.loop 9 4 T9_4 X9_4 (loopVal step9_4)) := item_loopM md7 ext7 (U := 9) (n := 3) noSpecial mixed Gc5K2_ok one9_4 (fun x => by kernel_rfl)
noncomputable def Gc5K3 : List Ev.Item := .loop 9 4 T9_4 X9_4 (loopVal step9_4) :: Gc5K2
theorem Gc5K3_ok : ∀ q ∈ Gc5K3, ItemOk Tryd.prog q := items_cons lp9_4 Gc5K2_ok
noncomputable def s9 : (List (Int × Int × Int)) × (Int × Int) × (Int × Int) → Option (Bool) := fun (l, limit, x0) =>
 bif !true then
  some (false)
 else
  bif (l.length : Int) == 0 then
   some (true)
  else
   bif decide ((l.length : Int) ≥ 8) then
    some (true)
   else
    optE (s35 (limit, 600)) (fun r1 =>
     bif !r1 then
      some (true)
     else
      optE (s39 (l, limit)) (fun r2 =>
       bif r2 != 0 then
        some (true)
       else
        bif !(win x0.1 limit.1 limit.2) then
         some (true)
        else
         bif !(win x0.2 (-1000) 1000) then
          some (true)
         else
          optE (s37 l) (fun r3 =>
           optE (s36 (r3, limit)) (fun r4 =>
            bif decide (1 ≤ (l.length : Int)) then
             optE (s37 (l.drop 1)) (fun r5 =>
              optE (s36 (r5, limit)) (fun r6 =>
               optE (s37 l) (fun r7 =>
                optE (s43 r7) (fun r8 =>
                 bif r4.2 == 0 then
                  optE (loopVal step9_0 (l, r4.1, r6.1, r6.2, r8.1, r8.2, false, 0, limit, x0)) (fun e9 =>
                   sumE e9 (fun e10 =>
                    some (e10)) (fun e11 =>
                    optE (s47 (e11.1, e11.2.2.2.2.2.2.1, [])) (fun r12 =>
                     bif !(e11.2.2.2.2.2.1 == r12) then
                      some (false)
                     else
                      bif e11.2.2.1 == 0 then
                       bif e11.2.2.2.2.2.1 then
                        optE (loopVal step9_2 (e11.1, e11.2.1, e11.2.2.2.1, e11.2.2.2.2.1, false, 0, e11.2.2.2.2.2.2)) (fun e13 =>
                         bif !e13.2.2.2.1 then
                          some (false)
                         else
                          bif e13.2.2.1 != 0 then
                           some (e13.2.2.1 == 8)
                          else
                           bif !(win e13.2.1 1 1000000000000000) then
                            some (false)
                           else
                            optE (loopVal step9_4 (e13.1, e13.2.1, 0, e13.2.2.2.2)) (fun e14 =>
                             sumE e14 (fun e15 =>
                              some (e15)) (fun e16 =>
                              optE (s47 (e16.1, wr (e16.2.2.1 + (wr (e16.2.1 * e16.2.2.2))), [])) (fun r17 =>
                               optE (s47 (e16.1, e16.2.2.1, [])) (fun r18 =>
                                some (r17 == r18))
                                (none))
                               (none)))
                             (none))
                         (none)
                       else
                        bif e11.2.2.2.2.1 != 0 then
                         some (e11.2.2.2.2.1 == 8)
                        else
                         bif !(win e11.2.2.2.1 1 1000000000000000) then
                          some (false)
                         else
                          optE (loopVal step9_4 (e11.1, e11.2.2.2.1, 0, e11.2.2.2.2.2.2)) (fun e19 =>
                           sumE e19 (fun e20 =>
                            some (e20)) (fun e21 =>
                            optE (s47 (e21.1, wr (e21.2.2.1 + (wr (e21.2.1 * e21.2.2.2))), [])) (fun r22 =>
                             optE (s47 (e21.1, e21.2.2.1, [])) (fun r23 =>
                              some (r22 == r23))
                              (none))
                             (none)))
                           (none)
                      else
                       bif e11.2.2.2.2.1 != 0 then
                        some (e11.2.2.2.2.1 == 8)
                       else
                        bif !(win e11.2.2.2.1 1 1000000000000000) then
                         some (false)
                        else
                         optE (loopVal step9_4 (e11.1, e11.2.2.2.1, 0, e11.2.2.2.2.2.2)) (fun e24 =>
                          sumE e24 (fun e25 =>
                           some (e25)) (fun e26 =>
                           optE (s47 (e26.1, wr (e26.2.2.1 + (wr (e26.2.1 * e26.2.2.2))), [])) (fun r27 =>
                            optE (s47 (e26.1, e26.2.2.1, [])) (fun r28 =>
                             some (r27 == r28))
                             (none))
                            (none)))
                          (none))
                     (none)))
                   (none)
                 else
                  bif r4.2 != 8 then
                   some (false)
                  else
                   bif r8.2 != 0 then
                    some (r8.2 == 8)
                   else
                    bif !(win r8.1 1 1000000000000000) then
                     some (false)
                    else
                     optE (loopVal step9_4 (l, r8.1, 0, x0)) (fun e29 =>
                      sumE e29 (fun e30 =>
                       some (e30)) (fun e31 =>
                       optE (s47 (e31.1, wr (e31.2.2.1 + (wr (e31.2.1 * e31.2.2.2))), [])) (fun r32 =>
                        optE (s47 (e31.1, e31.2.2.1, [])) (fun r33 =>
                         some (r32 == r33))
                         (none))
                        (none)))
                      (none))
                 (none))
                (none))
               (none))
              (none)
            else
             none)
            (none))
           (none))
       (none))
     (none)
theorem i9 : ItemOk Tryd.prog (.fn 9 [.d (.slice (.agg (.pair zI zP))), .d (.agg zP), .d (.agg zP)] [.d .bool] s9) := item_fnM md7 ext7 (U := 9) (n := 4) noSpecial mixed Gc5K3_ok (fun x => by kernel_rfl)
noncomputable def Gc5K4 : List Ev.Item := .fn 9 [.d (.slice (.agg (.pair zI zP))), .d (.agg zP), .d (.agg zP)] [.d .bool] s9 :: Gc5K3
theorem Gc5K4_ok : ∀ q ∈ Gc5K4, ItemOk Tryd.prog q := items_cons i9 Gc5K3_ok
end Go.Proofs.YtfmfiflpokogiaaDoor
