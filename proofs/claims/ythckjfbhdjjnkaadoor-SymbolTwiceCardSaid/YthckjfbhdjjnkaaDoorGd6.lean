import Derived.Test.YthckjfbhdjjnkaaDoorGd5
set_option linter.unusedSimpArgs false
set_option maxRecDepth 100000
namespace Go.Proofs.YthckjfbhdjjnkaaDoor
open Go.Ev
noncomputable def s75 : (Int × Int) × Int → Option (Int × Int) := fun (g, quarter) =>
 optE (s74 (quarter, 4)) (fun r1 =>
  bif r1 == 1 then
   some ((wr (-g.2), g.1))
  else
   bif r1 == 2 then
    some ((wr (-g.1), wr (-g.2)))
   else
    bif r1 == 3 then
     some ((g.2, wr (-g.1)))
    else
     some (g))
  (none)
theorem i75 : ItemOk Tryd.prog (.fn 75 [.d (.agg zP), .d zI] [.d (.agg zP)] s75) := item_fnM md4 ext4 (U := 9) (n := 12) noSpecial mixed Gd5K23_ok (fun x => by kernel_rfl)
noncomputable def Gd6K1 : List Ev.Item := .fn 75 [.d (.agg zP), .d zI] [.d (.agg zP)] s75 :: Gd5K23
theorem Gd6K1_ok : ∀ q ∈ Gd6K1, ItemOk Tryd.prog q := items_cons i75 Gd5K23_ok
@[reducible] def T14_0 : Tmpl := ⟨195, [(4, .ref 4 0 0 0)], [.val 0 (.slice (.agg zP)), .val 7 zI, .own 8 60 83 (.agg zP), .val 9 zI, .cells 4 [.d zP]], [], none⟩
@[reducible] def X14_0 : List (Ex × Tmpl) := [(.exit 0, ⟨195, [(4, .ref 4 0 0 0)], [.val 0 (.slice (.agg zP)), .val 7 zI, .own 8 60 83 (.agg zP), .cells 4 [.d zP]], [], none⟩)]
noncomputable def step14_0 : (List (Int × Int)) × Int × (List (Int × Int)) × Int × (Int × Int) → Option (((List (Int × Int)) × Int × (List (Int × Int)) × Int × (Int × Int)) ⊕ ((List (Int × Int)) × Int × (List (Int × Int)) × (Int × Int))) := fun (l, by0, turned, i, t) =>
 bif decide (i < (l.length : Int)) then
  bif inBounds i l.length then
   optE (s75 ((l.getD i.toNat (0, 0)), by0)) (fun r4 =>
    bif room 16 (turned.length + 1) then
     some (.inl (l, by0, turned ++ [r4], wr (i + 1), t))
    else
     none)
    (none)
  else
   none
 else
  some (.inr (l, by0, turned, t))
theorem one14_0 : oneLoop Tryd.prog 14 0 = true := by kernel_rfl
theorem lp14_0 : ItemOk Tryd.prog (.loop 14 0 T14_0 X14_0 (loopVal step14_0)) := item_loopM md4 ext4 (U := 9) (n := 11) noSpecial mixed Gd6K1_ok one14_0 (fun x => by kernel_rfl)
noncomputable def Gd6K2 : List Ev.Item := .loop 14 0 T14_0 X14_0 (loopVal step14_0) :: Gd6K1
theorem Gd6K2_ok : ∀ q ∈ Gd6K2, ItemOk Tryd.prog q := items_cons lp14_0 Gd6K1_ok
@[reducible] def T14_2 : Tmpl := ⟨195, [], [.val 0 (.slice (.agg zP)), .val 7 zI, .own 8 60 83 (.agg zP), .own 18 167 3 zI, .own 19 171 3 zI, .val 20 zI], [], none⟩
@[reducible] def X14_2 : List (Ex × Tmpl) := [(.ret, ⟨195, [], [.val 6 .bool], [], none⟩), (.exit 2, ⟨195, [], [.own 18 167 3 zI, .own 19 171 3 zI], [], none⟩)]
noncomputable def step14_2 : (List (Int × Int)) × Int × (List (Int × Int)) × (List Int) × (List Int) × Int → Option (((List (Int × Int)) × Int × (List (Int × Int)) × (List Int) × (List Int) × Int) ⊕ ((Bool) ⊕ ((List Int) × (List Int)))) := fun (l, by0, turned, x0, y0, i) =>
 bif decide (i < (l.length : Int)) then
  bif inBounds i l.length then
   bif ((l.getD i.toNat (0, 0)).1 == 0) && (((l.getD i.toNat (0, 0)).2 == 0) && true) then
    some (.inl (l, by0, turned, x0, y0, wr (i + 1)))
   else
    bif inBounds i l.length then
     optE (s59 (l.getD i.toNat (0, 0))) (fun r15 =>
      bif inBounds i turned.length then
       optE (s59 (turned.getD i.toNat (0, 0))) (fun r16 =>
        bif r15.2 != 0 then
         some (.inr (.inl false))
        else
         bif r16.2 != 0 then
          some (.inr (.inl false))
         else
          optE (s28 (r15.1, 0, 3)) (fun r17 =>
           bif !r17 then
            some (.inr (.inl false))
           else
            bif r16.1 != (Int.tmod (wr (r15.1 + by0)) 4) then
             some (.inr (.inl false))
            else
             bif room 8 (x0.length + 1) then
              bif room 8 (y0.length + 1) then
               some (.inl (l, by0, turned, x0 ++ [r15.1], y0 ++ [r16.1], wr (i + 1)))
              else
               none
             else
              none)
           (none))
        (none)
      else
       none)
      (none)
    else
     none
  else
   none
 else
  some (.inr (.inr (x0, y0)))
theorem one14_2 : oneLoop Tryd.prog 14 2 = true := by kernel_rfl
theorem lp14_2 : ItemOk Tryd.prog (.loop 14 2 T14_2 X14_2 (loopVal step14_2)) := item_loopM md4 ext4 (U := 9) (n := 11) noSpecial mixed Gd6K2_ok one14_2 (fun x => by kernel_rfl)
noncomputable def Gd6K3 : List Ev.Item := .loop 14 2 T14_2 X14_2 (loopVal step14_2) :: Gd6K2
theorem Gd6K3_ok : ∀ q ∈ Gd6K3, ItemOk Tryd.prog q := items_cons lp14_2 Gd6K2_ok
noncomputable def s14 : (List (Int × Int)) × (Int × Int) × Int → Option (Bool) := fun (l, t, quarter) =>
 bif !true then
  some (false)
 else
  bif decide ((l.length : Int) > 60) then
   some (true)
  else
   optE (s45 l) (fun r1 =>
    bif r1 != 0 then
     some (true)
    else
     optE (s44 t) (fun r2 =>
      bif r2 != 0 then
       some (true)
      else
       optE (s74 (quarter, 4)) (fun r3 =>
        optE (loopVal step14_0 (l, r3, [], 0, t)) (fun e4 =>
         optE (s43 e4.1) (fun r5 =>
          optE (s66 (r5, e4.2.2.2.1)) (fun r6 =>
           optE (s43 e4.2.2.1) (fun r7 =>
            optE (s66 (r7, e4.2.2.2.1)) (fun r8 =>
             optE (s43 e4.1) (fun r9 =>
              optE (s42 (e4.2.2.2, r9)) (fun r10 =>
               optE (s43 e4.2.2.1) (fun r11 =>
                optE (s42 (e4.2.2.2, r11)) (fun r12 =>
                 bif r6.2 != 0 then
                  some (false)
                 else
                  bif r8.2 != 0 then
                   some (false)
                  else
                   bif r10.2 != 0 then
                    some (false)
                   else
                    bif r12.2 != 0 then
                     some (false)
                    else
                     optE (s26 (r6.1, r8.1)) (fun r13 =>
                      bif !r13 then
                       some (false)
                      else
                       optE (s26 (r10.1, r12.1)) (fun r14 =>
                        bif !r14 then
                         some (false)
                        else
                         optE (loopVal step14_2 (e4.1, e4.2.1, e4.2.2.1, [], [], 0)) (fun e15 =>
                          sumE e15 (fun e16 =>
                           some (e16)) (fun e17 =>
                           optE (s22 e17.1) (fun r18 =>
                            optE (s36 r18) (fun r19 =>
                             optE (s22 e17.2) (fun r20 =>
                              optE (s36 r20) (fun r21 =>
                               bif r19.2 == 0 then
                                bif r21.2 == 0 then
                                 optE (s26 (r19.1, r21.1)) (fun r22 =>
                                  some (r22))
                                  (none)
                                else
                                 some (false)
                               else
                                some (false))
                               (none))
                              (none))
                             (none))
                            (none)))
                          (none))
                        (none))
                      (none))
                 (none))
                (none))
               (none))
              (none))
             (none))
            (none))
           (none))
          (none))
         (none))
        (none))
      (none))
    (none)
theorem i14 : ItemOk Tryd.prog (.fn 14 [.d (.slice (.agg zP)), .d (.agg zP), .d zI] [.d .bool] s14) := item_fnM md4 ext4 (U := 9) (n := 12) noSpecial mixed Gd6K3_ok (fun x => by kernel_rfl)
noncomputable def Gd6K4 : List Ev.Item := .fn 14 [.d (.slice (.agg zP)), .d (.agg zP), .d zI] [.d .bool] s14 :: Gd6K3
theorem Gd6K4_ok : ∀ q ∈ Gd6K4, ItemOk Tryd.prog q := items_cons i14 Gd6K3_ok
end Go.Proofs.YthckjfbhdjjnkaaDoor
