/- Printed by gen.py: specifications of functions. -/
import Derived.Test.YthckjfbhdjjnkaaDoorGd8
set_option linter.unusedSimpArgs false
set_option maxRecDepth 100000
namespace Go.Proofs.YthckjfbhdjjnkaaDoor
open Go.Ev
@[reducible] def T5_2 : Tmpl := ⟨193, [(2, .ref 2 0 0 0), (7, .ref 7 0 0 0)], [.val 1 (.slice zI), .own 5 36 52 (.agg (.pair zI (.pair zI (.pair .bool zP)))), .val 9 zI, .val 12 zI, .cells 2 [.d (.pair (.slice zI) (.pair zI zF))], .arrp 7 zI 2 zP], [], none⟩
@[reducible] def X5_2 : List (Ex × Tmpl) := [(.ret, ⟨193, [], [.val 4 .bool], [], none⟩), (.exit 2, ⟨193, [(2, .ref 2 0 0 0), (7, .ref 7 0 0 0)], [.val 1 (.slice zI), .own 5 36 52 (.agg (.pair zI (.pair zI (.pair .bool zP)))), .val 9 zI, .cells 2 [.d (.pair (.slice zI) (.pair zI zF))], .arrp 7 zI 2 zP], [], none⟩)]
noncomputable def step5_2 : (List Int) × (List (Int × Int × Bool × Int × Int)) × Int × Int × ((List Int) × Int × Int × Int × Int × Int) × (Int × Int) → Option (((List Int) × (List (Int × Int × Bool × Int × Int)) × Int × Int × ((List Int) × Int × Int × Int × Int × Int) × (Int × Int)) ⊕ ((Bool) ⊕ ((List Int) × (List (Int × Int × Bool × Int × Int)) × Int × ((List Int) × Int × Int × Int × Int × Int) × (Int × Int)))) := fun (soft, m, i, k, r0, s) =>
 bif decide (k < i) then
  bif inBounds i m.length then
   bif inBounds k m.length then
    bif !((m.getD i.toNat (0, 0, false, 0, 0)).2.2.1 == (m.getD k.toNat (0, 0, false, 0, 0)).2.2.1) then
     bif inBounds i m.length then
      bif inBounds k m.length then
       bif decide ((wr ((m.getD i.toNat (0, 0, false, 0, 0)).2.1 - (m.getD k.toNat (0, 0, false, 0, 0)).2.1)) < s.2) then
        some (.inr (.inl false))
       else
        some (.inl (soft, m, i, wr (k + 1), r0, s))
      else
       none
     else
      none
    else
     bif inBounds i m.length then
      bif inBounds k m.length then
       bif decide ((wr ((m.getD i.toNat (0, 0, false, 0, 0)).2.1 - (m.getD k.toNat (0, 0, false, 0, 0)).2.1)) < s.1) then
        some (.inr (.inl false))
       else
        some (.inl (soft, m, i, wr (k + 1), r0, s))
      else
       none
     else
      none
   else
    none
  else
   none
 else
  some (.inr (.inr (soft, m, i, r0, s)))
theorem one5_2 : oneLoop Tryd.prog 5 2 = true := by kernel_rfl
theorem lp5_2 : ItemOk Tryd.prog (.loop 5 2 T5_2 X5_2 (loopVal step5_2)) := item_loopM md4 ext4 (U := 9) (n := 11) noSpecial mixed Gd8K9_ok one5_2 (fun x => by kernel_rfl)
noncomputable def Gd9K1 : List Ev.Item := .loop 5 2 T5_2 X5_2 (loopVal step5_2) :: Gd8K9
theorem Gd9K1_ok : ∀ q ∈ Gd9K1, ItemOk Tryd.prog q := items_cons lp5_2 Gd8K9_ok
@[reducible] def T5_0 : Tmpl := ⟨193, [(2, .ref 2 0 0 0), (7, .ref 7 0 0 0)], [.val 1 (.slice zI), .own 5 36 52 (.agg (.pair zI (.pair zI (.pair .bool zP)))), .val 9 zI, .cells 2 [.d (.pair (.slice zI) (.pair zI zF))], .arrp 7 zI 2 zP], [], none⟩
@[reducible] def X5_0 : List (Ex × Tmpl) := [(.ret, ⟨193, [], [.val 4 .bool], [], none⟩), (.exit 0, ⟨193, [], [], [], none⟩)]
noncomputable def step5_0 : (List Int) × (List (Int × Int × Bool × Int × Int)) × Int × ((List Int) × Int × Int × Int × Int × Int) × (Int × Int) → Option (((List Int) × (List (Int × Int × Bool × Int × Int)) × Int × ((List Int) × Int × Int × Int × Int × Int) × (Int × Int)) ⊕ ((Bool) ⊕ (Unit))) := fun (soft, m, i, r0, s) =>
 bif decide (i < (m.length : Int)) then
  optE (s22 r0.1) (fun r10 =>
   optE (s22 soft) (fun r11 =>
    bif inBounds i m.length then
     optE (s24 (r10, r11, (m.getD i.toNat (0, 0, false, 0, 0)).2.1)) (fun r12 =>
      bif r12.2 != 0 then
       some (.inr (.inl false))
      else
       bif decide (r12.1.1 ≤ r0.2.2.1) then
        bif decide (r12.1.2 ≤ r0.2.2.1) then
         some (.inr (.inl false))
        else
         bif inBounds i m.length then
          bif (m.getD i.toNat (0, 0, false, 0, 0)).2.2.1 then
           bif inBounds i m.length then
            bif r12.1.2 != (m.getD i.toNat (0, 0, false, 0, 0)).2.2.2.1 then
             some (.inr (.inl false))
            else
             bif inBounds i m.length then
              bif !(m.getD i.toNat (0, 0, false, 0, 0)).2.2.1 then
               bif inBounds i m.length then
                bif r12.1.1 != (m.getD i.toNat (0, 0, false, 0, 0)).2.2.2.1 then
                 some (.inr (.inl false))
                else
                 bif inBounds i m.length then
                  bif decide ((m.getD i.toNat (0, 0, false, 0, 0)).2.2.2.1 > r0.2.2.1) then
                   some (.inr (.inl false))
                  else
                   optE (loopVal step5_2 (soft, m, i, 0, r0, s)) (fun e13 =>
                    sumE e13 (fun e14 =>
                     some (.inr (.inl e14))) (fun e15 =>
                     some (.inl (e15.1, e15.2.1, wr (e15.2.2.1 + 1), e15.2.2.2.1, e15.2.2.2.2))))
                    (none)
                 else
                  none
               else
                none
              else
               bif inBounds i m.length then
                bif decide ((m.getD i.toNat (0, 0, false, 0, 0)).2.2.2.1 > r0.2.2.1) then
                 some (.inr (.inl false))
                else
                 optE (loopVal step5_2 (soft, m, i, 0, r0, s)) (fun e16 =>
                  sumE e16 (fun e17 =>
                   some (.inr (.inl e17))) (fun e18 =>
                   some (.inl (e18.1, e18.2.1, wr (e18.2.2.1 + 1), e18.2.2.2.1, e18.2.2.2.2))))
                  (none)
               else
                none
             else
              none
           else
            none
          else
           bif inBounds i m.length then
            bif !(m.getD i.toNat (0, 0, false, 0, 0)).2.2.1 then
             bif inBounds i m.length then
              bif r12.1.1 != (m.getD i.toNat (0, 0, false, 0, 0)).2.2.2.1 then
               some (.inr (.inl false))
              else
               bif inBounds i m.length then
                bif decide ((m.getD i.toNat (0, 0, false, 0, 0)).2.2.2.1 > r0.2.2.1) then
                 some (.inr (.inl false))
                else
                 optE (loopVal step5_2 (soft, m, i, 0, r0, s)) (fun e19 =>
                  sumE e19 (fun e20 =>
                   some (.inr (.inl e20))) (fun e21 =>
                   some (.inl (e21.1, e21.2.1, wr (e21.2.2.1 + 1), e21.2.2.2.1, e21.2.2.2.2))))
                  (none)
               else
                none
             else
              none
            else
             bif inBounds i m.length then
              bif decide ((m.getD i.toNat (0, 0, false, 0, 0)).2.2.2.1 > r0.2.2.1) then
               some (.inr (.inl false))
              else
               optE (loopVal step5_2 (soft, m, i, 0, r0, s)) (fun e22 =>
                sumE e22 (fun e23 =>
                 some (.inr (.inl e23))) (fun e24 =>
                 some (.inl (e24.1, e24.2.1, wr (e24.2.2.1 + 1), e24.2.2.2.1, e24.2.2.2.2))))
                (none)
             else
              none
           else
            none
         else
          none
       else
        bif inBounds i m.length then
         bif (m.getD i.toNat (0, 0, false, 0, 0)).2.2.1 then
          bif inBounds i m.length then
           bif r12.1.2 != (m.getD i.toNat (0, 0, false, 0, 0)).2.2.2.1 then
            some (.inr (.inl false))
           else
            bif inBounds i m.length then
             bif !(m.getD i.toNat (0, 0, false, 0, 0)).2.2.1 then
              bif inBounds i m.length then
               bif r12.1.1 != (m.getD i.toNat (0, 0, false, 0, 0)).2.2.2.1 then
                some (.inr (.inl false))
               else
                bif inBounds i m.length then
                 bif decide ((m.getD i.toNat (0, 0, false, 0, 0)).2.2.2.1 > r0.2.2.1) then
                  some (.inr (.inl false))
                 else
                  optE (loopVal step5_2 (soft, m, i, 0, r0, s)) (fun e25 =>
                   sumE e25 (fun e26 =>
                    some (.inr (.inl e26))) (fun e27 =>
                    some (.inl (e27.1, e27.2.1, wr (e27.2.2.1 + 1), e27.2.2.2.1, e27.2.2.2.2))))
                   (none)
                else
                 none
              else
               none
             else
              bif inBounds i m.length then
               bif decide ((m.getD i.toNat (0, 0, false, 0, 0)).2.2.2.1 > r0.2.2.1) then
                some (.inr (.inl false))
               else
                optE (loopVal step5_2 (soft, m, i, 0, r0, s)) (fun e28 =>
                 sumE e28 (fun e29 =>
                  some (.inr (.inl e29))) (fun e30 =>
                  some (.inl (e30.1, e30.2.1, wr (e30.2.2.1 + 1), e30.2.2.2.1, e30.2.2.2.2))))
                 (none)
              else
               none
            else
             none
          else
           none
         else
          bif inBounds i m.length then
           bif !(m.getD i.toNat (0, 0, false, 0, 0)).2.2.1 then
            bif inBounds i m.length then
             bif r12.1.1 != (m.getD i.toNat (0, 0, false, 0, 0)).2.2.2.1 then
              some (.inr (.inl false))
             else
              bif inBounds i m.length then
               bif decide ((m.getD i.toNat (0, 0, false, 0, 0)).2.2.2.1 > r0.2.2.1) then
                some (.inr (.inl false))
               else
                optE (loopVal step5_2 (soft, m, i, 0, r0, s)) (fun e31 =>
                 sumE e31 (fun e32 =>
                  some (.inr (.inl e32))) (fun e33 =>
                  some (.inl (e33.1, e33.2.1, wr (e33.2.2.1 + 1), e33.2.2.2.1, e33.2.2.2.2))))
                 (none)
              else
               none
            else
             none
           else
            bif inBounds i m.length then
             bif decide ((m.getD i.toNat (0, 0, false, 0, 0)).2.2.2.1 > r0.2.2.1) then
              some (.inr (.inl false))
             else
              optE (loopVal step5_2 (soft, m, i, 0, r0, s)) (fun e34 =>
               sumE e34 (fun e35 =>
                some (.inr (.inl e35))) (fun e36 =>
                some (.inl (e36.1, e36.2.1, wr (e36.2.2.1 + 1), e36.2.2.2.1, e36.2.2.2.2))))
               (none)
            else
             none
          else
           none
        else
         none)
      (none)
    else
     none)
    (none))
   (none)
 else
  some (.inr (.inr ()))
theorem one5_0 : oneLoop Tryd.prog 5 0 = true := by kernel_rfl
theorem lp5_0 : ItemOk Tryd.prog (.loop 5 0 T5_0 X5_0 (loopVal step5_0)) := item_loopM md4 ext4 (U := 9) (n := 11) noSpecial mixed Gd9K1_ok one5_0 (fun x => by kernel_rfl)
noncomputable def Gd9K2 : List Ev.Item := .loop 5 0 T5_0 X5_0 (loopVal step5_0) :: Gd9K1
theorem Gd9K2_ok : ∀ q ∈ Gd9K2, ItemOk Tryd.prog q := items_cons lp5_0 Gd9K1_ok
noncomputable def s5 : ((List Int) × Int × Int × Int × Int × Int) × (List Int) → Option (Bool) := fun (r0, soft) =>
 bif !true then
  some (false)
 else
  optE (s16 r0.1) (fun r1 =>
   bif !r1 then
    some (true)
   else
    bif decide ((soft.length : Int) > 120) then
     some (true)
    else
     optE (s33 (r0, soft)) (fun r2 =>
      bif r2 != 0 then
       some (true)
      else
       optE (s19 r0) (fun r3 =>
        optE (s22 soft) (fun r4 =>
         optE (s32 (r3, r4)) (fun r5 =>
          optE (s22 r0.1) (fun r6 =>
           optE (s23 (r6, r0.2.2.1)) (fun r7 =>
            bif r5.2 != 0 then
             some (false)
            else
             bif r7.2 != 0 then
              some (false)
             else
              bif decide ((r5.1.length : Int) > (soft.length : Int)) then
               some (false)
              else
               optE (s28 (r7.1.1, 1, (r0.1.length : Int))) (fun r8 =>
                bif !r8 then
                 some (false)
                else
                 optE (s28 (r7.1.2, 1, (r0.1.length : Int))) (fun r9 =>
                  bif !r9 then
                   some (false)
                  else
                   optE (loopVal step5_0 (soft, r5.1, 0, r0, r7.1)) (fun e10 =>
                    sumE e10 (fun e11 =>
                     some (e11)) (fun _ =>
                     some (true)))
                    (none))
                  (none))
                (none))
            (none))
           (none))
          (none))
         (none))
        (none))
      (none))
   (none)
theorem i5 : ItemOk Tryd.prog (.fn 5 [.d (.agg (.pair (.slice zI) (.pair zI zF))), .d (.slice zI)] [.d .bool] s5) := item_fnM md4 ext4 (U := 9) (n := 12) noSpecial mixed Gd9K2_ok (fun x => by kernel_rfl)
noncomputable def Gd9K3 : List Ev.Item := .fn 5 [.d (.agg (.pair (.slice zI) (.pair zI zF))), .d (.slice zI)] [.d .bool] s5 :: Gd9K2
theorem Gd9K3_ok : ∀ q ∈ Gd9K3, ItemOk Tryd.prog q := items_cons i5 Gd9K2_ok
end Go.Proofs.YthckjfbhdjjnkaaDoor
