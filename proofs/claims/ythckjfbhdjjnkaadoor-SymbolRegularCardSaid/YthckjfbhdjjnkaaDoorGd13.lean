/- Printed by gen.py: specifications of functions. -/
import Derived.Test.YthckjfbhdjjnkaaDoorGd12
set_option linter.unusedSimpArgs false
set_option maxRecDepth 100000
namespace Go.Proofs.YthckjfbhdjjnkaaDoor
open Go.Ev
@[reducible] def T65_0 : Tmpl := ⟨18, [], [.val 0 (.slice zI), .val 1 zI, .val 5 zI], [], none⟩
@[reducible] def X65_0 : List (Ex × Tmpl) := [(.ret, ⟨18, [], [.val 4 .bool], [], none⟩), (.exit 0, ⟨18, [], [], [], none⟩)]
noncomputable def step65_0 : (List Int) × Int × Int → Option (((List Int) × Int × Int) ⊕ ((Bool) ⊕ (Unit))) := fun (l, n, i) =>
 bif decide (i < (l.length : Int)) then
  bif inBounds i l.length then
   bif (l.getD i.toNat 0) == n then
    some (.inr (.inl true))
   else
    some (.inl (l, n, wr (i + 1)))
  else
   none
 else
  some (.inr (.inr ()))
theorem one65_0 : oneLoop Tryd.prog 65 0 = true := by kernel_rfl
theorem lp65_0 : ItemOk Tryd.prog (.loop 65 0 T65_0 X65_0 (loopVal step65_0)) := item_loopM md4 ext4 (U := 9) (n := 11) noSpecial mixed Gd12K15_ok one65_0 (fun x => by kernel_rfl)
noncomputable def Gd13K1 : List Ev.Item := .loop 65 0 T65_0 X65_0 (loopVal step65_0) :: Gd12K15
theorem Gd13K1_ok : ∀ q ∈ Gd13K1, ItemOk Tryd.prog q := items_cons lp65_0 Gd12K15_ok
noncomputable def s65 : (List Int) × Int → Option (Bool) := fun (l, n) =>
 optE (loopVal step65_0 (l, n, 0)) (fun e1 =>
  sumE e1 (fun e2 =>
   some (e2)) (fun _ =>
   some (false)))
  (none)
theorem i65 : ItemOk Tryd.prog (.fn 65 [.d (.slice zI), .d zI] [.d .bool] s65) := item_fnM md4 ext4 (U := 9) (n := 12) noSpecial mixed Gd13K1_ok (fun x => by kernel_rfl)
noncomputable def Gd13K2 : List Ev.Item := .fn 65 [.d (.slice zI), .d zI] [.d .bool] s65 :: Gd13K1
theorem Gd13K2_ok : ∀ q ∈ Gd13K2, ItemOk Tryd.prog q := items_cons i65 Gd13K1_ok
@[reducible] def T12_2 : Tmpl := ⟨271, [(3, .ref 3 0 0 0)], [.val 1 (.slice (.slice zI)), .val 2 (.slice zI), .own 7 98 3 zI, .val 8 zI, .val 9 zI, .cells 3 [.d (.pair (.slice zI) (.pair zI zF))]], [], none⟩
@[reducible] def X12_2 : List (Ex × Tmpl) := [(.exit 2, ⟨271, [(3, .ref 3 0 0 0)], [.val 1 (.slice (.slice zI)), .val 2 (.slice zI), .own 7 104 3 zI, .val 8 zI, .cells 3 [.d (.pair (.slice zI) (.pair zI zF))]], [], none⟩)]
noncomputable def step12_2 : (List (List Int)) × (List Int) × (List Int) × Int × Int × ((List Int) × Int × Int × Int × Int × Int) → Option (((List (List Int)) × (List Int) × (List Int) × Int × Int × ((List Int) × Int × Int × Int × Int × Int)) ⊕ ((List (List Int)) × (List Int) × (List Int) × Int × ((List Int) × Int × Int × Int × Int × Int))) := fun (x0, noise, soft, i, k, r0) =>
 bif decide (k < (r0.1.length : Int)) then
  bif inBounds k r0.1.length then
   optE (s65 (noise, (soft.length : Int))) (fun r4 =>
    bif r4 then
     bif room 8 (soft.length + 1) then
      some (.inl (x0, noise, soft ++ [wr (-(wr (7 * (wr (1 - (wr (2 * (r0.1.getD k.toNat 0))))))))], i, wr (k + 1), r0))
     else
      none
    else
     bif room 8 (soft.length + 1) then
      some (.inl (x0, noise, soft ++ [wr (7 * (wr (1 - (wr (2 * (r0.1.getD k.toNat 0))))))], i, wr (k + 1), r0))
     else
      none)
    (none)
  else
   none
 else
  some (.inr (x0, noise, soft, i, r0))
theorem one12_2 : oneLoop Tryd.prog 12 2 = true := by kernel_rfl
theorem lp12_2 : ItemOk Tryd.prog (.loop 12 2 T12_2 X12_2 (loopVal step12_2)) := item_loopM md4 ext4 (U := 9) (n := 11) noSpecial mixed Gd13K2_ok one12_2 (fun x => by kernel_rfl)
noncomputable def Gd13K3 : List Ev.Item := .loop 12 2 T12_2 X12_2 (loopVal step12_2) :: Gd13K2
theorem Gd13K3_ok : ∀ q ∈ Gd13K3, ItemOk Tryd.prog q := items_cons lp12_2 Gd13K2_ok
@[reducible] def T12_0 : Tmpl := ⟨271, [(3, .ref 3 0 0 0)], [.val 1 (.slice (.slice zI)), .val 2 (.slice zI), .own 7 104 3 zI, .val 8 zI, .cells 3 [.d (.pair (.slice zI) (.pair zI zF))]], [], none⟩
@[reducible] def X12_0 : List (Ex × Tmpl) := [(.ret, ⟨271, [], [.val 6 .bool], [], none⟩), (.exit 0, ⟨271, [(3, .ref 3 0 0 0)], [.val 1 (.slice (.slice zI)), .own 7 104 3 zI, .cells 3 [.d (.pair (.slice zI) (.pair zI zF))]], [], none⟩)]
noncomputable def step12_0 : (List (List Int)) × (List Int) × (List Int) × Int × ((List Int) × Int × Int × Int × Int × Int) → Option (((List (List Int)) × (List Int) × (List Int) × Int × ((List Int) × Int × Int × Int × Int × Int)) ⊕ ((Bool) ⊕ ((List (List Int)) × (List Int) × ((List Int) × Int × Int × Int × Int × Int)))) := fun (x0, noise, soft, i, r0) =>
 bif decide (i < (x0.length : Int)) then
  bif inBounds i x0.length then
   bif ((x0.getD i.toNat []).length : Int) != (wr (r0.2.1 - (r0.1.length : Int))) then
    some (.inr (.inl true))
   else
    bif inBounds i x0.length then
     optE (s30 (x0.getD i.toNat [])) (fun r3 =>
      bif r3 != 0 then
       some (.inr (.inl true))
      else
       optE (loopVal step12_2 (x0, noise, soft, i, 0, r0)) (fun e4 =>
        bif inBounds e4.2.2.2.1 e4.1.length then
         bif room 8 (e4.2.2.1.length + (e4.1.getD e4.2.2.2.1.toNat []).length) then
          some (.inl (e4.1, e4.2.1, e4.2.2.1 ++ (e4.1.getD e4.2.2.2.1.toNat []), wr (e4.2.2.2.1 + 1), e4.2.2.2.2))
         else
          none
        else
         none)
        (none))
      (none)
    else
     none
  else
   none
 else
  some (.inr (.inr (x0, soft, r0)))
theorem one12_0 : oneLoop Tryd.prog 12 0 = true := by kernel_rfl
theorem lp12_0 : ItemOk Tryd.prog (.loop 12 0 T12_0 X12_0 (loopVal step12_0)) := item_loopM md4 ext4 (U := 9) (n := 11) noSpecial mixed Gd13K3_ok one12_0 (fun x => by kernel_rfl)
noncomputable def Gd13K4 : List Ev.Item := .loop 12 0 T12_0 X12_0 (loopVal step12_0) :: Gd13K3
theorem Gd13K4_ok : ∀ q ∈ Gd13K4, ItemOk Tryd.prog q := items_cons lp12_0 Gd13K3_ok
@[reducible] def T12_4 : Tmpl := ⟨271, [(3, .ref 3 0 0 0)], [.val 1 (.slice (.slice zI)), .own 7 104 3 zI, .own 11 110 52 (.agg (.pair zI (.pair zI (.pair .bool zP)))), .val 13 zI, .cells 3 [.d (.pair (.slice zI) (.pair zI zF))]], [], none⟩
@[reducible] def X12_4 : List (Ex × Tmpl) := [(.ret, ⟨271, [], [.val 6 .bool], [], none⟩), (.exit 4, ⟨271, [(3, .ref 3 0 0 0)], [.val 1 (.slice (.slice zI)), .own 7 104 3 zI, .own 11 110 52 (.agg (.pair zI (.pair zI (.pair .bool zP)))), .cells 3 [.d (.pair (.slice zI) (.pair zI zF))]], [], none⟩)]
noncomputable def step12_4 : (List (List Int)) × (List Int) × (List (Int × Int × Bool × Int × Int)) × Int × ((List Int) × Int × Int × Int × Int × Int) → Option (((List (List Int)) × (List Int) × (List (Int × Int × Bool × Int × Int)) × Int × ((List Int) × Int × Int × Int × Int × Int)) ⊕ ((Bool) ⊕ ((List (List Int)) × (List Int) × (List (Int × Int × Bool × Int × Int)) × ((List Int) × Int × Int × Int × Int × Int)))) := fun (x0, soft, found, i, r0) =>
 bif decide (i < (found.length : Int)) then
  bif inBounds i found.length then
   bif (found.getD i.toNat (0, 0, false, 0, 0)).2.1 != (wr (i * r0.2.1)) then
    some (.inr (.inl true))
   else
    bif inBounds i found.length then
     bif (found.getD i.toNat (0, 0, false, 0, 0)).2.2.1 then
      some (.inr (.inl true))
     else
      some (.inl (x0, soft, found, wr (i + 1), r0))
    else
     none
  else
   none
 else
  some (.inr (.inr (x0, soft, found, r0)))
theorem one12_4 : oneLoop Tryd.prog 12 4 = true := by kernel_rfl
theorem lp12_4 : ItemOk Tryd.prog (.loop 12 4 T12_4 X12_4 (loopVal step12_4)) := item_loopM md4 ext4 (U := 9) (n := 11) noSpecial mixed Gd13K4_ok one12_4 (fun x => by kernel_rfl)
noncomputable def Gd13K5 : List Ev.Item := .loop 12 4 T12_4 X12_4 (loopVal step12_4) :: Gd13K4
theorem Gd13K5_ok : ∀ q ∈ Gd13K5, ItemOk Tryd.prog q := items_cons lp12_4 Gd13K4_ok
@[reducible] def T12_6 : Tmpl := ⟨271, [(3, .ref 3 0 0 0)], [.val 1 (.slice (.slice zI)), .own 11 110 52 (.agg (.pair zI (.pair zI (.pair .bool zP)))), .own 14 148 52 (.agg (.pair zI (.pair zI (.pair .bool zP)))), .own 16 156 70 (.agg (.pair zI (.pair .bool (.pair zI (.slice zI))))), .val 18 zI, .cells 3 [.d (.pair (.slice zI) (.pair zI zF))]], [], none⟩
@[reducible] def X12_6 : List (Ex × Tmpl) := [(.ret, ⟨271, [], [.val 6 .bool], [], none⟩), (.exit 6, ⟨271, [(3, .ref 3 0 0 0)], [.val 1 (.slice (.slice zI)), .own 16 156 70 (.agg (.pair zI (.pair .bool (.pair zI (.slice zI))))), .cells 3 [.d (.pair (.slice zI) (.pair zI zF))]], [], none⟩)]
noncomputable def step12_6 : (List (List Int)) × (List (Int × Int × Bool × Int × Int)) × (List (Int × Int × Bool × Int × Int)) × (List (Int × Bool × Int × List Int)) × Int × ((List Int) × Int × Int × Int × Int × Int) → Option (((List (List Int)) × (List (Int × Int × Bool × Int × Int)) × (List (Int × Int × Bool × Int × Int)) × (List (Int × Bool × Int × List Int)) × Int × ((List Int) × Int × Int × Int × Int × Int)) ⊕ ((Bool) ⊕ ((List (List Int)) × (List (Int × Bool × Int × List Int)) × ((List Int) × Int × Int × Int × Int × Int)))) := fun (x0, found, m, frames, i, r0) =>
 bif decide (i < (m.length : Int)) then
  bif i == 0 then
   bif inBounds i found.length then
    bif inBounds i m.length then
     bif !(((m.getD i.toNat (0, 0, false, 0, 0)).1 == 0) && (((m.getD i.toNat (0, 0, false, 0, 0)).2.1 == (found.getD i.toNat (0, 0, false, 0, 0)).2.1) && (((m.getD i.toNat (0, 0, false, 0, 0)).2.2.1 == (found.getD i.toNat (0, 0, false, 0, 0)).2.2.1) && (((m.getD i.toNat (0, 0, false, 0, 0)).2.2.2.1 == (found.getD i.toNat (0, 0, false, 0, 0)).2.2.2.1) && (((m.getD i.toNat (0, 0, false, 0, 0)).2.2.2.2 == (found.getD i.toNat (0, 0, false, 0, 0)).2.2.2.2) && true))))) then
      some (.inr (.inl false))
     else
      some (.inl (x0, found, m, frames, wr (i + 1), r0))
    else
     none
   else
    none
  else
   bif decide (i < r0.2.2.2.1) then
    bif inBounds i found.length then
     bif inBounds i m.length then
      bif !(((m.getD i.toNat (0, 0, false, 0, 0)).1 == 1) && (((m.getD i.toNat (0, 0, false, 0, 0)).2.1 == (found.getD i.toNat (0, 0, false, 0, 0)).2.1) && (((m.getD i.toNat (0, 0, false, 0, 0)).2.2.1 == (found.getD i.toNat (0, 0, false, 0, 0)).2.2.1) && (((m.getD i.toNat (0, 0, false, 0, 0)).2.2.2.1 == (found.getD i.toNat (0, 0, false, 0, 0)).2.2.2.1) && (((m.getD i.toNat (0, 0, false, 0, 0)).2.2.2.2 == (found.getD i.toNat (0, 0, false, 0, 0)).2.2.2.2) && true))))) then
       some (.inr (.inl false))
      else
       some (.inl (x0, found, m, frames, wr (i + 1), r0))
     else
      none
    else
     none
   else
    bif inBounds i found.length then
     bif inBounds i m.length then
      bif !(((m.getD i.toNat (0, 0, false, 0, 0)).1 == 2) && (((m.getD i.toNat (0, 0, false, 0, 0)).2.1 == (found.getD i.toNat (0, 0, false, 0, 0)).2.1) && (((m.getD i.toNat (0, 0, false, 0, 0)).2.2.1 == (found.getD i.toNat (0, 0, false, 0, 0)).2.2.1) && (((m.getD i.toNat (0, 0, false, 0, 0)).2.2.2.1 == (found.getD i.toNat (0, 0, false, 0, 0)).2.2.2.1) && (((m.getD i.toNat (0, 0, false, 0, 0)).2.2.2.2 == (found.getD i.toNat (0, 0, false, 0, 0)).2.2.2.2) && true))))) then
       some (.inr (.inl false))
      else
       some (.inl (x0, found, m, frames, wr (i + 1), r0))
     else
      none
    else
     none
 else
  some (.inr (.inr (x0, frames, r0)))
theorem one12_6 : oneLoop Tryd.prog 12 6 = true := by kernel_rfl
theorem lp12_6 : ItemOk Tryd.prog (.loop 12 6 T12_6 X12_6 (loopVal step12_6)) := item_loopM md4 ext4 (U := 9) (n := 11) noSpecial mixed Gd13K5_ok one12_6 (fun x => by kernel_rfl)
noncomputable def Gd13K6 : List Ev.Item := .loop 12 6 T12_6 X12_6 (loopVal step12_6) :: Gd13K5
theorem Gd13K6_ok : ∀ q ∈ Gd13K6, ItemOk Tryd.prog q := items_cons lp12_6 Gd13K5_ok
@[reducible] def T12_8 : Tmpl := ⟨271, [(3, .ref 3 0 0 0)], [.val 1 (.slice (.slice zI)), .own 16 156 70 (.agg (.pair zI (.pair .bool (.pair zI (.slice zI))))), .val 21 zI, .cells 3 [.d (.pair (.slice zI) (.pair zI zF))]], [], none⟩
@[reducible] def X12_8 : List (Ex × Tmpl) := [(.ret, ⟨271, [], [.val 6 .bool], [], none⟩), (.exit 8, ⟨271, [], [], [], none⟩)]
noncomputable def step12_8 : (List (List Int)) × (List (Int × Bool × Int × List Int)) × Int × ((List Int) × Int × Int × Int × Int × Int) → Option (((List (List Int)) × (List (Int × Bool × Int × List Int)) × Int × ((List Int) × Int × Int × Int × Int × Int)) ⊕ ((Bool) ⊕ (Unit))) := fun (x0, frames, i, r0) =>
 bif decide (i < (frames.length : Int)) then
  bif inBounds i frames.length then
   bif (frames.getD i.toNat (0, false, 0, [])).1 != (wr (i * r0.2.1)) then
    some (.inr (.inl false))
   else
    bif inBounds i frames.length then
     bif (frames.getD i.toNat (0, false, 0, [])).2.1 then
      some (.inr (.inl false))
     else
      bif inBounds i frames.length then
       bif (frames.getD i.toNat (0, false, 0, [])).2.2.1 != 0 then
        some (.inr (.inl false))
       else
        bif inBounds i frames.length then
         bif inBounds i x0.length then
          optE (s26 ((frames.getD i.toNat (0, false, 0, [])).2.2.2, x0.getD i.toNat [])) (fun r21 =>
           bif !r21 then
            some (.inr (.inl false))
           else
            some (.inl (x0, frames, wr (i + 1), r0)))
           (none)
         else
          none
        else
         none
      else
       none
    else
     none
  else
   none
 else
  some (.inr (.inr ()))
theorem one12_8 : oneLoop Tryd.prog 12 8 = true := by kernel_rfl
theorem lp12_8 : ItemOk Tryd.prog (.loop 12 8 T12_8 X12_8 (loopVal step12_8)) := item_loopM md4 ext4 (U := 9) (n := 11) noSpecial mixed Gd13K6_ok one12_8 (fun x => by kernel_rfl)
noncomputable def Gd13K7 : List Ev.Item := .loop 12 8 T12_8 X12_8 (loopVal step12_8) :: Gd13K6
theorem Gd13K7_ok : ∀ q ∈ Gd13K7, ItemOk Tryd.prog q := items_cons lp12_8 Gd13K6_ok
noncomputable def s12 : ((List Int) × Int × Int × Int × Int × Int) × (List (List Int)) × (List Int) → Option (Bool) := fun (r0, x0, noise) =>
 bif !true then
  some (false)
 else
  optE (s16 r0.1) (fun r1 =>
   bif !r1 then
    some (true)
   else
    optE (s20 r0) (fun r2 =>
     bif r2 != 0 then
      some (true)
     else
      bif decide (r0.2.1 > 30) then
       some (true)
      else
       bif decide ((x0.length : Int) > 12) then
        some (true)
       else
        bif decide ((noise.length : Int) > 40) then
         some (true)
        else
         optE (loopVal step12_0 (x0, noise, [], 0, r0)) (fun e3 =>
          sumE e3 (fun e4 =>
           some (e4)) (fun e5 =>
           optE (s19 e5.2.2) (fun r6 =>
            optE (s22 e5.2.1) (fun r7 =>
             optE (s32 (r6, r7)) (fun r8 =>
              bif r8.2 != 0 then
               some (false)
              else
               bif (r8.1.length : Int) != (e5.1.length : Int) then
                some (true)
               else
                optE (loopVal step12_4 (e5.1, e5.2.1, r8.1, 0, e5.2.2)) (fun e9 =>
                 sumE e9 (fun e10 =>
                  some (e10)) (fun e11 =>
                  optE (s19 e11.2.2.2) (fun r12 =>
                   optE (s22 e11.2.1) (fun r13 =>
                    optE (s47 (r12, r13)) (fun r14 =>
                     optE (s19 e11.2.2.2) (fun r15 =>
                      optE (s22 e11.2.1) (fun r16 =>
                       optE (s48 (r15, r16)) (fun r17 =>
                        bif r14.2 != 0 then
                         some (false)
                        else
                         bif r17.2 != 0 then
                          some (false)
                         else
                          bif decide ((r14.1.length : Int) > (e11.1.length : Int)) then
                           some (false)
                          else
                           bif decide ((wr ((r14.1.length : Int) + 1)) < (e11.1.length : Int)) then
                            some (false)
                           else
                            bif decide ((e11.1.length : Int) > 0) then
                             bif (r17.1.length : Int) != (wr ((r14.1.length : Int) - 1)) then
                              some (false)
                             else
                              bif (e11.1.length : Int) == 0 then
                               bif (r17.1.length : Int) != 0 then
                                some (false)
                               else
                                optE (loopVal step12_6 (e11.1, e11.2.2.1, r14.1, r17.1, 0, e11.2.2.2)) (fun e18 =>
                                 sumE e18 (fun e19 =>
                                  some (e19)) (fun e20 =>
                                  optE (loopVal step12_8 (e20.1, e20.2.1, 0, e20.2.2)) (fun e21 =>
                                   sumE e21 (fun e22 =>
                                    some (e22)) (fun _ =>
                                    some (true)))
                                   (none)))
                                 (none)
                              else
                               optE (loopVal step12_6 (e11.1, e11.2.2.1, r14.1, r17.1, 0, e11.2.2.2)) (fun e24 =>
                                sumE e24 (fun e25 =>
                                 some (e25)) (fun e26 =>
                                 optE (loopVal step12_8 (e26.1, e26.2.1, 0, e26.2.2)) (fun e27 =>
                                  sumE e27 (fun e28 =>
                                   some (e28)) (fun _ =>
                                   some (true)))
                                  (none)))
                                (none)
                            else
                             bif (e11.1.length : Int) == 0 then
                              bif (r17.1.length : Int) != 0 then
                               some (false)
                              else
                               optE (loopVal step12_6 (e11.1, e11.2.2.1, r14.1, r17.1, 0, e11.2.2.2)) (fun e30 =>
                                sumE e30 (fun e31 =>
                                 some (e31)) (fun e32 =>
                                 optE (loopVal step12_8 (e32.1, e32.2.1, 0, e32.2.2)) (fun e33 =>
                                  sumE e33 (fun e34 =>
                                   some (e34)) (fun _ =>
                                   some (true)))
                                  (none)))
                                (none)
                             else
                              optE (loopVal step12_6 (e11.1, e11.2.2.1, r14.1, r17.1, 0, e11.2.2.2)) (fun e36 =>
                               sumE e36 (fun e37 =>
                                some (e37)) (fun e38 =>
                                optE (loopVal step12_8 (e38.1, e38.2.1, 0, e38.2.2)) (fun e39 =>
                                 sumE e39 (fun e40 =>
                                  some (e40)) (fun _ =>
                                  some (true)))
                                 (none)))
                               (none))
                        (none))
                       (none))
                      (none))
                     (none))
                    (none))
                   (none)))
                 (none))
              (none))
             (none))
            (none)))
          (none))
     (none))
   (none)
theorem i12 : ItemOk Tryd.prog (.fn 12 [.d (.agg (.pair (.slice zI) (.pair zI zF))), .d (.slice (.slice zI)), .d (.slice zI)] [.d .bool] s12) := item_fnM md4 ext4 (U := 9) (n := 12) noSpecial mixed Gd13K7_ok (fun x => by kernel_rfl)
noncomputable def Gd13K8 : List Ev.Item := .fn 12 [.d (.agg (.pair (.slice zI) (.pair zI zF))), .d (.slice (.slice zI)), .d (.slice zI)] [.d .bool] s12 :: Gd13K7
theorem Gd13K8_ok : ∀ q ∈ Gd13K8, ItemOk Tryd.prog q := items_cons i12 Gd13K7_ok
end Go.Proofs.YthckjfbhdjjnkaaDoor
