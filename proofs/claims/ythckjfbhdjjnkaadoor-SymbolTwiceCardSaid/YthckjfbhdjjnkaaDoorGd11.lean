import Derived.Test.YthckjfbhdjjnkaaDoorGd10
set_option linter.unusedSimpArgs false
set_option maxRecDepth 100000
namespace Go.Proofs.YthckjfbhdjjnkaaDoor
open Go.Ev
@[reducible] def T10_0 : Tmpl := ⟨134, [], [.val 2 zI, .val 11 zI, .val 13 (.slice zI), .val 17 zI], [], none⟩
@[reducible] def X10_0 : List (Ex × Tmpl) := [(.ret, ⟨134, [], [.val 6 .bool], [], none⟩), (.exit 0, ⟨134, [], [], [], none⟩)]
noncomputable def step10_0 : Int × Int × (List Int) × Int → Option ((Int × Int × (List Int) × Int) ⊕ ((Bool) ⊕ (Unit))) := fun (count, n, s, k) =>
 bif decide (k < count) then
  bif inBounds k s.length then
   bif inBounds (wr (k + n)) s.length then
    bif (s.getD k.toNat 0) != (s.getD (wr (k + n)).toNat 0) then
     some (.inr (.inl false))
    else
     some (.inl (count, n, s, wr (k + 1)))
   else
    none
  else
   none
 else
  some (.inr (.inr ()))
theorem one10_0 : oneLoop Tryd.prog 10 0 = true := by kernel_rfl
theorem lp10_0 : ItemOk Tryd.prog (.loop 10 0 T10_0 X10_0 (loopVal step10_0)) := item_loopM md4 ext4 (U := 9) (n := 11) noSpecial mixed Gd10K23_ok one10_0 (fun x => by kernel_rfl)
noncomputable def Gd11K1 : List Ev.Item := .loop 10 0 T10_0 X10_0 (loopVal step10_0) :: Gd10K23
theorem Gd11K1_ok : ∀ q ∈ Gd11K1, ItemOk Tryd.prog q := items_cons lp10_0 Gd10K23_ok
noncomputable def s10 : (Int × Int × Int) × (List Int) × Int → Option (Bool) := fun (r0, soft, count) =>
 bif !true then
  some (false)
 else
  optE (s52 r0) (fun r1 =>
   bif r1 != 0 then
    some (true)
   else
    bif decide ((soft.length : Int) > 120) then
     some (true)
    else
     optE (s30 soft) (fun r2 =>
      bif r2 != 0 then
       some (true)
      else
       optE (s28 (count, 0, 120)) (fun r3 =>
        bif !r3 then
         some (true)
        else
         optE (s22 soft) (fun r4 =>
          optE (s51 (r0, r4)) (fun r5 =>
           optE (s22 r5.1) (fun r6 =>
            optE (s51 (r0, r6)) (fun r7 =>
             optE (s50 r0) (fun r8 =>
              bif r5.2 != 0 then
               some (false)
              else
               bif r7.2 != 0 then
                some (false)
               else
                optE (s26 (r7.1, soft)) (fun r9 =>
                 bif !r9 then
                  some (false)
                 else
                  bif r8.2 != 0 then
                   some (false)
                  else
                   bif decide (0 ≤ r0.1) then
                    optE (s28 (r8.1, 1, wr ((shlI .i64 1 r0.1) - 1))) (fun r10 =>
                     bif !r10 then
                      some (false)
                     else
                      optE (s49 (r0, wr (count + r8.1))) (fun r11 =>
                       optE (s49 (r0, count)) (fun r12 =>
                        bif r11.2 != 0 then
                         some (false)
                        else
                         bif r12.2 != 0 then
                          some (false)
                         else
                          bif (r11.1.length : Int) != (wr (count + r8.1)) then
                           some (false)
                          else
                           bif (decide (0 ≤ count)) && (decide (count ≤ (r11.1.length : Int))) then
                            optE (s26 (r11.1.take count.toNat, r12.1)) (fun r13 =>
                             bif !r13 then
                              some (false)
                             else
                              optE (loopVal step10_0 (count, r8.1, r11.1, 0)) (fun e14 =>
                               sumE e14 (fun e15 =>
                                some (e15)) (fun _ =>
                                some (true)))
                               (none))
                             (none)
                           else
                            none)
                        (none))
                       (none))
                     (none)
                   else
                    none)
                 (none))
              (none))
             (none))
            (none))
           (none))
          (none))
        (none))
      (none))
   (none)
theorem i10 : ItemOk Tryd.prog (.fn 10 [.d (.agg (.pair zI zP)), .d (.slice zI), .d zI] [.d .bool] s10) := item_fnM md4 ext4 (U := 9) (n := 12) noSpecial mixed Gd11K1_ok (fun x => by kernel_rfl)
noncomputable def Gd11K2 : List Ev.Item := .fn 10 [.d (.agg (.pair zI zP)), .d (.slice zI), .d zI] [.d .bool] s10 :: Gd11K1
theorem Gd11K2_ok : ∀ q ∈ Gd11K2, ItemOk Tryd.prog q := items_cons i10 Gd11K1_ok
end Go.Proofs.YthckjfbhdjjnkaaDoor
