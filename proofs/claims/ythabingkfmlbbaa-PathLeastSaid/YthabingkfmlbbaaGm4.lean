/- Printed by gen.py: specifications of functions. -/
import Derived.Test.YthabingkfmlbbaaGm3
set_option linter.unusedSimpArgs false
set_option maxRecDepth 100000
namespace Go.Proofs.Ythabingkfmlbbaa
open Go.Ev
noncomputable def s6 : Int × (Int × Int) × Int × Int → Option (Bool) := fun d =>
 optE (s11 d) (fun r1 =>
  bif r1 != 0 then
   some (true)
  else
   bif !(d.1 == 0) then
    some (decide ((wr (Int.tdiv (wr (d.2.1.2 - d.2.1.1)) d.1)) ≤ 10))
   else
    none)
  (none)
theorem i6 : ItemOk Try.prog (.fn 6 [.d (.agg (.pair zI (.pair zP zP)))] [.d .bool] s6) := item_fnM md5 ext5 (U := 9) (n := 12) noSpecial mixed Gm3K2_ok (fun x => by kernel_rfl)
noncomputable def Gm4K1 : List Ev.Item := .fn 6 [.d (.agg (.pair zI (.pair zP zP)))] [.d .bool] s6 :: Gm3K2
theorem Gm4K1_ok : ∀ q ∈ Gm4K1, ItemOk Try.prog q := items_cons i6 Gm3K2_ok
@[reducible] def T17_0 : Tmpl := ⟨41, [], [.val 0 (.slice zI), .val 1 (.slice zI), .val 5 zI], [], none⟩
@[reducible] def X17_0 : List (Ex × Tmpl) := [(.ret, ⟨41, [], [.val 4 .bool], [], none⟩), (.exit 0, ⟨41, [], [.val 0 (.slice zI), .val 1 (.slice zI)], [], none⟩)]
noncomputable def step17_0 : (List Int) × (List Int) × Int → Option (((List Int) × (List Int) × Int) ⊕ ((Bool) ⊕ ((List Int) × (List Int)))) := fun (a, b, i) =>
 bif decide (i < (a.length : Int)) then
  bif decide (i < (b.length : Int)) then
   bif inBounds i a.length then
    bif inBounds i b.length then
     bif (a.getD i.toNat 0) != (b.getD i.toNat 0) then
      bif inBounds i a.length then
       bif inBounds i b.length then
        some (.inr (.inl (decide ((a.getD i.toNat 0) < (b.getD i.toNat 0)))))
       else
        none
      else
       none
     else
      some (.inl (a, b, wr (i + 1)))
    else
     none
   else
    none
  else
   some (.inr (.inr (a, b)))
 else
  some (.inr (.inr (a, b)))
theorem one17_0 : oneLoop Try.prog 17 0 = true := by kernel_rfl
theorem lp17_0 : ItemOk Try.prog (.loop 17 0 T17_0 X17_0 (loopVal step17_0)) := item_loopM md5 ext5 (U := 9) (n := 11) noSpecial mixed Gm4K1_ok one17_0 (fun x => by kernel_rfl)
noncomputable def Gm4K2 : List Ev.Item := .loop 17 0 T17_0 X17_0 (loopVal step17_0) :: Gm4K1
theorem Gm4K2_ok : ∀ q ∈ Gm4K2, ItemOk Try.prog q := items_cons lp17_0 Gm4K1_ok
noncomputable def s17 : (List Int) × (List Int) → Option (Bool) := fun (a, b) =>
 optE (loopVal step17_0 (a, b, 0)) (fun e1 =>
  sumE e1 (fun e2 =>
   some (e2)) (fun e3 =>
   some (decide ((e3.1.length : Int) < (e3.2.length : Int)))))
  (none)
theorem i17 : ItemOk Try.prog (.fn 17 [.d (.slice zI), .d (.slice zI)] [.d .bool] s17) := item_fnM md5 ext5 (U := 9) (n := 12) noSpecial mixed Gm4K2_ok (fun x => by kernel_rfl)
noncomputable def Gm4K3 : List Ev.Item := .fn 17 [.d (.slice zI), .d (.slice zI)] [.d .bool] s17 :: Gm4K2
theorem Gm4K3_ok : ∀ q ∈ Gm4K3, ItemOk Try.prog q := items_cons i17 Gm4K2_ok
noncomputable def s4 : (Int × (Int × Int) × Int × Int) × (List Int) × (List Int) → Option (Bool) := fun (d, targets, other) =>
 bif !true then
  some (false)
 else
  optE (s11 d) (fun r1 =>
   bif r1 != 0 then
    some (true)
   else
    optE (s6 d) (fun r2 =>
     bif !r2 then
      some (true)
     else
      bif decide ((targets.length : Int) > 12) then
       some (true)
      else
       bif decide ((other.length : Int) > 14) then
        some (true)
       else
        optE (s12 (d, targets)) (fun r3 =>
         bif r3 != 0 then
          some (true)
         else
          optE (s9 targets) (fun r4 =>
           optE (s8 (d, r4)) (fun r5 =>
            optE (s9 targets) (fun r6 =>
             optE (s9 other) (fun r7 =>
              optE (s16 (d, r6, r7)) (fun r8 =>
               (fun (k1 : Unit → Option (Bool)) =>
                 bif r5.2.2 != 0 then
                  bif r5.2.2 != 12 then
                   some (false)
                  else
                   bif r8.2 == 0 then
                    some (false)
                   else
                    k1 ()
                 else
                  optE (s9 targets) (fun r16 =>
                   optE (s9 r5.1) (fun r17 =>
                    optE (s16 (d, r16, r17)) (fun r18 =>
                     bif r18.2 != 0 then
                      some (false)
                     else
                      bif r18.1 != r5.2.1 then
                       some (false)
                      else
                       bif r8.2 == 0 then
                        bif decide (r8.1 < r5.2.1) then
                         some (false)
                        else
                         bif r8.1 == r5.2.1 then
                          optE (s17 (other, r5.1)) (fun r19 =>
                           bif r19 then
                            some (false)
                           else
                            k1 ())
                           (none)
                         else
                          k1 ()
                       else
                        k1 ())
                     (none))
                    (none))
                   (none)) (fun _ =>
                 optE (s9 targets) (fun r9 =>
                  optE (s10 (d, r9)) (fun r10 =>
                   bif r10.2 != 0 then
                    bif r10.2 == 12 then
                     some (r5.2.2 == 12)
                    else
                     some (false)
                   else
                    optE (s18 (r10.1, 0, 40000)) (fun r11 =>
                     bif !r11 then
                      some (false)
                     else
                      bif !((r5.2.2 == 0) == (decide (d.2.2.2 ≥ r10.1))) then
                       some (false)
                      else
                       optE (s9 targets) (fun r12 =>
                        optE (s8 ((d.1, d.2.1, d.2.2.1, r10.1), r12)) (fun r13 =>
                         bif r13.2.2 != 0 then
                          some (false)
                         else
                          bif r10.1 == 0 then
                           some (true)
                          else
                           optE (s9 targets) (fun r14 =>
                            optE (s8 ((d.1, d.2.1, d.2.2.1, wr (r10.1 - 1)), r14)) (fun r15 =>
                             some (r15.2.2 == 12))
                             (none))
                            (none))
                         (none))
                        (none))
                     (none))
                   (none))
                  (none)))
               (none))
              (none))
             (none))
            (none))
           (none))
         (none))
     (none))
   (none)
theorem i4 : ItemOk Try.prog (.fn 4 [.d (.agg (.pair zI (.pair zP zP))), .d (.slice zI), .d (.slice zI)] [.d .bool] s4) := item_fnM md5 ext5 (U := 9) (n := 12) noSpecial mixed Gm4K3_ok (fun x => by kernel_rfl)
noncomputable def Gm4K4 : List Ev.Item := .fn 4 [.d (.agg (.pair zI (.pair zP zP))), .d (.slice zI), .d (.slice zI)] [.d .bool] s4 :: Gm4K3
theorem Gm4K4_ok : ∀ q ∈ Gm4K4, ItemOk Try.prog q := items_cons i4 Gm4K3_ok
end Go.Proofs.Ythabingkfmlbbaa
