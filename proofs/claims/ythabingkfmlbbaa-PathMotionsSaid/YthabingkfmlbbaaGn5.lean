/- Printed by gen.py: specifications of functions. -/
import Derived.Test.YthabingkfmlbbaaGn4
set_option linter.unusedSimpArgs false
set_option maxRecDepth 100000
namespace Go.Proofs.Ythabingkfmlbbaa
open Go.Ev
noncomputable def o13n1 : (Int × (Int × Int) × Int × Int) × (List Int) → Option ((List Int) × Int × Bool) := fun x => optE (s13n0 x) some (s13n1 x)
theorem io13n1 : ItemOk Try.prog (.fn 13 [.d (.agg (.pair zI (.pair zP zP))), .d (.slice zI)] [.own 3 zI, .d zI, .d .bool] o13n1) := item_or i13n0 i13n1
noncomputable def o13n2 : (Int × (Int × Int) × Int × Int) × (List Int) → Option ((List Int) × Int × Bool) := fun x => optE (o13n1 x) some (s13n2 x)
theorem io13n2 : ItemOk Try.prog (.fn 13 [.d (.agg (.pair zI (.pair zP zP))), .d (.slice zI)] [.own 3 zI, .d zI, .d .bool] o13n2) := item_or io13n1 i13n2
noncomputable def o13n3 : (Int × (Int × Int) × Int × Int) × (List Int) → Option ((List Int) × Int × Bool) := fun x => optE (o13n2 x) some (s13n3 x)
theorem io13n3 : ItemOk Try.prog (.fn 13 [.d (.agg (.pair zI (.pair zP zP))), .d (.slice zI)] [.own 3 zI, .d zI, .d .bool] o13n3) := item_or io13n2 i13n3
noncomputable def o13n4 : (Int × (Int × Int) × Int × Int) × (List Int) → Option ((List Int) × Int × Bool) := fun x => optE (o13n3 x) some (s13n4 x)
theorem io13n4 : ItemOk Try.prog (.fn 13 [.d (.agg (.pair zI (.pair zP zP))), .d (.slice zI)] [.own 3 zI, .d zI, .d .bool] o13n4) := item_or io13n3 i13n4
noncomputable def o13n5 : (Int × (Int × Int) × Int × Int) × (List Int) → Option ((List Int) × Int × Bool) := fun x => optE (o13n4 x) some (s13n5 x)
theorem io13n5 : ItemOk Try.prog (.fn 13 [.d (.agg (.pair zI (.pair zP zP))), .d (.slice zI)] [.own 3 zI, .d zI, .d .bool] o13n5) := item_or io13n4 i13n5
noncomputable def o13n6 : (Int × (Int × Int) × Int × Int) × (List Int) → Option ((List Int) × Int × Bool) := fun x => optE (o13n5 x) some (s13n6 x)
theorem io13n6 : ItemOk Try.prog (.fn 13 [.d (.agg (.pair zI (.pair zP zP))), .d (.slice zI)] [.own 3 zI, .d zI, .d .bool] o13n6) := item_or io13n5 i13n6
noncomputable def o13n7 : (Int × (Int × Int) × Int × Int) × (List Int) → Option ((List Int) × Int × Bool) := fun x => optE (o13n6 x) some (s13n7 x)
theorem io13n7 : ItemOk Try.prog (.fn 13 [.d (.agg (.pair zI (.pair zP zP))), .d (.slice zI)] [.own 3 zI, .d zI, .d .bool] o13n7) := item_or io13n6 i13n7
noncomputable def o13n8 : (Int × (Int × Int) × Int × Int) × (List Int) → Option ((List Int) × Int × Bool) := fun x => optE (o13n7 x) some (s13n8 x)
theorem io13n8 : ItemOk Try.prog (.fn 13 [.d (.agg (.pair zI (.pair zP zP))), .d (.slice zI)] [.own 3 zI, .d zI, .d .bool] o13n8) := item_or io13n7 i13n8
noncomputable def o13n9 : (Int × (Int × Int) × Int × Int) × (List Int) → Option ((List Int) × Int × Bool) := fun x => optE (o13n8 x) some (s13n9 x)
theorem io13n9 : ItemOk Try.prog (.fn 13 [.d (.agg (.pair zI (.pair zP zP))), .d (.slice zI)] [.own 3 zI, .d zI, .d .bool] o13n9) := item_or io13n8 i13n9
noncomputable def o13n10 : (Int × (Int × Int) × Int × Int) × (List Int) → Option ((List Int) × Int × Bool) := fun x => optE (o13n9 x) some (s13n10 x)
theorem io13n10 : ItemOk Try.prog (.fn 13 [.d (.agg (.pair zI (.pair zP zP))), .d (.slice zI)] [.own 3 zI, .d zI, .d .bool] o13n10) := item_or io13n9 i13n10
noncomputable def o13n11 : (Int × (Int × Int) × Int × Int) × (List Int) → Option ((List Int) × Int × Bool) := fun x => optE (o13n10 x) some (s13n11 x)
theorem io13n11 : ItemOk Try.prog (.fn 13 [.d (.agg (.pair zI (.pair zP zP))), .d (.slice zI)] [.own 3 zI, .d zI, .d .bool] o13n11) := item_or io13n10 i13n11
noncomputable def o13n12 : (Int × (Int × Int) × Int × Int) × (List Int) → Option ((List Int) × Int × Bool) := fun x => optE (o13n11 x) some (s13n12 x)
theorem io13n12 : ItemOk Try.prog (.fn 13 [.d (.agg (.pair zI (.pair zP zP))), .d (.slice zI)] [.own 3 zI, .d zI, .d .bool] o13n12) := item_or io13n11 i13n12
noncomputable def Gn5K1 : List Ev.Item := .fn 13 [.d (.agg (.pair zI (.pair zP zP))), .d (.slice zI)] [.own 3 zI, .d zI, .d .bool] o13n12 :: Gn0K6
theorem Gn5K1_ok : ∀ q ∈ Gn5K1, ItemOk Try.prog q := items_cons io13n12 Gn0K6_ok
@[reducible] def T15_0 : Tmpl := ⟨47, [(2, .ref 2 0 0 0)], [.val 1 (.slice zI), .val 6 zI, .val 7 zI, .cells 2 [.d (.pair zI (.pair zP zP))]], [], none⟩
@[reducible] def X15_0 : List (Ex × Tmpl) := [(.exit 0, ⟨47, [], [.val 6 zI], [], none⟩)]
noncomputable def step15_0 : (List Int) × Int × Int × (Int × (Int × Int) × Int × Int) → Option (((List Int) × Int × Int × (Int × (Int × Int) × Int × Int)) ⊕ (Int)) := fun (targets, lo, hi, d) =>
 bif decide (lo < hi) then
  optE (o13n12 ((d.1, d.2.1, d.2.2.1, wr (Int.tdiv (wr (lo + hi)) 2)), targets)) (fun r2 =>
   bif r2.2.2 then
    some (.inl (targets, lo, wr (Int.tdiv (wr (lo + hi)) 2), (d.1, d.2.1, d.2.2.1, wr (Int.tdiv (wr (lo + hi)) 2))))
   else
    some (.inl (targets, wr ((wr (Int.tdiv (wr (lo + hi)) 2)) + 1), hi, (d.1, d.2.1, d.2.2.1, wr (Int.tdiv (wr (lo + hi)) 2)))))
   (none)
 else
  some (.inr lo)
theorem one15_0 : oneLoop Try.prog 15 0 = true := by kernel_rfl
theorem lp15_0 : ItemOk Try.prog (.loop 15 0 T15_0 X15_0 (loopVal step15_0)) := item_loopM md5 ext5 (U := 9) (n := 11) noSpecial mixed Gn5K1_ok one15_0 (fun x => by kernel_rfl)
noncomputable def Gn5K2 : List Ev.Item := .loop 15 0 T15_0 X15_0 (loopVal step15_0) :: Gn5K1
theorem Gn5K2_ok : ∀ q ∈ Gn5K2, ItemOk Try.prog q := items_cons lp15_0 Gn5K1_ok
noncomputable def s15 : (Int × (Int × Int) × Int × Int) × (List Int) → Option (Int × Bool) := fun (d, targets) =>
 optE (o13n12 ((d.1, d.2.1, d.2.2.1, 40000), targets)) (fun r1 =>
  bif !r1.2.2 then
   some ((0, false))
  else
   optE (loopVal step15_0 (targets, 0, 40000, (d.1, d.2.1, d.2.2.1, 40000))) (fun e2 =>
    some ((e2, true)))
    (none))
  (none)
theorem i15 : ItemOk Try.prog (.fn 15 [.d (.agg (.pair zI (.pair zP zP))), .d (.slice zI)] [.d zI, .d .bool] s15) := item_fnM md5 ext5 (U := 9) (n := 12) noSpecial mixed Gn5K2_ok (fun x => by kernel_rfl)
noncomputable def Gn5K3 : List Ev.Item := .fn 15 [.d (.agg (.pair zI (.pair zP zP))), .d (.slice zI)] [.d zI, .d .bool] s15 :: Gn5K2
theorem Gn5K3_ok : ∀ q ∈ Gn5K3, ItemOk Try.prog q := items_cons i15 Gn5K2_ok
noncomputable def s3 : (Int × (Int × Int) × Int × Int) × (List Int) → Option (Bool) := fun (d, targets) =>
 bif !true then
  some (false)
 else
  optE (s6 d) (fun r1 =>
   bif !r1 then
    some (true)
   else
    (fun (k1 : Unit → Option (Bool)) =>
      bif decide ((targets.length : Int) > 12) then
       bif decide ((targets.length : Int) ≤ 40) then
        some (true)
       else
        k1 ()
      else
       k1 ()) (fun _ =>
      bif decide ((targets.length : Int) > 42) then
       some (true)
      else
       optE (s7 d) (fun r2 =>
        optE (s9 targets) (fun r3 =>
         optE (s8 (d, r3)) (fun r4 =>
          optE (s9 targets) (fun r5 =>
           optE (s10 (d, r5)) (fun r6 =>
            optE (s11 d) (fun r7 =>
             bif r2 != r7 then
              some (false)
             else
              (fun (k2 : Unit → Option (Bool)) =>
                (fun (k6 : Unit → Option (Bool)) =>
                  bif r7 == 0 then
                   optE (s12 (d, targets)) (fun r8 =>
                    bif r8 != 0 then
                     bif r4.2.2 == r8 then
                      bif r6.2 == r8 then
                       k6 ()
                      else
                       some (false)
                     else
                      some (false)
                    else
                     k2 ())
                    (none)
                  else
                   bif r7 != 0 then
                    bif r4.2.2 == r7 then
                     bif r6.2 == r7 then
                      k6 ()
                     else
                      some (false)
                    else
                     some (false)
                   else
                    k2 ()) (fun _ =>
                  bif (r4.1.length : Int) == 0 then
                   bif r4.2.1 == 0 then
                    some (r6.1 == 0)
                   else
                    some (false)
                  else
                   some (false))) (fun _ =>
                optE (o13n12 (d, targets)) (fun r9 =>
                 (fun (k3 : Unit → Option (Bool)) =>
                   bif r9.2.2 then
                    bif r4.2.2 != 0 then
                     some (false)
                    else
                     optE (s14 (r4.1, r9.1)) (fun r10 =>
                      bif !r10 then
                       some (false)
                      else
                       bif r4.2.1 != r9.2.1 then
                        some (false)
                       else
                        k3 ())
                      (none)
                   else
                    k3 ()) (fun _ =>
                   (fun (k4 : Unit → Option (Bool)) =>
                     bif !r9.2.2 then
                      bif r4.2.2 != 12 then
                       some (false)
                      else
                       bif (r4.1.length : Int) != 0 then
                        some (false)
                       else
                        bif r4.2.1 != 0 then
                         some (false)
                        else
                         k4 ()
                     else
                      k4 ()) (fun _ =>
                     optE (s15 (d, targets)) (fun r11 =>
                      (fun (k5 : Unit → Option (Bool)) =>
                        bif r11.2 then
                         bif r6.2 == 0 then
                          bif r6.1 == r11.1 then
                           some (true)
                          else
                           k5 ()
                         else
                          k5 ()
                        else
                         k5 ()) (fun _ =>
                        bif !r11.2 then
                         bif r6.2 == 12 then
                          some (r6.1 == 0)
                         else
                          some (false)
                        else
                         some (false)))
                      (none))))
                 (none)))
             (none))
            (none))
           (none))
          (none))
         (none))
        (none)))
   (none)
theorem i3 : ItemOk Try.prog (.fn 3 [.d (.agg (.pair zI (.pair zP zP))), .d (.slice zI)] [.d .bool] s3) := item_fnM md5 ext5 (U := 9) (n := 12) noSpecial mixed Gn5K3_ok (fun x => by kernel_rfl)
noncomputable def Gn5K4 : List Ev.Item := .fn 3 [.d (.agg (.pair zI (.pair zP zP))), .d (.slice zI)] [.d .bool] s3 :: Gn5K3
theorem Gn5K4_ok : ∀ q ∈ Gn5K4, ItemOk Try.prog q := items_cons i3 Gn5K3_ok
end Go.Proofs.Ythabingkfmlbbaa
