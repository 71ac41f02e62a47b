/- Printed by gen.py: specifications of functions. -/
import Derived.Test.YtlngennlccaneaaGt3
set_option linter.unusedSimpArgs false
set_option maxRecDepth 100000
namespace Go.Proofs.Ytlngennlccaneaa
open Go.Ev
@[reducible] def T3_0 : Tmpl := ⟨264, [(5, .ref 5 0 0 0)], [.val 0 zI, .val 1 (.slice (.slice zI)), .own 7 102 3 zI, .own 8 169 3 zI, .val 9 zI, .cells 5 [.d (.pair zI (.slice zI))]], [], none⟩
@[reducible] def X3_0 : List (Ex × Tmpl) := [(.ret, ⟨264, [], [.val 6 .bool], [], none⟩), (.exit 0, ⟨264, [(5, .ref 5 0 0 0)], [.val 0 zI, .val 1 (.slice (.slice zI)), .own 7 102 3 zI, .own 8 169 3 zI, .cells 5 [.d (.pair zI (.slice zI))]], [], none⟩)]
noncomputable def step3_0 : Int × (List (List Int)) × (List Int) × (List Int) × Int × (Int × List Int) → Option ((Int × (List (List Int)) × (List Int) × (List Int) × Int × (Int × List Int)) ⊕ ((Bool) ⊕ (Int × (List (List Int)) × (List Int) × (List Int) × (Int × List Int)))) := fun (half, data, words, all0, i, x0) =>
 bif decide (i < (data.length : Int)) then
  bif inBounds i data.length then
   bif ((data.getD i.toNat []).length : Int) != (wr (15 - (wr (2 * half)))) then
    some (.inr (.inl true))
   else
    bif inBounds i data.length then
     optE (s6 (data.getD i.toNat [])) (fun r3 =>
      bif r3 != 0 then
       some (.inr (.inl true))
      else
       bif inBounds i data.length then
        optE (s8 (data.getD i.toNat [])) (fun r4 =>
         optE (s7 (half, r4)) (fun r5 =>
          bif r5.2 != 0 then
           some (.inr (.inl false))
          else
           optE (s9 r5.1) (fun r6 =>
            bif r6 != 0 then
             some (.inr (.inl false))
            else
             bif room 8 (words.length + r5.1.length) then
              some (.inl (half, data, words ++ r5.1, all0, wr (i + 1), x0))
             else
              none)
            (none))
          (none))
         (none)
       else
        none)
      (none)
    else
     none
  else
   none
 else
  some (.inr (.inr (half, data, words, all0, x0)))
theorem one3_0 : oneLoop Try.prog 3 0 = true := by kernel_rfl
theorem lp3_0 : ItemOk Try.prog (.loop 3 0 T3_0 X3_0 (loopVal step3_0)) := item_loopM md5 ext5 (U := 9) (n := 11) noSpecial mixed Gt3K21_ok one3_0 (fun x => by kernel_rfl)
noncomputable def Gt4K1 : List Ev.Item := .loop 3 0 T3_0 X3_0 (loopVal step3_0) :: Gt3K21
theorem Gt4K1_ok : ∀ q ∈ Gt4K1, ItemOk Try.prog q := items_cons lp3_0 Gt3K21_ok
@[reducible] def T3_2 : Tmpl := ⟨264, [(5, .ref 5 0 0 0)], [.val 0 zI, .val 1 (.slice (.slice zI)), .val 7 (.slice zI), .own 8 169 3 zI, .own 12 108 3 zI, .val 14 zI, .val 15 zI, .cells 5 [.d (.pair zI (.slice zI))]], [], none⟩
@[reducible] def X3_2 : List (Ex × Tmpl) := [(.exit 2, ⟨264, [], [.val 0 zI, .val 1 (.slice (.slice zI)), .val 7 (.slice zI), .own 8 169 3 zI], [], none⟩)]
noncomputable def step3_2 : Int × (List (List Int)) × (List Int) × (List Int) × (List Int) × Int × Int × (Int × List Int) → Option ((Int × (List (List Int)) × (List Int) × (List Int) × (List Int) × Int × Int × (Int × List Int)) ⊕ (Int × (List (List Int)) × (List Int) × (List Int))) := fun (half, data, words, all0, mixed, from0, k, x0) =>
 bif decide (k < (mixed.length : Int)) then
  bif inBounds k mixed.length then
   bif decide (k ≥ from0) then
    bif decide (k < (wr (from0 + (x0.2.length : Int)))) then
     bif inBounds (wr (k - from0)) x0.2.length then
      bif room 8 (all0.length + 1) then
       some (.inl (half, data, words, all0 ++ [xorI .i64 (mixed.getD k.toNat 0) (x0.2.getD (wr (k - from0)).toNat 0)], mixed, from0, wr (k + 1), x0))
      else
       none
     else
      none
    else
     bif room 8 (all0.length + 1) then
      some (.inl (half, data, words, all0 ++ [mixed.getD k.toNat 0], mixed, from0, wr (k + 1), x0))
     else
      none
   else
    bif room 8 (all0.length + 1) then
     some (.inl (half, data, words, all0 ++ [mixed.getD k.toNat 0], mixed, from0, wr (k + 1), x0))
    else
     none
  else
   none
 else
  some (.inr (half, data, words, all0))
theorem one3_2 : oneLoop Try.prog 3 2 = true := by kernel_rfl
theorem lp3_2 : ItemOk Try.prog (.loop 3 2 T3_2 X3_2 (loopVal step3_2)) := item_loopM md5 ext5 (U := 9) (n := 11) noSpecial mixed Gt4K1_ok one3_2 (fun x => by kernel_rfl)
noncomputable def Gt4K2 : List Ev.Item := .loop 3 2 T3_2 X3_2 (loopVal step3_2) :: Gt4K1
theorem Gt4K2_ok : ∀ q ∈ Gt4K2, ItemOk Try.prog q := items_cons lp3_2 Gt4K1_ok
@[reducible] def T3_6 : Tmpl := ⟨264, [], [.val 0 zI, .val 1 (.slice (.slice zI)), .val 7 (.slice zI), .val 17 (.slice zI), .val 19 zI, .val 20 (.slice zI), .val 21 (.slice zI), .own 25 248 3 zI, .val 26 zI], [], none⟩
@[reducible] def X3_6 : List (Ex × Tmpl) := [(.exit 6, ⟨264, [], [.val 0 zI, .val 1 (.slice (.slice zI)), .val 7 (.slice zI), .val 17 (.slice zI), .val 19 zI, .val 20 (.slice zI), .val 21 (.slice zI), .own 25 248 3 zI], [], none⟩)]
noncomputable def step3_6 : Int × (List (List Int)) × (List Int) × (List Int) × Int × (List Int) × (List Int) × (List Int) × Int → Option ((Int × (List (List Int)) × (List Int) × (List Int) × Int × (List Int) × (List Int) × (List Int) × Int) ⊕ (Int × (List (List Int)) × (List Int) × (List Int) × Int × (List Int) × (List Int) × (List Int))) := fun (half, data, words, back, i, own, sent, wrong, k) =>
 bif decide (k < (own.length : Int)) then
  bif inBounds k own.length then
   bif inBounds k sent.length then
    bif (own.getD k.toNat 0) != (sent.getD k.toNat 0) then
     bif room 8 (wrong.length + 1) then
      some (.inl (half, data, words, back, i, own, sent, wrong ++ [k], wr (k + 1)))
     else
      none
    else
     some (.inl (half, data, words, back, i, own, sent, wrong, wr (k + 1)))
   else
    none
  else
   none
 else
  some (.inr (half, data, words, back, i, own, sent, wrong))
theorem one3_6 : oneLoop Try.prog 3 6 = true := by kernel_rfl
theorem lp3_6 : ItemOk Try.prog (.loop 3 6 T3_6 X3_6 (loopVal step3_6)) := item_loopM md5 ext5 (U := 9) (n := 11) noSpecial mixed Gt4K2_ok one3_6 (fun x => by kernel_rfl)
noncomputable def Gt4K3 : List Ev.Item := .loop 3 6 T3_6 X3_6 (loopVal step3_6) :: Gt4K2
theorem Gt4K3_ok : ∀ q ∈ Gt4K3, ItemOk Try.prog q := items_cons lp3_6 Gt4K2_ok
@[reducible] def T3_4 : Tmpl := ⟨264, [], [.val 0 zI, .val 1 (.slice (.slice zI)), .val 7 (.slice zI), .val 17 (.slice zI), .val 19 zI], [], none⟩
@[reducible] def X3_4 : List (Ex × Tmpl) := [(.ret, ⟨264, [], [.val 6 .bool], [], none⟩), (.exit 4, ⟨264, [], [], [], none⟩)]
noncomputable def step3_4 : Int × (List (List Int)) × (List Int) × (List Int) × Int → Option ((Int × (List (List Int)) × (List Int) × (List Int) × Int) ⊕ ((Bool) ⊕ (Unit))) := fun (half, data, words, back, i) =>
 bif decide (i < (data.length : Int)) then
  bif (decide (0 ≤ (wr (i * 15)))) && ((decide ((wr (i * 15)) ≤ (wr ((wr (i + 1)) * 15)))) && (decide ((wr ((wr (i + 1)) * 15)) ≤ (back.length : Int)))) then
   optE (s8 ((back.take (wr ((wr (i + 1)) * 15)).toNat).drop (wr (i * 15)).toNat)) (fun r12 =>
    bif (decide (0 ≤ (wr (i * 15)))) && ((decide ((wr (i * 15)) ≤ (wr ((wr (i + 1)) * 15)))) && (decide ((wr ((wr (i + 1)) * 15)) ≤ (words.length : Int)))) then
     optE (s8 r12) (fun r13 =>
      optE (s13 (half, r13)) (fun r14 =>
       bif r14.2.2 != 0 then
        some (.inr (.inl false))
       else
        optE (s14 (r14.1, (words.take (wr ((wr (i + 1)) * 15)).toNat).drop (wr (i * 15)).toNat)) (fun r15 =>
         bif !r15 then
          some (.inr (.inl false))
         else
          optE (s15 (r12, (words.take (wr ((wr (i + 1)) * 15)).toNat).drop (wr (i * 15)).toNat)) (fun r16 =>
           bif r14.2.1 != r16 then
            some (.inr (.inl false))
           else
            optE (loopVal step3_6 (half, data, words, back, i, r12, (words.take (wr ((wr (i + 1)) * 15)).toNat).drop (wr (i * 15)).toNat, [], 0)) (fun e17 =>
             optE (s16 (e17.1, e17.2.2.2.2.2.1, e17.2.2.2.2.2.2.2)) (fun r18 =>
              bif r18.2 != 0 then
               some (.inr (.inl false))
              else
               optE (s14 (r18.1, e17.2.2.2.2.2.2.1)) (fun r19 =>
                bif !r19 then
                 some (.inr (.inl false))
                else
                 some (.inl (e17.1, e17.2.1, e17.2.2.1, e17.2.2.2.1, wr (e17.2.2.2.2.1 + 1))))
                (none))
              (none))
             (none))
           (none))
         (none))
       (none))
      (none)
    else
     none)
    (none)
  else
   none
 else
  some (.inr (.inr ()))
theorem one3_4 : oneLoop Try.prog 3 4 = true := by kernel_rfl
theorem lp3_4 : ItemOk Try.prog (.loop 3 4 T3_4 X3_4 (loopVal step3_4)) := item_loopM md5 ext5 (U := 9) (n := 11) noSpecial mixed Gt4K3_ok one3_4 (fun x => by kernel_rfl)
noncomputable def Gt4K4 : List Ev.Item := .loop 3 4 T3_4 X3_4 (loopVal step3_4) :: Gt4K3
theorem Gt4K4_ok : ∀ q ∈ Gt4K4, ItemOk Try.prog q := items_cons lp3_4 Gt4K3_ok
noncomputable def s3 : Int × (List (List Int)) × (Int × List Int) → Option (Bool) := fun (half, data, x0) =>
 bif !true then
  some (false)
 else
  optE (s5 half) (fun r1 =>
   bif r1 != 0 then
    some (true)
   else
    bif (data.length : Int) == 0 then
     some (true)
    else
     bif decide ((data.length : Int) > 4) then
      some (true)
     else
      bif decide ((x0.2.length : Int) > (wr ((data.length : Int) * half))) then
       some (true)
      else
       optE (s6 x0.2) (fun r2 =>
        bif r2 != 0 then
         some (true)
        else
         optE (loopVal step3_0 (half, data, [], [], 0, x0)) (fun e3 =>
          sumE e3 (fun e4 =>
           some (e4)) (fun e5 =>
           optE (s8 e5.2.2.1) (fun r6 =>
            optE (s10 (r6, (e5.2.1.length : Int))) (fun r7 =>
             bif r7.2 != 0 then
              some (false)
             else
              bif (r7.1.length : Int) != (e5.2.2.1.length : Int) then
               some (false)
              else
               optE (s6 r7.1) (fun r8 =>
                bif r8 != 0 then
                 some (false)
                else
                 optE (s11 (e5.2.2.2.2.1, wr ((wr ((r7.1.length : Int) - (e5.2.2.2.2.2.length : Int))) + 1))) (fun r9 =>
                  optE (loopVal step3_2 (e5.1, e5.2.1, e5.2.2.1, e5.2.2.2.1, r7.1, r9, 0, e5.2.2.2.2)) (fun e10 =>
                   optE (s12 (e10.2.2.2, (e10.2.1.length : Int))) (fun r11 =>
                    bif r11.2 != 0 then
                     some (false)
                    else
                     bif (r11.1.length : Int) != (e10.2.2.1.length : Int) then
                      some (false)
                     else
                      optE (loopVal step3_4 (e10.1, e10.2.1, e10.2.2.1, r11.1, 0)) (fun e12 =>
                       sumE e12 (fun e13 =>
                        some (e13)) (fun _ =>
                        some (true)))
                       (none))
                    (none))
                   (none))
                  (none))
                (none))
             (none))
            (none)))
          (none))
        (none))
   (none)
theorem i3 : ItemOk Try.prog (.fn 3 [.d zI, .d (.slice (.slice zI)), .d (.agg (.pair zI (.slice zI)))] [.d .bool] s3) := item_fnM md5 ext5 (U := 9) (n := 12) noSpecial mixed Gt4K4_ok (fun x => by kernel_rfl)
noncomputable def Gt4K5 : List Ev.Item := .fn 3 [.d zI, .d (.slice (.slice zI)), .d (.agg (.pair zI (.slice zI)))] [.d .bool] s3 :: Gt4K4
theorem Gt4K5_ok : ∀ q ∈ Gt4K5, ItemOk Try.prog q := items_cons i3 Gt4K4_ok
end Go.Proofs.Ytlngennlccaneaa
