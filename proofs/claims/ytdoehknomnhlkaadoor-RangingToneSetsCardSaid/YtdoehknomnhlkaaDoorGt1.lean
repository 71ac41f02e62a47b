import Derived.Test.YtdoehknomnhlkaaDoorGt0
import Derived.Test.YtdoehknomnhlkaaDoorGr0
set_option linter.unusedSimpArgs false
set_option maxRecDepth 100000
namespace Go.Proofs.YtdoehknomnhlkaaDoor
open Go.Ev
noncomputable def Gt1K1 : List Ev.Item := .fn 7 [.d (.slice (.agg (.pair zI zP))), .d (.agg zP)] [.own 3 zI, .d zI] oz7e :: Gc3K30
theorem Gt1K1_ok : ∀ q ∈ Gt1K1, ItemOk Tryd.prog q := items_cons ioz7e Gc3K30_ok
noncomputable def Gt1K2 : List Ev.Item := .fn 10 [.d (.slice (.agg (.pair zI zP))), .d (.agg zP)] [.d (.slice zI), .d .bool] o10n5 :: Gt1K1
theorem Gt1K2_ok : ∀ q ∈ Gt1K2, ItemOk Tryd.prog q := items_cons io10n5 Gt1K1_ok
@[reducible] def T11_0 : Tmpl := ⟨26, [], [.val 0 (.slice zI), .val 1 (.slice zI), .val 5 zI], [], none⟩
@[reducible] def X11_0 : List (Ex × Tmpl) := [(.ret, ⟨26, [], [.val 4 .bool], [], none⟩), (.exit 0, ⟨26, [], [], [], none⟩)]
noncomputable def step11_0 : (List Int) × (List Int) × Int → Option (((List Int) × (List Int) × Int) ⊕ ((Bool) ⊕ (Unit))) := fun (a, b, i) =>
 bif decide (i < (a.length : Int)) then
  bif inBounds i a.length then
   bif inBounds i b.length then
    bif (a.getD i.toNat 0) != (b.getD i.toNat 0) then
     some (.inr (.inl false))
    else
     some (.inl (a, b, wr (i + 1)))
   else
    none
  else
   none
 else
  some (.inr (.inr ()))
theorem one11_0 : oneLoop Tryd.prog 11 0 = true := by kernel_rfl
theorem lp11_0 : ItemOk Tryd.prog (.loop 11 0 T11_0 X11_0 (loopVal step11_0)) := item_loopM md7 ext7 (U := 9) (n := 3) noSpecial mixed Gt1K2_ok one11_0 (fun x => by kernel_rfl)
noncomputable def Gt1K3 : List Ev.Item := .loop 11 0 T11_0 X11_0 (loopVal step11_0) :: Gt1K2
theorem Gt1K3_ok : ∀ q ∈ Gt1K3, ItemOk Tryd.prog q := items_cons lp11_0 Gt1K2_ok
noncomputable def s11 : (List Int) × (List Int) → Option (Bool) := fun (a, b) =>
 bif (a.length : Int) != (b.length : Int) then
  some (false)
 else
  optE (loopVal step11_0 (a, b, 0)) (fun e1 =>
   sumE e1 (fun e2 =>
    some (e2)) (fun _ =>
    some (true)))
   (none)
theorem i11 : ItemOk Tryd.prog (.fn 11 [.d (.slice zI), .d (.slice zI)] [.d .bool] s11) := item_fnM md7 ext7 (U := 9) (n := 4) noSpecial mixed Gt1K3_ok (fun x => by kernel_rfl)
noncomputable def Gt1K4 : List Ev.Item := .fn 11 [.d (.slice zI), .d (.slice zI)] [.d .bool] s11 :: Gt1K3
theorem Gt1K4_ok : ∀ q ∈ Gt1K4, ItemOk Tryd.prog q := items_cons i11 Gt1K3_ok
@[reducible] def T3_2 : Tmpl := ⟨115, [(3, .ref 3 0 0 0)], [.val 0 (.slice (.agg (.pair zI zP))), .val 5 (.slice zI), .val 10 zI, .own 11 102 37 (.agg (.pair zI zP)), .val 12 zI, .cells 3 [.d zP]], [], none⟩
@[reducible] def X3_2 : List (Ex × Tmpl) := [(.exit 2, ⟨115, [(3, .ref 3 0 0 0)], [.val 0 (.slice (.agg (.pair zI zP))), .val 5 (.slice zI), .val 10 zI, .own 11 102 37 (.agg (.pair zI zP)), .cells 3 [.d zP]], [], none⟩)]
noncomputable def step3_2 : (List (Int × Int × Int)) × (List Int) × Int × (List (Int × Int × Int)) × Int × (Int × Int) → Option (((List (Int × Int × Int)) × (List Int) × Int × (List (Int × Int × Int)) × Int × (Int × Int)) ⊕ ((List (Int × Int × Int)) × (List Int) × Int × (List (Int × Int × Int)) × (Int × Int))) := fun (l, x0, i, part, k, limit) =>
 bif decide (k < (x0.length : Int)) then
  bif k != i then
   bif inBounds k x0.length then
    bif inBounds (x0.getD k.toNat 0) l.length then
     bif room 24 (part.length + 1) then
      some (.inl (l, x0, i, part ++ [(l.getD (x0.getD k.toNat 0).toNat (0, 0, 0))], wr (k + 1), limit))
     else
      none
    else
     none
   else
    none
  else
   some (.inl (l, x0, i, part, wr (k + 1), limit))
 else
  some (.inr (l, x0, i, part, limit))
theorem one3_2 : oneLoop Tryd.prog 3 2 = true := by kernel_rfl
theorem lp3_2 : ItemOk Tryd.prog (.loop 3 2 T3_2 X3_2 (loopVal step3_2)) := item_loopM md7 ext7 (U := 9) (n := 11) noSpecial mixed Gt1K4_ok one3_2 (fun x => by kernel_rfl)
noncomputable def Gt1K5 : List Ev.Item := .loop 3 2 T3_2 X3_2 (loopVal step3_2) :: Gt1K4
theorem Gt1K5_ok : ∀ q ∈ Gt1K5, ItemOk Tryd.prog q := items_cons lp3_2 Gt1K4_ok
@[reducible] def T3_0 : Tmpl := ⟨115, [(3, .ref 3 0 0 0)], [.val 0 (.slice (.agg (.pair zI zP))), .val 5 (.slice zI), .val 10 zI, .cells 3 [.d zP]], [], none⟩
@[reducible] def X3_0 : List (Ex × Tmpl) := [(.ret, ⟨115, [], [.val 4 .bool], [], none⟩), (.exit 0, ⟨115, [], [], [], none⟩)]
noncomputable def step3_0 : (List (Int × Int × Int)) × (List Int) × Int × (Int × Int) → Option (((List (Int × Int × Int)) × (List Int) × Int × (Int × Int)) ⊕ ((Bool) ⊕ (Unit))) := fun (l, x0, i, limit) =>
 bif decide (i < (x0.length : Int)) then
  optE (loopVal step3_2 (l, x0, i, [], 0, limit)) (fun e7 =>
   optE (s12 e7.2.2.2) (fun r8 =>
    bif r8.2 != 0 then
     bif r8.2 != 22 then
      some (.inr (.inl false))
     else
      some (.inl (e7.1, e7.2.1, wr (e7.2.2.1 + 1), e7.2.2.2.2))
    else
     some (.inl (e7.1, e7.2.1, wr (e7.2.2.1 + 1), e7.2.2.2.2)))
    (none))
   (none)
 else
  some (.inr (.inr ()))
theorem one3_0 : oneLoop Tryd.prog 3 0 = true := by kernel_rfl
theorem lp3_0 : ItemOk Tryd.prog (.loop 3 0 T3_0 X3_0 (loopVal step3_0)) := item_loopM md7 ext7 (U := 9) (n := 11) noSpecial mixed Gt1K5_ok one3_0 (fun x => by kernel_rfl)
noncomputable def Gt1K6 : List Ev.Item := .loop 3 0 T3_0 X3_0 (loopVal step3_0) :: Gt1K5
theorem Gt1K6_ok : ∀ q ∈ Gt1K6, ItemOk Tryd.prog q := items_cons lp3_0 Gt1K5_ok
noncomputable def s3 : (List (Int × Int × Int)) × (Int × Int) → Option (Bool) := fun (l, limit) =>
 bif !true then
  some (false)
 else
  bif decide ((l.length : Int) > 5) then
   bif decide ((l.length : Int) ≤ 8) then
    some (true)
   else
    bif decide ((l.length : Int) > 10) then
     some (true)
    else
     optE (s6 (limit, 200)) (fun r1 =>
      bif !r1 then
       some (true)
      else
       optE (s8 l) (fun r2 =>
        optE (oz7e (r2, limit)) (fun r3 =>
         optE (s9 (l, limit)) (fun r4 =>
          bif r4 != 0 then
           bif r3.2 == r4 then
            some ((r3.1.length : Int) == 0)
           else
            some (false)
          else
           optE (o10n5 (l, limit)) (fun r5 =>
            bif !r5.2 then
             bif r3.2 == 12 then
              some ((r3.1.length : Int) == 0)
             else
              some (false)
            else
             bif r3.2 != 0 then
              some (false)
             else
              optE (s11 (r3.1, r5.1)) (fun r6 =>
               bif !r6 then
                some (false)
               else
                optE (loopVal step3_0 (l, r3.1, 0, limit)) (fun e7 =>
                 sumE e7 (fun e8 =>
                  some (e8)) (fun _ =>
                  some (true)))
                 (none))
               (none))
            (none))
          (none))
         (none))
        (none))
      (none)
  else
   bif decide ((l.length : Int) > 10) then
    some (true)
   else
    optE (s6 (limit, 200)) (fun r10 =>
     bif !r10 then
      some (true)
     else
      optE (s8 l) (fun r11 =>
       optE (oz7e (r11, limit)) (fun r12 =>
        optE (s9 (l, limit)) (fun r13 =>
         bif r13 != 0 then
          bif r12.2 == r13 then
           some ((r12.1.length : Int) == 0)
          else
           some (false)
         else
          optE (o10n5 (l, limit)) (fun r14 =>
           bif !r14.2 then
            bif r12.2 == 12 then
             some ((r12.1.length : Int) == 0)
            else
             some (false)
           else
            bif r12.2 != 0 then
             some (false)
            else
             optE (s11 (r12.1, r14.1)) (fun r15 =>
              bif !r15 then
               some (false)
              else
               optE (loopVal step3_0 (l, r12.1, 0, limit)) (fun e16 =>
                sumE e16 (fun e17 =>
                 some (e17)) (fun _ =>
                 some (true)))
                (none))
              (none))
           (none))
         (none))
        (none))
       (none))
     (none)
theorem i3 : ItemOk Tryd.prog (.fn 3 [.d (.slice (.agg (.pair zI zP))), .d (.agg zP)] [.d .bool] s3) := item_fnM md7 ext7 (U := 9) (n := 12) noSpecial mixed Gt1K6_ok (fun x => by kernel_rfl)
noncomputable def Gt1K7 : List Ev.Item := .fn 3 [.d (.slice (.agg (.pair zI zP))), .d (.agg zP)] [.d .bool] s3 :: Gt1K6
theorem Gt1K7_ok : ∀ q ∈ Gt1K7, ItemOk Tryd.prog q := items_cons i3 Gt1K6_ok
end Go.Proofs.YtdoehknomnhlkaaDoor
