import Derived.Test.YtfmfiflpokogiaaDoorGc7
set_option linter.unusedSimpArgs false
set_option maxRecDepth 100000
namespace Go.Proofs.YtfmfiflpokogiaaDoor
open Go.Ev
@[reducible] def T77_2 : Tmpl := ⟨98, [(5, .ref 5 0 0 0)], [.val 3 (.slice (.agg (.pair zP (.pair zI (.pair zI .bool))))), .val 14 (.slice (.agg (.pair zP (.pair zI (.pair zI .bool))))), .val 15 zI, .val 16 zI, .val 23 (.slice (.agg (.pair zP (.pair zI (.pair zI .bool))))), .val 24 zI, .val 25 zI, .cells 5 [.d (.pair zP (.pair zI (.pair zI .bool)))]], [], none⟩
@[reducible] def X77_2 : List (Ex × Tmpl) := [(.ret, ⟨98, [], [.val 2 .bool], [], none⟩), (.exit 2, ⟨98, [], [.val 3 (.slice (.agg (.pair zP (.pair zI (.pair zI .bool))))), .val 14 (.slice (.agg (.pair zP (.pair zI (.pair zI .bool))))), .val 15 zI, .val 16 zI], [], none⟩)]
noncomputable def step77_2 : (List ((Int × Int) × Int × Int × Bool)) × (List ((Int × Int) × Int × Int × Bool)) × Int × Int × (List ((Int × Int) × Int × Int × Bool)) × Int × Int × ((Int × Int) × Int × Int × Bool) → Option (((List ((Int × Int) × Int × Int × Bool)) × (List ((Int × Int) × Int × Int × Bool)) × Int × Int × (List ((Int × Int) × Int × Int × Bool)) × Int × Int × ((Int × Int) × Int × Int × Bool)) ⊕ ((Bool) ⊕ ((List ((Int × Int) × Int × Int × Bool)) × (List ((Int × Int) × Int × Int × Bool)) × Int × Int))) := fun (all0, t14, t15, t16, t23, t24, t25, r0) =>
 bif decide (t25 < t24) then
  bif inBounds t25 t23.length then
   optE (s115 (r0.1, (t23.getD t25.toNat ((0, 0), 0, 0, false)).1)) (fun r2 =>
    bif r2 == 0 then
     bif r0.1.1 == (wr (-(t23.getD t25.toNat ((0, 0), 0, 0, false)).1.1)) then
      optE (s117 (t23.getD t25.toNat ((0, 0), 0, 0, false)).1) (fun r3 =>
       optE (s116 (r0.1, r3)) (fun r4 =>
        bif decide (r4 > 0) then
         optE (s118 (r0, (t23.getD t25.toNat ((0, 0), 0, 0, false)))) (fun r5 =>
          bif !r5 then
           some (.inr (.inl false))
          else
           some (.inl (all0, t14, t15, t16, t23, t24, wr (t25 + 1), r0)))
          (none)
        else
         some (.inl (all0, t14, t15, t16, t23, t24, wr (t25 + 1), r0)))
        (none))
       (none)
     else
      some (.inl (all0, t14, t15, t16, t23, t24, wr (t25 + 1), r0))
    else
     some (.inl (all0, t14, t15, t16, t23, t24, wr (t25 + 1), r0)))
    (none)
  else
   none
 else
  some (.inr (.inr (all0, t14, t15, t16)))
theorem one77_2 : oneLoop Tryd.prog 77 2 = true := by kernel_rfl
theorem lp77_2 : ItemOk Tryd.prog (.loop 77 2 T77_2 X77_2 (loopVal step77_2)) := item_loopM md7 ext7 (U := 9) (n := 3) noSpecial mixed Gc7K3_ok one77_2 (fun x => by kernel_rfl)
noncomputable def Gc8K1 : List Ev.Item := .loop 77 2 T77_2 X77_2 (loopVal step77_2) :: Gc7K3
theorem Gc8K1_ok : ∀ q ∈ Gc8K1, ItemOk Tryd.prog q := items_cons lp77_2 Gc7K3_ok
@[reducible] def T77_0 : Tmpl := ⟨98, [], [.val 3 (.slice (.agg (.pair zP (.pair zI (.pair zI .bool))))), .val 14 (.slice (.agg (.pair zP (.pair zI (.pair zI .bool))))), .val 15 zI, .val 16 zI], [], none⟩
@[reducible] def X77_0 : List (Ex × Tmpl) := [(.ret, ⟨98, [], [.val 2 .bool], [], none⟩), (.exit 0, ⟨98, [], [.val 3 (.slice (.agg (.pair zP (.pair zI (.pair zI .bool)))))], [], none⟩)]
noncomputable def step77_0 : (List ((Int × Int) × Int × Int × Bool)) × (List ((Int × Int) × Int × Int × Bool)) × Int × Int → Option (((List ((Int × Int) × Int × Int × Bool)) × (List ((Int × Int) × Int × Int × Bool)) × Int × Int) ⊕ ((Bool) ⊕ (List ((Int × Int) × Int × Int × Bool)))) := fun (all0, t14, t15, t16) =>
 bif decide (t16 < t15) then
  bif inBounds t16 t14.length then
   bif (decide (0 ≤ t16)) && (decide (t16 ≤ (all0.length : Int))) then
    optE (loopVal step77_2 (all0, t14, t15, t16, all0.take t16.toNat, ((all0.take t16.toNat).length : Int), 0, (t14.getD t16.toNat ((0, 0), 0, 0, false)))) (fun e2 =>
     sumE e2 (fun e3 =>
      some (.inr (.inl e3))) (fun e4 =>
      some (.inl (e4.1, e4.2.1, e4.2.2.1, wr (e4.2.2.2 + 1)))))
     (none)
   else
    none
  else
   none
 else
  some (.inr (.inr all0))
theorem one77_0 : oneLoop Tryd.prog 77 0 = true := by kernel_rfl
theorem lp77_0 : ItemOk Tryd.prog (.loop 77 0 T77_0 X77_0 (loopVal step77_0)) := item_loopM md7 ext7 (U := 9) (n := 3) noSpecial mixed Gc8K1_ok one77_0 (fun x => by kernel_rfl)
noncomputable def Gc8K2 : List Ev.Item := .loop 77 0 T77_0 X77_0 (loopVal step77_0) :: Gc8K1
theorem Gc8K2_ok : ∀ q ∈ Gc8K2, ItemOk Tryd.prog q := items_cons lp77_0 Gc8K1_ok
noncomputable def s77 : List (Int × Int × Int × Int × Int) → Option (Bool) := fun l =>
 optE (s114 l) (fun r1 =>
  optE (loopVal step77_0 (r1, r1, (r1.length : Int), 0)) (fun e2 =>
   sumE e2 (fun e3 =>
    some (e3)) (fun e4 =>
    optE (s108 (e4, (0, (-1)))) (fun r5 =>
     optE (s108 (e4, (0, 1))) (fun r6 =>
      bif !r5.2 then
       some (true)
      else
       bif !r6.2 then
        some (true)
       else
        some (decide ((wr ((wr (-r5.1.2)) * r6.1.1.2)) ≤ (wr (r6.1.2 * r5.1.1.2)))))
      (none))
     (none)))
   (none))
  (none)
theorem i77 : ItemOk Tryd.prog (.fn 77 [.d zS] [.d .bool] s77) := item_fnM md7 ext7 (U := 9) (n := 4) noSpecial mixed Gc8K2_ok (fun x => by kernel_rfl)
noncomputable def Gc8K3 : List Ev.Item := .fn 77 [.d zS] [.d .bool] s77 :: Gc8K2
theorem Gc8K3_ok : ∀ q ∈ Gc8K3, ItemOk Tryd.prog q := items_cons i77 Gc8K2_ok
noncomputable def s119 : ((List (Int × Bool × Int)) × Int) × Int → Option (Int × Int) := fun b =>
 optE (s99 (b.2, b.1.2)) (fun r1 =>
  some (r1))
  (none)
theorem i119 : ItemOk Tryd.prog (.fn 119 [.d (.agg (.pair (.pair (.slice (.agg (.pair zI (.pair .bool zI)))) zI) zI))] [.d (.agg zP)] s119) := item_fnM md7 ext7 (U := 9) (n := 4) noSpecial mixed Gc8K3_ok (fun x => by kernel_rfl)
noncomputable def Gc8K4 : List Ev.Item := .fn 119 [.d (.agg (.pair (.pair (.slice (.agg (.pair zI (.pair .bool zI)))) zI) zI))] [.d (.agg zP)] s119 :: Gc8K3
theorem Gc8K4_ok : ∀ q ∈ Gc8K4, ItemOk Tryd.prog q := items_cons i119 Gc8K3_ok
noncomputable def s81 : (List (Int × Int × Int × Int × Int)) × (Int × Int) → Option (((Int × Int) × Int × Int) × Int) := fun (l, of) =>
 optE (s77 l) (fun r1 =>
  bif !r1 then
   some ((((0, 0), 0, 0), 13))
  else
   optE (s114 l) (fun r2 =>
    optE (s117 of) (fun r3 =>
     optE (s108 (r2, r3)) (fun r4 =>
      optE (s108 (r2, of)) (fun r5 =>
       bif !r4.2 then
        some ((((0, 0), 0, 0), 22))
       else
        bif !r5.2 then
         some ((((0, 0), 0, 0), 22))
        else
         optE (s119 r4.1) (fun r6 =>
          optE (s119 r5.1) (fun r7 =>
           some ((((wr (-r6.1), r6.2), r7.1, r7.2), 0)))
           (none))
          (none))
       (none))
      (none))
     (none))
    (none))
  (none)
theorem i81 : ItemOk Tryd.prog (.fn 81 [.d zS, .d (.agg zP)] [.d (.agg (.pair zP zP)), .d zI] s81) := item_fnM md7 ext7 (U := 9) (n := 4) noSpecial mixed Gc8K4_ok (fun x => by kernel_rfl)
noncomputable def Gc8K5 : List Ev.Item := .fn 81 [.d zS, .d (.agg zP)] [.d (.agg (.pair zP zP)), .d zI] s81 :: Gc8K4
theorem Gc8K5_ok : ∀ q ∈ Gc8K5, ItemOk Tryd.prog q := items_cons i81 Gc8K4_ok
noncomputable def s24 : (List (Int × Int × Int × Int × Int)) × Int → Option (((Int × Int) × Int × Int) × Int) := fun (l, time) =>
 optE (s18 l) (fun r1 =>
  bif (firstE [r1.2, unl (win time 0 1000) 2]) != 0 then
   some ((((0, 0), 0, 0), firstE [r1.2, unl (win time 0 1000) 2]))
  else
   optE (s81 (l, (1, time))) (fun r2 =>
    some (r2))
    (none))
  (none)
theorem i24 : ItemOk Tryd.prog (.fn 24 [.d zS, .d zI] [.d (.agg (.pair zP zP)), .d zI] s24) := item_fnM md7 ext7 (U := 9) (n := 4) noSpecial mixed Gc8K5_ok (fun x => by kernel_rfl)
noncomputable def Gc8K6 : List Ev.Item := .fn 24 [.d zS, .d zI] [.d (.agg (.pair zP zP)), .d zI] s24 :: Gc8K5
theorem Gc8K6_ok : ∀ q ∈ Gc8K6, ItemOk Tryd.prog q := items_cons i24 Gc8K5_ok
noncomputable def s27 : List (Int × Int × Int × Int × Int) → Option (((Int × Int) × Int × Int) × Int) := fun l =>
 optE (s18 l) (fun r1 =>
  bif r1.2 != 0 then
   some ((((0, 0), 0, 0), r1.2))
  else
   optE (s81 (l, (0, 1))) (fun r2 =>
    some (r2))
    (none))
  (none)
theorem i27 : ItemOk Tryd.prog (.fn 27 [.d zS] [.d (.agg (.pair zP zP)), .d zI] s27) := item_fnM md7 ext7 (U := 9) (n := 4) noSpecial mixed Gc8K6_ok (fun x => by kernel_rfl)
noncomputable def Gc8K7 : List Ev.Item := .fn 27 [.d zS] [.d (.agg (.pair zP zP)), .d zI] s27 :: Gc8K6
theorem Gc8K7_ok : ∀ q ∈ Gc8K7, ItemOk Tryd.prog q := items_cons i27 Gc8K6_ok
@[reducible] def T109_0 : Tmpl := ⟨25, [], [.val 0 zS, .own 3 23 161 (.agg (.pair zI zP)), .val 4 zI], [], none⟩
@[reducible] def X109_0 : List (Ex × Tmpl) := [(.exit 0, ⟨25, [], [.own 3 23 161 (.agg (.pair zI zP))], [], none⟩)]
noncomputable def step109_0 : (List (Int × Int × Int × Int × Int)) × (List (Int × Int × Int)) × Int → Option (((List (Int × Int × Int × Int × Int)) × (List (Int × Int × Int)) × Int) ⊕ (List (Int × Int × Int))) := fun (l, out, i) =>
 bif decide (i < (l.length : Int)) then
  bif inBounds i l.length then
   optE (s100 ((l.getD i.toNat (0, 0, 0, 0, 0)), true)) (fun r1 =>
    bif inBounds i l.length then
     optE (s100 ((l.getD i.toNat (0, 0, 0, 0, 0)), false)) (fun r2 =>
      bif room 24 (out.length + 2) then
       some (.inl (l, out ++ [r1, r2], wr (i + 1)))
      else
       none)
      (none)
    else
     none)
    (none)
  else
   none
 else
  some (.inr out)
theorem one109_0 : oneLoop Tryd.prog 109 0 = true := by kernel_rfl
theorem lp109_0 : ItemOk Tryd.prog (.loop 109 0 T109_0 X109_0 (loopVal step109_0)) := item_loopM md7 ext7 (U := 9) (n := 3) noSpecial mixed Gc8K7_ok one109_0 (fun x => by kernel_rfl)
noncomputable def Gc8K8 : List Ev.Item := .loop 109 0 T109_0 X109_0 (loopVal step109_0) :: Gc8K7
theorem Gc8K8_ok : ∀ q ∈ Gc8K8, ItemOk Tryd.prog q := items_cons lp109_0 Gc8K7_ok
noncomputable def s109 : List (Int × Int × Int × Int × Int) → Option (List (Int × Int × Int)) := fun l =>
 optE (loopVal step109_0 (l, [], 0)) (fun e1 =>
  some (e1))
  (none)
theorem i109 : ItemOk Tryd.prog (.fn 109 [.d zS] [.own 161 (.agg (.pair zI zP))] s109) := item_fnM md7 ext7 (U := 9) (n := 4) noSpecial mixed Gc8K8_ok (fun x => by kernel_rfl)
noncomputable def Gc8K9 : List Ev.Item := .fn 109 [.d zS] [.own 161 (.agg (.pair zI zP))] s109 :: Gc8K8
theorem Gc8K9_ok : ∀ q ∈ Gc8K9, ItemOk Tryd.prog q := items_cons i109 Gc8K8_ok
noncomputable def s130 : (Int × Int × Int) × (Int × Int × Int) → Option (Int) := fun (g, h) =>
 some (wr ((wr (g.1 * h.2.1)) - (wr (g.2.1 * h.1))))
theorem i130 : ItemOk Tryd.prog (.fn 130 [.d (.agg (.pair zI zP)), .d (.agg (.pair zI zP))] [.d zI] s130) := item_fnM md7 ext7 (U := 9) (n := 4) noSpecial mixed Gc8K9_ok (fun x => by kernel_rfl)
noncomputable def Gc8K10 : List Ev.Item := .fn 130 [.d (.agg (.pair zI zP)), .d (.agg (.pair zI zP))] [.d zI] s130 :: Gc8K9
theorem Gc8K10_ok : ∀ q ∈ Gc8K10, ItemOk Tryd.prog q := items_cons i130 Gc8K9_ok
@[reducible] def T110_4 : Tmpl := ⟨152, [], [.val 0 (.slice (.agg (.pair zI zP))), .val 3 zI, .val 4 zI, .val 9 zI], [], none⟩
@[reducible] def X110_4 : List (Ex × Tmpl) := [(.ret, ⟨152, [], [.val 2 .bool], [], none⟩), (.exit 4, ⟨152, [], [.val 0 (.slice (.agg (.pair zI zP))), .val 3 zI, .val 4 zI], [], none⟩)]
noncomputable def step110_4 : (List (Int × Int × Int)) × Int × Int × Int → Option (((List (Int × Int × Int)) × Int × Int × Int) ⊕ ((Bool) ⊕ ((List (Int × Int × Int)) × Int × Int))) := fun (l, i, j, k) =>
 bif decide (k < (l.length : Int)) then
  bif inBounds j l.length then
   bif inBounds k l.length then
    optE (s130 ((l.getD j.toNat (0, 0, 0)), (l.getD k.toNat (0, 0, 0)))) (fun r6 =>
     bif inBounds k l.length then
      bif inBounds i l.length then
       optE (s130 ((l.getD k.toNat (0, 0, 0)), (l.getD i.toNat (0, 0, 0)))) (fun r7 =>
        bif inBounds i l.length then
         bif inBounds j l.length then
          optE (s130 ((l.getD i.toNat (0, 0, 0)), (l.getD j.toNat (0, 0, 0)))) (fun r8 =>
           bif decide (r6 ≥ 0) then
            bif decide (r7 ≥ 0) then
             bif decide (r8 ≥ 0) then
              bif decide ((wr ((wr (r6 + r7)) + r8)) > 0) then
               bif inBounds i l.length then
                bif inBounds j l.length then
                 bif inBounds k l.length then
                  bif decide ((wr ((wr ((wr (r6 * (l.getD i.toNat (0, 0, 0)).2.2)) + (wr (r7 * (l.getD j.toNat (0, 0, 0)).2.2)))) + (wr (r8 * (l.getD k.toNat (0, 0, 0)).2.2)))) < 0) then
                   some (.inr (.inl true))
                  else
                   some (.inl (l, i, j, wr (k + 1)))
                 else
                  none
                else
                 none
               else
                none
              else
               some (.inl (l, i, j, wr (k + 1)))
             else
              some (.inl (l, i, j, wr (k + 1)))
            else
             some (.inl (l, i, j, wr (k + 1)))
           else
            some (.inl (l, i, j, wr (k + 1))))
           (none)
         else
          none
        else
         none)
        (none)
      else
       none
     else
      none)
     (none)
   else
    none
  else
   none
 else
  some (.inr (.inr (l, i, j)))
theorem one110_4 : oneLoop Tryd.prog 110 4 = true := by kernel_rfl
theorem lp110_4 : ItemOk Tryd.prog (.loop 110 4 T110_4 X110_4 (loopVal step110_4)) := item_loopM md7 ext7 (U := 9) (n := 3) noSpecial mixed Gc8K10_ok one110_4 (fun x => by kernel_rfl)
noncomputable def Gc8K11 : List Ev.Item := .loop 110 4 T110_4 X110_4 (loopVal step110_4) :: Gc8K10
theorem Gc8K11_ok : ∀ q ∈ Gc8K11, ItemOk Tryd.prog q := items_cons lp110_4 Gc8K10_ok
@[reducible] def T110_2 : Tmpl := ⟨152, [], [.val 0 (.slice (.agg (.pair zI zP))), .val 3 zI, .val 4 zI], [], none⟩
@[reducible] def X110_2 : List (Ex × Tmpl) := [(.ret, ⟨152, [], [.val 2 .bool], [], none⟩), (.exit 2, ⟨152, [], [.val 0 (.slice (.agg (.pair zI zP))), .val 3 zI], [], none⟩)]
noncomputable def step110_2 : (List (Int × Int × Int)) × Int × Int → Option (((List (Int × Int × Int)) × Int × Int) ⊕ ((Bool) ⊕ ((List (Int × Int × Int)) × Int))) := fun (l, i, j) =>
 bif decide (j < (l.length : Int)) then
  bif inBounds i l.length then
   bif inBounds j l.length then
    optE (s130 ((l.getD i.toNat (0, 0, 0)), (l.getD j.toNat (0, 0, 0)))) (fun r1 =>
     bif r1 == 0 then
      bif decide ((wr ((wr ((l.getD i.toNat (0, 0, 0)).1 * (l.getD j.toNat (0, 0, 0)).1)) + (wr ((l.getD i.toNat (0, 0, 0)).2.1 * (l.getD j.toNat (0, 0, 0)).2.1)))) < 0) then
       optE (s120 (l.getD j.toNat (0, 0, 0)).1) (fun r2 =>
        optE (s120 (l.getD j.toNat (0, 0, 0)).2.1) (fun r3 =>
         optE (s120 (l.getD i.toNat (0, 0, 0)).1) (fun r4 =>
          optE (s120 (l.getD i.toNat (0, 0, 0)).2.1) (fun r5 =>
           bif decide ((wr ((wr ((wr (r2 + r3)) * (l.getD i.toNat (0, 0, 0)).2.2)) + (wr ((wr (r4 + r5)) * (l.getD j.toNat (0, 0, 0)).2.2)))) < 0) then
            some (.inr (.inl true))
           else
            optE (loopVal step110_4 (l, i, j, 0)) (fun e6 =>
             sumE e6 (fun e7 =>
              some (.inr (.inl e7))) (fun e8 =>
              some (.inl (e8.1, e8.2.1, wr (e8.2.2 + 1)))))
             (none))
           (none))
          (none))
         (none))
        (none)
      else
       optE (loopVal step110_4 (l, i, j, 0)) (fun e9 =>
        sumE e9 (fun e10 =>
         some (.inr (.inl e10))) (fun e11 =>
         some (.inl (e11.1, e11.2.1, wr (e11.2.2 + 1)))))
        (none)
     else
      optE (loopVal step110_4 (l, i, j, 0)) (fun e12 =>
       sumE e12 (fun e13 =>
        some (.inr (.inl e13))) (fun e14 =>
        some (.inl (e14.1, e14.2.1, wr (e14.2.2 + 1)))))
       (none))
     (none)
   else
    none
  else
   none
 else
  some (.inr (.inr (l, i)))
theorem one110_2 : oneLoop Tryd.prog 110 2 = true := by kernel_rfl
theorem lp110_2 : ItemOk Tryd.prog (.loop 110 2 T110_2 X110_2 (loopVal step110_2)) := item_loopM md7 ext7 (U := 9) (n := 3) noSpecial mixed Gc8K11_ok one110_2 (fun x => by kernel_rfl)
noncomputable def Gc8K12 : List Ev.Item := .loop 110 2 T110_2 X110_2 (loopVal step110_2) :: Gc8K11
theorem Gc8K12_ok : ∀ q ∈ Gc8K12, ItemOk Tryd.prog q := items_cons lp110_2 Gc8K11_ok
@[reducible] def T110_0 : Tmpl := ⟨152, [], [.val 0 (.slice (.agg (.pair zI zP))), .val 3 zI], [], none⟩
@[reducible] def X110_0 : List (Ex × Tmpl) := [(.ret, ⟨152, [], [.val 2 .bool], [], none⟩), (.exit 0, ⟨152, [], [], [], none⟩)]
noncomputable def step110_0 : (List (Int × Int × Int)) × Int → Option (((List (Int × Int × Int)) × Int) ⊕ ((Bool) ⊕ (Unit))) := fun (l, i) =>
 bif decide (i < (l.length : Int)) then
  optE (loopVal step110_2 (l, i, 0)) (fun e1 =>
   sumE e1 (fun e2 =>
    some (.inr (.inl e2))) (fun e3 =>
    some (.inl (e3.1, wr (e3.2 + 1)))))
   (none)
 else
  some (.inr (.inr ()))
theorem one110_0 : oneLoop Tryd.prog 110 0 = true := by kernel_rfl
theorem lp110_0 : ItemOk Tryd.prog (.loop 110 0 T110_0 X110_0 (loopVal step110_0)) := item_loopM md7 ext7 (U := 9) (n := 3) noSpecial mixed Gc8K12_ok one110_0 (fun x => by kernel_rfl)
noncomputable def Gc8K13 : List Ev.Item := .loop 110 0 T110_0 X110_0 (loopVal step110_0) :: Gc8K12
theorem Gc8K13_ok : ∀ q ∈ Gc8K13, ItemOk Tryd.prog q := items_cons lp110_0 Gc8K12_ok
noncomputable def s110 : List (Int × Int × Int) → Option (Bool) := fun l =>
 optE (loopVal step110_0 (l, 0)) (fun e1 =>
  sumE e1 (fun e2 =>
   some (e2)) (fun _ =>
   some (false)))
  (none)
theorem i110 : ItemOk Tryd.prog (.fn 110 [.d (.slice (.agg (.pair zI zP)))] [.d .bool] s110) := item_fnM md7 ext7 (U := 9) (n := 4) noSpecial mixed Gc8K13_ok (fun x => by kernel_rfl)
noncomputable def Gc8K14 : List Ev.Item := .fn 110 [.d (.slice (.agg (.pair zI zP)))] [.d .bool] s110 :: Gc8K13
theorem Gc8K14_ok : ∀ q ∈ Gc8K14, ItemOk Tryd.prog q := items_cons i110 Gc8K13_ok
noncomputable def s131 : (Int × Int) × (Int × Int) → Option (Int) := fun (a, b) =>
 bif decide ((wr (a.1 * b.2)) < (wr (b.1 * a.2))) then
  some ((-1))
 else
  bif decide ((wr (a.1 * b.2)) > (wr (b.1 * a.2))) then
   some (1)
  else
   some (0)
theorem i131 : ItemOk Tryd.prog (.fn 131 [.d (.agg zP), .d (.agg zP)] [.d zI] s131) := item_fnM md7 ext7 (U := 9) (n := 4) noSpecial mixed Gc8K14_ok (fun x => by kernel_rfl)
noncomputable def Gc8K15 : List Ev.Item := .fn 131 [.d (.agg zP), .d (.agg zP)] [.d zI] s131 :: Gc8K14
theorem Gc8K15_ok : ∀ q ∈ Gc8K15, ItemOk Tryd.prog q := items_cons i131 Gc8K14_ok
@[reducible] def T111_2 : Tmpl := ⟨128, [(6, .ref 6 0 0 0), (8, .ref 8 0 0 0), (10, .ref 10 0 0 0)], [.val 0 (.slice (.agg (.pair zI zP))), .val 1 zI, .val 2 zI, .val 9 .bool, .val 11 zI, .val 12 zI, .cells 6 [.d zP], .cells 8 [.d zP], .cells 10 [.d (.pair zI zP)]], [], none⟩
@[reducible] def X111_2 : List (Ex × Tmpl) := [(.exit 2, ⟨128, [(6, .ref 6 0 0 0), (8, .ref 8 0 0 0), (10, .ref 10 0 0 0)], [.val 0 (.slice (.agg (.pair zI zP))), .val 1 zI, .val 2 zI, .val 9 .bool, .val 11 zI, .cells 6 [.d zP], .cells 8 [.d zP], .cells 10 [.d (.pair zI zP)]], [], none⟩)]
noncomputable def step111_2 : (List (Int × Int × Int)) × Int × Int × Bool × Int × Int × (Int × Int) × (Int × Int) × (Int × Int × Int) → Option (((List (Int × Int × Int)) × Int × Int × Bool × Int × Int × (Int × Int) × (Int × Int) × (Int × Int × Int)) ⊕ ((List (Int × Int × Int)) × Int × Int × Bool × Int × (Int × Int) × (Int × Int) × (Int × Int × Int))) := fun (l, a, b, found, i, j, t6, best, target) =>
 bif decide (j < (l.length : Int)) then
  bif inBounds i l.length then
   bif inBounds j l.length then
    optE (s130 ((l.getD i.toNat (0, 0, 0)), (l.getD j.toNat (0, 0, 0)))) (fun r1 =>
     optE (s130 (target, (l.getD j.toNat (0, 0, 0)))) (fun r2 =>
      optE (s130 ((l.getD i.toNat (0, 0, 0)), target)) (fun r3 =>
       bif decide (r1 < 0) then
        bif (wr (-r1)) == 0 then
         bif i != j then
          some (.inl (l, a, b, found, i, wr (j + 1), t6, best, target))
         else
          optE (s130 ((l.getD i.toNat (0, 0, 0)), target)) (fun r4 =>
           bif r4 != 0 then
            some (.inl (l, a, b, found, i, wr (j + 1), t6, best, target))
           else
            bif decide ((wr ((wr ((l.getD i.toNat (0, 0, 0)).1 * a)) + (wr ((l.getD i.toNat (0, 0, 0)).2.1 * b)))) ≤ 0) then
             some (.inl (l, a, b, found, i, wr (j + 1), t6, best, target))
            else
             optE (s120 (l.getD i.toNat (0, 0, 0)).1) (fun r5 =>
              optE (s120 (l.getD i.toNat (0, 0, 0)).2.1) (fun r6 =>
               optE (s120 a) (fun r7 =>
                optE (s120 b) (fun r8 =>
                 bif decide ((wr (r7 + r8)) < 0) then
                  some (.inl (l, a, b, found, i, wr (j + 1), t6, best, target))
                 else
                  optE (s70 (wr ((wr (r7 + r8)) * (l.getD i.toNat (0, 0, 0)).2.2), wr (r5 + r6))) (fun r9 =>
                   bif !found then
                    some (.inl (l, a, b, true, i, wr (j + 1), t6, r9, target))
                   else
                    optE (s131 (r9, best)) (fun r10 =>
                     bif decide (r10 < 0) then
                      some (.inl (l, a, b, true, i, wr (j + 1), t6, r9, target))
                     else
                      some (.inl (l, a, b, found, i, wr (j + 1), t6, best, target)))
                     (none))
                   (none))
                 (none))
                (none))
               (none))
              (none))
           (none)
        else
         bif decide ((wr (-r2)) < 0) then
          some (.inl (l, a, b, found, i, wr (j + 1), t6, best, target))
         else
          bif decide ((wr (-r3)) < 0) then
           some (.inl (l, a, b, found, i, wr (j + 1), t6, best, target))
          else
           optE (s70 (wr ((wr ((wr (-r2)) * (l.getD i.toNat (0, 0, 0)).2.2)) + (wr ((wr (-r3)) * (l.getD j.toNat (0, 0, 0)).2.2))), wr (-r1))) (fun r11 =>
            bif !found then
             some (.inl (l, a, b, true, i, wr (j + 1), t6, r11, target))
            else
             optE (s131 (r11, best)) (fun r12 =>
              bif decide (r12 < 0) then
               some (.inl (l, a, b, true, i, wr (j + 1), t6, r11, target))
              else
               some (.inl (l, a, b, found, i, wr (j + 1), t6, best, target)))
              (none))
            (none)
       else
        bif r1 == 0 then
         bif i != j then
          some (.inl (l, a, b, found, i, wr (j + 1), t6, best, target))
         else
          optE (s130 ((l.getD i.toNat (0, 0, 0)), target)) (fun r13 =>
           bif r13 != 0 then
            some (.inl (l, a, b, found, i, wr (j + 1), t6, best, target))
           else
            bif decide ((wr ((wr ((l.getD i.toNat (0, 0, 0)).1 * a)) + (wr ((l.getD i.toNat (0, 0, 0)).2.1 * b)))) ≤ 0) then
             some (.inl (l, a, b, found, i, wr (j + 1), t6, best, target))
            else
             optE (s120 (l.getD i.toNat (0, 0, 0)).1) (fun r14 =>
              optE (s120 (l.getD i.toNat (0, 0, 0)).2.1) (fun r15 =>
               optE (s120 a) (fun r16 =>
                optE (s120 b) (fun r17 =>
                 bif decide ((wr (r16 + r17)) < 0) then
                  some (.inl (l, a, b, found, i, wr (j + 1), t6, best, target))
                 else
                  optE (s70 (wr ((wr (r16 + r17)) * (l.getD i.toNat (0, 0, 0)).2.2), wr (r14 + r15))) (fun r18 =>
                   bif !found then
                    some (.inl (l, a, b, true, i, wr (j + 1), t6, r18, target))
                   else
                    optE (s131 (r18, best)) (fun r19 =>
                     bif decide (r19 < 0) then
                      some (.inl (l, a, b, true, i, wr (j + 1), t6, r18, target))
                     else
                      some (.inl (l, a, b, found, i, wr (j + 1), t6, best, target)))
                     (none))
                   (none))
                 (none))
                (none))
               (none))
              (none))
           (none)
        else
         bif decide (r2 < 0) then
          some (.inl (l, a, b, found, i, wr (j + 1), t6, best, target))
         else
          bif decide (r3 < 0) then
           some (.inl (l, a, b, found, i, wr (j + 1), t6, best, target))
          else
           optE (s70 (wr ((wr (r2 * (l.getD i.toNat (0, 0, 0)).2.2)) + (wr (r3 * (l.getD j.toNat (0, 0, 0)).2.2))), r1)) (fun r20 =>
            bif !found then
             some (.inl (l, a, b, true, i, wr (j + 1), t6, r20, target))
            else
             optE (s131 (r20, best)) (fun r21 =>
              bif decide (r21 < 0) then
               some (.inl (l, a, b, true, i, wr (j + 1), t6, r20, target))
              else
               some (.inl (l, a, b, found, i, wr (j + 1), t6, best, target)))
              (none))
            (none))
       (none))
      (none))
     (none)
   else
    none
  else
   none
 else
  some (.inr (l, a, b, found, i, t6, best, target))
theorem one111_2 : oneLoop Tryd.prog 111 2 = true := by kernel_rfl
theorem lp111_2 : ItemOk Tryd.prog (.loop 111 2 T111_2 X111_2 (loopVal step111_2)) := item_loopM md7 ext7 (U := 9) (n := 3) noSpecial mixed Gc8K15_ok one111_2 (fun x => by kernel_rfl)
noncomputable def Gc8K16 : List Ev.Item := .loop 111 2 T111_2 X111_2 (loopVal step111_2) :: Gc8K15
theorem Gc8K16_ok : ∀ q ∈ Gc8K16, ItemOk Tryd.prog q := items_cons lp111_2 Gc8K15_ok
@[reducible] def T111_0 : Tmpl := ⟨128, [(6, .ref 6 0 0 0), (8, .ref 8 0 0 0), (10, .ref 10 0 0 0)], [.val 0 (.slice (.agg (.pair zI zP))), .val 1 zI, .val 2 zI, .val 9 .bool, .val 11 zI, .cells 6 [.d zP], .cells 8 [.d zP], .cells 10 [.d (.pair zI zP)]], [], none⟩
@[reducible] def X111_0 : List (Ex × Tmpl) := [(.exit 0, ⟨128, [(6, .ref 6 0 0 0), (8, .ref 8 0 0 0)], [.val 9 .bool, .cells 6 [.d zP], .cells 8 [.d zP]], [], none⟩)]
noncomputable def step111_0 : (List (Int × Int × Int)) × Int × Int × Bool × Int × (Int × Int) × (Int × Int) × (Int × Int × Int) → Option (((List (Int × Int × Int)) × Int × Int × Bool × Int × (Int × Int) × (Int × Int) × (Int × Int × Int)) ⊕ (Bool × (Int × Int) × (Int × Int))) := fun (l, a, b, found, i, t6, best, target) =>
 bif decide (i < (l.length : Int)) then
  optE (loopVal step111_2 (l, a, b, found, i, 0, t6, best, target)) (fun e1 =>
   some (.inl (e1.1, e1.2.1, e1.2.2.1, e1.2.2.2.1, wr (e1.2.2.2.2.1 + 1), e1.2.2.2.2.2.1, e1.2.2.2.2.2.2.1, e1.2.2.2.2.2.2.2)))
   (none)
 else
  some (.inr (found, t6, best))
theorem one111_0 : oneLoop Tryd.prog 111 0 = true := by kernel_rfl
theorem lp111_0 : ItemOk Tryd.prog (.loop 111 0 T111_0 X111_0 (loopVal step111_0)) := item_loopM md7 ext7 (U := 9) (n := 3) noSpecial mixed Gc8K16_ok one111_0 (fun x => by kernel_rfl)
noncomputable def Gc8K17 : List Ev.Item := .loop 111 0 T111_0 X111_0 (loopVal step111_0) :: Gc8K16
theorem Gc8K17_ok : ∀ q ∈ Gc8K17, ItemOk Tryd.prog q := items_cons lp111_0 Gc8K16_ok
noncomputable def s111 : (List (Int × Int × Int)) × Int × Int → Option ((Int × Int) × Bool) := fun (l, a, b) =>
 optE (loopVal step111_0 (l, a, b, false, 0, (0, 0), (0, 0), (a, b, 0))) (fun e1 =>
  some ((e1.2.2, e1.1)))
  (none)
theorem i111 : ItemOk Tryd.prog (.fn 111 [.d (.slice (.agg (.pair zI zP))), .d zI, .d zI] [.d (.agg zP), .d .bool] s111) := item_fnM md7 ext7 (U := 9) (n := 4) noSpecial mixed Gc8K17_ok (fun x => by kernel_rfl)
noncomputable def Gc8K18 : List Ev.Item := .fn 111 [.d (.slice (.agg (.pair zI zP))), .d zI, .d zI] [.d (.agg zP), .d .bool] s111 :: Gc8K17
theorem Gc8K18_ok : ∀ q ∈ Gc8K18, ItemOk Tryd.prog q := items_cons i111 Gc8K17_ok
noncomputable def s84 : (List (Int × Int × Int × Int × Int)) × Int × Int → Option (((Int × Int) × Int × Int) × Int) := fun (l, a, b) =>
 optE (s109 l) (fun r1 =>
  optE (s110 r1) (fun r2 =>
   bif r2 then
    some ((((0, 0), 0, 0), 13))
   else
    optE (s111 (r1, wr (-a), wr (-b))) (fun r3 =>
     optE (s111 (r1, a, b)) (fun r4 =>
      bif !r3.2 then
       some ((((0, 0), 0, 0), 22))
      else
       bif !r4.2 then
        some ((((0, 0), 0, 0), 22))
       else
        some ((((wr (-r3.1.1), r3.1.2), r4.1.1, r4.1.2), 0)))
      (none))
     (none))
   (none))
  (none)
theorem i84 : ItemOk Tryd.prog (.fn 84 [.d zS, .d zI, .d zI] [.d (.agg (.pair zP zP)), .d zI] s84) := item_fnM md7 ext7 (U := 9) (n := 4) noSpecial mixed Gc8K18_ok (fun x => by kernel_rfl)
noncomputable def Gc8K19 : List Ev.Item := .fn 84 [.d zS, .d zI, .d zI] [.d (.agg (.pair zP zP)), .d zI] s84 :: Gc8K18
theorem Gc8K19_ok : ∀ q ∈ Gc8K19, ItemOk Tryd.prog q := items_cons i84 Gc8K18_ok
noncomputable def s28 : List (Int × Int × Int × Int × Int) → Option (((Int × Int) × Int × Int) × Int) := fun l =>
 optE (s84 (l, 0, 1)) (fun r1 =>
  some (r1))
  (none)
theorem i28 : ItemOk Tryd.prog (.fn 28 [.d zS] [.d (.agg (.pair zP zP)), .d zI] s28) := item_fnM md7 ext7 (U := 9) (n := 4) noSpecial mixed Gc8K19_ok (fun x => by kernel_rfl)
noncomputable def Gc8K20 : List Ev.Item := .fn 28 [.d zS] [.d (.agg (.pair zP zP)), .d zI] s28 :: Gc8K19
theorem Gc8K20_ok : ∀ q ∈ Gc8K20, ItemOk Tryd.prog q := items_cons i28 Gc8K19_ok
noncomputable def s30 : (List (Int × Int × Int × Int × Int)) × Int → Option (((Int × Int) × Int × Int) × Int) := fun (l, time) =>
 optE (s84 (l, 1, time)) (fun r1 =>
  some (r1))
  (none)
theorem i30 : ItemOk Tryd.prog (.fn 30 [.d zS, .d zI] [.d (.agg (.pair zP zP)), .d zI] s30) := item_fnM md7 ext7 (U := 9) (n := 4) noSpecial mixed Gc8K20_ok (fun x => by kernel_rfl)
noncomputable def Gc8K21 : List Ev.Item := .fn 30 [.d zS, .d zI] [.d (.agg (.pair zP zP)), .d zI] s30 :: Gc8K20
theorem Gc8K21_ok : ∀ q ∈ Gc8K21, ItemOk Tryd.prog q := items_cons i30 Gc8K20_ok
noncomputable def s5 : (List (Int × Int × Int × Int × Int)) × Int → Option (Bool) := fun (l, time) =>
 bif !true then
  some (false)
 else
  optE (s21 l) (fun r1 =>
   bif !r1 then
    some (true)
   else
    optE (s19 l) (fun r2 =>
     optE (s24 (r2, time)) (fun r3 =>
      optE (s19 l) (fun r4 =>
       optE (s27 r4) (fun r5 =>
        optE (s23 l) (fun r6 =>
         bif r6 != 0 then
          bif r3.2 == r6 then
           bif r5.2 == r6 then
            bif ((r3.1.1.1 == 0) && ((r3.1.1.2 == 0) && true)) && (((r3.1.2.1 == 0) && ((r3.1.2.2 == 0) && true)) && true) then
             some (((r5.1.1.1 == 0) && ((r5.1.1.2 == 0) && true)) && (((r5.1.2.1 == 0) && ((r5.1.2.2 == 0) && true)) && true))
            else
             some (false)
           else
            some (false)
          else
           some (false)
         else
          optE (s28 l) (fun r7 =>
           bif r5.2 != r7.2 then
            some (false)
           else
            bif !(((r5.1.1.1 == r7.1.1.1) && ((r5.1.1.2 == r7.1.1.2) && true)) && (((r5.1.2.1 == r7.1.2.1) && ((r5.1.2.2 == r7.1.2.2) && true)) && true)) then
             some (false)
            else
             optE (s29 time) (fun r8 =>
              bif r8 != 0 then
               bif r3.2 == r8 then
                some (((r3.1.1.1 == 0) && ((r3.1.1.2 == 0) && true)) && (((r3.1.2.1 == 0) && ((r3.1.2.2 == 0) && true)) && true))
               else
                some (false)
              else
               optE (s30 (l, time)) (fun r9 =>
                bif r3.2 == r9.2 then
                 some (((r3.1.1.1 == r9.1.1.1) && ((r3.1.1.2 == r9.1.1.2) && true)) && (((r3.1.2.1 == r9.1.2.1) && ((r3.1.2.2 == r9.1.2.2) && true)) && true))
                else
                 some (false))
                (none))
              (none))
           (none))
         (none))
        (none))
       (none))
      (none))
     (none))
   (none)
theorem i5 : ItemOk Tryd.prog (.fn 5 [.d zS, .d zI] [.d .bool] s5) := item_fnM md7 ext7 (U := 9) (n := 4) noSpecial mixed Gc8K21_ok (fun x => by kernel_rfl)
noncomputable def Gc8K22 : List Ev.Item := .fn 5 [.d zS, .d zI] [.d .bool] s5 :: Gc8K21
theorem Gc8K22_ok : ∀ q ∈ Gc8K22, ItemOk Tryd.prog q := items_cons i5 Gc8K21_ok
end Go.Proofs.YtfmfiflpokogiaaDoor
