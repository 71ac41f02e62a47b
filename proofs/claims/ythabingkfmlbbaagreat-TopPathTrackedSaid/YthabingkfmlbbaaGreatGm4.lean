/- Printed by gen.py: specifications of functions. -/
import Derived.Test.YthabingkfmlbbaaGreatGm3
set_option linter.unusedSimpArgs false
set_option maxRecDepth 100000
namespace Go.Proofs.YthabingkfmlbbaaGreat
open Go.Ev
noncomputable def s5 : (List (Int × Int × Int × Int)) × Int → Option (Bool) := fun p =>
 some (decide ((p.1.length : Int) ≤ 14))
theorem i5 : ItemOk Tryz.prog (.fn 5 [.d (.agg (.pair (.slice (.agg zF)) zI))] [.d .bool] s5) := item_fnM md5 ext5 (U := 9) (n := 12) noSpecial mixed Gm3K2_ok (fun x => by kernel_rfl)
noncomputable def Gm4K1 : List Ev.Item := .fn 5 [.d (.agg (.pair (.slice (.agg zF)) zI))] [.d .bool] s5 :: Gm3K2
theorem Gm4K1_ok : ∀ q ∈ Gm4K1, ItemOk Tryz.prog q := items_cons i5 Gm3K2_ok
noncomputable def s52 : Int × Int × Int → Option (Bool) := fun v =>
 optE (s27 (v.1, (-100), 100)) (fun r1 =>
  bif r1 then
   optE (s27 (v.2.1, (-100), 100)) (fun r2 =>
    bif r2 then
     optE (s27 (v.2.2, (-100), 100)) (fun r3 =>
      some (r3))
      (none)
    else
     some (false))
    (none)
  else
   some (false))
  (none)
theorem i52 : ItemOk Tryz.prog (.fn 52 [.d (.agg (.pair zI zP))] [.d .bool] s52) := item_fnM md5 ext5 (U := 9) (n := 12) noSpecial mixed Gm4K1_ok (fun x => by kernel_rfl)
noncomputable def Gm4K2 : List Ev.Item := .fn 52 [.d (.agg (.pair zI zP))] [.d .bool] s52 :: Gm4K1
theorem Gm4K2_ok : ∀ q ∈ Gm4K2, ItemOk Tryz.prog q := items_cons i52 Gm4K1_ok
@[reducible] def T25_0 : Tmpl := ⟨53, [(1, .ref 1 0 0 0)], [.val 4 zI, .cells 1 [.d (.pair (.pair zI zP) (.slice (.agg (.pair (.pair zI zP) zP))))]], [], none⟩
@[reducible] def X25_0 : List (Ex × Tmpl) := [(.ret, ⟨53, [], [.val 2 zI, .val 3 zI], [], none⟩), (.exit 0, ⟨53, [], [], [], none⟩)]
noncomputable def step25_0 : Int × ((Int × Int × Int) × List ((Int × Int × Int) × Int × Int)) → Option ((Int × ((Int × Int × Int) × List ((Int × Int × Int) × Int × Int))) ⊕ ((Int × Int) ⊕ (Unit))) := fun (i, s) =>
 bif decide (i < (s.2.length : Int)) then
  bif inBounds i s.2.length then
   optE (s52 (s.2.getD i.toNat ((0, 0, 0), 0, 0)).1) (fun r2 =>
    bif !r2 then
     some (.inr (.inl (i, 2)))
    else
     bif ((s.2.getD i.toNat ((0, 0, 0), 0, 0)).1.1 == 0) && (((s.2.getD i.toNat ((0, 0, 0), 0, 0)).1.2.1 == 0) && (((s.2.getD i.toNat ((0, 0, 0), 0, 0)).1.2.2 == 0) && true)) then
      some (.inr (.inl (i, 11)))
     else
      optE (s27 ((s.2.getD i.toNat ((0, 0, 0), 0, 0)).2.2, 1, 100)) (fun r3 =>
       bif !r3 then
        some (.inr (.inl (i, 2)))
       else
        optE (s27 ((s.2.getD i.toNat ((0, 0, 0), 0, 0)).2.1, 0, (s.2.getD i.toNat ((0, 0, 0), 0, 0)).2.2)) (fun r4 =>
         bif !r4 then
          some (.inr (.inl (i, 2)))
         else
          some (.inl (wr (i + 1), s)))
         (none))
       (none))
    (none)
  else
   none
 else
  some (.inr (.inr ()))
theorem one25_0 : oneLoop Tryz.prog 25 0 = true := by kernel_rfl
theorem lp25_0 : ItemOk Tryz.prog (.loop 25 0 T25_0 X25_0 (loopVal step25_0)) := item_loopM md5 ext5 (U := 9) (n := 11) noSpecial mixed Gm4K2_ok one25_0 (fun x => by kernel_rfl)
noncomputable def Gm4K3 : List Ev.Item := .loop 25 0 T25_0 X25_0 (loopVal step25_0) :: Gm4K2
theorem Gm4K3_ok : ∀ q ∈ Gm4K3, ItemOk Tryz.prog q := items_cons lp25_0 Gm4K2_ok
noncomputable def s25 : (Int × Int × Int) × List ((Int × Int × Int) × Int × Int) → Option (Int × Int) := fun s =>
 optE (s52 s.1) (fun r1 =>
  bif !r1 then
   some ((0, 2))
  else
   bif (s.1.1 == 0) && ((s.1.2.1 == 0) && ((s.1.2.2 == 0) && true)) then
    some ((0, 11))
   else
    bif decide ((s.2.length : Int) > 4) then
     some ((0, 8))
    else
     optE (loopVal step25_0 (0, s)) (fun e2 =>
      sumE e2 (fun e3 =>
       some (e3)) (fun _ =>
       some ((0, 0))))
      (none))
  (none)
theorem i25 : ItemOk Tryz.prog (.fn 25 [.d (.agg (.pair (.pair zI zP) (.slice (.agg (.pair (.pair zI zP) zP)))))] [.d zI, .d zI] s25) := item_fnM md5 ext5 (U := 9) (n := 12) noSpecial mixed Gm4K3_ok (fun x => by kernel_rfl)
noncomputable def Gm4K4 : List Ev.Item := .fn 25 [.d (.agg (.pair (.pair zI zP) (.slice (.agg (.pair (.pair zI zP) zP)))))] [.d zI, .d zI] s25 :: Gm4K3
theorem Gm4K4_ok : ∀ q ∈ Gm4K4, ItemOk Tryz.prog q := items_cons i25 Gm4K3_ok
noncomputable def s109 : Int → Option (Bool) := fun n =>
 optE (s27 (n, 0, 1000000000000)) (fun r1 =>
  some (r1))
  (none)
theorem i109 : ItemOk Tryz.prog (.fn 109 [.d zI] [.d .bool] s109) := item_fnM md5 ext5 (U := 9) (n := 12) noSpecial mixed Gm4K4_ok (fun x => by kernel_rfl)
noncomputable def Gm4K5 : List Ev.Item := .fn 109 [.d zI] [.d .bool] s109 :: Gm4K4
theorem Gm4K5_ok : ∀ q ∈ Gm4K5, ItemOk Tryz.prog q := items_cons i109 Gm4K4_ok
noncomputable def s61 : (Int × Int × Int) × (Int × Int × Int) → Option (Int × Int × Int) := fun (a, b) =>
 some ((wr (a.1 - b.1), wr (a.2.1 - b.2.1), wr (a.2.2 - b.2.2)))
theorem i61 : ItemOk Tryz.prog (.fn 61 [.d (.agg (.pair zI zP)), .d (.agg (.pair zI zP))] [.d (.agg (.pair zI zP))] s61) := item_fnM md5 ext5 (U := 9) (n := 12) noSpecial mixed Gm4K5_ok (fun x => by kernel_rfl)
noncomputable def Gm4K6 : List Ev.Item := .fn 61 [.d (.agg (.pair zI zP)), .d (.agg (.pair zI zP))] [.d (.agg (.pair zI zP))] s61 :: Gm4K5
theorem Gm4K6_ok : ∀ q ∈ Gm4K6, ItemOk Tryz.prog q := items_cons i61 Gm4K5_ok
noncomputable def s113 : (Int × Int × Int) × (Int × Int × Int) → Option (Int) := fun (a, b) =>
 some (wr ((wr ((wr (a.1 * b.1)) + (wr (a.2.1 * b.2.1)))) + (wr (a.2.2 * b.2.2))))
theorem i113 : ItemOk Tryz.prog (.fn 113 [.d (.agg (.pair zI zP)), .d (.agg (.pair zI zP))] [.d zI] s113) := item_fnM md5 ext5 (U := 9) (n := 12) noSpecial mixed Gm4K6_ok (fun x => by kernel_rfl)
noncomputable def Gm4K7 : List Ev.Item := .fn 113 [.d (.agg (.pair zI zP)), .d (.agg (.pair zI zP))] [.d zI] s113 :: Gm4K6
theorem Gm4K7_ok : ∀ q ∈ Gm4K7, ItemOk Tryz.prog q := items_cons i113 Gm4K6_ok
noncomputable def s110 : Int × Int × Int → Option (Int) := fun v =>
 optE (s113 (v, v)) (fun r1 =>
  some (r1))
  (none)
theorem i110 : ItemOk Tryz.prog (.fn 110 [.d (.agg (.pair zI zP))] [.d zI] s110) := item_fnM md5 ext5 (U := 9) (n := 12) noSpecial mixed Gm4K7_ok (fun x => by kernel_rfl)
noncomputable def Gm4K8 : List Ev.Item := .fn 110 [.d (.agg (.pair zI zP))] [.d zI] s110 :: Gm4K7
theorem Gm4K8_ok : ∀ q ∈ Gm4K8, ItemOk Tryz.prog q := items_cons i110 Gm4K7_ok
noncomputable def s103 : (List (Int × Int × Int × Int)) × Int → Option (Int) := fun (l, i) =>
 bif inBounds i l.length then
  optE (s109 (l.getD i.toNat (0, 0, 0, 0)).1) (fun r1 =>
   bif !r1 then
    some (2)
   else
    optE (s27 ((l.getD i.toNat (0, 0, 0, 0)).2.1, (-1000000), 1000000)) (fun r2 =>
     bif !r2 then
      some (2)
     else
      optE (s27 ((l.getD i.toNat (0, 0, 0, 0)).2.2.1, (-1000000), 1000000)) (fun r3 =>
       bif !r3 then
        some (2)
       else
        optE (s27 ((l.getD i.toNat (0, 0, 0, 0)).2.2.2, (-1000000), 1000000)) (fun r4 =>
         bif !r4 then
          some (2)
         else
          bif i == 0 then
           some (0)
          else
           bif inBounds (wr (i - 1)) l.length then
            bif decide ((l.getD i.toNat (0, 0, 0, 0)).1 ≤ (l.getD (wr (i - 1)).toNat (0, 0, 0, 0)).1) then
             some (9)
            else
             bif decide ((wr ((l.getD i.toNat (0, 0, 0, 0)).1 - (l.getD (wr (i - 1)).toNat (0, 0, 0, 0)).1)) > 10000) then
              some (14)
             else
              optE (s61 ((l.getD i.toNat (0, 0, 0, 0)).2, (l.getD (wr (i - 1)).toNat (0, 0, 0, 0)).2)) (fun r5 =>
               optE (s110 r5) (fun r6 =>
                bif decide ((wr (4 * r6)) > (wr ((wr ((l.getD i.toNat (0, 0, 0, 0)).1 - (l.getD (wr (i - 1)).toNat (0, 0, 0, 0)).1)) * (wr ((l.getD i.toNat (0, 0, 0, 0)).1 - (l.getD (wr (i - 1)).toNat (0, 0, 0, 0)).1))))) then
                 some (23)
                else
                 some (0))
                (none))
               (none)
           else
            none)
         (none))
       (none))
     (none))
   (none)
 else
  none
theorem i103 : ItemOk Tryz.prog (.fn 103 [.d (.slice (.agg zF)), .d zI] [.d zI] s103) := item_fnM md5 ext5 (U := 9) (n := 12) noSpecial mixed Gm4K8_ok (fun x => by kernel_rfl)
noncomputable def Gm4K9 : List Ev.Item := .fn 103 [.d (.slice (.agg zF)), .d zI] [.d zI] s103 :: Gm4K8
theorem Gm4K9_ok : ∀ q ∈ Gm4K9, ItemOk Tryz.prog q := items_cons i103 Gm4K8_ok
@[reducible] def T85_0 : Tmpl := ⟨33, [(1, .ref 1 0 0 0)], [.val 4 zI, .cells 1 [.d (.pair (.slice (.agg zF)) zI)]], [], none⟩
@[reducible] def X85_0 : List (Ex × Tmpl) := [(.ret, ⟨33, [], [.val 2 zI, .val 3 zI], [], none⟩), (.exit 0, ⟨33, [(1, .ref 1 0 0 0)], [.cells 1 [.d (.pair (.slice (.agg zF)) zI)]], [], none⟩)]
noncomputable def step85_0 : Int × ((List (Int × Int × Int × Int)) × Int) → Option ((Int × ((List (Int × Int × Int × Int)) × Int)) ⊕ ((Int × Int) ⊕ (((List (Int × Int × Int × Int)) × Int)))) := fun (i, p) =>
 bif decide (i < (p.1.length : Int)) then
  optE (s103 (p.1, i)) (fun r1 =>
   bif r1 != 0 then
    some (.inr (.inl (i, r1)))
   else
    some (.inl (wr (i + 1), p)))
   (none)
 else
  some (.inr (.inr p))
theorem one85_0 : oneLoop Tryz.prog 85 0 = true := by kernel_rfl
theorem lp85_0 : ItemOk Tryz.prog (.loop 85 0 T85_0 X85_0 (loopVal step85_0)) := item_loopM md5 ext5 (U := 9) (n := 11) noSpecial mixed Gm4K9_ok one85_0 (fun x => by kernel_rfl)
noncomputable def Gm4K10 : List Ev.Item := .loop 85 0 T85_0 X85_0 (loopVal step85_0) :: Gm4K9
theorem Gm4K10_ok : ∀ q ∈ Gm4K10, ItemOk Tryz.prog q := items_cons lp85_0 Gm4K9_ok
noncomputable def s85 : (List (Int × Int × Int × Int)) × Int → Option (Int × Int) := fun p =>
 bif (p.1.length : Int) == 0 then
  some ((0, 10))
 else
  bif decide ((p.1.length : Int) > 12) then
   some ((0, 8))
  else
   optE (loopVal step85_0 (0, p)) (fun e1 =>
    sumE e1 (fun e2 =>
     some (e2)) (fun e3 =>
     optE (s27 (e3.2, 0, 1000)) (fun r4 =>
      bif !r4 then
       some ((0, 2))
      else
       some ((0, 0)))
      (none)))
    (none)
theorem i85 : ItemOk Tryz.prog (.fn 85 [.d (.agg (.pair (.slice (.agg zF)) zI))] [.d zI, .d zI] s85) := item_fnM md5 ext5 (U := 9) (n := 12) noSpecial mixed Gm4K10_ok (fun x => by kernel_rfl)
noncomputable def Gm4K11 : List Ev.Item := .fn 85 [.d (.agg (.pair (.slice (.agg zF)) zI))] [.d zI, .d zI] s85 :: Gm4K10
theorem Gm4K11_ok : ∀ q ∈ Gm4K11, ItemOk Tryz.prog q := items_cons i85 Gm4K10_ok
noncomputable def s53 : (List (Int × Int × Int × Int)) × Int → Option (Int) := fun p =>
 optE (s85 p) (fun r1 =>
  some (r1.2))
  (none)
theorem i53 : ItemOk Tryz.prog (.fn 53 [.d (.agg (.pair (.slice (.agg zF)) zI))] [.d zI] s53) := item_fnM md5 ext5 (U := 9) (n := 12) noSpecial mixed Gm4K11_ok (fun x => by kernel_rfl)
noncomputable def Gm4K12 : List Ev.Item := .fn 53 [.d (.agg (.pair (.slice (.agg zF)) zI))] [.d zI] s53 :: Gm4K11
theorem Gm4K12_ok : ∀ q ∈ Gm4K12, ItemOk Tryz.prog q := items_cons i53 Gm4K11_ok
noncomputable def s26 : ((List (Int × Int × Int × Int)) × Int) × ((List (Int × Int × Int × Int)) × Int) → Option (Int) := fun (a, b) =>
 optE (s53 a) (fun r1 =>
  bif r1 != 0 then
   some (r1)
  else
   optE (s53 b) (fun r2 =>
    some (r2))
    (none))
  (none)
theorem i26 : ItemOk Tryz.prog (.fn 26 [.d (.agg (.pair (.slice (.agg zF)) zI)), .d (.agg (.pair (.slice (.agg zF)) zI))] [.d zI] s26) := item_fnM md5 ext5 (U := 9) (n := 12) noSpecial mixed Gm4K12_ok (fun x => by kernel_rfl)
noncomputable def Gm4K13 : List Ev.Item := .fn 26 [.d (.agg (.pair (.slice (.agg zF)) zI)), .d (.agg (.pair (.slice (.agg zF)) zI))] [.d zI] s26 :: Gm4K12
theorem Gm4K13_ok : ∀ q ∈ Gm4K13, ItemOk Tryz.prog q := items_cons i26 Gm4K12_ok
noncomputable def s6 : ((Int × Int × Int) × List ((Int × Int × Int) × Int × Int)) × ((List (Int × Int × Int × Int)) × Int) × (List (Int × Int × Int × Int)) × Int → Option (Int) := fun v =>
 optE (s25 v.1) (fun r1 =>
  bif r1.2 != 0 then
   some (r1.2)
  else
   optE (s26 v.2) (fun r2 =>
    some (r2))
    (none))
  (none)
theorem i6 : ItemOk Tryz.prog (.fn 6 [.d (.agg (.pair (.pair (.pair zI zP) (.slice (.agg (.pair (.pair zI zP) zP)))) (.pair (.pair (.slice (.agg zF)) zI) (.pair (.slice (.agg zF)) zI))))] [.d zI] s6) := item_fnM md5 ext5 (U := 9) (n := 12) noSpecial mixed Gm4K13_ok (fun x => by kernel_rfl)
noncomputable def Gm4K14 : List Ev.Item := .fn 6 [.d (.agg (.pair (.pair (.pair zI zP) (.slice (.agg (.pair (.pair zI zP) zP)))) (.pair (.pair (.slice (.agg zF)) zI) (.pair (.slice (.agg zF)) zI))))] [.d zI] s6 :: Gm4K13
theorem Gm4K14_ok : ∀ q ∈ Gm4K14, ItemOk Tryz.prog q := items_cons i6 Gm4K13_ok
noncomputable def s54 : (List (Int × Int × Int × Int)) × Int → Option (Int) := fun p =>
 bif inBounds 0 p.1.length then
  some ((p.1.getD 0 (0, 0, 0, 0)).1)
 else
  none
theorem i54 : ItemOk Tryz.prog (.fn 54 [.d (.agg (.pair (.slice (.agg zF)) zI))] [.d zI] s54) := item_fnM md5 ext5 (U := 9) (n := 12) noSpecial mixed Gm4K14_ok (fun x => by kernel_rfl)
noncomputable def Gm4K15 : List Ev.Item := .fn 54 [.d (.agg (.pair (.slice (.agg zF)) zI))] [.d zI] s54 :: Gm4K14
theorem Gm4K15_ok : ∀ q ∈ Gm4K15, ItemOk Tryz.prog q := items_cons i54 Gm4K14_ok
noncomputable def s55 : (List (Int × Int × Int × Int)) × Int → Option (Int) := fun p =>
 bif inBounds (wr ((p.1.length : Int) - 1)) p.1.length then
  some ((p.1.getD (wr ((p.1.length : Int) - 1)).toNat (0, 0, 0, 0)).1)
 else
  none
theorem i55 : ItemOk Tryz.prog (.fn 55 [.d (.agg (.pair (.slice (.agg zF)) zI))] [.d zI] s55) := item_fnM md5 ext5 (U := 9) (n := 12) noSpecial mixed Gm4K15_ok (fun x => by kernel_rfl)
noncomputable def Gm4K16 : List Ev.Item := .fn 55 [.d (.agg (.pair (.slice (.agg zF)) zI))] [.d zI] s55 :: Gm4K15
theorem Gm4K16_ok : ∀ q ∈ Gm4K16, ItemOk Tryz.prog q := items_cons i55 Gm4K15_ok
noncomputable def s28 : ((List (Int × Int × Int × Int)) × Int) × Int → Option (Int) := fun (p, time) =>
 optE (s54 p) (fun r1 =>
  optE (s55 p) (fun r2 =>
   optE (s27 (time, r1, r2)) (fun r3 =>
    bif !r3 then
     some (2)
    else
     some (0))
    (none))
   (none))
  (none)
theorem i28 : ItemOk Tryz.prog (.fn 28 [.d (.agg (.pair (.slice (.agg zF)) zI)), .d zI] [.d zI] s28) := item_fnM md5 ext5 (U := 9) (n := 12) noSpecial mixed Gm4K16_ok (fun x => by kernel_rfl)
noncomputable def Gm4K17 : List Ev.Item := .fn 28 [.d (.agg (.pair (.slice (.agg zF)) zI)), .d zI] [.d zI] s28 :: Gm4K16
theorem Gm4K17_ok : ∀ q ∈ Gm4K17, ItemOk Tryz.prog q := items_cons i28 Gm4K16_ok
noncomputable def s8 : ((List (Int × Int × Int × Int)) × Int) × ((List (Int × Int × Int × Int)) × Int) × Int → Option (Int) := fun (a, b, time) =>
 optE (s28 (a, time)) (fun r1 =>
  bif r1 != 0 then
   some (r1)
  else
   optE (s28 (b, time)) (fun r2 =>
    some (r2))
    (none))
  (none)
theorem i8 : ItemOk Tryz.prog (.fn 8 [.d (.agg (.pair (.slice (.agg zF)) zI)), .d (.agg (.pair (.slice (.agg zF)) zI)), .d zI] [.d zI] s8) := item_fnM md5 ext5 (U := 9) (n := 12) noSpecial mixed Gm4K17_ok (fun x => by kernel_rfl)
noncomputable def Gm4K18 : List Ev.Item := .fn 8 [.d (.agg (.pair (.slice (.agg zF)) zI)), .d (.agg (.pair (.slice (.agg zF)) zI)), .d zI] [.d zI] s8 :: Gm4K17
theorem Gm4K18_ok : ∀ q ∈ Gm4K18, ItemOk Tryz.prog q := items_cons i8 Gm4K17_ok
noncomputable def s10 : (List (Int × Int × Int × Int)) × Int → Option ((List (Int × Int × Int × Int)) × Int) := fun p =>
 listE (p.1)
  (some (([], p.2)))
  (fun y1 l2 =>
    bif room 32 (l2.length + 1) then
     some ((y1 :: l2, p.2))
    else
     none)
theorem i10 : ItemOk Tryz.prog (.fn 10 [.d (.agg (.pair (.slice (.agg zF)) zI))] [.d (.agg (.pair (.slice (.agg zF)) zI))] s10) := item_fnM md5 ext5 (U := 9) (n := 12) noSpecial mixed Gm4K18_ok (fun x => by kernel_rfl)
noncomputable def Gm4K19 : List Ev.Item := .fn 10 [.d (.agg (.pair (.slice (.agg zF)) zI))] [.d (.agg (.pair (.slice (.agg zF)) zI))] s10 :: Gm4K18
theorem Gm4K19_ok : ∀ q ∈ Gm4K19, ItemOk Tryz.prog q := items_cons i10 Gm4K18_ok
noncomputable def s104 : Int → Option (Bool) := fun n =>
 optE (s95 (n, 1000000)) (fun r1 =>
  some (r1))
  (none)
theorem i104 : ItemOk Tryz.prog (.fn 104 [.d zI] [.d .bool] s104) := item_fnM md5 ext5 (U := 9) (n := 12) noSpecial mixed Gm4K19_ok (fun x => by kernel_rfl)
noncomputable def Gm4K20 : List Ev.Item := .fn 104 [.d zI] [.d .bool] s104 :: Gm4K19
theorem Gm4K20_ok : ∀ q ∈ Gm4K20, ItemOk Tryz.prog q := items_cons i104 Gm4K19_ok
@[reducible] def T56_0 : Tmpl := ⟨49, [(1, .ref 1 0 0 0)], [.val 5 (.optr (.agg zF)), .val 25 zI, .val 26 zI, .cells 1 [.d (.pair (.slice (.agg zF)) zI)]], [], none⟩
@[reducible] def X56_0 : List (Ex × Tmpl) := [(.ret, ⟨49, [], [.val 2 zI, .val 3 zI], [], none⟩), (.exit 0, ⟨49, [(1, .ref 1 0 0 0)], [.cells 1 [.d (.pair (.slice (.agg zF)) zI)]], [], none⟩)]
noncomputable def step56_0 : (Option (Int × Int × Int × Int)) × Int × Int × ((List (Int × Int × Int × Int)) × Int) → Option (((Option (Int × Int × Int × Int)) × Int × Int × ((List (Int × Int × Int × Int)) × Int)) ⊕ ((Int × Int) ⊕ (((List (Int × Int × Int × Int)) × Int)))) := fun (before, t25, t26, p) =>
 bif decide (t26 < t25) then
  bif inBounds t26 p.1.length then
   optE (s59 (p.1.getD t26.toNat (0, 0, 0, 0)).2) (fun r4 =>
    optE (s48 ((p.1.getD t26.toNat (0, 0, 0, 0)).1, 0, 1000000000000)) (fun r5 =>
     bif r5 then
      optE (s104 r4.1) (fun r6 =>
       bif r6 then
        optE (s104 r4.2.1) (fun r7 =>
         bif r7 then
          optE (s104 r4.2.2) (fun r8 =>
           optE (s47 (r8, 2)) (fun r9 =>
            bif r9 != 0 then
             bif r9 != 0 then
              some (.inr (.inl (t26, r9)))
             else
              bif inBounds t26 p.1.length then
               some (.inl (some (p.1.getD t26.toNat (0, 0, 0, 0)), t25, wr (t26 + 1), p))
              else
               none
            else
             bif !before.isSome then
              bif r9 != 0 then
               some (.inr (.inl (t26, r9)))
              else
               bif inBounds t26 p.1.length then
                some (.inl (some (p.1.getD t26.toNat (0, 0, 0, 0)), t25, wr (t26 + 1), p))
               else
                none
             else
              bif before.isSome then
               bif before.isSome then
                optE (s59 (before.getD (0, 0, 0, 0)).2) (fun r10 =>
                 optE (s60 (r4, r10)) (fun r11 =>
                  optE (s47 (decide ((wr ((p.1.getD t26.toNat (0, 0, 0, 0)).1 - (before.getD (0, 0, 0, 0)).1)) > 0), 9)) (fun r12 =>
                   optE (s47 (decide ((wr ((p.1.getD t26.toNat (0, 0, 0, 0)).1 - (before.getD (0, 0, 0, 0)).1)) ≤ 10000), 14)) (fun r13 =>
                    optE (s89 (r11, r11)) (fun r14 =>
                     optE (s47 (decide ((wr (4 * r14)) ≤ (wr ((wr ((p.1.getD t26.toNat (0, 0, 0, 0)).1 - (before.getD (0, 0, 0, 0)).1)) * (wr ((p.1.getD t26.toNat (0, 0, 0, 0)).1 - (before.getD (0, 0, 0, 0)).1))))), 23)) (fun r15 =>
                      optE (s46 [r12, r13, r15]) (fun r16 =>
                       bif r16 != 0 then
                        some (.inr (.inl (t26, r16)))
                       else
                        bif inBounds t26 p.1.length then
                         some (.inl (some (p.1.getD t26.toNat (0, 0, 0, 0)), t25, wr (t26 + 1), p))
                        else
                         none)
                       (none))
                      (none))
                     (none))
                    (none))
                   (none))
                  (none))
                 (none)
               else
                none
              else
               none)
            (none))
           (none)
         else
          optE (s47 (false, 2)) (fun r17 =>
           bif r17 != 0 then
            bif r17 != 0 then
             some (.inr (.inl (t26, r17)))
            else
             bif inBounds t26 p.1.length then
              some (.inl (some (p.1.getD t26.toNat (0, 0, 0, 0)), t25, wr (t26 + 1), p))
             else
              none
           else
            bif !before.isSome then
             bif r17 != 0 then
              some (.inr (.inl (t26, r17)))
             else
              bif inBounds t26 p.1.length then
               some (.inl (some (p.1.getD t26.toNat (0, 0, 0, 0)), t25, wr (t26 + 1), p))
              else
               none
            else
             bif before.isSome then
              bif before.isSome then
               optE (s59 (before.getD (0, 0, 0, 0)).2) (fun r18 =>
                optE (s60 (r4, r18)) (fun r19 =>
                 optE (s47 (decide ((wr ((p.1.getD t26.toNat (0, 0, 0, 0)).1 - (before.getD (0, 0, 0, 0)).1)) > 0), 9)) (fun r20 =>
                  optE (s47 (decide ((wr ((p.1.getD t26.toNat (0, 0, 0, 0)).1 - (before.getD (0, 0, 0, 0)).1)) ≤ 10000), 14)) (fun r21 =>
                   optE (s89 (r19, r19)) (fun r22 =>
                    optE (s47 (decide ((wr (4 * r22)) ≤ (wr ((wr ((p.1.getD t26.toNat (0, 0, 0, 0)).1 - (before.getD (0, 0, 0, 0)).1)) * (wr ((p.1.getD t26.toNat (0, 0, 0, 0)).1 - (before.getD (0, 0, 0, 0)).1))))), 23)) (fun r23 =>
                     optE (s46 [r20, r21, r23]) (fun r24 =>
                      bif r24 != 0 then
                       some (.inr (.inl (t26, r24)))
                      else
                       bif inBounds t26 p.1.length then
                        some (.inl (some (p.1.getD t26.toNat (0, 0, 0, 0)), t25, wr (t26 + 1), p))
                       else
                        none)
                      (none))
                     (none))
                    (none))
                   (none))
                  (none))
                 (none))
                (none)
              else
               none
             else
              none)
           (none))
         (none)
       else
        optE (s47 (false, 2)) (fun r25 =>
         bif r25 != 0 then
          bif r25 != 0 then
           some (.inr (.inl (t26, r25)))
          else
           bif inBounds t26 p.1.length then
            some (.inl (some (p.1.getD t26.toNat (0, 0, 0, 0)), t25, wr (t26 + 1), p))
           else
            none
         else
          bif !before.isSome then
           bif r25 != 0 then
            some (.inr (.inl (t26, r25)))
           else
            bif inBounds t26 p.1.length then
             some (.inl (some (p.1.getD t26.toNat (0, 0, 0, 0)), t25, wr (t26 + 1), p))
            else
             none
          else
           bif before.isSome then
            bif before.isSome then
             optE (s59 (before.getD (0, 0, 0, 0)).2) (fun r26 =>
              optE (s60 (r4, r26)) (fun r27 =>
               optE (s47 (decide ((wr ((p.1.getD t26.toNat (0, 0, 0, 0)).1 - (before.getD (0, 0, 0, 0)).1)) > 0), 9)) (fun r28 =>
                optE (s47 (decide ((wr ((p.1.getD t26.toNat (0, 0, 0, 0)).1 - (before.getD (0, 0, 0, 0)).1)) ≤ 10000), 14)) (fun r29 =>
                 optE (s89 (r27, r27)) (fun r30 =>
                  optE (s47 (decide ((wr (4 * r30)) ≤ (wr ((wr ((p.1.getD t26.toNat (0, 0, 0, 0)).1 - (before.getD (0, 0, 0, 0)).1)) * (wr ((p.1.getD t26.toNat (0, 0, 0, 0)).1 - (before.getD (0, 0, 0, 0)).1))))), 23)) (fun r31 =>
                   optE (s46 [r28, r29, r31]) (fun r32 =>
                    bif r32 != 0 then
                     some (.inr (.inl (t26, r32)))
                    else
                     bif inBounds t26 p.1.length then
                      some (.inl (some (p.1.getD t26.toNat (0, 0, 0, 0)), t25, wr (t26 + 1), p))
                     else
                      none)
                    (none))
                   (none))
                  (none))
                 (none))
                (none))
               (none))
              (none)
            else
             none
           else
            none)
         (none))
       (none)
     else
      optE (s47 (false, 2)) (fun r33 =>
       bif r33 != 0 then
        bif r33 != 0 then
         some (.inr (.inl (t26, r33)))
        else
         bif inBounds t26 p.1.length then
          some (.inl (some (p.1.getD t26.toNat (0, 0, 0, 0)), t25, wr (t26 + 1), p))
         else
          none
       else
        bif !before.isSome then
         bif r33 != 0 then
          some (.inr (.inl (t26, r33)))
         else
          bif inBounds t26 p.1.length then
           some (.inl (some (p.1.getD t26.toNat (0, 0, 0, 0)), t25, wr (t26 + 1), p))
          else
           none
        else
         bif before.isSome then
          bif before.isSome then
           optE (s59 (before.getD (0, 0, 0, 0)).2) (fun r34 =>
            optE (s60 (r4, r34)) (fun r35 =>
             optE (s47 (decide ((wr ((p.1.getD t26.toNat (0, 0, 0, 0)).1 - (before.getD (0, 0, 0, 0)).1)) > 0), 9)) (fun r36 =>
              optE (s47 (decide ((wr ((p.1.getD t26.toNat (0, 0, 0, 0)).1 - (before.getD (0, 0, 0, 0)).1)) ≤ 10000), 14)) (fun r37 =>
               optE (s89 (r35, r35)) (fun r38 =>
                optE (s47 (decide ((wr (4 * r38)) ≤ (wr ((wr ((p.1.getD t26.toNat (0, 0, 0, 0)).1 - (before.getD (0, 0, 0, 0)).1)) * (wr ((p.1.getD t26.toNat (0, 0, 0, 0)).1 - (before.getD (0, 0, 0, 0)).1))))), 23)) (fun r39 =>
                 optE (s46 [r36, r37, r39]) (fun r40 =>
                  bif r40 != 0 then
                   some (.inr (.inl (t26, r40)))
                  else
                   bif inBounds t26 p.1.length then
                    some (.inl (some (p.1.getD t26.toNat (0, 0, 0, 0)), t25, wr (t26 + 1), p))
                   else
                    none)
                  (none))
                 (none))
                (none))
               (none))
              (none))
             (none))
            (none)
          else
           none
         else
          none)
       (none))
     (none))
    (none)
  else
   none
 else
  some (.inr (.inr p))
theorem one56_0 : oneLoop Tryz.prog 56 0 = true := by kernel_rfl
theorem lp56_0 : ItemOk Tryz.prog (.loop 56 0 T56_0 X56_0 (loopVal step56_0)) := item_loopM md5 ext5 (U := 9) (n := 11) noSpecial mixed Gm4K20_ok one56_0 (fun x => by kernel_rfl)
noncomputable def Gm4K22 : List Ev.Item := .loop 56 0 T56_0 X56_0 (loopVal step56_0) :: Gm4K20
theorem Gm4K22_ok : ∀ q ∈ Gm4K22, ItemOk Tryz.prog q := items_cons lp56_0 Gm4K20_ok
noncomputable def s56 : (List (Int × Int × Int × Int)) × Int → Option (Int × Int) := fun p =>
 optE (s47 (decide ((p.1.length : Int) > 0), 10)) (fun r1 =>
  optE (s47 (decide ((p.1.length : Int) ≤ 12), 8)) (fun r2 =>
   optE (s46 [r1, r2]) (fun r3 =>
    bif r3 != 0 then
     some ((0, r3))
    else
     optE (loopVal step56_0 (none, (p.1.length : Int), 0, p)) (fun e4 =>
      sumE e4 (fun e5 =>
       some (e5)) (fun e6 =>
       optE (s48 (e6.2, 0, 1000)) (fun r7 =>
        optE (s47 (r7, 2)) (fun r8 =>
         some ((0, r8)))
         (none))
        (none)))
      (none))
    (none))
   (none))
  (none)
theorem i56 : ItemOk Tryz.prog (.fn 56 [.d (.agg (.pair (.slice (.agg zF)) zI))] [.d zI, .d zI] s56) := item_fnM md5 ext5 (U := 9) (n := 12) noSpecial mixed Gm4K22_ok (fun x => by kernel_rfl)
noncomputable def Gm4K23 : List Ev.Item := .fn 56 [.d (.agg (.pair (.slice (.agg zF)) zI))] [.d zI, .d zI] s56 :: Gm4K22
theorem Gm4K23_ok : ∀ q ∈ Gm4K23, ItemOk Tryz.prog q := items_cons i56 Gm4K22_ok
@[reducible] def T29_0 : Tmpl := ⟨22, [], [.val 7 (.slice (.agg (.pair (.slice (.agg zF)) zI))), .val 8 zI, .val 9 zI], [], none⟩
@[reducible] def X29_0 : List (Ex × Tmpl) := [(.ret, ⟨22, [], [.val 2 zI], [], none⟩), (.exit 0, ⟨22, [], [], [], none⟩)]
noncomputable def step29_0 : (List ((List (Int × Int × Int × Int)) × Int)) × Int × Int → Option (((List ((List (Int × Int × Int × Int)) × Int)) × Int × Int) ⊕ ((Int) ⊕ (Unit))) := fun (t7, t8, t9) =>
 bif decide (t9 < t8) then
  bif inBounds t9 t7.length then
   optE (s56 (t7.getD t9.toNat ([], 0))) (fun r1 =>
    bif r1.2 != 0 then
     some (.inr (.inl r1.2))
    else
     some (.inl (t7, t8, wr (t9 + 1))))
    (none)
  else
   none
 else
  some (.inr (.inr ()))
theorem one29_0 : oneLoop Tryz.prog 29 0 = true := by kernel_rfl
theorem lp29_0 : ItemOk Tryz.prog (.loop 29 0 T29_0 X29_0 (loopVal step29_0)) := item_loopM md5 ext5 (U := 9) (n := 11) noSpecial mixed Gm4K23_ok one29_0 (fun x => by kernel_rfl)
noncomputable def Gm4K24 : List Ev.Item := .loop 29 0 T29_0 X29_0 (loopVal step29_0) :: Gm4K23
theorem Gm4K24_ok : ∀ q ∈ Gm4K24, ItemOk Tryz.prog q := items_cons lp29_0 Gm4K23_ok
noncomputable def s29 : List ((List (Int × Int × Int × Int)) × Int) → Option (Int) := fun l =>
 optE (loopVal step29_0 (l, (l.length : Int), 0)) (fun e1 =>
  sumE e1 (fun e2 =>
   some (e2)) (fun _ =>
   some (0)))
  (none)
theorem i29 : ItemOk Tryz.prog (.fn 29 [.d (.slice (.agg (.pair (.slice (.agg zF)) zI)))] [.d zI] s29) := item_fnM md5 ext5 (U := 9) (n := 12) noSpecial mixed Gm4K24_ok (fun x => by kernel_rfl)
noncomputable def Gm4K25 : List Ev.Item := .fn 29 [.d (.slice (.agg (.pair (.slice (.agg zF)) zI)))] [.d zI] s29 :: Gm4K24
theorem Gm4K25_ok : ∀ q ∈ Gm4K25, ItemOk Tryz.prog q := items_cons i29 Gm4K24_ok
@[reducible] def T30_0 : Tmpl := ⟨24, [], [.val 0 zI, .val 7 (.slice (.agg (.pair (.slice (.agg zF)) zI))), .val 8 zI, .val 9 zI], [], none⟩
@[reducible] def X30_0 : List (Ex × Tmpl) := [(.ret, ⟨24, [], [.val 4 zI], [], none⟩), (.exit 0, ⟨24, [], [], [], none⟩)]
noncomputable def step30_0 : Int × (List ((List (Int × Int × Int × Int)) × Int)) × Int × Int → Option ((Int × (List ((List (Int × Int × Int × Int)) × Int)) × Int × Int) ⊕ ((Int) ⊕ (Unit))) := fun (time, t7, t8, t9) =>
 bif decide (t9 < t8) then
  bif inBounds t9 t7.length then
   bif inBounds 0 (t7.getD t9.toNat ([], 0)).1.length then
    optE (s57 (t7.getD t9.toNat ([], 0))) (fun r1 =>
     optE (s48 (time, ((t7.getD t9.toNat ([], 0)).1.getD 0 (0, 0, 0, 0)).1, r1)) (fun r2 =>
      bif !r2 then
       some (.inr (.inl 2))
      else
       some (.inl (time, t7, t8, wr (t9 + 1))))
      (none))
     (none)
   else
    none
  else
   none
 else
  some (.inr (.inr ()))
theorem one30_0 : oneLoop Tryz.prog 30 0 = true := by kernel_rfl
theorem lp30_0 : ItemOk Tryz.prog (.loop 30 0 T30_0 X30_0 (loopVal step30_0)) := item_loopM md5 ext5 (U := 9) (n := 11) noSpecial mixed Gm4K25_ok one30_0 (fun x => by kernel_rfl)
noncomputable def Gm4K26 : List Ev.Item := .loop 30 0 T30_0 X30_0 (loopVal step30_0) :: Gm4K25
theorem Gm4K26_ok : ∀ q ∈ Gm4K26, ItemOk Tryz.prog q := items_cons lp30_0 Gm4K25_ok
noncomputable def s30 : Int × (List ((List (Int × Int × Int × Int)) × Int)) → Option (Int) := fun (time, l) =>
 optE (loopVal step30_0 (time, l, (l.length : Int), 0)) (fun e1 =>
  sumE e1 (fun e2 =>
   some (e2)) (fun _ =>
   some (0)))
  (none)
theorem i30 : ItemOk Tryz.prog (.fn 30 [.d zI, .d (.slice (.agg (.pair (.slice (.agg zF)) zI)))] [.d zI] s30) := item_fnM md5 ext5 (U := 9) (n := 12) noSpecial mixed Gm4K26_ok (fun x => by kernel_rfl)
noncomputable def Gm4K27 : List Ev.Item := .fn 30 [.d zI, .d (.slice (.agg (.pair (.slice (.agg zF)) zI)))] [.d zI] s30 :: Gm4K26
theorem Gm4K27_ok : ∀ q ∈ Gm4K27, ItemOk Tryz.prog q := items_cons i30 Gm4K26_ok
@[reducible] def T44_0b : Tmpl := ⟨26, [], [.val 1 (.clo 58 (.pair (.ptr (.pair (.slice (.agg zF)) zI)) (.pair (.ptr zI) .unit))), .val 5 zI, .val 6 zI], [], none⟩
@[reducible] def X44_0b : List (Ex × Tmpl) := [(.exit 0, ⟨26, [], [.val 5 zI], [], none⟩)]
noncomputable def step44_0b : (((List (Int × Int × Int × Int)) × Int) × Int × Unit) × Int × Int → Option (((((List (Int × Int × Int × Int)) × Int) × Int × Unit) × Int × Int) ⊕ (Int)) := fun (f, i, j) =>
 bif decide (i < j) then
  bif inBounds (wr (shrI .u64 (IntKind.u64.wrap (wr (i + j))) 1)) f.1.1.length then
   bif !(decide ((f.1.1.getD (wr (shrI .u64 (IntKind.u64.wrap (wr (i + j))) 1)).toNat (0, 0, 0, 0)).1 ≥ f.2.1)) then
    some (.inl (f, wr ((wr (shrI .u64 (IntKind.u64.wrap (wr (i + j))) 1)) + 1), j))
   else
    some (.inl (f, i, wr (shrI .u64 (IntKind.u64.wrap (wr (i + j))) 1)))
  else
   none
 else
  some (.inr i)
theorem one44_0b : oneLoop Tryz.prog 44 0 = true := by kernel_rfl
theorem lp44_0b : ItemOk Tryz.prog (.loop 44 0 T44_0b X44_0b (loopVal step44_0b)) := item_loopM md5 ext5 (U := 9) (n := 10) noSpecial mixed Gm4K27_ok one44_0b (fun x => by kernel_rfl)
noncomputable def Gm4K28 : List Ev.Item := .loop 44 0 T44_0b X44_0b (loopVal step44_0b) :: Gm4K27
theorem Gm4K28_ok : ∀ q ∈ Gm4K28, ItemOk Tryz.prog q := items_cons lp44_0b Gm4K27_ok
noncomputable def s31 : ((List (Int × Int × Int × Int)) × Int) × Int → Option ((Int × Int × Int) × Int) := fun (p, time) =>
 optE (loopVal step44_0b ((p, time, ()), 0, (p.1.length : Int))) (fun e1 =>
  bif inBounds e1 p.1.length then
   bif (p.1.getD e1.toNat (0, 0, 0, 0)).1 == time then
    optE (s59 (p.1.getD e1.toNat (0, 0, 0, 0)).2) (fun r2 =>
     some ((r2, 1)))
     (none)
   else
    bif inBounds (wr (e1 - 1)) p.1.length then
     optE (s59 (p.1.getD (wr (e1 - 1)).toNat (0, 0, 0, 0)).2) (fun r3 =>
      optE (s59 (p.1.getD e1.toNat (0, 0, 0, 0)).2) (fun r4 =>
       optE (s59 (p.1.getD (wr (e1 - 1)).toNat (0, 0, 0, 0)).2) (fun r5 =>
        optE (s60 (r4, r5)) (fun r6 =>
         some (((wr ((wr (r3.1 * (wr ((p.1.getD e1.toNat (0, 0, 0, 0)).1 - (p.1.getD (wr (e1 - 1)).toNat (0, 0, 0, 0)).1)))) + (wr (r6.1 * (wr (time - (p.1.getD (wr (e1 - 1)).toNat (0, 0, 0, 0)).1))))), wr ((wr (r3.2.1 * (wr ((p.1.getD e1.toNat (0, 0, 0, 0)).1 - (p.1.getD (wr (e1 - 1)).toNat (0, 0, 0, 0)).1)))) + (wr (r6.2.1 * (wr (time - (p.1.getD (wr (e1 - 1)).toNat (0, 0, 0, 0)).1))))), wr ((wr (r3.2.2 * (wr ((p.1.getD e1.toNat (0, 0, 0, 0)).1 - (p.1.getD (wr (e1 - 1)).toNat (0, 0, 0, 0)).1)))) + (wr (r6.2.2 * (wr (time - (p.1.getD (wr (e1 - 1)).toNat (0, 0, 0, 0)).1)))))), wr ((p.1.getD e1.toNat (0, 0, 0, 0)).1 - (p.1.getD (wr (e1 - 1)).toNat (0, 0, 0, 0)).1))))
         (none))
        (none))
       (none))
      (none)
    else
     none
  else
   none)
  (none)
theorem i31 : ItemOk Tryz.prog (.fn 31 [.d (.agg (.pair (.slice (.agg zF)) zI)), .d zI] [.d (.agg (.pair (.pair zI zP) zI))] s31) := item_fnM md5 ext5 (U := 9) (n := 12) noSpecial mixed Gm4K28_ok (fun x => by kernel_rfl)
noncomputable def Gm4K29 : List Ev.Item := .fn 31 [.d (.agg (.pair (.slice (.agg zF)) zI)), .d zI] [.d (.agg (.pair (.pair zI zP) zI))] s31 :: Gm4K28
theorem Gm4K29_ok : ∀ q ∈ Gm4K29, ItemOk Tryz.prog q := items_cons i31 Gm4K28_ok
noncomputable def s32 : Int × Int → Option (Int) := fun (n, by0) =>
 bif !(by0 == 0) then
  bif !(by0 == 0) then
   bif decide ((Int.tmod n by0) < 0) then
    some (wr ((wr (Int.tdiv n by0)) - 1))
   else
    some (wr (Int.tdiv n by0))
  else
   none
 else
  none
theorem i32 : ItemOk Tryz.prog (.fn 32 [.d zI, .d zI] [.d zI] s32) := item_fnM md5 ext5 (U := 9) (n := 12) noSpecial mixed Gm4K29_ok (fun x => by kernel_rfl)
noncomputable def Gm4K30 : List Ev.Item := .fn 32 [.d zI, .d zI] [.d zI] s32 :: Gm4K29
theorem Gm4K30_ok : ∀ q ∈ Gm4K30, ItemOk Tryz.prog q := items_cons i32 Gm4K29_ok
noncomputable def s33 : Int × Int → Option (Int) := fun (n, by0) =>
 optE (s32 (wr (-n), by0)) (fun r1 =>
  some (wr (-r1)))
  (none)
theorem i33 : ItemOk Tryz.prog (.fn 33 [.d zI, .d zI] [.d zI] s33) := item_fnM md5 ext5 (U := 9) (n := 12) noSpecial mixed Gm4K30_ok (fun x => by kernel_rfl)
noncomputable def Gm4K31 : List Ev.Item := .fn 33 [.d zI, .d zI] [.d zI] s33 :: Gm4K30
theorem Gm4K31_ok : ∀ q ∈ Gm4K31, ItemOk Tryz.prog q := items_cons i33 Gm4K30_ok
noncomputable def s9 : ((List (Int × Int × Int × Int)) × Int) × Int → Option (((Int × Int) × (Int × Int) × Int × Int) × Int) := fun (p, time) =>
 optE (s29 [p]) (fun r1 =>
  bif r1 != 0 then
   some ((((0, 0), (0, 0), 0, 0), r1))
  else
   optE (s30 (time, [p])) (fun r2 =>
    bif r2 != 0 then
     some ((((0, 0), (0, 0), 0, 0), r2))
    else
     optE (s31 (p, time)) (fun r3 =>
      optE (s32 (r3.1.1, r3.2)) (fun r4 =>
       optE (s33 (r3.1.1, r3.2)) (fun r5 =>
        optE (s32 (r3.1.2.1, r3.2)) (fun r6 =>
         optE (s33 (r3.1.2.1, r3.2)) (fun r7 =>
          optE (s32 (r3.1.2.2, r3.2)) (fun r8 =>
           optE (s33 (r3.1.2.2, r3.2)) (fun r9 =>
            some ((((wr (r4 - p.2), wr (r5 + p.2)), (wr (r6 - p.2), wr (r7 + p.2)), wr (r8 - p.2), wr (r9 + p.2)), 0)))
            (none))
           (none))
          (none))
         (none))
        (none))
       (none))
      (none))
    (none))
  (none)
theorem i9 : ItemOk Tryz.prog (.fn 9 [.d (.agg (.pair (.slice (.agg zF)) zI)), .d zI] [.d (.agg (.pair zP (.pair zP zP))), .d zI] s9) := item_fnM md5 ext5 (U := 9) (n := 12) noSpecial mixed Gm4K31_ok (fun x => by kernel_rfl)
noncomputable def Gm4K32 : List Ev.Item := .fn 9 [.d (.agg (.pair (.slice (.agg zF)) zI)), .d zI] [.d (.agg (.pair zP (.pair zP zP))), .d zI] s9 :: Gm4K31
theorem Gm4K32_ok : ∀ q ∈ Gm4K32, ItemOk Tryz.prog q := items_cons i9 Gm4K31_ok
noncomputable def s63 : (Int × Int × Int) × Int → Option (Int × Int × Int) := fun (v, n) =>
 some ((wr (v.1 * n), wr (v.2.1 * n), wr (v.2.2 * n)))
theorem i63 : ItemOk Tryz.prog (.fn 63 [.d (.agg (.pair zI zP)), .d zI] [.d (.agg (.pair zI zP))] s63) := item_fnM md5 ext5 (U := 9) (n := 12) noSpecial mixed Gm4K32_ok (fun x => by kernel_rfl)
noncomputable def Gm4K33 : List Ev.Item := .fn 63 [.d (.agg (.pair zI zP)), .d zI] [.d (.agg (.pair zI zP))] s63 :: Gm4K32
theorem Gm4K33_ok : ∀ q ∈ Gm4K33, ItemOk Tryz.prog q := items_cons i63 Gm4K32_ok
noncomputable def s62 : (Int × Int × Int) × (Int × Int × Int) → Option (Int × Int × Int) := fun (a, b) =>
 some ((wr (a.1 + b.1), wr (a.2.1 + b.2.1), wr (a.2.2 + b.2.2)))
theorem i62 : ItemOk Tryz.prog (.fn 62 [.d (.agg (.pair zI zP)), .d (.agg (.pair zI zP))] [.d (.agg (.pair zI zP))] s62) := item_fnM md5 ext5 (U := 9) (n := 12) noSpecial mixed Gm4K33_ok (fun x => by kernel_rfl)
noncomputable def Gm4K34 : List Ev.Item := .fn 62 [.d (.agg (.pair zI zP)), .d (.agg (.pair zI zP))] [.d (.agg (.pair zI zP))] s62 :: Gm4K33
theorem Gm4K34_ok : ∀ q ∈ Gm4K34, ItemOk Tryz.prog q := items_cons i62 Gm4K33_ok
@[reducible] def T34_0 : Tmpl := ⟨79, [(2, .ref 2 0 0 0), (4, .ref 4 0 0 0)], [.val 1 zI, .val 5 zI, .cells 2 [.d (.pair (.slice (.agg zF)) zI)], .cells 4 [.d (.pair (.pair zI zP) zI)]], [], none⟩
@[reducible] def X34_0 : List (Ex × Tmpl) := [(.ret, ⟨79, [(4, .ref 4 0 0 0)], [.cells 4 [.d (.pair (.pair zI zP) zI)]], [], none⟩), (.exit 0, ⟨79, [(4, .ref 4 0 0 0)], [.cells 4 [.d (.pair (.pair zI zP) zI)]], [], none⟩)]
noncomputable def step34_0 : Int × Int × ((List (Int × Int × Int × Int)) × Int) × ((Int × Int × Int) × Int) → Option ((Int × Int × ((List (Int × Int × Int × Int)) × Int) × ((Int × Int × Int) × Int)) ⊕ ((((Int × Int × Int) × Int)) ⊕ (((Int × Int × Int) × Int)))) := fun (time, i, p, t4) =>
 bif decide (i < (p.1.length : Int)) then
  bif inBounds i p.1.length then
   optE (s61 ((p.1.getD i.toNat (0, 0, 0, 0)).2, (0, 0, 0))) (fun r1 =>
    bif (p.1.getD i.toNat (0, 0, 0, 0)).1 == time then
     some (.inr (.inl (r1, 1)))
    else
     bif decide ((wr (i + 1)) < (p.1.length : Int)) then
      bif inBounds (wr (i + 1)) p.1.length then
       bif decide (time < (p.1.getD (wr (i + 1)).toNat (0, 0, 0, 0)).1) then
        bif inBounds (wr (i + 1)) p.1.length then
         optE (s63 (r1, wr ((p.1.getD (wr (i + 1)).toNat (0, 0, 0, 0)).1 - (p.1.getD i.toNat (0, 0, 0, 0)).1))) (fun r2 =>
          optE (s61 ((p.1.getD (wr (i + 1)).toNat (0, 0, 0, 0)).2, (p.1.getD i.toNat (0, 0, 0, 0)).2)) (fun r3 =>
           optE (s63 (r3, wr (time - (p.1.getD i.toNat (0, 0, 0, 0)).1))) (fun r4 =>
            optE (s62 (r2, r4)) (fun r5 =>
             some (.inr (.inl (r5, wr ((p.1.getD (wr (i + 1)).toNat (0, 0, 0, 0)).1 - (p.1.getD i.toNat (0, 0, 0, 0)).1)))))
             (none))
            (none))
           (none))
          (none)
        else
         none
       else
        some (.inl (time, wr (i + 1), p, t4))
      else
       none
     else
      some (.inl (time, wr (i + 1), p, t4)))
    (none)
  else
   none
 else
  some (.inr (.inr t4))
theorem one34_0 : oneLoop Tryz.prog 34 0 = true := by kernel_rfl
theorem lp34_0 : ItemOk Tryz.prog (.loop 34 0 T34_0 X34_0 (loopVal step34_0)) := item_loopM md5 ext5 (U := 9) (n := 11) noSpecial mixed Gm4K34_ok one34_0 (fun x => by kernel_rfl)
noncomputable def Gm4K35 : List Ev.Item := .loop 34 0 T34_0 X34_0 (loopVal step34_0) :: Gm4K34
theorem Gm4K35_ok : ∀ q ∈ Gm4K35, ItemOk Tryz.prog q := items_cons lp34_0 Gm4K34_ok
noncomputable def s34 : ((List (Int × Int × Int × Int)) × Int) × Int → Option ((Int × Int × Int) × Int) := fun (p, time) =>
 optE (loopVal step34_0 (time, 0, p, ((0, 0, 0), 0))) (fun e1 =>
  sumE e1 (fun e2 =>
   some (e2)) (fun _ =>
   some (((0, 0, 0), 1))))
  (none)
theorem i34 : ItemOk Tryz.prog (.fn 34 [.d (.agg (.pair (.slice (.agg zF)) zI)), .d zI] [.d (.agg (.pair (.pair zI zP) zI))] s34) := item_fnM md5 ext5 (U := 9) (n := 12) noSpecial mixed Gm4K35_ok (fun x => by kernel_rfl)
noncomputable def Gm4K36 : List Ev.Item := .fn 34 [.d (.agg (.pair (.slice (.agg zF)) zI)), .d zI] [.d (.agg (.pair (.pair zI zP) zI))] s34 :: Gm4K35
theorem Gm4K36_ok : ∀ q ∈ Gm4K36, ItemOk Tryz.prog q := items_cons i34 Gm4K35_ok
noncomputable def s64 : Int × Int → Option (Int) := fun (n, by0) =>
 bif !(by0 == 0) then
  bif !(by0 == 0) then
   bif decide ((Int.tmod n by0) < 0) then
    some (wr ((wr (Int.tdiv n by0)) - 1))
   else
    some (wr (Int.tdiv n by0))
  else
   none
 else
  none
theorem i64 : ItemOk Tryz.prog (.fn 64 [.d zI, .d zI] [.d zI] s64) := item_fnM md5 ext5 (U := 9) (n := 12) noSpecial mixed Gm4K36_ok (fun x => by kernel_rfl)
noncomputable def Gm4K37 : List Ev.Item := .fn 64 [.d zI, .d zI] [.d zI] s64 :: Gm4K36
theorem Gm4K37_ok : ∀ q ∈ Gm4K37, ItemOk Tryz.prog q := items_cons i64 Gm4K36_ok
noncomputable def s65 : Int × Int → Option (Int) := fun (n, by0) =>
 optE (s64 (wr (-n), by0)) (fun r1 =>
  some (wr (-r1)))
  (none)
theorem i65 : ItemOk Tryz.prog (.fn 65 [.d zI, .d zI] [.d zI] s65) := item_fnM md5 ext5 (U := 9) (n := 12) noSpecial mixed Gm4K37_ok (fun x => by kernel_rfl)
noncomputable def Gm4K38 : List Ev.Item := .fn 65 [.d zI, .d zI] [.d zI] s65 :: Gm4K37
theorem Gm4K38_ok : ∀ q ∈ Gm4K38, ItemOk Tryz.prog q := items_cons i65 Gm4K37_ok
noncomputable def s35 : Int × Int × Int → Option (Int × Int) := fun (n, den, by0) =>
 optE (s64 (n, den)) (fun r1 =>
  optE (s65 (n, den)) (fun r2 =>
   some ((wr (r1 - by0), wr (r2 + by0))))
   (none))
  (none)
theorem i35 : ItemOk Tryz.prog (.fn 35 [.d zI, .d zI, .d zI] [.d (.agg zP)] s35) := item_fnM md5 ext5 (U := 9) (n := 12) noSpecial mixed Gm4K38_ok (fun x => by kernel_rfl)
noncomputable def Gm4K39 : List Ev.Item := .fn 35 [.d zI, .d zI, .d zI] [.d (.agg zP)] s35 :: Gm4K38
theorem Gm4K39_ok : ∀ q ∈ Gm4K39, ItemOk Tryz.prog q := items_cons i35 Gm4K38_ok
noncomputable def s11 : ((List (Int × Int × Int × Int)) × Int) × Int → Option ((Int × Int) × (Int × Int) × Int × Int) := fun (p, time) =>
 optE (s34 (p, time)) (fun r1 =>
  optE (s35 (r1.1.1, r1.2, p.2)) (fun r2 =>
   optE (s35 (r1.1.2.1, r1.2, p.2)) (fun r3 =>
    optE (s35 (r1.1.2.2, r1.2, p.2)) (fun r4 =>
     some ((r2, r3, r4.1, r4.2)))
     (none))
    (none))
   (none))
  (none)
theorem i11 : ItemOk Tryz.prog (.fn 11 [.d (.agg (.pair (.slice (.agg zF)) zI)), .d zI] [.d (.agg (.pair zP (.pair zP zP)))] s11) := item_fnM md5 ext5 (U := 9) (n := 12) noSpecial mixed Gm4K39_ok (fun x => by kernel_rfl)
noncomputable def Gm4K40 : List Ev.Item := .fn 11 [.d (.agg (.pair (.slice (.agg zF)) zI)), .d zI] [.d (.agg (.pair zP (.pair zP zP)))] s11 :: Gm4K39
theorem Gm4K40_ok : ∀ q ∈ Gm4K40, ItemOk Tryz.prog q := items_cons i11 Gm4K39_ok
noncomputable def s36 : Int → Option (Int) := fun n =>
 some (mx n (wr (-n)))
theorem i36 : ItemOk Tryz.prog (.fn 36 [.d zI] [.d zI] s36) := item_fnM md5 ext5 (U := 9) (n := 12) noSpecial mixed Gm4K40_ok (fun x => by kernel_rfl)
noncomputable def Gm4K41 : List Ev.Item := .fn 36 [.d zI] [.d zI] s36 :: Gm4K40
theorem Gm4K41_ok : ∀ q ∈ Gm4K41, ItemOk Tryz.prog q := items_cons i36 Gm4K40_ok
noncomputable def s12 : Int × Int → Option (Int) := fun (x0, y0) =>
 optE (s36 x0) (fun r1 =>
  optE (s36 y0) (fun r2 =>
   bif decide (r1 ≥ r2) then
    bif decide (x0 ≥ 0) then
     some (0)
    else
     some (2)
   else
    bif decide (y0 > 0) then
     some (1)
    else
     some (3))
   (none))
  (none)
theorem i12 : ItemOk Tryz.prog (.fn 12 [.d zI, .d zI] [.d zI] s12) := item_fnM md5 ext5 (U := 9) (n := 12) noSpecial mixed Gm4K41_ok (fun x => by kernel_rfl)
noncomputable def Gm4K42 : List Ev.Item := .fn 12 [.d zI, .d zI] [.d zI] s12 :: Gm4K41
theorem Gm4K42_ok : ∀ q ∈ Gm4K42, ItemOk Tryz.prog q := items_cons i12 Gm4K41_ok
noncomputable def s39 : (Int × Int × Int) × List ((Int × Int × Int) × Int × Int) → Option ((Int × Int × Int) × List ((Int × Int × Int) × Int × Int)) := fun s =>
 listE (s.2)
  (some ((s.1, [])))
  (fun y1 l2 =>
    bif room 40 (l2.length + 1) then
     some ((s.1, y1 :: l2))
    else
     none)
theorem i39 : ItemOk Tryz.prog (.fn 39 [.d (.agg (.pair (.pair zI zP) (.slice (.agg (.pair (.pair zI zP) zP)))))] [.d (.agg (.pair (.pair zI zP) (.slice (.agg (.pair (.pair zI zP) zP)))))] s39) := item_fnM md5 ext5 (U := 9) (n := 12) noSpecial mixed Gm4K42_ok (fun x => by kernel_rfl)
noncomputable def Gm4K43 : List Ev.Item := .fn 39 [.d (.agg (.pair (.pair zI zP) (.slice (.agg (.pair (.pair zI zP) zP)))))] [.d (.agg (.pair (.pair zI zP) (.slice (.agg (.pair (.pair zI zP) zP)))))] s39 :: Gm4K42
theorem Gm4K43_ok : ∀ q ∈ Gm4K43, ItemOk Tryz.prog q := items_cons i39 Gm4K42_ok
noncomputable def s14 : ((Int × Int × Int) × List ((Int × Int × Int) × Int × Int)) × ((List (Int × Int × Int × Int)) × Int) × (List (Int × Int × Int × Int)) × Int → Option (((Int × Int × Int) × List ((Int × Int × Int) × Int × Int)) × ((List (Int × Int × Int × Int)) × Int) × (List (Int × Int × Int × Int)) × Int) := fun v =>
 optE (s39 v.1) (fun r1 =>
  optE (s10 v.2.1) (fun r2 =>
   optE (s10 v.2.2) (fun r3 =>
    some ((r1, r2, r3.1, r3.2)))
    (none))
   (none))
  (none)
theorem i14 : ItemOk Tryz.prog (.fn 14 [.d (.agg (.pair (.pair (.pair zI zP) (.slice (.agg (.pair (.pair zI zP) zP)))) (.pair (.pair (.slice (.agg zF)) zI) (.pair (.slice (.agg zF)) zI))))] [.d (.agg (.pair (.pair (.pair zI zP) (.slice (.agg (.pair (.pair zI zP) zP)))) (.pair (.pair (.slice (.agg zF)) zI) (.pair (.slice (.agg zF)) zI))))] s14) := item_fnM md5 ext5 (U := 9) (n := 12) noSpecial mixed Gm4K43_ok (fun x => by kernel_rfl)
noncomputable def Gm4K44 : List Ev.Item := .fn 14 [.d (.agg (.pair (.pair (.pair zI zP) (.slice (.agg (.pair (.pair zI zP) zP)))) (.pair (.pair (.slice (.agg zF)) zI) (.pair (.slice (.agg zF)) zI))))] [.d (.agg (.pair (.pair (.pair zI zP) (.slice (.agg (.pair (.pair zI zP) zP)))) (.pair (.pair (.slice (.agg zF)) zI) (.pair (.slice (.agg zF)) zI))))] s14 :: Gm4K43
theorem Gm4K44_ok : ∀ q ∈ Gm4K44, ItemOk Tryz.prog q := items_cons i14 Gm4K43_ok
noncomputable def s106 : Int → Option (Bool) := fun n =>
 optE (s95 (n, 100)) (fun r1 =>
  some (r1))
  (none)
theorem i106 : ItemOk Tryz.prog (.fn 106 [.d zI] [.d .bool] s106) := item_fnM md5 ext5 (U := 9) (n := 12) noSpecial mixed Gm4K44_ok (fun x => by kernel_rfl)
noncomputable def Gm4K45 : List Ev.Item := .fn 106 [.d zI] [.d .bool] s106 :: Gm4K44
theorem Gm4K45_ok : ∀ q ∈ Gm4K45, ItemOk Tryz.prog q := items_cons i106 Gm4K44_ok
noncomputable def s88 : Int × Int × Int → Option (Int × Int × Int) := fun v =>
 some (v)
theorem i88 : ItemOk Tryz.prog (.fn 88 [.d (.agg (.pair zI zP))] [.d (.agg (.pair zI zP))] s88) := item_fnM md5 ext5 (U := 9) (n := 12) noSpecial mixed Gm4K45_ok (fun x => by kernel_rfl)
noncomputable def Gm4K46 : List Ev.Item := .fn 88 [.d (.agg (.pair zI zP))] [.d (.agg (.pair zI zP))] s88 :: Gm4K45
theorem Gm4K46_ok : ∀ q ∈ Gm4K46, ItemOk Tryz.prog q := items_cons i88 Gm4K45_ok
noncomputable def s87 : Int × Int × Int → Option (Int) := fun v =>
 optE (s88 v) (fun r1 =>
  optE (s106 r1.1) (fun r2 =>
   bif r2 then
    optE (s106 r1.2.1) (fun r3 =>
     bif r3 then
      optE (s106 r1.2.2) (fun r4 =>
       optE (s47 (r4, 2)) (fun r5 =>
        optE (s47 (!((v.1 == 0) && ((v.2.1 == 0) && ((v.2.2 == 0) && true))), 11)) (fun r6 =>
         optE (s46 [r5, r6]) (fun r7 =>
          some (r7))
          (none))
         (none))
        (none))
       (none)
     else
      optE (s47 (false, 2)) (fun r8 =>
       optE (s47 (!((v.1 == 0) && ((v.2.1 == 0) && ((v.2.2 == 0) && true))), 11)) (fun r9 =>
        optE (s46 [r8, r9]) (fun r10 =>
         some (r10))
         (none))
        (none))
       (none))
     (none)
   else
    optE (s47 (false, 2)) (fun r11 =>
     optE (s47 (!((v.1 == 0) && ((v.2.1 == 0) && ((v.2.2 == 0) && true))), 11)) (fun r12 =>
      optE (s46 [r11, r12]) (fun r13 =>
       some (r13))
       (none))
      (none))
     (none))
   (none))
  (none)
theorem i87 : ItemOk Tryz.prog (.fn 87 [.d (.agg (.pair zI zP))] [.d zI] s87) := item_fnM md5 ext5 (U := 9) (n := 12) noSpecial mixed Gm4K46_ok (fun x => by kernel_rfl)
noncomputable def Gm4K47 : List Ev.Item := .fn 87 [.d (.agg (.pair zI zP))] [.d zI] s87 :: Gm4K46
theorem Gm4K47_ok : ∀ q ∈ Gm4K47, ItemOk Tryz.prog q := items_cons i87 Gm4K46_ok
@[reducible] def T66_0 : Tmpl := ⟨50, [], [.val 22 (.slice (.agg (.pair (.pair zI zP) zP))), .val 23 zI, .val 24 zI], [], none⟩
@[reducible] def X66_0 : List (Ex × Tmpl) := [(.ret, ⟨50, [], [.val 2 zI, .val 3 zI], [], none⟩), (.exit 0, ⟨50, [], [], [], none⟩)]
noncomputable def step66_0 : (List ((Int × Int × Int) × Int × Int)) × Int × Int → Option (((List ((Int × Int × Int) × Int × Int)) × Int × Int) ⊕ ((Int × Int) ⊕ (Unit))) := fun (t22, t23, t24) =>
 bif decide (t24 < t23) then
  bif inBounds t24 t22.length then
   optE (s87 (t22.getD t24.toNat ((0, 0, 0), 0, 0)).1) (fun r4 =>
    optE (s48 ((t22.getD t24.toNat ((0, 0, 0), 0, 0)).2.2, 1, 100)) (fun r5 =>
     bif r5 then
      optE (s48 ((t22.getD t24.toNat ((0, 0, 0), 0, 0)).2.1, 0, (t22.getD t24.toNat ((0, 0, 0), 0, 0)).2.2)) (fun r6 =>
       optE (s47 (r6, 2)) (fun r7 =>
        optE (s46 [r4, r7]) (fun r8 =>
         bif r8 != 0 then
          some (.inr (.inl (t24, r8)))
         else
          some (.inl (t22, t23, wr (t24 + 1))))
         (none))
        (none))
       (none)
     else
      optE (s47 (false, 2)) (fun r9 =>
       optE (s46 [r4, r9]) (fun r10 =>
        bif r10 != 0 then
         some (.inr (.inl (t24, r10)))
        else
         some (.inl (t22, t23, wr (t24 + 1))))
        (none))
       (none))
     (none))
    (none)
  else
   none
 else
  some (.inr (.inr ()))
theorem one66_0 : oneLoop Tryz.prog 66 0 = true := by kernel_rfl
theorem lp66_0 : ItemOk Tryz.prog (.loop 66 0 T66_0 X66_0 (loopVal step66_0)) := item_loopM md5 ext5 (U := 9) (n := 11) noSpecial mixed Gm4K47_ok one66_0 (fun x => by kernel_rfl)
noncomputable def Gm4K48 : List Ev.Item := .loop 66 0 T66_0 X66_0 (loopVal step66_0) :: Gm4K47
theorem Gm4K48_ok : ∀ q ∈ Gm4K48, ItemOk Tryz.prog q := items_cons lp66_0 Gm4K47_ok
noncomputable def s66 : (Int × Int × Int) × List ((Int × Int × Int) × Int × Int) → Option (Int × Int) := fun s =>
 optE (s87 s.1) (fun r1 =>
  optE (s47 (decide ((s.2.length : Int) ≤ 4), 8)) (fun r2 =>
   optE (s46 [r1, r2]) (fun r3 =>
    bif r3 != 0 then
     some ((0, r3))
    else
     optE (loopVal step66_0 (s.2, (s.2.length : Int), 0)) (fun e4 =>
      sumE e4 (fun e5 =>
       some (e5)) (fun _ =>
       some ((0, 0))))
      (none))
    (none))
   (none))
  (none)
theorem i66 : ItemOk Tryz.prog (.fn 66 [.d (.agg (.pair (.pair zI zP) (.slice (.agg (.pair (.pair zI zP) zP)))))] [.d zI, .d zI] s66) := item_fnM md5 ext5 (U := 9) (n := 12) noSpecial mixed Gm4K48_ok (fun x => by kernel_rfl)
noncomputable def Gm4K49 : List Ev.Item := .fn 66 [.d (.agg (.pair (.pair zI zP) (.slice (.agg (.pair (.pair zI zP) zP)))))] [.d zI, .d zI] s66 :: Gm4K48
theorem Gm4K49_ok : ∀ q ∈ Gm4K49, ItemOk Tryz.prog q := items_cons i66 Gm4K48_ok
noncomputable def s37 : ((Int × Int × Int) × List ((Int × Int × Int) × Int × Int)) × ((List (Int × Int × Int × Int)) × Int) × (List (Int × Int × Int × Int)) × Int → Option (Int) := fun v =>
 optE (s66 v.1) (fun r1 =>
  optE (s29 [v.2.1, v.2.2]) (fun r2 =>
   optE (s46 [r1.2, r2]) (fun r3 =>
    some (r3))
    (none))
   (none))
  (none)
theorem i37 : ItemOk Tryz.prog (.fn 37 [.d (.agg (.pair (.pair (.pair zI zP) (.slice (.agg (.pair (.pair zI zP) zP)))) (.pair (.pair (.slice (.agg zF)) zI) (.pair (.slice (.agg zF)) zI))))] [.d zI] s37) := item_fnM md5 ext5 (U := 9) (n := 12) noSpecial mixed Gm4K49_ok (fun x => by kernel_rfl)
noncomputable def Gm4K50 : List Ev.Item := .fn 37 [.d (.agg (.pair (.pair (.pair zI zP) (.slice (.agg (.pair (.pair zI zP) zP)))) (.pair (.pair (.slice (.agg zF)) zI) (.pair (.slice (.agg zF)) zI))))] [.d zI] s37 :: Gm4K49
theorem Gm4K50_ok : ∀ q ∈ Gm4K50, ItemOk Tryz.prog q := items_cons i37 Gm4K49_ok
noncomputable def s49 : ((List (Int × Int × Int × Int)) × Int) × Int × ((List (Int × Int × Int × Int)) × Int) × Int → Option (((Int × Int × Int) × Int) × Int) := fun (a, s, b, r0) =>
 optE (s31 (a, s)) (fun r1 =>
  optE (s31 (b, r0)) (fun r2 =>
   some ((((wr ((wr (r2.1.1 * r1.2)) - (wr (r1.1.1 * r2.2))), wr ((wr (r2.1.2.1 * r1.2)) - (wr (r1.1.2.1 * r2.2))), wr ((wr (r2.1.2.2 * r1.2)) - (wr (r1.1.2.2 * r2.2)))), wr (r1.2 * r2.2)), wr (a.2 + b.2))))
   (none))
  (none)
theorem i49 : ItemOk Tryz.prog (.fn 49 [.d (.agg (.pair (.slice (.agg zF)) zI)), .d zI, .d (.agg (.pair (.slice (.agg zF)) zI)), .d zI] [.d (.agg (.pair (.pair (.pair zI zP) zI) zI))] s49) := item_fnM md5 ext5 (U := 9) (n := 12) noSpecial mixed Gm4K50_ok (fun x => by kernel_rfl)
noncomputable def Gm4K51 : List Ev.Item := .fn 49 [.d (.agg (.pair (.slice (.agg zF)) zI)), .d zI, .d (.agg (.pair (.slice (.agg zF)) zI)), .d zI] [.d (.agg (.pair (.pair (.pair zI zP) zI) zI))] s49 :: Gm4K50
theorem Gm4K51_ok : ∀ q ∈ Gm4K51, ItemOk Tryz.prog q := items_cons i49 Gm4K50_ok
@[reducible] def T90_0 : Tmpl := ⟨18, [], [.val 3 zI, .val 6 (.agg (.pair zI zP)), .val 7 zI], [], none⟩
@[reducible] def X90_0 : List (Ex × Tmpl) := [(.exit 0, ⟨18, [], [.val 3 zI], [], none⟩)]
noncomputable def step90_0 : Int × (Int × Int × Int) × Int → Option ((Int × (Int × Int × Int) × Int) ⊕ (Int)) := fun (n, t6, t7) =>
 bif decide (t7 < 3) then
  bif inBounds t7 3 then
   some (.inl (wr (n + (mx ([t6.1, t6.2.1, t6.2.2].getD t7.toNat 0) (wr (-([t6.1, t6.2.1, t6.2.2].getD t7.toNat 0))))), t6, wr (t7 + 1)))
  else
   none
 else
  some (.inr n)
theorem one90_0 : oneLoop Tryz.prog 90 0 = true := by kernel_rfl
theorem lp90_0 : ItemOk Tryz.prog (.loop 90 0 T90_0 X90_0 (loopVal step90_0)) := item_loopM md5 ext5 (U := 9) (n := 11) noSpecial mixed Gm4K51_ok one90_0 (fun x => by kernel_rfl)
noncomputable def Gm4K52 : List Ev.Item := .loop 90 0 T90_0 X90_0 (loopVal step90_0) :: Gm4K51
theorem Gm4K52_ok : ∀ q ∈ Gm4K52, ItemOk Tryz.prog q := items_cons lp90_0 Gm4K51_ok
noncomputable def s90 : Int × Int × Int → Option (Int) := fun t =>
 optE (loopVal step90_0 (0, t, 0)) (fun e1 =>
  some (e1))
  (none)
theorem i90 : ItemOk Tryz.prog (.fn 90 [.d (.agg (.pair zI zP))] [.d zI] s90) := item_fnM md5 ext5 (U := 9) (n := 12) noSpecial mixed Gm4K52_ok (fun x => by kernel_rfl)
noncomputable def Gm4K53 : List Ev.Item := .fn 90 [.d (.agg (.pair zI zP))] [.d zI] s90 :: Gm4K52
theorem Gm4K53_ok : ∀ q ∈ Gm4K53, ItemOk Tryz.prog q := items_cons i90 Gm4K52_ok
noncomputable def s67 : (((Int × Int × Int) × Int) × Int) × (Int × Int × Int) → Option (Int × Int) := fun (g, v) =>
 optE (s88 v) (fun r1 =>
  optE (s89 (r1, g.1.1)) (fun r2 =>
   optE (s90 r1) (fun r3 =>
    some ((wr (r2 - (wr ((wr (g.2 * r3)) * g.1.2))), wr (r2 + (wr ((wr (g.2 * r3)) * g.1.2))))))
    (none))
   (none))
  (none)
theorem i67 : ItemOk Tryz.prog (.fn 67 [.d (.agg (.pair (.pair (.pair zI zP) zI) zI)), .d (.agg (.pair zI zP))] [.d (.agg zP)] s67) := item_fnM md5 ext5 (U := 9) (n := 12) noSpecial mixed Gm4K53_ok (fun x => by kernel_rfl)
noncomputable def Gm4K54 : List Ev.Item := .fn 67 [.d (.agg (.pair (.pair (.pair zI zP) zI) zI)), .d (.agg (.pair zI zP))] [.d (.agg zP)] s67 :: Gm4K53
theorem Gm4K54_ok : ∀ q ∈ Gm4K54, ItemOk Tryz.prog q := items_cons i67 Gm4K53_ok
noncomputable def s69 : ((Int × Int × Int) × Int) × Int → Option (Int × Int) := fun g =>
 optE (s79 (mx 0 (wr ((mx g.1.1.1 (wr (-g.1.1.1))) - (wr (g.2 * g.1.2)))))) (fun r1 =>
  optE (s107 ((0, 0), r1)) (fun r2 =>
   optE (s79 (mx 0 (wr ((mx g.1.1.2.1 (wr (-g.1.1.2.1))) - (wr (g.2 * g.1.2)))))) (fun r3 =>
    optE (s107 (r2, r3)) (fun r4 =>
     optE (s79 (mx 0 (wr ((mx g.1.1.2.2 (wr (-g.1.1.2.2))) - (wr (g.2 * g.1.2)))))) (fun r5 =>
      optE (s107 (r4, r5)) (fun r6 =>
       some (r6))
       (none))
      (none))
     (none))
    (none))
   (none))
  (none)
theorem i69 : ItemOk Tryz.prog (.fn 69 [.d (.agg (.pair (.pair (.pair zI zP) zI) zI))] [.d (.agg (.pair (.int .u64) (.int .u64)))] s69) := item_fnM md5 ext5 (U := 9) (n := 12) noSpecial mixed Gm4K54_ok (fun x => by kernel_rfl)
noncomputable def Gm4K55 : List Ev.Item := .fn 69 [.d (.agg (.pair (.pair (.pair zI zP) zI) zI))] [.d (.agg (.pair (.int .u64) (.int .u64)))] s69 :: Gm4K54
theorem Gm4K55_ok : ∀ q ∈ Gm4K55, ItemOk Tryz.prog q := items_cons i69 Gm4K54_ok
noncomputable def s91 : (Int × Int) × Int → Option (Int × Int) := fun (w, n) =>
 optE (s102 (w.2, IntKind.u64.wrap n)) (fun r1 =>
  some ((IntKind.u64.wrap (r1.1 + (IntKind.u64.wrap (w.1 * (IntKind.u64.wrap n)))), r1.2)))
  (none)
theorem i91 : ItemOk Tryz.prog (.fn 91 [.d (.agg (.pair (.int .u64) (.int .u64))), .d zI] [.d (.agg (.pair (.int .u64) (.int .u64)))] s91) := item_fnM md5 ext5 (U := 9) (n := 12) noSpecial mixed Gm4K55_ok (fun x => by kernel_rfl)
noncomputable def Gm4K56 : List Ev.Item := .fn 91 [.d (.agg (.pair (.int .u64) (.int .u64))), .d zI] [.d (.agg (.pair (.int .u64) (.int .u64)))] s91 :: Gm4K55
theorem Gm4K56_ok : ∀ q ∈ Gm4K56, ItemOk Tryz.prog q := items_cons i91 Gm4K55_ok
noncomputable def s68 : ((Int × Int × Int) × Int × Int) × Int × (Int × Int) → Option (Bool) := fun (c, product, square) =>
 optE (s88 c.1) (fun r1 =>
  bif decide (product > 0) then
   optE (s89 (r1, r1)) (fun r2 =>
    optE (s91 (square, wr (c.2.1 * r2))) (fun r3 =>
     optE (s79 product) (fun r4 =>
      optE (s91 (r4, c.2.2)) (fun r5 =>
       optE (s78 (r3, r5)) (fun r6 =>
        some (r6))
        (none))
       (none))
      (none))
     (none))
    (none)
  else
   some (false))
  (none)
theorem i68 : ItemOk Tryz.prog (.fn 68 [.d (.agg (.pair (.pair zI zP) zP)), .d zI, .d (.agg (.pair (.int .u64) (.int .u64)))] [.d .bool] s68) := item_fnM md5 ext5 (U := 9) (n := 12) noSpecial mixed Gm4K56_ok (fun x => by kernel_rfl)
noncomputable def Gm4K57 : List Ev.Item := .fn 68 [.d (.agg (.pair (.pair zI zP) zP)), .d zI, .d (.agg (.pair (.int .u64) (.int .u64)))] [.d .bool] s68 :: Gm4K56
theorem Gm4K57_ok : ∀ q ∈ Gm4K57, ItemOk Tryz.prog q := items_cons i68 Gm4K56_ok
noncomputable def s70 : ((Int × Int × Int) × Int) × Int → Option (Int × Int) := fun g =>
 optE (s79 (wr ((mx g.1.1.1 (wr (-g.1.1.1))) + (wr (g.2 * g.1.2))))) (fun r1 =>
  optE (s107 ((0, 0), r1)) (fun r2 =>
   optE (s79 (wr ((mx g.1.1.2.1 (wr (-g.1.1.2.1))) + (wr (g.2 * g.1.2))))) (fun r3 =>
    optE (s107 (r2, r3)) (fun r4 =>
     optE (s79 (wr ((mx g.1.1.2.2 (wr (-g.1.1.2.2))) + (wr (g.2 * g.1.2))))) (fun r5 =>
      optE (s107 (r4, r5)) (fun r6 =>
       some (r6))
       (none))
      (none))
     (none))
    (none))
   (none))
  (none)
theorem i70 : ItemOk Tryz.prog (.fn 70 [.d (.agg (.pair (.pair (.pair zI zP) zI) zI))] [.d (.agg (.pair (.int .u64) (.int .u64)))] s70) := item_fnM md5 ext5 (U := 9) (n := 12) noSpecial mixed Gm4K57_ok (fun x => by kernel_rfl)
noncomputable def Gm4K58 : List Ev.Item := .fn 70 [.d (.agg (.pair (.pair (.pair zI zP) zI) zI))] [.d (.agg (.pair (.int .u64) (.int .u64)))] s70 :: Gm4K57
theorem Gm4K58_ok : ∀ q ∈ Gm4K58, ItemOk Tryz.prog q := items_cons i70 Gm4K57_ok
@[reducible] def T38_0 : Tmpl := ⟨66, [(5, .ref 5 0 0 0)], [.val 7 .bool, .val 8 .bool, .val 32 (.slice (.agg (.pair (.pair zI zP) zP))), .val 33 zI, .val 34 zI, .cells 5 [.d (.pair (.pair (.pair zI zP) zI) zI)]], [], none⟩
@[reducible] def X38_0 : List (Ex × Tmpl) := [(.exit 0, ⟨66, [], [.val 7 .bool, .val 8 .bool], [], none⟩)]
noncomputable def step38_0 : Bool × Bool × (List ((Int × Int × Int) × Int × Int)) × Int × Int × (((Int × Int × Int) × Int) × Int) → Option ((Bool × Bool × (List ((Int × Int × Int) × Int × Int)) × Int × Int × (((Int × Int × Int) × Int) × Int)) ⊕ (Bool × Bool)) := fun (sure, not, t32, t33, t34, g) =>
 bif decide (t34 < t33) then
  bif inBounds t34 t32.length then
   optE (s67 (g, (t32.getD t34.toNat ((0, 0, 0), 0, 0)).1)) (fun r3 =>
    bif sure then
     optE (s69 g) (fun r4 =>
      optE (s68 ((t32.getD t34.toNat ((0, 0, 0), 0, 0)), r3.2, r4)) (fun r5 =>
       bif not then
        some (.inl (!r5, true, t32, t33, wr (t34 + 1), g))
       else
        optE (s70 g) (fun r6 =>
         optE (s68 ((t32.getD t34.toNat ((0, 0, 0), 0, 0)), r3.1, r6)) (fun r7 =>
          some (.inl (!r5, r7, t32, t33, wr (t34 + 1), g)))
          (none))
         (none))
       (none))
      (none)
    else
     bif not then
      some (.inl (false, true, t32, t33, wr (t34 + 1), g))
     else
      optE (s70 g) (fun r8 =>
       optE (s68 ((t32.getD t34.toNat ((0, 0, 0), 0, 0)), r3.1, r8)) (fun r9 =>
        some (.inl (false, r9, t32, t33, wr (t34 + 1), g)))
        (none))
       (none))
    (none)
  else
   none
 else
  some (.inr (sure, not))
theorem one38_0 : oneLoop Tryz.prog 38 0 = true := by kernel_rfl
theorem lp38_0 : ItemOk Tryz.prog (.loop 38 0 T38_0 X38_0 (loopVal step38_0)) := item_loopM md5 ext5 (U := 9) (n := 11) noSpecial mixed Gm4K58_ok one38_0 (fun x => by kernel_rfl)
noncomputable def Gm4K59 : List Ev.Item := .loop 38 0 T38_0 X38_0 (loopVal step38_0) :: Gm4K58
theorem Gm4K59_ok : ∀ q ∈ Gm4K59, ItemOk Tryz.prog q := items_cons lp38_0 Gm4K58_ok
noncomputable def s38 : (((Int × Int × Int) × List ((Int × Int × Int) × Int × Int)) × ((List (Int × Int × Int × Int)) × Int) × (List (Int × Int × Int × Int)) × Int) × Int → Option (Int) := fun (v, time) =>
 optE (s49 (v.2.1, time, v.2.2, time)) (fun r1 =>
  optE (s67 (r1, v.1.1)) (fun r2 =>
   optE (loopVal step38_0 (decide (r2.1 ≥ 0), decide (r2.2 < 0), v.1.2, (v.1.2.length : Int), 0, r1)) (fun e3 =>
    bif e3.1 then
     some (2)
    else
     bif e3.2 then
      some (0)
     else
      some (1))
    (none))
   (none))
  (none)
theorem i38 : ItemOk Tryz.prog (.fn 38 [.d (.agg (.pair (.pair (.pair zI zP) (.slice (.agg (.pair (.pair zI zP) zP)))) (.pair (.pair (.slice (.agg zF)) zI) (.pair (.slice (.agg zF)) zI)))), .d zI] [.d zI] s38) := item_fnM md5 ext5 (U := 9) (n := 12) noSpecial mixed Gm4K59_ok (fun x => by kernel_rfl)
noncomputable def Gm4K60 : List Ev.Item := .fn 38 [.d (.agg (.pair (.pair (.pair zI zP) (.slice (.agg (.pair (.pair zI zP) zP)))) (.pair (.pair (.slice (.agg zF)) zI) (.pair (.slice (.agg zF)) zI)))), .d zI] [.d zI] s38 :: Gm4K59
theorem Gm4K60_ok : ∀ q ∈ Gm4K60, ItemOk Tryz.prog q := items_cons i38 Gm4K59_ok
noncomputable def s13 : (((Int × Int × Int) × List ((Int × Int × Int) × Int × Int)) × ((List (Int × Int × Int × Int)) × Int) × (List (Int × Int × Int × Int)) × Int) × Int → Option (Int × Int) := fun (v, time) =>
 optE (s37 v) (fun r1 =>
  bif r1 != 0 then
   some ((0, r1))
  else
   optE (s30 (time, [v.2.1, v.2.2])) (fun r2 =>
    bif r2 != 0 then
     some ((0, r2))
    else
     optE (s38 (v, time)) (fun r3 =>
      some ((r3, 0)))
      (none))
    (none))
  (none)
theorem i13 : ItemOk Tryz.prog (.fn 13 [.d (.agg (.pair (.pair (.pair zI zP) (.slice (.agg (.pair (.pair zI zP) zP)))) (.pair (.pair (.slice (.agg zF)) zI) (.pair (.slice (.agg zF)) zI)))), .d zI] [.d zI, .d zI] s13) := item_fnM md5 ext5 (U := 9) (n := 12) noSpecial mixed Gm4K60_ok (fun x => by kernel_rfl)
noncomputable def Gm4K61 : List Ev.Item := .fn 13 [.d (.agg (.pair (.pair (.pair zI zP) (.slice (.agg (.pair (.pair zI zP) zP)))) (.pair (.pair (.slice (.agg zF)) zI) (.pair (.slice (.agg zF)) zI)))), .d zI] [.d zI, .d zI] s13 :: Gm4K60
theorem Gm4K61_ok : ∀ q ∈ Gm4K61, ItemOk Tryz.prog q := items_cons i13 Gm4K60_ok
@[reducible] def T15_0 : Tmpl := ⟨85, [(6, .ref 6 0 0 0), (10, .ref 10 0 0 0)], [.own 7 20 3 zI, .own 8 27 33 (.agg zP), .own 9 34 33 (.agg zP), .val 11 zI, .cells 6 [.d zP], .cells 10 [.d zP]], [], none⟩
@[reducible] def X15_0 : List (Ex × Tmpl) := [(.exit 0, ⟨85, [(6, .ref 6 0 0 0), (10, .ref 10 0 0 0)], [.cells 6 [.d zP], .cells 10 [.d zP]], [], none⟩)]
noncomputable def step15_0 : (List Int) × (List (Int × Int)) × (List (Int × Int)) × Int × (Int × Int) × (Int × Int) → Option (((List Int) × (List (Int × Int)) × (List (Int × Int)) × Int × (Int × Int) × (Int × Int)) ⊕ ((Int × Int) × (Int × Int))) := fun (parts, from0, to, i, t6, out) =>
 bif decide (i < 3) then
  bif inBounds i parts.length then
   bif inBounds i to.length then
    bif inBounds i from0.length then
     bif inBounds i parts.length then
      bif inBounds i to.length then
       bif inBounds i from0.length then
        some (.inl (parts, from0, to, wr (i + 1), t6, (wr (out.1 + (mn (wr ((parts.getD i.toNat 0) * (wr ((to.getD i.toNat (0, 0)).1 - (from0.getD i.toNat (0, 0)).2)))) (wr ((parts.getD i.toNat 0) * (wr ((to.getD i.toNat (0, 0)).2 - (from0.getD i.toNat (0, 0)).1)))))), wr (out.2 + (mx (wr ((parts.getD i.toNat 0) * (wr ((to.getD i.toNat (0, 0)).1 - (from0.getD i.toNat (0, 0)).2)))) (wr ((parts.getD i.toNat 0) * (wr ((to.getD i.toNat (0, 0)).2 - (from0.getD i.toNat (0, 0)).1)))))))))
       else
        none
      else
       none
     else
      none
    else
     none
   else
    none
  else
   none
 else
  some (.inr (t6, out))
theorem one15_0 : oneLoop Tryz.prog 15 0 = true := by kernel_rfl
theorem lp15_0 : ItemOk Tryz.prog (.loop 15 0 T15_0 X15_0 (loopVal step15_0)) := item_loopM md5 ext5 (U := 9) (n := 11) noSpecial mixed Gm4K61_ok one15_0 (fun x => by kernel_rfl)
noncomputable def Gm4K62 : List Ev.Item := .loop 15 0 T15_0 X15_0 (loopVal step15_0) :: Gm4K61
theorem Gm4K62_ok : ∀ q ∈ Gm4K62, ItemOk Tryz.prog q := items_cons lp15_0 Gm4K61_ok
noncomputable def s15 : (Int × Int × Int) × ((Int × Int) × (Int × Int) × Int × Int) × ((Int × Int) × (Int × Int) × Int × Int) → Option (Int × Int) := fun (up, p, q0) =>
 optE (loopVal step15_0 ([up.1, up.2.1, up.2.2], [p.1, p.2.1, p.2.2], [q0.1, q0.2.1, q0.2.2], 0, (0, 0), (0, 0))) (fun e1 =>
  some (e1.2))
  (none)
theorem i15 : ItemOk Tryz.prog (.fn 15 [.d (.agg (.pair zI zP)), .d (.agg (.pair zP (.pair zP zP))), .d (.agg (.pair zP (.pair zP zP)))] [.d (.agg zP)] s15) := item_fnM md5 ext5 (U := 9) (n := 12) noSpecial mixed Gm4K62_ok (fun x => by kernel_rfl)
noncomputable def Gm4K63 : List Ev.Item := .fn 15 [.d (.agg (.pair zI zP)), .d (.agg (.pair zP (.pair zP zP))), .d (.agg (.pair zP (.pair zP zP)))] [.d (.agg zP)] s15 :: Gm4K62
theorem Gm4K63_ok : ∀ q ∈ Gm4K63, ItemOk Tryz.prog q := items_cons i15 Gm4K62_ok
noncomputable def s20 : Int × Int → Option (Int) := fun (n, by0) =>
 bif !(by0 == 0) then
  bif decide ((Int.tmod n by0) < 0) then
   some (wr ((Int.tmod n by0) + by0))
  else
   some (Int.tmod n by0)
 else
  none
theorem i20 : ItemOk Tryz.prog (.fn 20 [.d zI, .d zI] [.d zI] s20) := item_fnM md5 ext5 (U := 9) (n := 12) noSpecial mixed Gm4K63_ok (fun x => by kernel_rfl)
noncomputable def Gm4K64 : List Ev.Item := .fn 20 [.d zI, .d zI] [.d zI] s20 :: Gm4K63
theorem Gm4K64_ok : ∀ q ∈ Gm4K64, ItemOk Tryz.prog q := items_cons i20 Gm4K63_ok
@[reducible] def T3_0 : Tmpl := ⟨276, [(3, .ref 3 0 0 0), (4, .ref 4 0 0 0)], [.val 2 (.slice zI), .own 7 155 3 zI, .val 8 zI, .cells 3 [.d (.pair (.pair (.pair zI zP) (.slice (.agg (.pair (.pair zI zP) zP)))) (.pair (.pair (.slice (.agg zF)) zI) (.pair (.slice (.agg zF)) zI)))], .cells 4 [.d (.pair zI (.pair zP zP))]], [], none⟩
@[reducible] def X3_0 : List (Ex × Tmpl) := [(.ret, ⟨276, [], [.val 6 .bool], [], none⟩), (.exit 0, ⟨276, [(4, .ref 4 0 0 0)], [.own 7 155 3 zI, .cells 4 [.d (.pair zI (.pair zP zP))]], [], none⟩)]
noncomputable def step3_0 : (List Int) × (List Int) × Int × (((Int × Int × Int) × List ((Int × Int × Int) × Int × Int)) × ((List (Int × Int × Int × Int)) × Int) × (List (Int × Int × Int × Int)) × Int) × (Int × (Int × Int) × Int × Int) → Option (((List Int) × (List Int) × Int × (((Int × Int × Int) × List ((Int × Int × Int) × Int × Int)) × ((List (Int × Int × Int × Int)) × Int) × (List (Int × Int × Int × Int)) × Int) × (Int × (Int × Int) × Int × Int)) ⊕ ((Bool) ⊕ ((List Int) × (Int × (Int × Int) × Int × Int)))) := fun (times, targets, i, v, d) =>
 bif decide (i < (times.length : Int)) then
  bif inBounds i times.length then
   optE (s8 (v.2.1, v.2.2, times.getD i.toNat 0)) (fun r5 =>
    bif r5 != 0 then
     some (.inr (.inl true))
    else
     optE (s10 v.2.1) (fun r6 =>
      bif inBounds i times.length then
       optE (s9 (r6, times.getD i.toNat 0)) (fun r7 =>
        optE (s10 v.2.2) (fun r8 =>
         bif inBounds i times.length then
          optE (s9 (r8, times.getD i.toNat 0)) (fun r9 =>
           bif r7.2 != 0 then
            some (.inr (.inl false))
           else
            bif r9.2 != 0 then
             some (.inr (.inl false))
            else
             bif inBounds i times.length then
              optE (s11 (v.2.1, times.getD i.toNat 0)) (fun r10 =>
               bif !(((r7.1.1.1 == r10.1.1) && ((r7.1.1.2 == r10.1.2) && true)) && (((r7.1.2.1.1 == r10.2.1.1) && ((r7.1.2.1.2 == r10.2.1.2) && true)) && (((r7.1.2.2.1 == r10.2.2.1) && ((r7.1.2.2.2 == r10.2.2.2) && true)) && true))) then
                some (.inr (.inl false))
               else
                bif inBounds i times.length then
                 optE (s11 (v.2.2, times.getD i.toNat 0)) (fun r11 =>
                  bif !(((r9.1.1.1 == r11.1.1) && ((r9.1.1.2 == r11.1.2) && true)) && (((r9.1.2.1.1 == r11.2.1.1) && ((r9.1.2.1.2 == r11.2.1.2) && true)) && (((r9.1.2.2.1 == r11.2.2.1) && ((r9.1.2.2.2 == r11.2.2.2) && true)) && true))) then
                   some (.inr (.inl false))
                  else
                   optE (s12 (wr (r9.1.1.1 - r7.1.1.1), wr (r9.1.2.1.1 - r7.1.2.1.1))) (fun r12 =>
                    bif room 8 (targets.length + 1) then
                     optE (s14 v) (fun r13 =>
                      bif inBounds i times.length then
                       optE (s13 (r13, times.getD i.toNat 0)) (fun r14 =>
                        bif r14.2 != 0 then
                         some (.inr (.inl false))
                        else
                         bif r14.1 == 2 then
                          optE (s15 (v.1.1, r7.1, r9.1)) (fun r15 =>
                           bif decide (r15.2 < 0) then
                            some (.inr (.inl false))
                           else
                            bif r14.1 != 0 then
                             bif r14.1 != 1 then
                              bif r14.1 != 2 then
                               some (.inr (.inl false))
                              else
                               some (.inl (times, targets ++ [r12], wr (i + 1), v, d))
                             else
                              some (.inl (times, targets ++ [r12], wr (i + 1), v, d))
                            else
                             some (.inl (times, targets ++ [r12], wr (i + 1), v, d)))
                           (none)
                         else
                          bif r14.1 != 0 then
                           bif r14.1 != 1 then
                            bif r14.1 != 2 then
                             some (.inr (.inl false))
                            else
                             some (.inl (times, targets ++ [r12], wr (i + 1), v, d))
                           else
                            some (.inl (times, targets ++ [r12], wr (i + 1), v, d))
                          else
                           some (.inl (times, targets ++ [r12], wr (i + 1), v, d)))
                        (none)
                      else
                       none)
                      (none)
                    else
                     none)
                    (none))
                  (none)
                else
                 none)
               (none)
             else
              none)
           (none)
         else
          none)
         (none))
        (none)
      else
       none)
      (none))
    (none)
  else
   none
 else
  some (.inr (.inr (targets, d)))
theorem one3_0 : oneLoop Tryz.prog 3 0 = true := by kernel_rfl
theorem lp3_0 : ItemOk Tryz.prog (.loop 3 0 T3_0 X3_0 (loopVal step3_0)) := item_loopM md5 ext5 (U := 9) (n := 11) noSpecial mixed Gm4K64_ok one3_0 (fun x => by kernel_rfl)
noncomputable def Gm4K65 : List Ev.Item := .loop 3 0 T3_0 X3_0 (loopVal step3_0) :: Gm4K64
theorem Gm4K65_ok : ∀ q ∈ Gm4K65, ItemOk Tryz.prog q := items_cons lp3_0 Gm4K64_ok
@[reducible] def T3_2 : Tmpl := ⟨276, [], [.own 7 155 3 zI, .val 15 (.slice zI), .val 22 zI], [], none⟩
@[reducible] def X3_2 : List (Ex × Tmpl) := [(.ret, ⟨276, [], [.val 6 .bool], [], none⟩), (.exit 2, ⟨276, [], [], [], none⟩)]
noncomputable def step3_2 : (List Int) × (List Int) × Int → Option (((List Int) × (List Int) × Int) ⊕ ((Bool) ⊕ (Unit))) := fun (targets, l, i) =>
 bif decide (i < (l.length : Int)) then
  bif inBounds i l.length then
   optE (s20 (l.getD i.toNat 0, 4)) (fun r15 =>
    bif inBounds i targets.length then
     bif r15 != (targets.getD i.toNat 0) then
      some (.inr (.inl false))
     else
      some (.inl (targets, l, wr (i + 1)))
    else
     none)
    (none)
  else
   none
 else
  some (.inr (.inr ()))
theorem one3_2 : oneLoop Tryz.prog 3 2 = true := by kernel_rfl
theorem lp3_2 : ItemOk Tryz.prog (.loop 3 2 T3_2 X3_2 (loopVal step3_2)) := item_loopM md5 ext5 (U := 9) (n := 11) noSpecial mixed Gm4K65_ok one3_2 (fun x => by kernel_rfl)
noncomputable def Gm4K66 : List Ev.Item := .loop 3 2 T3_2 X3_2 (loopVal step3_2) :: Gm4K65
theorem Gm4K66_ok : ∀ q ∈ Gm4K66, ItemOk Tryz.prog q := items_cons lp3_2 Gm4K65_ok
noncomputable def s3 : (((Int × Int × Int) × List ((Int × Int × Int) × Int × Int)) × ((List (Int × Int × Int × Int)) × Int) × (List (Int × Int × Int × Int)) × Int) × (Int × (Int × Int) × Int × Int) × (List Int) → Option (Bool) := fun (v, d, times) =>
 bif !true then
  some (false)
 else
  optE (s5 v.2.1) (fun r1 =>
   bif !r1 then
    some (true)
   else
    optE (s5 v.2.2) (fun r2 =>
     bif !r2 then
      some (true)
     else
      bif decide ((v.1.2.length : Int) > 4) then
       some (true)
      else
       optE (s6 v) (fun r3 =>
        bif r3 != 0 then
         some (true)
        else
         bif decide ((times.length : Int) > 12) then
          some (true)
         else
          optE (s7 d) (fun r4 =>
           bif r4 != 0 then
            some (true)
           else
            bif d.1 != 4 then
             some (true)
            else
             bif decide ((wr (d.2.1.2 - d.2.1.1)) > 40) then
              some (true)
             else
              optE (loopVal step3_0 (times, [], 0, v, d)) (fun e5 =>
               sumE e5 (fun e6 =>
                some (e6)) (fun e7 =>
                optE (s17 e7.1) (fun r8 =>
                 optE (s16 (e7.2, r8)) (fun r9 =>
                  optE (s17 e7.1) (fun r10 =>
                   optE (s18 (e7.2, r10)) (fun r11 =>
                    bif r9.2.2 != 0 then
                     bif r9.2.2 == 12 then
                      bif r11.2 == 12 then
                       some (true)
                      else
                       bif r11.2 == 0 then
                        some (decide (r11.1 > e7.2.2.2.2))
                       else
                        some (false)
                     else
                      some (false)
                    else
                     optE (s17 e7.1) (fun r12 =>
                      optE (s17 r9.1) (fun r13 =>
                       optE (s19 (e7.2, r12, r13)) (fun r14 =>
                        bif r11.2 != 0 then
                         some (false)
                        else
                         bif decide (r11.1 > e7.2.2.2.2) then
                          some (false)
                         else
                          bif r14.2 != 0 then
                           some (false)
                          else
                           bif r14.1 != r9.2.1 then
                            some (false)
                           else
                            bif (r9.1.length : Int) != (e7.1.length : Int) then
                             some (false)
                            else
                             optE (loopVal step3_2 (e7.1, r9.1, 0)) (fun e15 =>
                              sumE e15 (fun e16 =>
                               some (e16)) (fun _ =>
                               some (true)))
                              (none))
                        (none))
                       (none))
                      (none))
                    (none))
                   (none))
                  (none))
                 (none)))
               (none))
           (none))
        (none))
     (none))
   (none)
theorem i3 : ItemOk Tryz.prog (.fn 3 [.d (.agg (.pair (.pair (.pair zI zP) (.slice (.agg (.pair (.pair zI zP) zP)))) (.pair (.pair (.slice (.agg zF)) zI) (.pair (.slice (.agg zF)) zI)))), .d (.agg (.pair zI (.pair zP zP))), .d (.slice zI)] [.d .bool] s3) := item_fnM md5 ext5 (U := 9) (n := 12) noSpecial mixed Gm4K66_ok (fun x => by kernel_rfl)
noncomputable def Gm4K67 : List Ev.Item := .fn 3 [.d (.agg (.pair (.pair (.pair zI zP) (.slice (.agg (.pair (.pair zI zP) zP)))) (.pair (.pair (.slice (.agg zF)) zI) (.pair (.slice (.agg zF)) zI)))), .d (.agg (.pair zI (.pair zP zP))), .d (.slice zI)] [.d .bool] s3 :: Gm4K66
theorem Gm4K67_ok : ∀ q ∈ Gm4K67, ItemOk Tryz.prog q := items_cons i3 Gm4K66_ok
end Go.Proofs.YthabingkfmlbbaaGreat
