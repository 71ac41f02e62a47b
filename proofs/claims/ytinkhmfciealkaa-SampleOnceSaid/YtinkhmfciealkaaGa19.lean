/- Printed by gen.py: specifications of functions. -/
import Derived.Test.YtinkhmfciealkaaGa18
set_option linter.unusedSimpArgs false
set_option maxRecDepth 100000
namespace Go.Proofs.Ytinkhmfciealkaa
open Go.Ev

/-! slices.Max[[]int,int] -/
@[reducible] def T119_0 : Tmpl := ⟨25, [], [.val 0 (.slice (.int .i64)), .val 3 (.int .i64), .val 4 (.int .i64)]⟩
@[reducible] def X119_0 : List (Ex × Tmpl) := [(.exit 0, ⟨25, [], [.val 3 (.int .i64)]⟩)]
/-- data: x0, m, i; ends: exit 0: m -/
noncomputable def step119_0 : (List Int) × Int × Int → Option (((List Int) × Int × Int) ⊕ (Int)) := fun (x0, m, i) =>
  bif decide (i < (x0.length : Int)) then
    bif inBounds i x0.length then
      some (.inl (x0, mx m (x0.getD i.toNat 0), wr (i + 1)))
    else
      none
  else
    some (.inr m)
theorem one119_0 : oneLoop Try.prog 119 0 = true := by kernel_rfl
theorem lp119_0 : ItemOk Try.prog (.loop 119 0 T119_0 X119_0 (loopVal step119_0)) := item_loop (U := 9) (n := 3) noSpecial mixed Ga18K5_ok one119_0 (fun x => by kernel_rfl)
noncomputable def Ga19K1 : List Ev.Item := .loop 119 0 T119_0 X119_0 (loopVal step119_0) :: Ga18K5
theorem Ga19K1_ok : ∀ q ∈ Ga19K1, ItemOk Try.prog q := items_cons lp119_0 Ga18K5_ok
noncomputable def s119 : List Int → Option (Int) := fun x0 =>
  bif decide ((x0.length : Int) < 1) then
    none
  else
    bif inBounds 0 x0.length then
      optE (loopVal step119_0 (x0, x0.getD 0 0, 1)) (fun e1 =>
        some (e1))
        (none)
    else
      none
theorem i119 : ItemOk Try.prog (.fn 119 [.d (.slice (.int .i64))] [.d (.int .i64)] s119) := item_fn (U := 9) (n := 4) noSpecial mixed Ga19K1_ok (fun x => by kernel_rfl)
noncomputable def Ga19K2 : List Ev.Item := .fn 119 [.d (.slice (.int .i64))] [.d (.int .i64)] s119 :: Ga19K1
theorem Ga19K2_ok : ∀ q ∈ Ga19K2, ItemOk Try.prog q := items_cons i119 Ga19K1_ok

/-! (*cassegrain sample.record).last -/
noncomputable def s122 : (List (Int × Pkt)) × List Int → Option (Int) := fun r0 =>
  optE (s119 r0.2) (fun r1 =>
    some (r1))
    (none)
theorem i122 : ItemOk Try.prog (.fn 122 [.tgt (.pair (.map (.int .i64) (.agg (.pair (.int .i64) (.pair (.int .i64) (.pair (.pair (.int .i64) (.int .i64)) (.pair (.pair (.int .i64) (.int .i64)) (.pair (.pair (.int .i64) (.int .i64)) (.pair (.pair (.int .i64) (.int .i64)) (.pair (.pair (.int .i64) (.int .i64)) (.pair (.pair (.int .i64) (.int .i64)) (.pair (.pair (.int .i64) (.int .i64)) (.pair (.int .i64) (.int .i64))))))))))))) (.slice (.int .i64)))] [.d (.int .i64)] s122) := item_fn (U := 9) (n := 4) noSpecial mixed Ga19K2_ok (fun x => by kernel_rfl)
noncomputable def Ga19K3 : List Ev.Item := .fn 122 [.tgt (.pair (.map (.int .i64) (.agg (.pair (.int .i64) (.pair (.int .i64) (.pair (.pair (.int .i64) (.int .i64)) (.pair (.pair (.int .i64) (.int .i64)) (.pair (.pair (.int .i64) (.int .i64)) (.pair (.pair (.int .i64) (.int .i64)) (.pair (.pair (.int .i64) (.int .i64)) (.pair (.pair (.int .i64) (.int .i64)) (.pair (.pair (.int .i64) (.int .i64)) (.pair (.int .i64) (.int .i64))))))))))))) (.slice (.int .i64)))] [.d (.int .i64)] s122 :: Ga19K2
theorem Ga19K3_ok : ∀ q ∈ Ga19K3, ItemOk Try.prog q := items_cons i122 Ga19K2_ok

/-! slices.Min[[]int,int] -/
@[reducible] def T135_0 : Tmpl := ⟨25, [], [.val 0 (.slice (.int .i64)), .val 3 (.int .i64), .val 4 (.int .i64)]⟩
@[reducible] def X135_0 : List (Ex × Tmpl) := [(.exit 0, ⟨25, [], [.val 3 (.int .i64)]⟩)]
/-- data: x0, m, i; ends: exit 0: m -/
noncomputable def step135_0 : (List Int) × Int × Int → Option (((List Int) × Int × Int) ⊕ (Int)) := fun (x0, m, i) =>
  bif decide (i < (x0.length : Int)) then
    bif inBounds i x0.length then
      some (.inl (x0, mn m (x0.getD i.toNat 0), wr (i + 1)))
    else
      none
  else
    some (.inr m)
theorem one135_0 : oneLoop Try.prog 135 0 = true := by kernel_rfl
theorem lp135_0 : ItemOk Try.prog (.loop 135 0 T135_0 X135_0 (loopVal step135_0)) := item_loop (U := 9) (n := 3) noSpecial mixed Ga19K3_ok one135_0 (fun x => by kernel_rfl)
noncomputable def Ga19K4 : List Ev.Item := .loop 135 0 T135_0 X135_0 (loopVal step135_0) :: Ga19K3
theorem Ga19K4_ok : ∀ q ∈ Ga19K4, ItemOk Try.prog q := items_cons lp135_0 Ga19K3_ok
noncomputable def s135 : List Int → Option (Int) := fun x0 =>
  bif decide ((x0.length : Int) < 1) then
    none
  else
    bif inBounds 0 x0.length then
      optE (loopVal step135_0 (x0, x0.getD 0 0, 1)) (fun e1 =>
        some (e1))
        (none)
    else
      none
theorem i135 : ItemOk Try.prog (.fn 135 [.d (.slice (.int .i64))] [.d (.int .i64)] s135) := item_fn (U := 9) (n := 4) noSpecial mixed Ga19K4_ok (fun x => by kernel_rfl)
noncomputable def Ga19K5 : List Ev.Item := .fn 135 [.d (.slice (.int .i64))] [.d (.int .i64)] s135 :: Ga19K4
theorem Ga19K5_ok : ∀ q ∈ Ga19K5, ItemOk Try.prog q := items_cons i135 Ga19K4_ok

/-! (*cassegrain sample.record).first -/
noncomputable def s121 : (List (Int × Pkt)) × List Int → Option (Int) := fun r0 =>
  optE (s135 r0.2) (fun r1 =>
    some (r1))
    (none)
theorem i121 : ItemOk Try.prog (.fn 121 [.tgt (.pair (.map (.int .i64) (.agg (.pair (.int .i64) (.pair (.int .i64) (.pair (.pair (.int .i64) (.int .i64)) (.pair (.pair (.int .i64) (.int .i64)) (.pair (.pair (.int .i64) (.int .i64)) (.pair (.pair (.int .i64) (.int .i64)) (.pair (.pair (.int .i64) (.int .i64)) (.pair (.pair (.int .i64) (.int .i64)) (.pair (.pair (.int .i64) (.int .i64)) (.pair (.int .i64) (.int .i64))))))))))))) (.slice (.int .i64)))] [.d (.int .i64)] s121) := item_fn (U := 9) (n := 4) noSpecial mixed Ga19K5_ok (fun x => by kernel_rfl)
noncomputable def Ga19K6 : List Ev.Item := .fn 121 [.tgt (.pair (.map (.int .i64) (.agg (.pair (.int .i64) (.pair (.int .i64) (.pair (.pair (.int .i64) (.int .i64)) (.pair (.pair (.int .i64) (.int .i64)) (.pair (.pair (.int .i64) (.int .i64)) (.pair (.pair (.int .i64) (.int .i64)) (.pair (.pair (.int .i64) (.int .i64)) (.pair (.pair (.int .i64) (.int .i64)) (.pair (.pair (.int .i64) (.int .i64)) (.pair (.int .i64) (.int .i64))))))))))))) (.slice (.int .i64)))] [.d (.int .i64)] s121 :: Ga19K5
theorem Ga19K6_ok : ∀ q ∈ Ga19K6, ItemOk Try.prog q := items_cons i121 Ga19K5_ok

/-! cassegrain sample.open -/
@[reducible] def T117_0 : Tmpl := ⟨100, [(5, .ref 28 0 0 0)], [.val 6 .bool, .val 7 (.int .i64), .val 29 (.slice (.agg (.pair (.int .i64) (.pair (.int .i64) (.pair (.pair (.int .i64) (.int .i64)) (.pair (.pair (.int .i64) (.int .i64)) (.pair (.pair (.int .i64) (.int .i64)) (.pair (.pair (.int .i64) (.int .i64)) (.pair (.pair (.int .i64) (.int .i64)) (.pair (.pair (.int .i64) (.int .i64)) (.pair (.pair (.int .i64) (.int .i64)) (.pair (.int .i64) (.int .i64))))))))))))), .val 30 (.int .i64), .val 31 (.int .i64), .cells 28 [.map 26 (.int .i64) (.agg (.pair (.int .i64) (.pair (.int .i64) (.pair (.pair (.int .i64) (.int .i64)) (.pair (.pair (.int .i64) (.int .i64)) (.pair (.pair (.int .i64) (.int .i64)) (.pair (.pair (.int .i64) (.int .i64)) (.pair (.pair (.int .i64) (.int .i64)) (.pair (.pair (.int .i64) (.int .i64)) (.pair (.pair (.int .i64) (.int .i64)) (.pair (.int .i64) (.int .i64)))))))))))), .own 83 3 (.int .i64)]]⟩
@[reducible] def X117_0 : List (Ex × Tmpl) := [(.ret, ⟨100, [(2, .nilptr)], [.val 3 (.int .i64)]⟩), (.exit 0, ⟨100, [(5, .ref 28 0 0 0)], [.val 6 .bool, .cells 28 [.map 26 (.int .i64) (.agg (.pair (.int .i64) (.pair (.int .i64) (.pair (.pair (.int .i64) (.int .i64)) (.pair (.pair (.int .i64) (.int .i64)) (.pair (.pair (.int .i64) (.int .i64)) (.pair (.pair (.int .i64) (.int .i64)) (.pair (.pair (.int .i64) (.int .i64)) (.pair (.pair (.int .i64) (.int .i64)) (.pair (.pair (.int .i64) (.int .i64)) (.pair (.int .i64) (.int .i64)))))))))))), .own 83 3 (.int .i64)]]⟩)]
/-- data: t6, t7, t29, t30, t31, t28; ends: ret: t3; exit 0: t6, t28 -/
noncomputable def step117_0 : Bool × Int × (List Pkt) × Int × Int × ((List (Int × Pkt)) × (List Int)) → Option ((Bool × Int × (List Pkt) × Int × Int × ((List (Int × Pkt)) × (List Int))) ⊕ ((Int) ⊕ (Bool × ((List (Int × Pkt)) × (List Int))))) := fun (t6, t7, t29, t30, t31, t28) =>
  bif decide (t31 < t30) then
    bif inBounds t31 t29.length then
      bif (unl (okPkt (t29.getD t31.toNat pkt0)) 2) != 0 then
        some (.inr (.inl (unl (okPkt (t29.getD t31.toNat pkt0)) 2)))
      else
        bif t31 == 0 then
          bif t6 then
            bif !(mapHas (wr ((t29.getD t31.toNat pkt0).1 + 1024)) t28.1) then
              bif room 8 (t28.2.length + 1) then
                some (.inl (true, wr ((t29.getD t31.toNat pkt0).1 + 1024), t29, t30, wr (t31 + 1), (mapPut (wr ((t29.getD t31.toNat pkt0).1 + 1024)) (t29.getD t31.toNat pkt0) t28.1, t28.2 ++ [wr ((t29.getD t31.toNat pkt0).1 + 1024)])))
              else
                none
            else
              bif room 8 (t28.2.length + 1) then
                some (.inl (true, wr ((t29.getD t31.toNat pkt0).1 + 1024), t29, t30, wr (t31 + 1), (t28.1, t28.2 ++ [wr ((t29.getD t31.toNat pkt0).1 + 1024)])))
              else
                none
          else
            bif mapHas (wr ((t29.getD t31.toNat pkt0).1 + 1024)) t28.1 then
              bif !(mapHas (wr ((t29.getD t31.toNat pkt0).1 + 1024)) t28.1) then
                bif room 8 (t28.2.length + 1) then
                  some (.inl (!(pktEq (mapGet (wr ((t29.getD t31.toNat pkt0).1 + 1024)) pkt0 t28.1) (t29.getD t31.toNat pkt0)), wr ((t29.getD t31.toNat pkt0).1 + 1024), t29, t30, wr (t31 + 1), (mapPut (wr ((t29.getD t31.toNat pkt0).1 + 1024)) (t29.getD t31.toNat pkt0) t28.1, t28.2 ++ [wr ((t29.getD t31.toNat pkt0).1 + 1024)])))
                else
                  none
              else
                bif room 8 (t28.2.length + 1) then
                  some (.inl (!(pktEq (mapGet (wr ((t29.getD t31.toNat pkt0).1 + 1024)) pkt0 t28.1) (t29.getD t31.toNat pkt0)), wr ((t29.getD t31.toNat pkt0).1 + 1024), t29, t30, wr (t31 + 1), (t28.1, t28.2 ++ [wr ((t29.getD t31.toNat pkt0).1 + 1024)])))
                else
                  none
            else
              bif !(mapHas (wr ((t29.getD t31.toNat pkt0).1 + 1024)) t28.1) then
                bif room 8 (t28.2.length + 1) then
                  some (.inl (false, wr ((t29.getD t31.toNat pkt0).1 + 1024), t29, t30, wr (t31 + 1), (mapPut (wr ((t29.getD t31.toNat pkt0).1 + 1024)) (t29.getD t31.toNat pkt0) t28.1, t28.2 ++ [wr ((t29.getD t31.toNat pkt0).1 + 1024)])))
                else
                  none
              else
                bif room 8 (t28.2.length + 1) then
                  some (.inl (false, wr ((t29.getD t31.toNat pkt0).1 + 1024), t29, t30, wr (t31 + 1), (t28.1, t28.2 ++ [wr ((t29.getD t31.toNat pkt0).1 + 1024)])))
                else
                  none
        else
          optE (p88 (t7, (t29.getD t31.toNat pkt0).1)) (fun r1 =>
            bif t6 then
              bif !(mapHas r1 t28.1) then
                bif room 8 (t28.2.length + 1) then
                  some (.inl (true, r1, t29, t30, wr (t31 + 1), (mapPut r1 (t29.getD t31.toNat pkt0) t28.1, t28.2 ++ [r1])))
                else
                  none
              else
                bif room 8 (t28.2.length + 1) then
                  some (.inl (true, r1, t29, t30, wr (t31 + 1), (t28.1, t28.2 ++ [r1])))
                else
                  none
            else
              bif mapHas r1 t28.1 then
                bif !(mapHas r1 t28.1) then
                  bif room 8 (t28.2.length + 1) then
                    some (.inl (!(pktEq (mapGet r1 pkt0 t28.1) (t29.getD t31.toNat pkt0)), r1, t29, t30, wr (t31 + 1), (mapPut r1 (t29.getD t31.toNat pkt0) t28.1, t28.2 ++ [r1])))
                  else
                    none
                else
                  bif room 8 (t28.2.length + 1) then
                    some (.inl (!(pktEq (mapGet r1 pkt0 t28.1) (t29.getD t31.toNat pkt0)), r1, t29, t30, wr (t31 + 1), (t28.1, t28.2 ++ [r1])))
                  else
                    none
              else
                bif !(mapHas r1 t28.1) then
                  bif room 8 (t28.2.length + 1) then
                    some (.inl (false, r1, t29, t30, wr (t31 + 1), (mapPut r1 (t29.getD t31.toNat pkt0) t28.1, t28.2 ++ [r1])))
                  else
                    none
                else
                  bif room 8 (t28.2.length + 1) then
                    some (.inl (false, r1, t29, t30, wr (t31 + 1), (t28.1, t28.2 ++ [r1])))
                  else
                    none)
            (none)
    else
      none
  else
    some (.inr (.inr (t6, t28)))
theorem one117_0 : oneLoop Try.prog 117 0 = true := by kernel_rfl
theorem lp117_0 : ItemOk Try.prog (.loop 117 0 T117_0 X117_0 (loopVal step117_0)) := item_loop (U := 9) (n := 3) noSpecial mixed Ga19K6_ok one117_0 (fun x => by kernel_rfl)
noncomputable def Ga19K7 : List Ev.Item := .loop 117 0 T117_0 X117_0 (loopVal step117_0) :: Ga19K6
theorem Ga19K7_ok : ∀ q ∈ Ga19K7, ItemOk Try.prog q := items_cons lp117_0 Ga19K6_ok
noncomputable def s117 : List Pkt → Option ((Option ((List (Int × Pkt)) × List Int)) × Int) := fun a0 =>
  bif (firstE [unl (decide ((a0.length : Int) > 0)) 10, unl (decide ((a0.length : Int) ≤ 30)) 8]) != 0 then
    some ((none, firstE [unl (decide ((a0.length : Int) > 0)) 10, unl (decide ((a0.length : Int) ≤ 30)) 8]))
  else
    optE (loopVal step117_0 (false, 0, a0, (a0.length : Int), 0, ([], []))) (fun e1 =>
      sumE e1 (fun e2 =>
        some ((none, e2))) (fun e3 =>
        optE (s122 e3.2) (fun r4 =>
          optE (s121 e3.2) (fun r5 =>
            some ((some e3.2, firstE [unl (decide ((wr (r4 - r5)) < 40)) 8, unl (!e3.1) 13])))
            (none))
          (none)))
      (none)
theorem i117 : ItemOk Try.prog (.fn 117 [.d (.slice (.agg (.pair (.int .i64) (.pair (.int .i64) (.pair (.pair (.int .i64) (.int .i64)) (.pair (.pair (.int .i64) (.int .i64)) (.pair (.pair (.int .i64) (.int .i64)) (.pair (.pair (.int .i64) (.int .i64)) (.pair (.pair (.int .i64) (.int .i64)) (.pair (.pair (.int .i64) (.int .i64)) (.pair (.pair (.int .i64) (.int .i64)) (.pair (.int .i64) (.int .i64)))))))))))))] [.ptr (.pair (.map (.int .i64) (.agg (.pair (.int .i64) (.pair (.int .i64) (.pair (.pair (.int .i64) (.int .i64)) (.pair (.pair (.int .i64) (.int .i64)) (.pair (.pair (.int .i64) (.int .i64)) (.pair (.pair (.int .i64) (.int .i64)) (.pair (.pair (.int .i64) (.int .i64)) (.pair (.pair (.int .i64) (.int .i64)) (.pair (.pair (.int .i64) (.int .i64)) (.pair (.int .i64) (.int .i64))))))))))))) (.slice (.int .i64))), .d (.int .i64)] s117) := item_fn (U := 9) (n := 4) noSpecial mixed Ga19K7_ok (fun x => by kernel_rfl)
noncomputable def Ga19K8 : List Ev.Item := .fn 117 [.d (.slice (.agg (.pair (.int .i64) (.pair (.int .i64) (.pair (.pair (.int .i64) (.int .i64)) (.pair (.pair (.int .i64) (.int .i64)) (.pair (.pair (.int .i64) (.int .i64)) (.pair (.pair (.int .i64) (.int .i64)) (.pair (.pair (.int .i64) (.int .i64)) (.pair (.pair (.int .i64) (.int .i64)) (.pair (.pair (.int .i64) (.int .i64)) (.pair (.int .i64) (.int .i64)))))))))))))] [.ptr (.pair (.map (.int .i64) (.agg (.pair (.int .i64) (.pair (.int .i64) (.pair (.pair (.int .i64) (.int .i64)) (.pair (.pair (.int .i64) (.int .i64)) (.pair (.pair (.int .i64) (.int .i64)) (.pair (.pair (.int .i64) (.int .i64)) (.pair (.pair (.int .i64) (.int .i64)) (.pair (.pair (.int .i64) (.int .i64)) (.pair (.pair (.int .i64) (.int .i64)) (.pair (.int .i64) (.int .i64))))))))))))) (.slice (.int .i64))), .d (.int .i64)] s117 :: Ga19K7
theorem Ga19K8_ok : ∀ q ∈ Ga19K8, ItemOk Try.prog q := items_cons i117 Ga19K7_ok
end Go.Proofs.Ytinkhmfciealkaa
