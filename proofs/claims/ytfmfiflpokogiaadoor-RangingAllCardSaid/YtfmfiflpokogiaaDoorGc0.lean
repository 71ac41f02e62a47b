import Derived.Test.YtfmfiflpokogiaaDoorExt7
import Derived.Test.YtfmfiflpokogiaaDoorVec
set_option linter.unusedSimpArgs false
set_option maxRecDepth 100000
namespace Go.Proofs.YtfmfiflpokogiaaDoor
open Go.Ev
noncomputable def s103 : Int × Int × Int → Option (Bool) := fun (n, lo, hi) =>
 bif decide (lo ≤ n) then
  some (decide (n ≤ hi))
 else
  some (false)
theorem i103 : ItemOk Tryd.prog (.fn 103 [.d zI, .d zI, .d zI] [.d .bool] s103) := item_fnM md7 ext7 (U := 9) (n := 4) noSpecial mixed items_nil (fun x => by kernel_rfl)
theorem j103 : ItemOk Tryd.prog (.fn 103 [.d zI, .d zI, .d zI] [.d .bool] (fun x => some (win x.1 x.2.1 x.2.2))) := item_imp i103 (by
 rintro ⟨n, lo, hi⟩ y h
 rw [← h]; show s103 (n, lo, hi) = some (win n lo hi); simp only [s103, win]; cases decide (lo ≤ n) <;> rfl)
noncomputable def Gc0K1 : List Ev.Item := .fn 103 [.d zI, .d zI, .d zI] [.d .bool] (fun x => some (win x.1 x.2.1 x.2.2)) :: ([] : List Ev.Item)
theorem Gc0K1_ok : ∀ q ∈ Gc0K1, ItemOk Tryd.prog q := items_cons j103 items_nil
noncomputable def s104 : Int × Int → Option (Bool) := fun (n, most) =>
 some (win n (wr (-most)) most)
theorem i104 : ItemOk Tryd.prog (.fn 104 [.d zI, .d zI] [.d .bool] s104) := item_fnM md7 ext7 (U := 9) (n := 4) noSpecial mixed Gc0K1_ok (fun x => by kernel_rfl)
theorem j104 : ItemOk Tryd.prog (.fn 104 [.d zI, .d zI] [.d .bool] (fun x => some (win x.1 (wr (-x.2)) x.2))) := item_imp i104 (by
 rintro ⟨n, m⟩ y h
 rw [← h]; rfl)
noncomputable def Gc0K2 : List Ev.Item := .fn 104 [.d zI, .d zI] [.d .bool] (fun x => some (win x.1 (wr (-x.2)) x.2)) :: Gc0K1
theorem Gc0K2_ok : ∀ q ∈ Gc0K2, ItemOk Tryd.prog q := items_cons j104 Gc0K1_ok
noncomputable def s126 : Int → Option (Int) := fun n =>
 some (mx n (wr (-n)))
theorem i126 : ItemOk Tryd.prog (.fn 126 [.d zI] [.d zI] s126) := item_fnM md7 ext7 (U := 9) (n := 4) noSpecial mixed Gc0K2_ok (fun x => by kernel_rfl)
noncomputable def Gc0K3 : List Ev.Item := .fn 126 [.d zI] [.d zI] s126 :: Gc0K2
theorem Gc0K3_ok : ∀ q ∈ Gc0K3, ItemOk Tryd.prog q := items_cons i126 Gc0K2_ok
noncomputable def s88 : Bool × Int → Option (Int) := fun (is, e0) =>
 bif is then
  some (0)
 else
  some (e0)
theorem i88 : ItemOk Tryd.prog (.fn 88 [.d .bool, .d zI] [.d zI] s88) := item_fnM md7 ext7 (U := 9) (n := 4) noSpecial mixed Gc0K3_ok (fun x => by kernel_rfl)
theorem j88 : ItemOk Tryd.prog (.fn 88 [.d .bool, .d zI] [.d zI] (fun x => some (unl x.1 x.2))) := item_imp i88 (by
 rintro ⟨b, e⟩ y h
 rw [← h]; show s88 (b, e) = some (unl b e); simp only [s88, unl]; cases b <;> rfl)
noncomputable def Gc0K4 : List Ev.Item := .fn 88 [.d .bool, .d zI] [.d zI] (fun x => some (unl x.1 x.2)) :: Gc0K3
theorem Gc0K4_ok : ∀ q ∈ Gc0K4, ItemOk Tryd.prog q := items_cons j88 Gc0K3_ok
noncomputable def s80 : Int → Option (Int) := fun n =>
 some (unl (win n 0 1000) 2)
theorem i80 : ItemOk Tryd.prog (.fn 80 [.d zI] [.d zI] s80) := item_fnM md7 ext7 (U := 9) (n := 4) noSpecial mixed Gc0K4_ok (fun x => by kernel_rfl)
theorem j80 : ItemOk Tryd.prog (.fn 80 [.d zI] [.d zI] (fun x => some (unl (win x 0 1000) 2))) := item_imp i80 (by
 intro n y h
 rw [← h]; rfl)
noncomputable def Gc0K5 : List Ev.Item := .fn 80 [.d zI] [.d zI] (fun x => some (unl (win x 0 1000) 2)) :: Gc0K4
theorem Gc0K5_ok : ∀ q ∈ Gc0K5, ItemOk Tryd.prog q := items_cons j80 Gc0K4_ok
noncomputable def s122 : (Int × Int × Int) × Int → Option (Bool) := fun (t, d) =>
 bif !(t.1 == 0) then
  some (decide ((Int.tmod (wr ((wr (d - t.2.1)) + t.1)) t.1) ≤ (wr (t.2.2 - t.2.1))))
 else
  none
theorem i122 : ItemOk Tryd.prog (.fn 122 [.d (.agg (.pair zI zP)), .d zI] [.d .bool] s122) := item_fnM md7 ext7 (U := 9) (n := 4) noSpecial mixed Gc0K5_ok (fun x => by kernel_rfl)
noncomputable def Gc0K6 : List Ev.Item := .fn 122 [.d (.agg (.pair zI zP)), .d zI] [.d .bool] s122 :: Gc0K5
theorem Gc0K6_ok : ∀ q ∈ Gc0K6, ItemOk Tryd.prog q := items_cons i122 Gc0K5_ok
noncomputable def s115 : (Int × Int) × (Int × Int) → Option (Int) := fun (v, w) =>
 some (wr ((wr (v.1 * w.2)) - (wr (w.1 * v.2))))
theorem i115 : ItemOk Tryd.prog (.fn 115 [.d (.agg zP), .d (.agg zP)] [.d zI] s115) := item_fnM md7 ext7 (U := 9) (n := 4) noSpecial mixed Gc0K6_ok (fun x => by kernel_rfl)
noncomputable def Gc0K7 : List Ev.Item := .fn 115 [.d (.agg zP), .d (.agg zP)] [.d zI] s115 :: Gc0K6
theorem Gc0K7_ok : ∀ q ∈ Gc0K7, ItemOk Tryd.prog q := items_cons i115 Gc0K6_ok
noncomputable def s116 : (Int × Int) × (Int × Int) → Option (Int) := fun (v, w) =>
 optE (s115 (v, w)) (fun r1 =>
  bif r1 != 0 then
   some (0)
  else
   bif decide ((wr ((wr (v.1 * w.1)) + (wr (v.2 * w.2)))) ≤ 0) then
    some (0)
   else
    bif w.1 != 0 then
     bif !(w.1 == 0) then
      some (wr (Int.tdiv v.1 w.1))
     else
      none
    else
     bif !(w.2 == 0) then
      some (wr (Int.tdiv v.2 w.2))
     else
      none)
  (none)
theorem i116 : ItemOk Tryd.prog (.fn 116 [.d (.agg zP), .d (.agg zP)] [.d zI] s116) := item_fnM md7 ext7 (U := 9) (n := 4) noSpecial mixed Gc0K7_ok (fun x => by kernel_rfl)
noncomputable def Gc0K8 : List Ev.Item := .fn 116 [.d (.agg zP), .d (.agg zP)] [.d zI] s116 :: Gc0K7
theorem Gc0K8_ok : ∀ q ∈ Gc0K8, ItemOk Tryd.prog q := items_cons i116 Gc0K7_ok
noncomputable def s117 : Int × Int → Option (Int × Int) := fun v =>
 some ((wr (-v.1), wr (-v.2)))
theorem i117 : ItemOk Tryd.prog (.fn 117 [.d (.agg zP)] [.d (.agg zP)] s117) := item_fnM md7 ext7 (U := 9) (n := 4) noSpecial mixed Gc0K8_ok (fun x => by kernel_rfl)
noncomputable def Gc0K9 : List Ev.Item := .fn 117 [.d (.agg zP)] [.d (.agg zP)] s117 :: Gc0K8
theorem Gc0K9_ok : ∀ q ∈ Gc0K9, ItemOk Tryd.prog q := items_cons i117 Gc0K8_ok
noncomputable def s129 : (((List (Int × Bool × Int)) × Int) × Int) × (((List (Int × Bool × Int)) × Int) × Int) → Option (Bool) := fun (b, o) =>
 some (decide ((wr (b.2 * o.1.2)) < (wr (o.2 * b.1.2))))
theorem i129 : ItemOk Tryd.prog (.fn 129 [.d (.agg (.pair (.pair (.slice (.agg (.pair zI (.pair .bool zI)))) zI) zI)), .d (.agg (.pair (.pair (.slice (.agg (.pair zI (.pair .bool zI)))) zI) zI))] [.d .bool] s129) := item_fnM md7 ext7 (U := 9) (n := 4) noSpecial mixed Gc0K9_ok (fun x => by kernel_rfl)
noncomputable def Gc0K10 : List Ev.Item := .fn 129 [.d (.agg (.pair (.pair (.slice (.agg (.pair zI (.pair .bool zI)))) zI) zI)), .d (.agg (.pair (.pair (.slice (.agg (.pair zI (.pair .bool zI)))) zI) zI))] [.d .bool] s129 :: Gc0K9
theorem Gc0K10_ok : ∀ q ∈ Gc0K10, ItemOk Tryd.prog q := items_cons i129 Gc0K9_ok
noncomputable def s118 : ((Int × Int) × Int × Int × Bool) × ((Int × Int) × Int × Int × Bool) → Option (Bool) := fun (r0, s) =>
 bif r0.1.1 != 0 then
  some (decide ((wr (-s.2.1)) ≤ r0.2.1))
 else
  optE (s126 r0.1.2) (fun r1 =>
   optE (s126 s.1.2) (fun r2 =>
    some (decide ((wr ((wr (-s.2.1)) * r1)) ≤ (wr (r0.2.1 * r2)))))
    (none))
   (none)
theorem i118 : ItemOk Tryd.prog (.fn 118 [.d (.agg (.pair zP (.pair zI (.pair zI .bool)))), .d (.agg (.pair zP (.pair zI (.pair zI .bool))))] [.d .bool] s118) := item_fnM md7 ext7 (U := 9) (n := 4) noSpecial mixed Gc0K10_ok (fun x => by kernel_rfl)
noncomputable def Gc0K11 : List Ev.Item := .fn 118 [.d (.agg (.pair zP (.pair zI (.pair zI .bool)))), .d (.agg (.pair zP (.pair zI (.pair zI .bool))))] [.d .bool] s118 :: Gc0K10
theorem Gc0K11_ok : ∀ q ∈ Gc0K11, ItemOk Tryd.prog q := items_cons i118 Gc0K10_ok
end Go.Proofs.YtfmfiflpokogiaaDoor
