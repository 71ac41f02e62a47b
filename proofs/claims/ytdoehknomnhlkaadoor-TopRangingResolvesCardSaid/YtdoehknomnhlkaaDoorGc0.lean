/- Printed by gen.py: specifications of functions. -/
import Derived.Test.YtdoehknomnhlkaaDoorExt7
import Derived.Test.YtdoehknomnhlkaaDoorVec
import Derived.Test.YtdoehknomnhlkaaDoorRounds
set_option linter.unusedSimpArgs false
set_option maxRecDepth 100000
namespace Go.Proofs.YtdoehknomnhlkaaDoor
open Go.Ev
noncomputable def s42 : Int × Int × Int → Option (Bool) := fun (n, lo, hi) =>
 bif decide (lo ≤ n) then
  some (decide (n ≤ hi))
 else
  some (false)
theorem i42 : ItemOk Tryd.prog (.fn 42 [.d zI, .d zI, .d zI] [.d .bool] s42) := item_fnM md7 ext7 (U := 9) (n := 4) noSpecial mixed items_nil (fun x => by kernel_rfl)
theorem j42 : ItemOk Tryd.prog (.fn 42 [.d zI, .d zI, .d zI] [.d .bool] (fun x => some (win x.1 x.2.1 x.2.2))) := item_imp i42 (by
 rintro ⟨n, lo, hi⟩ y h
 rw [← h]; show s42 (n, lo, hi) = some (win n lo hi); simp only [s42, win]; cases decide (lo ≤ n) <;> rfl)
noncomputable def Gc0K1 : List Ev.Item := .fn 42 [.d zI, .d zI, .d zI] [.d .bool] (fun x => some (win x.1 x.2.1 x.2.2)) :: ([] : List Ev.Item)
theorem Gc0K1_ok : ∀ q ∈ Gc0K1, ItemOk Tryd.prog q := items_cons j42 items_nil
noncomputable def s57 : Int × Int → Option (Bool) := fun (n, most) =>
 some (win n (wr (-most)) most)
theorem i57 : ItemOk Tryd.prog (.fn 57 [.d zI, .d zI] [.d .bool] s57) := item_fnM md7 ext7 (U := 9) (n := 4) noSpecial mixed Gc0K1_ok (fun x => by kernel_rfl)
theorem j57 : ItemOk Tryd.prog (.fn 57 [.d zI, .d zI] [.d .bool] (fun x => some (win x.1 (wr (-x.2)) x.2))) := item_imp i57 (by
 rintro ⟨n, m⟩ y h
 rw [← h]; rfl)
noncomputable def Gc0K2 : List Ev.Item := .fn 57 [.d zI, .d zI] [.d .bool] (fun x => some (win x.1 (wr (-x.2)) x.2)) :: Gc0K1
theorem Gc0K2_ok : ∀ q ∈ Gc0K2, ItemOk Tryd.prog q := items_cons j57 Gc0K1_ok
noncomputable def s61 : Int → Option (Int) := fun n =>
 some (mx n (wr (-n)))
theorem i61 : ItemOk Tryd.prog (.fn 61 [.d zI] [.d zI] s61) := item_fnM md7 ext7 (U := 9) (n := 4) noSpecial mixed Gc0K2_ok (fun x => by kernel_rfl)
noncomputable def Gc0K3 : List Ev.Item := .fn 61 [.d zI] [.d zI] s61 :: Gc0K2
theorem Gc0K3_ok : ∀ q ∈ Gc0K3, ItemOk Tryd.prog q := items_cons i61 Gc0K2_ok
noncomputable def s34 : Bool × Int → Option (Int) := fun (is, e0) =>
 bif is then
  some (0)
 else
  some (e0)
theorem i34 : ItemOk Tryd.prog (.fn 34 [.d .bool, .d zI] [.d zI] s34) := item_fnM md7 ext7 (U := 9) (n := 4) noSpecial mixed Gc0K3_ok (fun x => by kernel_rfl)
theorem j34 : ItemOk Tryd.prog (.fn 34 [.d .bool, .d zI] [.d zI] (fun x => some (unl x.1 x.2))) := item_imp i34 (by
 rintro ⟨b, e⟩ y h
 rw [← h]; show s34 (b, e) = some (unl b e); simp only [s34, unl]; cases b <;> rfl)
noncomputable def Gc0K4 : List Ev.Item := .fn 34 [.d .bool, .d zI] [.d zI] (fun x => some (unl x.1 x.2)) :: Gc0K3
theorem Gc0K4_ok : ∀ q ∈ Gc0K4, ItemOk Tryd.prog q := items_cons j34 Gc0K3_ok
noncomputable def s38 : Int → Option (Int) := fun n =>
 some (unl (win n 0 1000) 2)
theorem i38 : ItemOk Tryd.prog (.fn 38 [.d zI] [.d zI] s38) := item_fnM md7 ext7 (U := 9) (n := 4) noSpecial mixed Gc0K4_ok (fun x => by kernel_rfl)
theorem j38 : ItemOk Tryd.prog (.fn 38 [.d zI] [.d zI] (fun x => some (unl (win x 0 1000) 2))) := item_imp i38 (by
 intro n y h
 rw [← h]; rfl)
noncomputable def Gc0K5 : List Ev.Item := .fn 38 [.d zI] [.d zI] (fun x => some (unl (win x 0 1000) 2)) :: Gc0K4
theorem Gc0K5_ok : ∀ q ∈ Gc0K5, ItemOk Tryd.prog q := items_cons j38 Gc0K4_ok
noncomputable def s43 : (Int × Int × Int) × Int → Option (Bool) := fun (t, d) =>
 bif !(t.1 == 0) then
  some (decide ((Int.tmod (wr ((wr (d - t.2.1)) + t.1)) t.1) ≤ (wr (t.2.2 - t.2.1))))
 else
  none
theorem i43 : ItemOk Tryd.prog (.fn 43 [.d (.agg (.pair zI zP)), .d zI] [.d .bool] s43) := item_fnM md7 ext7 (U := 9) (n := 4) noSpecial mixed Gc0K5_ok (fun x => by kernel_rfl)
noncomputable def Gc0K6 : List Ev.Item := .fn 43 [.d (.agg (.pair zI zP)), .d zI] [.d .bool] s43 :: Gc0K5
theorem Gc0K6_ok : ∀ q ∈ Gc0K6, ItemOk Tryd.prog q := items_cons i43 Gc0K5_ok
noncomputable def s54 : (Int × Int) × (Int × Int) → Option (Int) := fun (v, w) =>
 some (wr ((wr (v.1 * w.2)) - (wr (w.1 * v.2))))
theorem i54 : ItemOk Tryd.prog (.fn 54 [.d (.agg zP), .d (.agg zP)] [.d zI] s54) := item_fnM md7 ext7 (U := 9) (n := 4) noSpecial mixed Gc0K6_ok (fun x => by kernel_rfl)
noncomputable def Gc0K7 : List Ev.Item := .fn 54 [.d (.agg zP), .d (.agg zP)] [.d zI] s54 :: Gc0K6
theorem Gc0K7_ok : ∀ q ∈ Gc0K7, ItemOk Tryd.prog q := items_cons i54 Gc0K6_ok
noncomputable def s55 : (Int × Int) × (Int × Int) → Option (Int) := fun (v, w) =>
 optE (s54 (v, w)) (fun r1 =>
  bif r1 != 0 then
   some (0)
  else
   bif decide ((wr ((wr (v.1 * w.1)) + (wr (v.2 * w.2)))) ≤ 0) then
    some (0)
   else
    bif w.1 != 0 then
     bif !(w.1 == 0) then
      some (wr (Int.tdiv v.1 w.1))
     else
      none
    else
     bif !(w.2 == 0) then
      some (wr (Int.tdiv v.2 w.2))
     else
      none)
  (none)
theorem i55 : ItemOk Tryd.prog (.fn 55 [.d (.agg zP), .d (.agg zP)] [.d zI] s55) := item_fnM md7 ext7 (U := 9) (n := 4) noSpecial mixed Gc0K7_ok (fun x => by kernel_rfl)
noncomputable def Gc0K8 : List Ev.Item := .fn 55 [.d (.agg zP), .d (.agg zP)] [.d zI] s55 :: Gc0K7
theorem Gc0K8_ok : ∀ q ∈ Gc0K8, ItemOk Tryd.prog q := items_cons i55 Gc0K7_ok
noncomputable def s52 : Int × Int → Option (Int × Int) := fun v =>
 some ((wr (-v.1), wr (-v.2)))
theorem i52 : ItemOk Tryd.prog (.fn 52 [.d (.agg zP)] [.d (.agg zP)] s52) := item_fnM md7 ext7 (U := 9) (n := 4) noSpecial mixed Gc0K8_ok (fun x => by kernel_rfl)
noncomputable def Gc0K9 : List Ev.Item := .fn 52 [.d (.agg zP)] [.d (.agg zP)] s52 :: Gc0K8
theorem Gc0K9_ok : ∀ q ∈ Gc0K9, ItemOk Tryd.prog q := items_cons i52 Gc0K8_ok
noncomputable def s59 : (((List (Int × Bool × Int)) × Int) × Int) × (((List (Int × Bool × Int)) × Int) × Int) → Option (Bool) := fun (b, o) =>
 some (decide ((wr (b.2 * o.1.2)) < (wr (o.2 * b.1.2))))
theorem i59 : ItemOk Tryd.prog (.fn 59 [.d (.agg (.pair (.pair (.slice (.agg (.pair zI (.pair .bool zI)))) zI) zI)), .d (.agg (.pair (.pair (.slice (.agg (.pair zI (.pair .bool zI)))) zI) zI))] [.d .bool] s59) := item_fnM md7 ext7 (U := 9) (n := 4) noSpecial mixed Gc0K9_ok (fun x => by kernel_rfl)
noncomputable def Gc0K10 : List Ev.Item := .fn 59 [.d (.agg (.pair (.pair (.slice (.agg (.pair zI (.pair .bool zI)))) zI) zI)), .d (.agg (.pair (.pair (.slice (.agg (.pair zI (.pair .bool zI)))) zI) zI))] [.d .bool] s59 :: Gc0K9
theorem Gc0K10_ok : ∀ q ∈ Gc0K10, ItemOk Tryd.prog q := items_cons i59 Gc0K9_ok
noncomputable def s56 : ((Int × Int) × Int × Int × Bool) × ((Int × Int) × Int × Int × Bool) → Option (Bool) := fun (r0, s) =>
 bif r0.1.1 != 0 then
  some (decide ((wr (-s.2.1)) ≤ r0.2.1))
 else
  optE (s61 r0.1.2) (fun r1 =>
   optE (s61 s.1.2) (fun r2 =>
    some (decide ((wr ((wr (-s.2.1)) * r1)) ≤ (wr (r0.2.1 * r2)))))
    (none))
   (none)
theorem i56 : ItemOk Tryd.prog (.fn 56 [.d (.agg (.pair zP (.pair zI (.pair zI .bool)))), .d (.agg (.pair zP (.pair zI (.pair zI .bool))))] [.d .bool] s56) := item_fnM md7 ext7 (U := 9) (n := 4) noSpecial mixed Gc0K10_ok (fun x => by kernel_rfl)
noncomputable def Gc0K11 : List Ev.Item := .fn 56 [.d (.agg (.pair zP (.pair zI (.pair zI .bool)))), .d (.agg (.pair zP (.pair zI (.pair zI .bool))))] [.d .bool] s56 :: Gc0K10
theorem Gc0K11_ok : ∀ q ∈ Gc0K11, ItemOk Tryd.prog q := items_cons i56 Gc0K10_ok
end Go.Proofs.YtdoehknomnhlkaaDoor
