/- Printed by gen.py: specifications of functions. -/
import Derived.Test.YtdoehknomnhlkaaDoorGc6
set_option linter.unusedSimpArgs false
set_option maxRecDepth 100000
namespace Go.Proofs.YtdoehknomnhlkaaDoor
open Go.Ev
noncomputable def Gt0K1 : List Ev.Item := .fn 33 [.d (.slice zI)] [.d zI] first33 :: Gc6K1
theorem Gt0K1_ok : ∀ q ∈ Gt0K1, ItemOk Tryd.prog q := items_cons j33 Gc6K1_ok
noncomputable def p7e : (List (Int × Int × Int)) × (Int × Int) → Option ((List Int) × Int) := fun (l, limit) =>
 optE (s17 l) (fun r1 =>
 optE (s41 limit.1) (fun r2 =>
 bif r2 then
 optE (s41 limit.2) (fun r3 =>
 bif (firstE [r1.2, unl r3 2, unl (decide (limit.1 ≤ limit.2)) 9, unl (decide ((wr (limit.2 - limit.1)) < 100000)) 8]) != 0 then
 bif (firstE [r1.2, unl r3 2, unl (decide (limit.1 ≤ limit.2)) 9, unl (decide ((wr (limit.2 - limit.1)) < 100000)) 8]) != 0 then
 some (([], firstE [r1.2, unl r3 2, unl (decide (limit.1 ≤ limit.2)) 9, unl (decide ((wr (limit.2 - limit.1)) < 100000)) 8]))
 else
 none
 else
 optE (loopVal step26_0b (l, limit.1, l, limit, ([], List.replicate 256 false), [], 0)) (fun _ =>
 none)
 (none))
 (none)
 else
 bif (firstE [r1.2, unl false 2, unl (decide (limit.1 ≤ limit.2)) 9, unl (decide ((wr (limit.2 - limit.1)) < 100000)) 8]) != 0 then
 bif (firstE [r1.2, unl false 2, unl (decide (limit.1 ≤ limit.2)) 9, unl (decide ((wr (limit.2 - limit.1)) < 100000)) 8]) != 0 then
 some (([], firstE [r1.2, unl false 2, unl (decide (limit.1 ≤ limit.2)) 9, unl (decide ((wr (limit.2 - limit.1)) < 100000)) 8]))
 else
 none
 else
 optE (loopVal step26_0b (l, limit.1, l, limit, ([], List.replicate 256 false), [], 0)) (fun _ =>
 none)
 (none))
 (none))
 (none)
theorem i7e : ItemOk Tryd.prog (.fn 7 [.d (.slice (.agg (.pair zI zP))), .d (.agg zP)] [.own 3 zI, .d zI] p7e) := item_fnM md7 ext7 (U := 0) (n := 24) noSpecial mixed Gt0K1_ok (fun x => by kernel_rfl)
noncomputable def oz7n1 : (List (Int × Int × Int)) × (Int × Int) → Option ((List Int) × Int) := fun x => optE (s7n0 x) some (s7n1 x)
theorem ioz7n1 : ItemOk Tryd.prog (.fn 7 [.d (.slice (.agg (.pair zI zP))), .d (.agg zP)] [.own 3 zI, .d zI] oz7n1) := item_or i7n0 i7n1
noncomputable def oz7n2 : (List (Int × Int × Int)) × (Int × Int) → Option ((List Int) × Int) := fun x => optE (oz7n1 x) some (s7n2 x)
theorem ioz7n2 : ItemOk Tryd.prog (.fn 7 [.d (.slice (.agg (.pair zI zP))), .d (.agg zP)] [.own 3 zI, .d zI] oz7n2) := item_or ioz7n1 i7n2
noncomputable def oz7n3 : (List (Int × Int × Int)) × (Int × Int) → Option ((List Int) × Int) := fun x => optE (oz7n2 x) some (s7n3 x)
theorem ioz7n3 : ItemOk Tryd.prog (.fn 7 [.d (.slice (.agg (.pair zI zP))), .d (.agg zP)] [.own 3 zI, .d zI] oz7n3) := item_or ioz7n2 i7n3
noncomputable def oz7n4 : (List (Int × Int × Int)) × (Int × Int) → Option ((List Int) × Int) := fun x => optE (oz7n3 x) some (s7n4 x)
theorem ioz7n4 : ItemOk Tryd.prog (.fn 7 [.d (.slice (.agg (.pair zI zP))), .d (.agg zP)] [.own 3 zI, .d zI] oz7n4) := item_or ioz7n3 i7n4
noncomputable def oz7n5 : (List (Int × Int × Int)) × (Int × Int) → Option ((List Int) × Int) := fun x => optE (oz7n4 x) some (s7n5 x)
theorem ioz7n5 : ItemOk Tryd.prog (.fn 7 [.d (.slice (.agg (.pair zI zP))), .d (.agg zP)] [.own 3 zI, .d zI] oz7n5) := item_or ioz7n4 i7n5
noncomputable def oz7e : (List (Int × Int × Int)) × (Int × Int) → Option ((List Int) × Int) := fun x => optE (oz7n5 x) some (p7e x)
theorem ioz7e : ItemOk Tryd.prog (.fn 7 [.d (.slice (.agg (.pair zI zP))), .d (.agg zP)] [.own 3 zI, .d zI] oz7e) := item_or ioz7n5 i7e
end Go.Proofs.YtdoehknomnhlkaaDoor
