/- Printed by gen.py: specifications of functions. -/
import Derived.Test.YthabingkfmlbbaaGm3
set_option linter.unusedSimpArgs false
set_option maxRecDepth 100000
namespace Go.Proofs.Ythabingkfmlbbaa
open Go.Ev
noncomputable def s6 : Int × (Int × Int) × Int × Int → Option (Bool) := fun d =>
 optE (s11 d) (fun r1 =>
  bif r1 != 0 then
   some (true)
  else
   bif !(d.1 == 0) then
    some (decide ((wr (Int.tdiv (wr (d.2.1.2 - d.2.1.1)) d.1)) ≤ 10))
   else
    none)
  (none)
theorem i6 : ItemOk Try.prog (.fn 6 [.d (.agg (.pair zI (.pair zP zP)))] [.d .bool] s6) := item_fnM md5 ext5 (U := 9) (n := 12) noSpecial mixed Gm3K2_ok (fun x => by kernel_rfl)
noncomputable def Gm4K1 : List Ev.Item := .fn 6 [.d (.agg (.pair zI (.pair zP zP)))] [.d .bool] s6 :: Gm3K2
theorem Gm4K1_ok : ∀ q ∈ Gm4K1, ItemOk Try.prog q := items_cons i6 Gm3K2_ok
@[reducible] def T14_0 : Tmpl := ⟨26, [], [.val 0 (.slice zI), .val 1 (.slice zI), .val 5 zI], [], none⟩
@[reducible] def X14_0 : List (Ex × Tmpl) := [(.ret, ⟨26, [], [.val 4 .bool], [], none⟩), (.exit 0, ⟨26, [], [], [], none⟩)]
noncomputable def step14_0 : (List Int) × (List Int) × Int → Option (((List Int) × (List Int) × Int) ⊕ ((Bool) ⊕ (Unit))) := fun (a, b, i) =>
 bif decide (i < (a.length : Int)) then
  bif inBounds i a.length then
   bif inBounds i b.length then
    bif (a.getD i.toNat 0) != (b.getD i.toNat 0) then
     some (.inr (.inl false))
    else
     some (.inl (a, b, wr (i + 1)))
   else
    none
  else
   none
 else
  some (.inr (.inr ()))
theorem one14_0 : oneLoop Try.prog 14 0 = true := by kernel_rfl
theorem lp14_0 : ItemOk Try.prog (.loop 14 0 T14_0 X14_0 (loopVal step14_0)) := item_loopM md5 ext5 (U := 9) (n := 11) noSpecial mixed Gm4K1_ok one14_0 (fun x => by kernel_rfl)
noncomputable def Gm4K2 : List Ev.Item := .loop 14 0 T14_0 X14_0 (loopVal step14_0) :: Gm4K1
theorem Gm4K2_ok : ∀ q ∈ Gm4K2, ItemOk Try.prog q := items_cons lp14_0 Gm4K1_ok
noncomputable def s14 : (List Int) × (List Int) → Option (Bool) := fun (a, b) =>
 bif (a.length : Int) != (b.length : Int) then
  some (false)
 else
  optE (loopVal step14_0 (a, b, 0)) (fun e1 =>
   sumE e1 (fun e2 =>
    some (e2)) (fun _ =>
    some (true)))
   (none)
theorem i14 : ItemOk Try.prog (.fn 14 [.d (.slice zI), .d (.slice zI)] [.d .bool] s14) := item_fnM md5 ext5 (U := 9) (n := 12) noSpecial mixed Gm4K2_ok (fun x => by kernel_rfl)
noncomputable def Gm4K3 : List Ev.Item := .fn 14 [.d (.slice zI), .d (.slice zI)] [.d .bool] s14 :: Gm4K2
theorem Gm4K3_ok : ∀ q ∈ Gm4K3, ItemOk Try.prog q := items_cons i14 Gm4K2_ok
end Go.Proofs.Ythabingkfmlbbaa
