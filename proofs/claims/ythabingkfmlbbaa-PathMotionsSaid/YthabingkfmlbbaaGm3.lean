/- Printed by gen.py: specifications of functions. -/
import Derived.Test.YthabingkfmlbbaaGm2
set_option linter.unusedSimpArgs false
set_option maxRecDepth 100000
namespace Go.Proofs.Ythabingkfmlbbaa
open Go.Ev
@[reducible] def T32_0a : Tmpl := ⟨26, [(1, .cloR 33 [.ref 1002, .ref 1003])], [.val 5 zI, .val 6 zI, .cells 1002 [.d (.pair zI (.pair zP zP))], .cells 1003 [.d (.slice zI)]], [19], none⟩
@[reducible] def X32_0a : List (Ex × Tmpl) := [(.exit 0, ⟨26, [], [.val 5 zI], [19], none⟩)]
noncomputable def step32_0a : Int × Int × (Int × (Int × Int) × Int × Int) × (List Int) → Option ((Int × Int × (Int × (Int × Int) × Int × Int) × (List Int)) ⊕ (Int)) := fun (i, j, f, f') =>
 bif decide (i < j) then
  optE (s29 ((f.1, f.2.1, f.2.2.1, wr (shrI .u64 (IntKind.u64.wrap (wr (i + j))) 1)), f')) (fun r2 =>
   optE (s30 ((f.1, f.2.1, f.2.2.1, wr (shrI .u64 (IntKind.u64.wrap (wr (i + j))) 1)), r2)) (fun r3 =>
    bif !(decide (r3 < 576460752303423488)) then
     some (.inl (wr ((wr (shrI .u64 (IntKind.u64.wrap (wr (i + j))) 1)) + 1), j, (f.1, f.2.1, f.2.2.1, wr (shrI .u64 (IntKind.u64.wrap (wr (i + j))) 1)), f'))
    else
     some (.inl (i, wr (shrI .u64 (IntKind.u64.wrap (wr (i + j))) 1), (f.1, f.2.1, f.2.2.1, wr (shrI .u64 (IntKind.u64.wrap (wr (i + j))) 1)), f')))
    (none))
   (none)
 else
  some (.inr i)
theorem one32_0a : oneLoop Try.prog 32 0 = true := by kernel_rfl
theorem lp32_0a : ItemOk Try.prog (.loop 32 0 T32_0a X32_0a (loopVal step32_0a)) := item_loopM md5 ext5 (U := 9) (n := 10) noSpecial mixed Gm2K8_ok one32_0a (fun x => by kernel_rfl)
noncomputable def Gm3K1 : List Ev.Item := .loop 32 0 T32_0a X32_0a (loopVal step32_0a) :: Gm2K8
theorem Gm3K1_ok : ∀ q ∈ Gm3K1, ItemOk Try.prog q := items_cons lp32_0a Gm2K8_ok
noncomputable def s10 : (Int × (Int × Int) × Int × Int) × (List Int) → Option (Int × Int) := fun (d, targets) =>
 optE (s28 (d, targets)) (fun r1 =>
  bif r1 != 0 then
   some ((0, r1))
  else
   optE (loopVal step32_0a (0, 40001, d, targets)) (fun e2 =>
    bif decide (e2 > 40000) then
     some ((0, 12))
    else
     some ((e2, 0)))
    (none))
  (none)
theorem i10 : ItemOk Try.prog (.fn 10 [.d (.agg (.pair zI (.pair zP zP))), .d (.slice zI)] [.d zI, .d zI] s10) := item_fnM md5 ext5 (U := 9) (n := 12) noSpecial mixed Gm3K1_ok (fun x => by kernel_rfl)
noncomputable def Gm3K2 : List Ev.Item := .fn 10 [.d (.agg (.pair zI (.pair zP zP))), .d (.slice zI)] [.d zI, .d zI] s10 :: Gm3K1
theorem Gm3K2_ok : ∀ q ∈ Gm3K2, ItemOk Try.prog q := items_cons i10 Gm3K1_ok
end Go.Proofs.Ythabingkfmlbbaa
