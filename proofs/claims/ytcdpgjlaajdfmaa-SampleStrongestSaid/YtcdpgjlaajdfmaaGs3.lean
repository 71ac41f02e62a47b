/- Printed by gen.py: specifications of functions. -/
import Derived.Test.YtcdpgjlaajdfmaaGs2
set_option linter.unusedSimpArgs false
set_option maxRecDepth 100000
namespace Go.Proofs.Ytcdpgjlaajdfmaa
open Go.Ev
@[reducible] def T6_0 : Tmpl := ⟨57, [(7, .mref 26)], [.val 0 (.slice (.agg zP)), .val 1 zI, .val 31 zI, .val 32 zI, .map 26 zI zI], [], none⟩
@[reducible] def X6_0 : List (Ex × Tmpl) := [(.exit 0, ⟨57, [(7, .mref 26)], [.map 26 zI zI], [], none⟩)]
noncomputable def step6_0 : (List (Int × Int)) × Int × Int × Int × (List (Int × Int)) → Option (((List (Int × Int)) × Int × Int × Int × (List (Int × Int))) ⊕ (List (Int × Int))) := fun (x0, length, t31, t32, energies) =>
 bif decide (t32 < t31) then
  bif (decide (0 ≤ t32)) && ((decide (t32 ≤ (wr (t32 + length)))) && (decide ((wr (t32 + length)) ≤ (x0.length : Int)))) then
   optE (s22 ((x0.take (wr (t32 + length)).toNat).drop t32.toNat)) (fun r6 =>
    some (.inl (x0, length, t31, wr (t32 + 1), mapPut t32 r6 energies)))
    (none)
  else
   none
 else
  some (.inr energies)
theorem one6_0 : oneLoop Try.prog 6 0 = true := by kernel_rfl
theorem lp6_0 : ItemOk Try.prog (.loop 6 0 T6_0 X6_0 (loopVal step6_0)) := item_loopM md2 ext2 (U := 9) (n := 11) noSpecial mixed Gs2K12_ok one6_0 (fun x => by kernel_rfl)
noncomputable def Gs3K3 : List Ev.Item := .loop 6 0 T6_0 X6_0 (loopVal step6_0) :: Gs2K12
theorem Gs3K3_ok : ∀ q ∈ Gs3K3, ItemOk Try.prog q := items_cons lp6_0 Gs2K12_ok
@[reducible] def T6_2 : Tmpl := ⟨57, [(7, .mref 26)], [.val 9 zI, .val 10 zI, .map 26 zI zI], [], none⟩
@[reducible] def X6_2 : List (Ex × Tmpl) := [(.exit 2, ⟨57, [], [.val 10 zI], [], none⟩)]
noncomputable def step6_2 : Int × Int × (List (Int × Int)) → Option ((Int × Int × (List (Int × Int))) ⊕ (Int)) := fun (most, at0, energies) =>
 bif (mapGet at0 0 energies) != most then
  some (.inl (most, wr (at0 + 1), energies))
 else
  some (.inr at0)
theorem one6_2 : oneLoop Try.prog 6 2 = true := by kernel_rfl
theorem lp6_2 : ItemOk Try.prog (.loop 6 2 T6_2 X6_2 (loopVal step6_2)) := item_loopM md2 ext2 (U := 9) (n := 11) noSpecial mixed Gs3K3_ok one6_2 (fun x => by kernel_rfl)
noncomputable def Gs3K4 : List Ev.Item := .loop 6 2 T6_2 X6_2 (loopVal step6_2) :: Gs3K3
theorem Gs3K4_ok : ∀ q ∈ Gs3K4, ItemOk Try.prog q := items_cons lp6_2 Gs3K3_ok
noncomputable def s6 : (List (Int × Int)) × Int → Option (Int × Int) := fun (x0, length) =>
 optE (s19 x0) (fun r1 =>
  optE (s21 (length, 1, 400)) (fun r2 =>
   optE (s20 (r2, 2)) (fun r3 =>
    optE (s20 (decide (length ≤ (x0.length : Int)), 12)) (fun r4 =>
     optE (s18 [r1, r3, r4]) (fun r5 =>
      bif r5 != 0 then
       some ((0, r5))
      else
       optE (loopVal step6_0 (x0, length, wr ((wr ((x0.length : Int) - length)) + 1), 0, [])) (fun e6 =>
        bif mapNums e6 then
         optE (loopVal step6_2 (maxI (List.map (fun x => x.2) e6), 0, e6)) (fun e7 =>
          some ((e7, 0)))
          (none)
        else
         none)
        (none))
      (none))
     (none))
    (none))
   (none))
  (none)
theorem i6 : ItemOk Try.prog (.fn 6 [.d (.slice (.agg zP)), .d zI] [.d zI, .d zI] s6) := item_fnM md2 ext2 (U := 9) (n := 12) noSpecial mixed Gs3K4_ok (fun x => by kernel_rfl)
noncomputable def Gs3K5 : List Ev.Item := .fn 6 [.d (.slice (.agg zP)), .d zI] [.d zI, .d zI] s6 :: Gs3K4
theorem Gs3K5_ok : ∀ q ∈ Gs3K5, ItemOk Try.prog q := items_cons i6 Gs3K4_ok
end Go.Proofs.Ytcdpgjlaajdfmaa
