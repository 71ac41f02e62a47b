/- PathWindows: the row. -/
import Derived.Test.YtgpfdacidgmelaaGreatWindows
import Derived.WalkKit
import Derived.ProofKit
import Derived.OpenShut
import Derived.JoinedCond
set_option linter.unusedSimpArgs false
namespace Go.Proofs.YtgpfdacidgmelaaGreat
open Go.Ev Go.ChangeShapes Go.WideShapes Go.ChangeAt Go.RowKit

theorem pathWindowsLaw : ∀ cs, Typed [(.agg (.pair (.pair (.pair (.int .i64) (.pair (.int .i64) (.int .i64))) (.slice (.agg (.pair (.pair (.int .i64) (.pair (.int .i64) (.int .i64))) (.pair (.int .i64) (.int .i64)))))) (.pair (.pair (.slice (.agg (.pair (.int .i64) (.pair (.int .i64) (.pair (.int .i64) (.int .i64)))))) (.int .i64)) (.pair (.slice (.agg (.pair (.int .i64) (.pair (.int .i64) (.pair (.int .i64) (.int .i64)))))) (.int .i64))))), (.agg (.pair (.int .i64) (.pair (.int .i64) (.int .i64))))] cs → Meets Tryz.prog 9 cs saysTrue := law_of_spec (shs := [(.agg (.pair (.pair (.pair (.int .i64) (.pair (.int .i64) (.int .i64))) (.slice (.agg (.pair (.pair (.int .i64) (.pair (.int .i64) (.int .i64))) (.pair (.int .i64) (.int .i64)))))) (.pair (.pair (.slice (.agg (.pair (.int .i64) (.pair (.int .i64) (.pair (.int .i64) (.int .i64)))))) (.int .i64)) (.pair (.slice (.agg (.pair (.int .i64) (.pair (.int .i64) (.pair (.int .i64) (.int .i64)))))) (.int .i64))))), (.agg (.pair (.int .i64) (.pair (.int .i64) (.int .i64))))]) i9 (fun x _ => windows_true x)

set_option maxRecDepth 100000 in
theorem pathWindowsLifted (os : Os) (started : os.Started) (H : Type) (enc : TypeId × Value → H) :
    ReturnsInHanded {} Tryz.checked os 9 .any (Rows.pathWindowsSpec.pre6 enc Tryz.prog Tryz.f9 Rows.pathWindowsRow.domain false) (Rows.pathWindowsSpec.post enc Tryz.prog Tryz.f9 false true false false) := by
  refine returnsInHanded_of_change (C := Tryz.checked) own started (by kernel_rfl) Tryz.func9
    (ChangeSpec.witness6 (enc := enc) (C := Tryz.checked) false ⟨#[], #[.agg #[.int .i64 0, .int .i64 0, .int .i64 0, .slice none 0 0, .slice none 0 0, .int .i64 0, .slice none 0 0, .int .i64 0], .agg #[.int .i64 0, .int .i64 0, .int .i64 0]], []⟩ 8 (by kernel_rfl) (by kernel_rfl) (by kernel_rfl) (by kernel_rfl)) ?_
  intro W base args ds gs before hval hW _ _
  refine contract_of_law (shs := [(.agg (.pair (.pair (.pair (.int .i64) (.pair (.int .i64) (.int .i64))) (.slice (.agg (.pair (.pair (.int .i64) (.pair (.int .i64) (.int .i64))) (.pair (.int .i64) (.int .i64)))))) (.pair (.pair (.slice (.agg (.pair (.int .i64) (.pair (.int .i64) (.pair (.int .i64) (.int .i64)))))) (.int .i64)) (.pair (.slice (.agg (.pair (.int .i64) (.pair (.int .i64) (.pair (.int .i64) (.int .i64)))))) (.int .i64))))), (.agg (.pair (.int .i64) (.pair (.int .i64) (.int .i64))))]) (tb := 4) laid (by kernel_rfl) (by kernel_rfl) rfl (by kernel_rfl) (by kernel_rfl) rfl (fun ds h => ?_) pathWindowsLaw hval hW
  match ds, h with
  | [_, _], _ => rfl

theorem pathWindows_holds : Rows.PathWindowsSaid :=
  OpenClaim.holds_of_wide 9 Tryz.f9 rfl rfl rfl rfl rfl rfl rfl ⟨rfl, rfl, rfl, rfl, rfl⟩ rfl rfl rfl rfl rfl (by kernel_rfl) Tryz.func9 (by kernel_rfl)
    (of_decide_eq_true (by kernel_rfl)) (by unfold Func.isWrapper; first | (rw [if_pos (by decide +kernel)]; kernel_rfl) | (rw [if_neg (by decide +kernel)]; exact ⟨rfl, rfl⟩))
    (fun os started H enc _ => pathWindowsLifted os started H enc)
#print axioms pathWindows_holds
end Go.Proofs.YtgpfdacidgmelaaGreat
