/- SampleLinear: the row. -/
import Derived.Test.YtinkhmfciealkaaLaw13
import Derived.WalkKit
import Derived.ProofKit
import Derived.OpenShut
import Derived.JoinedCond
set_option linter.unusedSimpArgs false
namespace Go.Proofs.Ytinkhmfciealkaa
open Go.Ev Go.ChangeShapes Go.WideShapes Go.ChangeAt Go.RowKit

theorem sampleLinearLaw : ∀ cs, Typed [(.agg (.pair (.slice (.int .i64)) (.int .i64))), (.agg (.pair (.slice (.int .i64)) (.int .i64))), (.slice (.agg (.pair (.int .i64) (.int .i64))))] cs → Meets Try.prog 13 cs saysTrue := law_of_spec (shs := [(.agg (.pair (.slice (.int .i64)) (.int .i64))), (.agg (.pair (.slice (.int .i64)) (.int .i64))), (.slice (.agg (.pair (.int .i64) (.int .i64))))]) i13 (fun x _ => law13 x)

set_option maxRecDepth 100000 in
theorem sampleLinearLifted (os : Os) (started : os.Started) (H : Type) (enc : TypeId × Value → H) :
    ReturnsInHanded {} Try.checked os 13 .any (Rows.sampleLinearSpec.pre6 enc Try.prog Try.f13 Rows.sampleLinearRow.domain false) (Rows.sampleLinearSpec.post enc Try.prog Try.f13 false true false false) := by
  refine returnsInHanded_of_change (C := Try.checked) own started (by kernel_rfl) Try.func13
    (ChangeSpec.witness6 (enc := enc) (C := Try.checked) false ⟨#[], #[.agg #[.slice none 0 0, .int .i64 0], .agg #[.slice none 0 0, .int .i64 0], .slice none 0 0], []⟩ 8 (by kernel_rfl) (by kernel_rfl) (by kernel_rfl) (by kernel_rfl)) ?_
  intro W base args ds gs before hval hW _ _
  refine contract_of_law (shs := [(.agg (.pair (.slice (.int .i64)) (.int .i64))), (.agg (.pair (.slice (.int .i64)) (.int .i64))), (.slice (.agg (.pair (.int .i64) (.int .i64))))]) (tb := 4) laid (by kernel_rfl) (by kernel_rfl) rfl (by kernel_rfl) (by kernel_rfl) rfl (fun ds h => ?_) sampleLinearLaw hval hW
  match ds, h with
  | [_, _, _], _ => rfl

theorem sampleLinear_holds : Rows.SampleLinearSaid :=
  OpenClaim.holds_of_wide 13 Try.f13 rfl rfl rfl rfl rfl rfl rfl ⟨rfl, rfl, rfl, rfl, rfl⟩ rfl rfl rfl rfl rfl (by kernel_rfl) Try.func13 (by kernel_rfl)
    (of_decide_eq_true (by kernel_rfl)) (by unfold Func.isWrapper; first | (rw [if_pos (by decide +kernel)]; kernel_rfl) | (rw [if_neg (by decide +kernel)]; exact ⟨rfl, rfl⟩))
    (fun os started H enc _ => sampleLinearLifted os started H enc)
#print axioms sampleLinear_holds
end Go.Proofs.Ytinkhmfciealkaa
