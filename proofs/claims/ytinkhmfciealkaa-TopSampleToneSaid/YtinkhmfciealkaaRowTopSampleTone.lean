/- TopSampleTone: the row. -/
import Derived.Test.YtinkhmfciealkaaLaw16
import Derived.WalkKit
import Derived.ProofKit
import Derived.OpenShut
import Derived.JoinedCond
set_option linter.unusedSimpArgs false
namespace Go.Proofs.Ytinkhmfciealkaa
open Go.Ev Go.ChangeShapes Go.WideShapes Go.ChangeAt Go.RowKit

theorem topSampleToneLaw : ∀ cs, Typed [(.agg (.pair (.int .i64) (.int .i64))), (.int .i64), (.int .i64)] cs → Meets Try.prog 16 cs saysTrue := law_of_spec (shs := [(.agg (.pair (.int .i64) (.int .i64))), (.int .i64), (.int .i64)]) i16 (fun x _ => law16 x)

set_option maxRecDepth 100000 in
theorem topSampleToneLifted (os : Os) (started : os.Started) (H : Type) (enc : TypeId × Value → H) :
    ReturnsInHanded {} Try.checked os 16 .any (Rows.topSampleToneSpec.pre6 enc Try.prog Try.f16 Rows.topSampleToneRow.domain false) (Rows.topSampleToneSpec.post enc Try.prog Try.f16 false true false false) := by
  refine returnsInHanded_of_change (C := Try.checked) own started (by kernel_rfl) Try.func16
    (ChangeSpec.witness6 (enc := enc) (C := Try.checked) false ⟨#[], #[.agg #[.int .i64 0, .int .i64 0], .int .i64 0, .int .i64 0], []⟩ 8 (by kernel_rfl) (by kernel_rfl) (by kernel_rfl) (by kernel_rfl)) ?_
  intro W base args ds gs before hval hW _ _
  refine contract_of_law (shs := [(.agg (.pair (.int .i64) (.int .i64))), (.int .i64), (.int .i64)]) (tb := 4) laid (by kernel_rfl) (by kernel_rfl) rfl (by kernel_rfl) (by kernel_rfl) rfl (fun ds h => ?_) topSampleToneLaw hval hW
  match ds, h with
  | [_, _, _], _ => rfl

theorem topSampleTone_holds : Rows.TopSampleToneSaid :=
  OpenClaim.holds_of_wide 16 Try.f16 rfl rfl rfl rfl rfl rfl rfl ⟨rfl, rfl, rfl, rfl, rfl⟩ rfl rfl rfl rfl rfl (by kernel_rfl) Try.func16 (by kernel_rfl)
    (of_decide_eq_true (by kernel_rfl)) (by unfold Func.isWrapper; first | (rw [if_pos (by decide +kernel)]; kernel_rfl) | (rw [if_neg (by decide +kernel)]; exact ⟨rfl, rfl⟩))
    (fun os started H enc _ => topSampleToneLifted os started H enc)
#print axioms topSampleTone_holds
end Go.Proofs.Ytinkhmfciealkaa
