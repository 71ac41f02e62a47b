/- PathMotions: the statement holds for every input; no condition. -/
import Derived.Test.YthabingkfmlbbaaMotions
import Derived.WalkKit
import Derived.ProofKit
import Derived.OpenShut
import Derived.JoinedCond
set_option linter.unusedSimpArgs false
namespace Go.Proofs.Ythabingkfmlbbaa
open Go.Ev Go.ChangeShapes Go.WideShapes Go.ChangeAt Go.RowKit
theorem pathMotionsLaw : ∀ cs, Typed [(.agg (.pair (.int .i64) (.pair (.pair (.int .i64) (.int .i64)) (.pair (.int .i64) (.int .i64))))), (.slice (.int .i64))] cs → Meets Try.prog 3 cs saysTrue := law_of_spec (shs := [(.agg (.pair (.int .i64) (.pair (.pair (.int .i64) (.int .i64)) (.pair (.int .i64) (.int .i64))))), (.slice (.int .i64))]) i3 (fun x _ => pathMotions_true x)
set_option maxRecDepth 100000 in
theorem pathMotionsLifted (os : Os) (started : os.Started) (H : Type) (enc : TypeId × Value → H) :
 ReturnsInHanded {} Try.checked os 3 .any (Rows.pathMotionsSpec.pre6 enc Try.prog Try.f3 Rows.pathMotionsRow.domain false) (Rows.pathMotionsSpec.post enc Try.prog Try.f3 false true false false) := by
 refine returnsInHanded_of_change (C := Try.checked) own started (by kernel_rfl) Try.func3
  (ChangeSpec.witness6 (enc := enc) (C := Try.checked) false ⟨#[], #[.agg #[.int .i64 0, .int .i64 0, .int .i64 0, .int .i64 0, .int .i64 0], .slice none 0 0], []⟩ 8 (by kernel_rfl) (by kernel_rfl) (by kernel_rfl) (by kernel_rfl)) ?_
 intro W base args ds gs before hval hW _ _
 refine contract_of_law (shs := [(.agg (.pair (.int .i64) (.pair (.pair (.int .i64) (.int .i64)) (.pair (.int .i64) (.int .i64))))), (.slice (.int .i64))]) (tb := 4) laid (by kernel_rfl) (by kernel_rfl) rfl (by kernel_rfl) (by kernel_rfl) rfl (fun ds h => ?_) pathMotionsLaw ⟨fun g sh x hg => (by cases hg), fun g hg => (by simp [globI] at hg)⟩ hval hW
 match ds, h with
 | [_, _], _ => rfl
theorem pathMotions_holds : Rows.PathMotionsSaid :=
 OpenClaim.holds_of_wide 3 Try.f3 rfl rfl rfl rfl rfl rfl rfl ⟨rfl, rfl, rfl, rfl, rfl⟩ rfl rfl rfl rfl rfl (by kernel_rfl) Try.func3 (by kernel_rfl)
  (of_decide_eq_true (by kernel_rfl)) (by unfold Func.isWrapper; first | (rw [if_pos (by decide +kernel)]; kernel_rfl) | (rw [if_neg (by decide +kernel)]; exact ⟨rfl, rfl⟩))
  (fun os started H enc _ => pathMotionsLifted os started H enc)
#print axioms pathMotions_holds
end Go.Proofs.Ythabingkfmlbbaa
