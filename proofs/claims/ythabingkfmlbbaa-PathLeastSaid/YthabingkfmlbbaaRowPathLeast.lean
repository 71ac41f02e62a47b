/- PathLeast: the statement holds for every input; no condition. -/
import Derived.Test.YthabingkfmlbbaaLeast
import Derived.WalkKit
import Derived.ProofKit
import Derived.OpenShut
import Derived.JoinedCond
set_option linter.unusedSimpArgs false
namespace Go.Proofs.Ythabingkfmlbbaa
open Go.Ev Go.ChangeShapes Go.WideShapes Go.ChangeAt Go.RowKit
theorem pathLeastLaw : ∀ cs, Typed [(.agg (.pair (.int .i64) (.pair (.pair (.int .i64) (.int .i64)) (.pair (.int .i64) (.int .i64))))), (.slice (.int .i64)), (.slice (.int .i64))] cs → Meets Try.prog 4 cs saysTrue := law_of_spec (shs := [(.agg (.pair (.int .i64) (.pair (.pair (.int .i64) (.int .i64)) (.pair (.int .i64) (.int .i64))))), (.slice (.int .i64)), (.slice (.int .i64))]) i4 (fun x _ => pathLeast_true x.1 x.2.1 x.2.2)
set_option maxRecDepth 100000 in
theorem pathLeastLifted (os : Os) (started : os.Started) (H : Type) (enc : TypeId × Value → H) :
 ReturnsInHanded {} Try.checked os 4 .any (Rows.pathLeastSpec.pre6 enc Try.prog Try.f4 Rows.pathLeastRow.domain false) (Rows.pathLeastSpec.post enc Try.prog Try.f4 false true false false) := by
 refine returnsInHanded_of_change (C := Try.checked) own started (by kernel_rfl) Try.func4
  (ChangeSpec.witness6 (enc := enc) (C := Try.checked) false ⟨#[], #[.agg #[.int .i64 0, .int .i64 0, .int .i64 0, .int .i64 0, .int .i64 0], .slice none 0 0, .slice none 0 0], []⟩ 8 (by kernel_rfl) (by kernel_rfl) (by kernel_rfl) (by kernel_rfl)) ?_
 intro W base args ds gs before hval hW _ _
 refine contract_of_law (shs := [(.agg (.pair (.int .i64) (.pair (.pair (.int .i64) (.int .i64)) (.pair (.int .i64) (.int .i64))))), (.slice (.int .i64)), (.slice (.int .i64))]) (tb := 4) laid (by kernel_rfl) (by kernel_rfl) rfl (by kernel_rfl) (by kernel_rfl) rfl (fun ds h => ?_) pathLeastLaw ⟨fun g sh x hg => (by cases hg), fun g hg => (by simp [globI] at hg)⟩ hval hW
 match ds, h with
 | [_, _, _], _ => rfl
theorem pathLeast_holds : Rows.PathLeastSaid :=
 OpenClaim.holds_of_wide 4 Try.f4 rfl rfl rfl rfl rfl rfl rfl ⟨rfl, rfl, rfl, rfl, rfl⟩ rfl rfl rfl rfl rfl (by kernel_rfl) Try.func4 (by kernel_rfl)
  (of_decide_eq_true (by kernel_rfl)) (by unfold Func.isWrapper; first | (rw [if_pos (by decide +kernel)]; kernel_rfl) | (rw [if_neg (by decide +kernel)]; exact ⟨rfl, rfl⟩))
  (fun os started H enc _ => pathLeastLifted os started H enc)
#print axioms pathLeast_holds
end Go.Proofs.Ythabingkfmlbbaa
