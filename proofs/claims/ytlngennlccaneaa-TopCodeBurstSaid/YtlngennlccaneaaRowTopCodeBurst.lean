/- TopCodeBurst: the statement holds for every input; no condition. -/
import Derived.Test.YtlngennlccaneaaTop2
import Derived.WalkKit
import Derived.ProofKit
import Derived.OpenShut
import Derived.JoinedCond
set_option linter.unusedSimpArgs false
namespace Go.Proofs.Ytlngennlccaneaa
open Go.Ev Go.ChangeShapes Go.WideShapes Go.ChangeAt Go.RowKit
theorem topCodeBurstLaw : ∀ cs, Typed [(.int .i64), (.slice (.slice (.int .i64))), (.agg (.pair (.int .i64) (.slice (.int .i64))))] cs → Meets Try.prog 3 cs saysTrue := law_of_spec (shs := [(.int .i64), (.slice (.slice (.int .i64))), (.agg (.pair (.int .i64) (.slice (.int .i64))))]) i3 (fun x _ => top_law x.1 x.2.1 x.2.2)
set_option maxRecDepth 100000 in
theorem topCodeBurstLifted (os : Os) (started : os.Started) (H : Type) (enc : TypeId × Value → H) :
 ReturnsInHanded {} Try.checked os 3 .any (Rows.topCodeBurstSpec.pre6 enc Try.prog Try.f3 Rows.topCodeBurstRow.domain false) (Rows.topCodeBurstSpec.post enc Try.prog Try.f3 false true false false) := by
 refine returnsInHanded_of_change (C := Try.checked) own started (by kernel_rfl) Try.func3
  (ChangeSpec.witness6 (enc := enc) (C := Try.checked) false ⟨#[], #[.int .i64 0, .slice none 0 0, .agg #[.int .i64 0, .slice none 0 0]], []⟩ 8 (by kernel_rfl) (by kernel_rfl) (by kernel_rfl) (by kernel_rfl)) ?_
 intro W base args ds gs before hval hW _ _
 refine contract_of_law (shs := [(.int .i64), (.slice (.slice (.int .i64))), (.agg (.pair (.int .i64) (.slice (.int .i64))))]) (tb := 4) laid (by kernel_rfl) (by kernel_rfl) rfl (by kernel_rfl) (by kernel_rfl) rfl (fun ds h => ?_) topCodeBurstLaw ⟨fun g sh x hg => (by cases hg), fun g hg => (by simp [globI] at hg)⟩ hval hW
 match ds, h with
 | [_, _, _], _ => rfl
theorem topCodeBurst_holds : Rows.TopCodeBurstSaid :=
 OpenClaim.holds_of_wide 3 Try.f3 rfl rfl rfl rfl rfl rfl rfl ⟨rfl, rfl, rfl, rfl, rfl⟩ rfl rfl rfl rfl rfl (by kernel_rfl) Try.func3 (by kernel_rfl)
  (of_decide_eq_true (by kernel_rfl)) (by unfold Func.isWrapper; first | (rw [if_pos (by decide +kernel)]; kernel_rfl) | (rw [if_neg (by decide +kernel)]; exact ⟨rfl, rfl⟩))
  (fun os started H enc _ => topCodeBurstLifted os started H enc)
#print axioms topCodeBurst_holds
end Go.Proofs.Ytlngennlccaneaa
