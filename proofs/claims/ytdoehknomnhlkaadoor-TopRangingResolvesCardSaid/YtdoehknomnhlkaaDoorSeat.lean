/- What is asked of the program once. -/
import Derived.Test.YtdoehknomnhlkaaDoorCoreF
import Derived.Test.YtdoehknomnhlkaaDoorRows
set_option linter.unusedSimpArgs false
namespace Go.Proofs.YtdoehknomnhlkaaDoor
open Go.Ev
theorem noSpecialB : (Tryd.prog.funcs.toList.all fun fn => !(fn.name == "runtime.NumGoroutine")) = true := by kernel_rfl
theorem noSpecial : NoSpecial Tryd.prog := fun f fn hf => by
 have := List.all_eq_true.1 noSpecialB fn (by rw [Array.mem_toList_iff]; exact Array.mem_of_getElem? hf)
 simpa using this
theorem mixed : Tryd.prog.follows .mixedOrders = true := by kernel_rfl
theorem laid : laidOutB Tryd.prog = true := by kernel_rfl
theorem own : ownKnob Tryd.prog.godebug = none := by kernel_rfl
theorem nothing_ok {P : Program} : KnowOk P nothing := ⟨fun _ _ _ _ h => (by cases h), fun _ _ _ _ h => (by cases h), fun _ _ _ _ _ _ _ _ _ h => (by cases h), fun _ _ _ _ _ h => (by cases h)⟩
theorem fns_ok {P : Program} {fns : FuncId → List CV → Option (Out RV)} (h : ∀ f args g rv, fns f args = some g → g.at' = some rv → Meets P f args rv) : KnowOk P { fns := fns, loops := fun _ _ => none } := ⟨fun _ _ _ _ h => (by cases h), h, fun _ _ _ _ _ _ _ _ _ h => (by cases h), fun _ _ _ _ _ h => (by cases h)⟩
end Go.Proofs.YtdoehknomnhlkaaDoor
