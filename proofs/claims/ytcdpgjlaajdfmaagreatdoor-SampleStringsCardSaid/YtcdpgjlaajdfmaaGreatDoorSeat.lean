/- What is asked of the program once. -/
import Derived.Test.YtcdpgjlaajdfmaaGreatDoorCoreF
import Derived.Test.YtcdpgjlaajdfmaaGreatDoorRows
set_option linter.unusedSimpArgs false
namespace Go.Proofs.YtcdpgjlaajdfmaaGreatDoor
open Go.Ev
theorem noSpecialB : (Tryz.prog.funcs.toList.all fun fn => !(fn.name == "runtime.NumGoroutine")) = true := by kernel_rfl
theorem noSpecial : NoSpecial Tryz.prog := fun f fn hf => by
 have := List.all_eq_true.1 noSpecialB fn (by rw [Array.mem_toList_iff]; exact Array.mem_of_getElem? hf)
 simpa using this
theorem mixed : Tryz.prog.follows .mixedOrders = true := by kernel_rfl
theorem laid : laidOutB Tryz.prog = true := by kernel_rfl
theorem own : ownKnob Tryz.prog.godebug = none := by kernel_rfl
theorem nothing_ok {P : Program} : KnowOk P nothing := ⟨trivial, fun _ _ _ _ h => (by cases h), fun _ _ _ _ h => (by cases h), fun _ _ _ _ _ _ _ _ _ h => (by cases h), fun _ _ _ _ _ h => (by cases h)⟩
theorem fns_ok {P : Program} {fns : FuncId → List CV → Option (Out RV)} (h : ∀ f args g rv, fns f args = some g → g.at' = some rv → Meets P f args rv) : KnowOk P { fns := fns, loops := fun _ _ => none } := ⟨trivial, fun _ _ _ _ h => (by cases h), h, fun _ _ _ _ _ _ _ _ _ h => (by cases h), fun _ _ _ _ _ h => (by cases h)⟩
end Go.Proofs.YtcdpgjlaajdfmaaGreatDoor
