/- What is asked of the program once. -/
import Derived.Test.YthabingkfmlbbaaGreatCoreF
import Derived.Test.YthabingkfmlbbaaGreatRows
set_option linter.unusedSimpArgs false
namespace Go.Proofs.YthabingkfmlbbaaGreat
open Go.Ev
theorem noSpecialB : (Tryz.prog.funcs.toList.all fun fn => !(fn.name == "runtime.NumGoroutine")) = true := by kernel_rfl
theorem noSpecial : NoSpecial Tryz.prog := fun f fn hf => by
 have := List.all_eq_true.1 noSpecialB fn (by rw [Array.mem_toList_iff]; exact Array.mem_of_getElem? hf)
 simpa using this
theorem mixed : Tryz.prog.follows .mixedOrders = true := by kernel_rfl
theorem laid : laidOutB Tryz.prog = true := by kernel_rfl
theorem own : ownKnob Tryz.prog.godebug = none := by kernel_rfl
end Go.Proofs.YthabingkfmlbbaaGreat
