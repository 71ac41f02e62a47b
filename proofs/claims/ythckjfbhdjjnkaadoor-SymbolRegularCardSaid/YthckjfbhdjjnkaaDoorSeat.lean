/- What is asked of the program once. -/
import Derived.Test.YthckjfbhdjjnkaaDoorCoreF
import Derived.Test.YthckjfbhdjjnkaaDoorRows
set_option linter.unusedSimpArgs false
namespace Go.Proofs.YthckjfbhdjjnkaaDoor
open Go.Ev
theorem noSpecialB : (Tryd.prog.funcs.toList.all fun fn => !(fn.name == "runtime.NumGoroutine")) = true := by kernel_rfl
theorem noSpecial : NoSpecial Tryd.prog := fun f fn hf => by
 have := List.all_eq_true.1 noSpecialB fn (by rw [Array.mem_toList_iff]; exact Array.mem_of_getElem? hf)
 simpa using this
theorem mixed : Tryd.prog.follows .mixedOrders = true := by kernel_rfl
theorem laid : laidOutB Tryd.prog = true := by kernel_rfl
theorem own : ownKnob Tryd.prog.godebug = none := by kernel_rfl
end Go.Proofs.YthckjfbhdjjnkaaDoor
