/- What is asked of the program once. -/
import Derived.Test.YtlngennlccaneaaCoreF
import Derived.Test.YtlngennlccaneaaRows
set_option linter.unusedSimpArgs false
namespace Go.Proofs.Ytlngennlccaneaa
open Go.Ev
theorem noSpecialB : (Try.prog.funcs.toList.all fun fn => !(fn.name == "runtime.NumGoroutine")) = true := by kernel_rfl
theorem noSpecial : NoSpecial Try.prog := fun f fn hf => by
 have := List.all_eq_true.1 noSpecialB fn (by rw [Array.mem_toList_iff]; exact Array.mem_of_getElem? hf)
 simpa using this
theorem mixed : Try.prog.follows .mixedOrders = true := by kernel_rfl
theorem laid : laidOutB Try.prog = true := by kernel_rfl
theorem own : ownKnob Try.prog.godebug = none := by kernel_rfl
end Go.Proofs.Ytlngennlccaneaa
