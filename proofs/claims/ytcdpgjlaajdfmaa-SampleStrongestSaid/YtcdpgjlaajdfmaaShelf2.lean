/-
 DERIVED: THE SHELF's CONTRACTS AT THIS DUMP, IN PLAIN WORDS (tools/lay-plain.mjs out of 'TryShelf.lean', which tools/lay-shelf.mjs wrote): THE SAME DECLARATIONS UNDER THE SAME NAMES: 'import', 'namespace', 'open', 'def', 'theorem' AND NOTHING ELSE: no command of the shelf's: FOR A HAND-IN. Each laying: the table of numbers ('.._ren') and one theorem, a field a fact of the dump's own or the kernel's comparison; each contract: ONE APPLICATION.
-/
import Derived.Shelf.SlGeneric
import Derived.Shelf.SlIterI.Collect
import Derived.Ground.GgzProg
import Derived.Shelf.SlicesG.Turned
import Derived.Ground.SlgnProg
import Derived.Test.YtcdpgjlaajdfmaaProg
namespace Go.Proofs
open Go.Shelf
def Try.collectA_ren : Go.Shelf.Ren := ⟨fun | 8 => 24 | 11 => 42 | n => n, fun | 26 => 3 | 28 => 59 | 24 => 33 | 0 => 0 | 33 => 88 | 4 => 4 | n => n, fun | n => n⟩
theorem Try.collectA : Go.Proofs.SlLaysZI.n8 Try.prog Try.collectA_ren := {
 mixed := by kernel_rfl
 f8 := ⟨Try.f24.name, by decide, Try.func24.trans (congrArg some (by kernel_rfl))⟩
 f11 := ⟨Try.f42.name, by decide, Try.func42.trans (congrArg some (by kernel_rfl))⟩
 t0 := Try.underlying0
 a0 := Try.isAgg0
 z0 := Try.sizeOf0
 v0 := Try.zeroValue0
 t24 := Try.underlying33
 a24 := Try.isAgg33
 z24 := Try.sizeOf33
 v24 := Try.zeroValue33
 t26 := Try.underlying3
 a26 := Try.isAgg3
 z26 := Try.sizeOf3
 v26 := Try.zeroValue3
 t28 := Try.underlying59
 a28 := Try.isAgg59
 z28 := Try.sizeOf59
 v28 := Try.zeroValue59
 i26 := by kernel_rfl }
def Try.maxA_ren : Go.Shelf.Ren := ⟨fun | 37 => 23 | n => n, fun | 22 => 33 | 23 => 3 | 3 => 3 | 4 => 4 | 9 => 9 | 20 => 20 | 0 => 0 | n => n, fun | n => n⟩
theorem Try.maxA : Go.Proofs.SlLaysN.n37 Try.prog Try.maxA_ren := {
 mixed := by kernel_rfl
 f37 := ⟨Try.f23.name, by decide, Try.func23.trans (congrArg some (by kernel_rfl))⟩
 t0 := Try.underlying0
 a0 := Try.isAgg0
 z0 := Try.sizeOf0
 v0 := Try.zeroValue0
 t3 := Try.underlying3
 a3 := Try.isAgg3
 z3 := Try.sizeOf3
 v3 := Try.zeroValue3
 t4 := Try.underlying4
 a4 := Try.isAgg4
 z4 := Try.sizeOf4
 v4 := Try.zeroValue4
 t9 := Try.underlying9
 a9 := Try.isAgg9
 z9 := Try.sizeOf9
 v9 := Try.zeroValue9
 t20 := Try.underlying20
 a20 := Try.isAgg20
 z20 := Try.sizeOf20
 v20 := Try.zeroValue20
 t22 := Try.underlying33
 a22 := Try.isAgg33
 z22 := Try.sizeOf33
 v22 := Try.zeroValue33
 t23 := Try.underlying3
 a23 := Try.isAgg3
 z23 := Try.sizeOf3
 v23 := Try.zeroValue3 }
end Go.Proofs
