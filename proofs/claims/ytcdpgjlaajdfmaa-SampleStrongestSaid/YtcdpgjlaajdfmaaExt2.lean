/- Chapter 2: how calls are made. -/
import Derived.Test.YtcdpgjlaajdfmaaBase
import Derived.Test.YtcdpgjlaajdfmaaMapMax
set_option linter.unusedSimpArgs false
namespace Go.Proofs.Ytcdpgjlaajdfmaa
open Go.Ev
abbrev zI : Sh := .int .i64
abbrev zP : Sh := .pair zI zI
def keep2 (g : Nat) : Option (List Nat) := bif Nat.beq g 30 then some [1, 3, 7, 11, 13, 17] else bif Nat.beq g 36 then some [1, 2, 10, 11, 12, 17, 18, 23] else bif Nat.beq g 42 then some [2, 7] else bif Nat.beq g 43 then some [0, 6, 13] else bif Nat.beq g 55 then some [0, 1, 5, 7, 8, 16] else bif Nat.beq g 59 then some [0, 1, 5, 7, 8, 16] else none
def md2 : Ev.Mode := { keep := keep2, mx := some (25, 24, 23) }
theorem ext2 : ExtsOk Try.prog md2 := ⟨fun g e xs sv hg => (by cases hg), mapMax⟩
def md2s : Ev.Mode := { strict := true, keep := keep2 }
theorem ext2s : ExtsOk Try.prog md2s := ⟨fun g e xs sv hg => (by cases hg), trivial⟩
end Go.Proofs.Ytcdpgjlaajdfmaa
