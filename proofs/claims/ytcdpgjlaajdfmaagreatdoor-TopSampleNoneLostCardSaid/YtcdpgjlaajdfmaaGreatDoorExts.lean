/- Chapter 2, strings: how calls are made. -/
import Derived.Test.YtcdpgjlaajdfmaaGreatDoorBase
import Derived.Laws.Externs
set_option linter.unusedSimpArgs false
namespace Go.Proofs.YtcdpgjlaajdfmaaGreatDoor
open Go.Ev
abbrev zI : Sh := .int .i64
abbrev zP : Sh := .pair zI zI
def own5 (g : Nat) : Bool := Nat.beq g 34
def cut5 (g : Nat) : Bool := Nat.beq g 99999
def frz5 (g : Nat) : Bool := Nat.beq g 99999
def keep5 (g : Nat) : Option (List Nat) := bif Nat.beq g 6 then some [3, 6] else bif Nat.beq g 7 then some [2, 4, 14, 15] else bif Nat.beq g 51 then some [2, 3, 9, 23, 24, 27, 28, 30, 35] else bif Nat.beq g 62 then some [1, 3, 7, 11, 13, 17] else bif Nat.beq g 70 then some [1, 2, 10, 11, 12, 17, 18, 23] else bif Nat.beq g 111 then some [0, 1, 5, 7, 8, 16] else bif Nat.beq g 112 then some [0, 1, 5, 7, 8, 16] else none
def md5 : Ev.Mode := { inl := own5, cut := cut5, frz := frz5, keep := keep5 }
theorem ext5 : ExtsOk Tryz.prog md5 := ⟨fun g e xs sv hg => (by cases hg), trivial⟩
def md5s : Ev.Mode := { inl := own5, cut := cut5, frz := frz5, strict := true, keep := keep5 }
theorem ext5s : ExtsOk Tryz.prog md5s := ⟨fun g e xs sv hg => ext5.1 g e xs sv hg, trivial⟩
end Go.Proofs.YtcdpgjlaajdfmaaGreatDoor
