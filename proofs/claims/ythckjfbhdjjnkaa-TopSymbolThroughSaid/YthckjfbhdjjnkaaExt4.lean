/- Chapter 4: how calls are made. -/
import Derived.Test.YthckjfbhdjjnkaaBase
set_option linter.unusedSimpArgs false
namespace Go.Proofs.Ythckjfbhdjjnkaa
open Go.Ev
abbrev zI : Sh := .int .i64
abbrev zF : Sh := .pair zI (.pair zI (.pair zI zI))
abbrev zP : Sh := .pair zI zI
def own4 (g : Nat) : Bool := Nat.beq g 44 || Nat.beq g 49 || Nat.beq g 60 || Nat.beq g 61 || Nat.beq g 78 || Nat.beq g 79 || Nat.beq g 89 || Nat.beq g 91 || Nat.beq g 92 || Nat.beq g 98 || Nat.beq g 99 || Nat.beq g 100
def cut4 (_ : Nat) : Bool := false
def frz4 (_ : Nat) : Bool := false
def keep4 (g : Nat) : Option (List Nat) := bif Nat.beq g 16 then some [2, 4, 6, 27, 31] else bif Nat.beq g 18 then some [11] else bif Nat.beq g 21 then some [1, 2, 17] else bif Nat.beq g 29 then some [1, 4, 6] else bif Nat.beq g 31 then some [2, 3, 9, 23, 24, 27, 28, 30, 35] else bif Nat.beq g 44 then some [6, 12, 22] else bif Nat.beq g 48 then some [1, 2, 5, 16, 20, 21, 25] else bif Nat.beq g 51 then some [1, 3, 7, 11, 13, 17] else bif Nat.beq g 61 then some [1, 2, 9, 10, 38] else bif Nat.beq g 75 then some [6] else bif Nat.beq g 83 then some [0, 1, 5, 7, 8, 16] else bif Nat.beq g 89 then some [0, 2, 4, 60, 63] else bif Nat.beq g 91 then some [0, 5, 8, 45] else bif Nat.beq g 92 then some [0, 7, 22, 31] else bif Nat.beq g 95 then some [6] else bif Nat.beq g 98 then some [0, 6, 9] else bif Nat.beq g 99 then some [0, 1] else bif Nat.beq g 101 then some [0, 1, 5, 7, 8, 16] else none
def md4 : Ev.Mode := { inl := own4, cut := cut4, frz := frz4, keep := keep4 }
theorem ext4 : ExtsOk Try.prog md4 := fun g e xs sv hg => by cases hg
def md4s : Ev.Mode := { inl := own4, cut := cut4, frz := frz4, strict := true, keep := keep4 }
theorem ext4s : ExtsOk Try.prog md4s := fun g e xs sv hg => by cases hg
end Go.Proofs.Ythckjfbhdjjnkaa
