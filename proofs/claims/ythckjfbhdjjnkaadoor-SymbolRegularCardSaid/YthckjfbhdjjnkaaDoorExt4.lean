/- Chapter 4: how calls are made. -/
import Derived.Test.YthckjfbhdjjnkaaDoorBase
set_option linter.unusedSimpArgs false
namespace Go.Proofs.YthckjfbhdjjnkaaDoor
open Go.Ev
abbrev zI : Sh := .int .i64
abbrev zF : Sh := .pair zI (.pair zI (.pair zI zI))
abbrev zP : Sh := .pair zI zI
def own4 (g : Nat) : Bool := Nat.beq g 84 || Nat.beq g 88 || Nat.beq g 89 || Nat.beq g 90 || Nat.beq g 100 || Nat.beq g 103 || Nat.beq g 118 || Nat.beq g 120 || Nat.beq g 121 || Nat.beq g 125 || Nat.beq g 139 || Nat.beq g 147 || Nat.beq g 148 || Nat.beq g 155 || Nat.beq g 156 || Nat.beq g 157
def cut4 (_ : Nat) : Bool := false
def frz4 (_ : Nat) : Bool := false
def keep4 (g : Nat) : Option (List Nat) := bif Nat.beq g 23 then some [2, 3, 4, 7, 31, 32, 33] else bif Nat.beq g 32 then some [11, 18, 19] else bif Nat.beq g 47 then some [11] else bif Nat.beq g 48 then some [1, 2, 17] else bif Nat.beq g 49 then some [6, 23, 24, 26, 27] else bif Nat.beq g 50 then some [1, 4, 6] else bif Nat.beq g 51 then some [6, 8, 9, 26, 27, 30] else bif Nat.beq g 56 then some [2, 4, 6, 27, 31] else bif Nat.beq g 89 then some [4] else bif Nat.beq g 100 then some [6, 12, 22] else bif Nat.beq g 102 then some [1, 2, 5, 16, 20, 21, 25] else bif Nat.beq g 118 then some [0, 1, 3, 17] else bif Nat.beq g 120 then some [2, 7] else bif Nat.beq g 121 then some [0, 2, 4, 60, 63] else bif Nat.beq g 125 then some [1, 2, 9, 10, 38] else bif Nat.beq g 135 then some [6] else bif Nat.beq g 137 then some [6] else bif Nat.beq g 145 then some [0, 1, 5, 7, 8, 16] else bif Nat.beq g 146 then some [0, 1, 5, 7, 8, 16] else bif Nat.beq g 147 then some [0, 5, 8, 45] else bif Nat.beq g 148 then some [0, 7, 22, 31] else bif Nat.beq g 155 then some [0, 6, 9] else bif Nat.beq g 156 then some [0, 1] else none
def md4 : Ev.Mode := { inl := own4, cut := cut4, frz := frz4, keep := keep4 }
theorem ext4 : ExtsOk Tryd.prog md4 := fun g e xs sv hg => by cases hg
def md4s : Ev.Mode := { inl := own4, cut := cut4, frz := frz4, strict := true, keep := keep4 }
theorem ext4s : ExtsOk Tryd.prog md4s := fun g e xs sv hg => by cases hg
end Go.Proofs.YthckjfbhdjjnkaaDoor
