/- Chapter 2, strings: how calls are made. -/
import Derived.Test.YtfpppijfkeidgaaGreatDoorBase
import Derived.Laws.Externs
set_option linter.unusedSimpArgs false
namespace Go.Proofs.YtfpppijfkeidgaaGreatDoor
open Go.Ev
abbrev zI : Sh := .int .i64
abbrev zA : Sh := .agg (.pair zI (.pair zI (.pair zI (.pair zI zI))))
abbrev zS : Sh := .slice zA
abbrev zF : Sh := .pair zI (.pair zI (.pair zI zI))
abbrev zP : Sh := .pair zI zI
def own5 (g : Nat) : Bool := Nat.beq g 36 || Nat.beq g 37 || Nat.beq g 39 || Nat.beq g 40 || Nat.beq g 52 || Nat.beq g 60 || Nat.beq g 61 || Nat.beq g 70 || Nat.beq g 78 || Nat.beq g 90 || Nat.beq g 91
def cut5 (g : Nat) : Bool := Nat.beq g 61
def frz5 (g : Nat) : Bool := Nat.beq g 99999
def keep5 (g : Nat) : Option (List Nat) := bif Nat.beq g 9 then some [2, 5, 6, 8, 26, 27, 28, 35, 36, 41, 43, 48] else bif Nat.beq g 13 then some [2, 7, 23, 24, 25] else bif Nat.beq g 14 then some [11, 12, 13] else bif Nat.beq g 15 then some [1, 2, 3, 6, 26, 27] else bif Nat.beq g 22 then some [11] else bif Nat.beq g 48 then some [4, 6, 7, 11, 12] else bif Nat.beq g 52 then some [0, 3, 8, 9, 10, 19, 23, 24, 28] else bif Nat.beq g 60 then some [] else bif Nat.beq g 61 then some [1, 4, 5, 8, 15, 29] else bif Nat.beq g 90 then some [0, 1, 2, 4, 5, 7, 12, 13, 14, 15, 16, 34, 38, 39, 40, 86] else none
def md5 : Ev.Mode := { inl := own5, cut := cut5, frz := frz5, keep := keep5 }
theorem ext5 : ExtsOk Tryz.prog md5 := ⟨fun g e xs sv hg => (by cases hg), trivial⟩
def md5s : Ev.Mode := { inl := own5, cut := cut5, frz := frz5, strict := true, keep := keep5 }
theorem ext5s : ExtsOk Tryz.prog md5s := ⟨fun g e xs sv hg => ext5.1 g e xs sv hg, trivial⟩
end Go.Proofs.YtfpppijfkeidgaaGreatDoor
