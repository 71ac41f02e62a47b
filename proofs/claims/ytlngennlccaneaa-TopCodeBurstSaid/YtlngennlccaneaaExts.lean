/- Chapter 2, strings: how calls are made. -/
import Derived.Test.YtlngennlccaneaaBase
import Derived.Laws.Externs
set_option linter.unusedSimpArgs false
namespace Go.Proofs.Ytlngennlccaneaa
open Go.Ev
abbrev zI : Sh := .int .i64
abbrev zF : Sh := .pair zI (.pair zI (.pair zI zI))
def own5 (g : Nat) : Bool := Nat.beq g 41 || Nat.beq g 49 || Nat.beq g 50
def cut5 (g : Nat) : Bool := Nat.beq g 99999
def frz5 (g : Nat) : Bool := Nat.beq g 7 || Nat.beq g 8 || Nat.beq g 12 || Nat.beq g 13 || Nat.beq g 16
def keep5 (g : Nat) : Option (List Nat) := bif Nat.beq g 17 then some [5, 6, 7, 10, 11, 29, 37, 38, 45, 52] else bif Nat.beq g 31 then some [2, 3, 6, 66] else bif Nat.beq g 39 then some [1, 58] else bif Nat.beq g 41 then some [0, 1, 6, 17, 18, 28] else bif Nat.beq g 49 then some [0, 1, 5, 7, 8, 16] else bif Nat.beq g 55 then some [0, 1, 5, 7, 8, 16] else none
def md5 : Ev.Mode := { inl := own5, cut := cut5, frz := frz5, keep := keep5 }
theorem ext5 : ExtsOk Try.prog md5 := ⟨fun g e xs sv hg => (by cases hg), trivial⟩
def md5s : Ev.Mode := { inl := own5, cut := cut5, frz := frz5, strict := true, keep := keep5 }
theorem ext5s : ExtsOk Try.prog md5s := ⟨fun g e xs sv hg => ext5.1 g e xs sv hg, trivial⟩
end Go.Proofs.Ytlngennlccaneaa
