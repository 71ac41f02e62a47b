import Derived.Test.YtfmfiflpokogiaaDoorBase
set_option linter.unusedSimpArgs false
namespace Go.Proofs.YtfmfiflpokogiaaDoor
open Go.Ev
abbrev zI : Sh := .int .i64
abbrev zA : Sh := .agg (.pair zI (.pair zI (.pair zI (.pair zI zI))))
abbrev zS : Sh := .slice zA
abbrev zF : Sh := .pair zI (.pair zI (.pair zI zI))
abbrev zP : Sh := .pair zI zI
def own7 (g : Nat) : Bool := Nat.beq g 76 || Nat.beq g 87 || Nat.beq g 112 || Nat.beq g 113 || Nat.beq g 123 || Nat.beq g 128 || Nat.beq g 135 || Nat.beq g 136
def cut7 (g : Nat) : Bool := Nat.beq g 113
def frz7 (g : Nat) : Bool := Nat.beq g 132
def md7 : Ev.Mode := ⟨own7, cut7, frz7, fun _ => none, false⟩
theorem ext7 : ExtsOk Tryd.prog md7 := fun g e xs sv hg => by cases hg
def md7s : Ev.Mode := ⟨own7, cut7, frz7, fun _ => none, true⟩
theorem ext7s : ExtsOk Tryd.prog md7s := fun g e xs sv hg => by cases hg
end Go.Proofs.YtfmfiflpokogiaaDoor
