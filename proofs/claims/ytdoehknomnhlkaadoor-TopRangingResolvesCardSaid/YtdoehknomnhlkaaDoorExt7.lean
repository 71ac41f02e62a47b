/- Chapter 7: how calls are made. -/
import Derived.Test.YtdoehknomnhlkaaDoorBase
set_option linter.unusedSimpArgs false
namespace Go.Proofs.YtdoehknomnhlkaaDoor
open Go.Ev
abbrev zI : Sh := .int .i64
abbrev zA : Sh := .agg (.pair zI (.pair zI (.pair zI (.pair zI zI))))
abbrev zS : Sh := .slice zA
abbrev zF : Sh := .pair zI (.pair zI (.pair zI zI))
abbrev zP : Sh := .pair zI zI
def own7 (g : Nat) : Bool := Nat.beq g 26 || Nat.beq g 27 || Nat.beq g 44 || Nat.beq g 45 || Nat.beq g 46 || Nat.beq g 58 || Nat.beq g 62 || Nat.beq g 63
def cut7 (g : Nat) : Bool := Nat.beq g 46
def frz7 (g : Nat) : Bool := Nat.beq g 99999
def keep7 (g : Nat) : Option (List Nat) := bif Nat.beq g 7 then some [0, 4, 5, 6, 18, 26, 27, 33, 34] else bif Nat.beq g 12 then some [4, 12] else bif Nat.beq g 19 then some [11] else bif Nat.beq g 23 then some [1, 2, 3, 6, 26, 27] else bif Nat.beq g 26 then some [0, 3, 8, 9, 10, 19, 23, 24, 28] else bif Nat.beq g 45 then some [] else bif Nat.beq g 46 then some [1, 4, 5, 8, 15, 29] else bif Nat.beq g 51 then some [4, 6, 7, 11, 12] else bif Nat.beq g 62 then some [0, 1, 2, 4, 5, 7, 12, 13, 14, 15, 16, 34, 38, 39, 40, 86] else none
def md7 : Ev.Mode := { inl := own7, cut := cut7, frz := frz7, keep := keep7 }
theorem ext7 : ExtsOk Tryd.prog md7 := fun g e xs sv hg => by cases hg
def md7s : Ev.Mode := { inl := own7, cut := cut7, frz := frz7, strict := true, keep := keep7 }
theorem ext7s : ExtsOk Tryd.prog md7s := fun g e xs sv hg => by cases hg
end Go.Proofs.YtdoehknomnhlkaaDoor
