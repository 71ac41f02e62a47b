import Derived.Test.YthckjfbhdjjnkaaDoorBase
set_option linter.unusedSimpArgs false
namespace Go.Proofs.YthckjfbhdjjnkaaDoor
open Go.Ev
abbrev zI : Sh := .int .i64
abbrev zA : Sh := .agg (.pair zI (.pair zI (.pair zI (.pair zI zI))))
abbrev zS : Sh := .slice zA
abbrev zF : Sh := .pair zI (.pair zI (.pair zI zI))
abbrev zP : Sh := .pair zI zI
def own4 (g : Nat) : Bool := Nat.beq g 84 || Nat.beq g 88 || Nat.beq g 89 || Nat.beq g 90 || Nat.beq g 100 || Nat.beq g 103 || Nat.beq g 118 || Nat.beq g 120 || Nat.beq g 121 || Nat.beq g 125 || Nat.beq g 139 || Nat.beq g 147 || Nat.beq g 148 || Nat.beq g 155 || Nat.beq g 156 || Nat.beq g 157
def cut4 (_ : Nat) : Bool := false
def frz4 (_ : Nat) : Bool := false
def md4 : Ev.Mode := ⟨own4, cut4, frz4, fun _ => none, false⟩
theorem ext4 : ExtsOk Tryd.prog md4 := fun g e xs sv hg => by cases hg
def md4s : Ev.Mode := ⟨own4, cut4, frz4, fun _ => none, true⟩
theorem ext4s : ExtsOk Tryd.prog md4s := fun g e xs sv hg => by cases hg
end Go.Proofs.YthckjfbhdjjnkaaDoor
