/- Names that the printed specifications use. -/
import Derived.Test.YtlngennlccaneaaCoreG
import Derived.Test.YtlngennlccaneaaSeat
set_option linter.unusedSimpArgs false
namespace Go.Proofs.Ytlngennlccaneaa
open Go.Ev
def wr (n : Int) : Int := IntKind.i64.wrap n
def mx (a b : Int) : Int := if b > a then b else a
def mn (a b : Int) : Int := if b < a then b else a
def room (b n : Nat) : Bool := decide (n * b ≤ 140737488355328) && decide (n ≤ 140737488355328)
def andI (k : IntKind) (a b : Int) : Int := k.wrap ((BitVec.ofInt k.bits a &&& BitVec.ofInt k.bits b).toNat : Int)
def xorI (k : IntKind) (a b : Int) : Int := k.wrap ((BitVec.ofInt k.bits a ^^^ BitVec.ofInt k.bits b).toNat : Int)
def shlI (k : IntKind) (a b : Int) : Int := k.wrap (a * 2 ^ (min b.toNat k.bits))
def shrI (k : IntKind) (a b : Int) : Int := a.fdiv (2 ^ (min b.toNat k.bits))
theorem wr_id {n : Int} (h1 : -9223372036854775808 ≤ n) (h2 : n < 9223372036854775808) : wr n = n := by
 unfold wr
 simp [IntKind.wrap, IntKind.signed, IntKind.bits]
 omega
end Go.Proofs.Ytlngennlccaneaa
