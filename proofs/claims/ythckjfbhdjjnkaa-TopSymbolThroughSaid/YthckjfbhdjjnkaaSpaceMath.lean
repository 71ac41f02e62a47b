/- Counting: wrong symbols of two overlapping markers, and mismatches. -/
import Derived.Test.YthckjfbhdjjnkaaFindLaw
set_option linter.unusedSimpArgs false
namespace Go.Proofs.Ythckjfbhdjjnkaa
open Go.Ev
section
variable (m l : List Int)
def w1 (a j : Nat) : Bool := decide (¬ hardV (l.getD (a + j) 0) = m.getD j 0)
def w2 (a j : Nat) : Bool := decide (¬ hardV (l.getD (a + j) 0) = 1 - m.getD j 0)
end
section
variable {m l : List Int} {a d : Nat}
end
end Go.Proofs.Ythckjfbhdjjnkaa
