/-
  No cell of these rows narrows 'for every input' (looked for: loops, veiled, ifaces, maps, wideKeys, modest, calm, conditions, laid).
  DERIVED. THE GIVEN ROWS OF THIS SEAT. 6 by the template 'for every input the law returns true; each argument reads behind the call as it read before'; 0 by the template 'total and deterministic' (their statements: YtgpfdacidgmelaaTotals.lean).
  GIVEN WITH THE SEED: the statements are not yours to turn. If you find one false, say at which input.
  Laid BY PROGRAM, IN A SANDBOX (cutbox-rows.mjs): the forced cells as the released guide's own fill.sh prints them over the translation 018919eef7e3629b… (all of the seat's roots in one cut). By AI agents, Wed Nov 11 2026. No macro, syntax, notation, axiom, sorry.
-/
import Derived.Test.YtgpfdacidgmelaaChecked
import GoSem.Claim
import GoSem.ClaimJoined
import GoSem.ClaimMapViews
import Derived.JoinedTies
import Derived.KernelRfl
namespace Go.Proofs.Ytgpfdacidgmelaa
/- THE CELL 'sum', in the pinned program and in every row, IS THE sha256 OF THE DUMP (.gsa) THAT YtgpfdacidgmelaaProg.lean LOADS. Nothing in Lean hashes anything: it is a label: what it is worth is what the hold of that sum in a sandbox is worth. -/
noncomputable def Try.pinned : Pinned := { name := "ytgpfdacidgmelaa", sum := "018919eef7e3629bb2dad9d0790707b1bf4cc3103e37c7d1a4c0de927c5ef0b8", checked := Try.checked }
namespace Rows
def none {H : Type} : Left H := { results := [], args := [] }

/-- 'cassegrainlaw01.PathMotions': WHATEVER THE INPUT: true; the input reads as it did. -/
def pathMotionsSpec : ChangeSpec := { name := "pathMotions", fn := fun _ => fun
  | [d1, d2] => { results := [.lit (.bool true)], args := [d1, d2] }
  | _ => none }
def pathMotionsRow : OpenClaim := { program := "ytgpfdacidgmelaa", sum := "018919eef7e3629bb2dad9d0790707b1bf4cc3103e37c7d1a4c0de927c5ef0b8", func := "cassegrain/cassegrainlaw01.PathMotions", spec := "pathMotions", inPlace := ["math/bits.Add64"], unfollowed := true, recurses := true, apart := false }
def PathMotionsSaid : Prop := pathMotionsRow.holds Try.pinned (OpenSpec.ofChange pathMotionsSpec)

/-- ITS FALSE NEIGHBOUR: 'it returns false'. Refute it at one input. -/
def pathMotionsWrong : ChangeSpec := { name := "pathMotions", fn := fun _ => fun
  | [d1, d2] => { results := [.lit (.bool false)], args := [d1, d2] }
  | _ => none }
def PathMotionsWrongFalsely : Prop := pathMotionsRow.holds Try.pinned (OpenSpec.ofChange pathMotionsWrong)

/-- 'cassegrainlaw01.PathPointing': WHATEVER THE INPUT: true; the input reads as it did. -/
def pathPointingSpec : ChangeSpec := { name := "pathPointing", fn := fun _ => fun
  | [d1, d2, d3] => { results := [.lit (.bool true)], args := [d1, d2, d3] }
  | _ => none }
def pathPointingRow : OpenClaim := { program := "ytgpfdacidgmelaa", sum := "018919eef7e3629bb2dad9d0790707b1bf4cc3103e37c7d1a4c0de927c5ef0b8", func := "cassegrain/cassegrainlaw01.PathPointing", spec := "pathPointing", inPlace := ["math/bits.Add64"], unfollowed := true, recurses := true, apart := false }
def PathPointingSaid : Prop := pathPointingRow.holds Try.pinned (OpenSpec.ofChange pathPointingSpec)

/-- ITS FALSE NEIGHBOUR: 'it returns false'. Refute it at one input. -/
def pathPointingWrong : ChangeSpec := { name := "pathPointing", fn := fun _ => fun
  | [d1, d2, d3] => { results := [.lit (.bool false)], args := [d1, d2, d3] }
  | _ => none }
def PathPointingWrongFalsely : Prop := pathPointingRow.holds Try.pinned (OpenSpec.ofChange pathPointingWrong)

/-- 'cassegrainlaw01.PathTracks': WHATEVER THE INPUT: true; the input reads as it did. -/
def pathTracksSpec : ChangeSpec := { name := "pathTracks", fn := fun _ => fun
  | [d1, d2] => { results := [.lit (.bool true)], args := [d1, d2] }
  | _ => none }
def pathTracksRow : OpenClaim := { program := "ytgpfdacidgmelaa", sum := "018919eef7e3629bb2dad9d0790707b1bf4cc3103e37c7d1a4c0de927c5ef0b8", func := "cassegrain/cassegrainlaw01.PathTracks", spec := "pathTracks", inPlace := ["math/bits.Add64"], unfollowed := true, recurses := true, apart := false }
def PathTracksSaid : Prop := pathTracksRow.holds Try.pinned (OpenSpec.ofChange pathTracksSpec)

/-- ITS FALSE NEIGHBOUR: 'it returns false'. Refute it at one input. -/
def pathTracksWrong : ChangeSpec := { name := "pathTracks", fn := fun _ => fun
  | [d1, d2] => { results := [.lit (.bool false)], args := [d1, d2] }
  | _ => none }
def PathTracksWrongFalsely : Prop := pathTracksRow.holds Try.pinned (OpenSpec.ofChange pathTracksWrong)

/-- 'cassegrainlaw01.PathEnclosed': WHATEVER THE INPUT: true; the input reads as it did. -/
def pathEnclosedSpec : ChangeSpec := { name := "pathEnclosed", fn := fun _ => fun
  | [d1, d2, d3] => { results := [.lit (.bool true)], args := [d1, d2, d3] }
  | _ => none }
def pathEnclosedRow : OpenClaim := { program := "ytgpfdacidgmelaa", sum := "018919eef7e3629bb2dad9d0790707b1bf4cc3103e37c7d1a4c0de927c5ef0b8", func := "cassegrain/cassegrainlaw01.PathEnclosed", spec := "pathEnclosed", inPlace := ["math/bits.Add64"], unfollowed := true, recurses := true, apart := false }
def PathEnclosedSaid : Prop := pathEnclosedRow.holds Try.pinned (OpenSpec.ofChange pathEnclosedSpec)

/-- ITS FALSE NEIGHBOUR: 'it returns false'. Refute it at one input. -/
def pathEnclosedWrong : ChangeSpec := { name := "pathEnclosed", fn := fun _ => fun
  | [d1, d2, d3] => { results := [.lit (.bool false)], args := [d1, d2, d3] }
  | _ => none }
def PathEnclosedWrongFalsely : Prop := pathEnclosedRow.holds Try.pinned (OpenSpec.ofChange pathEnclosedWrong)

/-- 'cassegrainlaw01.PathLeast': WHATEVER THE INPUT: true; the input reads as it did. -/
def pathLeastSpec : ChangeSpec := { name := "pathLeast", fn := fun _ => fun
  | [d1, d2, d3] => { results := [.lit (.bool true)], args := [d1, d2, d3] }
  | _ => none }
def pathLeastRow : OpenClaim := { program := "ytgpfdacidgmelaa", sum := "018919eef7e3629bb2dad9d0790707b1bf4cc3103e37c7d1a4c0de927c5ef0b8", func := "cassegrain/cassegrainlaw01.PathLeast", spec := "pathLeast", inPlace := ["math/bits.Add64"], unfollowed := true, recurses := true, apart := false }
def PathLeastSaid : Prop := pathLeastRow.holds Try.pinned (OpenSpec.ofChange pathLeastSpec)

/-- ITS FALSE NEIGHBOUR: 'it returns false'. Refute it at one input. -/
def pathLeastWrong : ChangeSpec := { name := "pathLeast", fn := fun _ => fun
  | [d1, d2, d3] => { results := [.lit (.bool false)], args := [d1, d2, d3] }
  | _ => none }
def PathLeastWrongFalsely : Prop := pathLeastRow.holds Try.pinned (OpenSpec.ofChange pathLeastWrong)

/-- 'cassegrainlaw01.PathSeen': WHATEVER THE INPUT: true; the input reads as it did. -/
def pathSeenSpec : ChangeSpec := { name := "pathSeen", fn := fun _ => fun
  | [d1, d2, d3] => { results := [.lit (.bool true)], args := [d1, d2, d3] }
  | _ => none }
def pathSeenRow : OpenClaim := { program := "ytgpfdacidgmelaa", sum := "018919eef7e3629bb2dad9d0790707b1bf4cc3103e37c7d1a4c0de927c5ef0b8", func := "cassegrain/cassegrainlaw01.PathSeen", spec := "pathSeen", inPlace := ["math/bits.Add64"], unfollowed := true, recurses := true, apart := false }
def PathSeenSaid : Prop := pathSeenRow.holds Try.pinned (OpenSpec.ofChange pathSeenSpec)

/-- ITS FALSE NEIGHBOUR: 'it returns false'. Refute it at one input. -/
def pathSeenWrong : ChangeSpec := { name := "pathSeen", fn := fun _ => fun
  | [d1, d2, d3] => { results := [.lit (.bool false)], args := [d1, d2, d3] }
  | _ => none }
def PathSeenWrongFalsely : Prop := pathSeenRow.holds Try.pinned (OpenSpec.ofChange pathSeenWrong)

/- THE SECOND FORM. 'bulk': how many values and letters a reading holds, each counted each time it is reached (what is shared counts as often as it is met; a slice's spare places count too). A statement '..UptoSaid' is the law's where the arguments, and the package variables that the reading takes, are together of bulk at most 1048576: NARROWER than '..Said'. Prove '..Said' where nothing that the law and all that it calls make is longer than what came in: it says more and counts as full. Else prove '..UptoSaid'. A law counts once. -/
mutual
def uptoBulk {H : Type} : DataW H → Nat
  | .lit (.string bytes) => bytes.length + 1
  | .lit _ => 1
  | .nil => 1
  | .ptr d => uptoBulk d + 1
  | .slice elems spare => uptoBulkAll elems + uptoBulkAll spare + 1
  | .agg parts => uptoBulkAll parts + 1
  | .iface _ d => uptoBulk d + 1
  | .map entries => uptoBulkEntries entries + 1
  | .held _ => 1
def uptoBulkAll {H : Type} : List (DataW H) → Nat
  | [] => 0
  | d :: r => uptoBulk d + uptoBulkAll r
def uptoBulkEntries {H : Type} : List (Lit × DataW H) → Nat
  | [] => 0
  | x :: r => uptoBulkEntry x + uptoBulkEntries r
def uptoBulkEntry {H : Type} : Lit × DataW H → Nat
  | (.string bytes, d) => bytes.length + uptoBulk d + 1
  | (_, d) => uptoBulk d + 1
 end
def uptoSmall : (H : Type) → List (DataW H) → Bool := fun _ ds => decide (uptoBulkAll ds ≤ 1048576)
def OpenSpec.upto (s : _root_.Go.ChangeSpec) : _root_.Go.OpenSpec := { _root_.Go.OpenSpec.ofChange s with cond := some uptoSmall }

/-- 'cassegrainlaw01.PathMotions', WHERE WHAT IT READS IS OF BULK AT MOST 1048576: true; the input reads as it did. -/
def pathMotionsUptoRow : OpenClaim := { program := "ytgpfdacidgmelaa", sum := "018919eef7e3629bb2dad9d0790707b1bf4cc3103e37c7d1a4c0de927c5ef0b8", func := "cassegrain/cassegrainlaw01.PathMotions", spec := "pathMotions", inPlace := ["math/bits.Add64"], unfollowed := true, recurses := true, apart := false, narrowed := true }
def PathMotionsUptoSaid : Prop := pathMotionsUptoRow.holds Try.pinned (OpenSpec.upto pathMotionsSpec)

/-- 'cassegrainlaw01.PathPointing', WHERE WHAT IT READS IS OF BULK AT MOST 1048576: true; the input reads as it did. -/
def pathPointingUptoRow : OpenClaim := { program := "ytgpfdacidgmelaa", sum := "018919eef7e3629bb2dad9d0790707b1bf4cc3103e37c7d1a4c0de927c5ef0b8", func := "cassegrain/cassegrainlaw01.PathPointing", spec := "pathPointing", inPlace := ["math/bits.Add64"], unfollowed := true, recurses := true, apart := false, narrowed := true }
def PathPointingUptoSaid : Prop := pathPointingUptoRow.holds Try.pinned (OpenSpec.upto pathPointingSpec)

/-- 'cassegrainlaw01.PathTracks', WHERE WHAT IT READS IS OF BULK AT MOST 1048576: true; the input reads as it did. -/
def pathTracksUptoRow : OpenClaim := { program := "ytgpfdacidgmelaa", sum := "018919eef7e3629bb2dad9d0790707b1bf4cc3103e37c7d1a4c0de927c5ef0b8", func := "cassegrain/cassegrainlaw01.PathTracks", spec := "pathTracks", inPlace := ["math/bits.Add64"], unfollowed := true, recurses := true, apart := false, narrowed := true }
def PathTracksUptoSaid : Prop := pathTracksUptoRow.holds Try.pinned (OpenSpec.upto pathTracksSpec)

/-- 'cassegrainlaw01.PathEnclosed', WHERE WHAT IT READS IS OF BULK AT MOST 1048576: true; the input reads as it did. -/
def pathEnclosedUptoRow : OpenClaim := { program := "ytgpfdacidgmelaa", sum := "018919eef7e3629bb2dad9d0790707b1bf4cc3103e37c7d1a4c0de927c5ef0b8", func := "cassegrain/cassegrainlaw01.PathEnclosed", spec := "pathEnclosed", inPlace := ["math/bits.Add64"], unfollowed := true, recurses := true, apart := false, narrowed := true }
def PathEnclosedUptoSaid : Prop := pathEnclosedUptoRow.holds Try.pinned (OpenSpec.upto pathEnclosedSpec)

/-- 'cassegrainlaw01.PathLeast', WHERE WHAT IT READS IS OF BULK AT MOST 1048576: true; the input reads as it did. -/
def pathLeastUptoRow : OpenClaim := { program := "ytgpfdacidgmelaa", sum := "018919eef7e3629bb2dad9d0790707b1bf4cc3103e37c7d1a4c0de927c5ef0b8", func := "cassegrain/cassegrainlaw01.PathLeast", spec := "pathLeast", inPlace := ["math/bits.Add64"], unfollowed := true, recurses := true, apart := false, narrowed := true }
def PathLeastUptoSaid : Prop := pathLeastUptoRow.holds Try.pinned (OpenSpec.upto pathLeastSpec)

/-- 'cassegrainlaw01.PathSeen', WHERE WHAT IT READS IS OF BULK AT MOST 1048576: true; the input reads as it did. -/
def pathSeenUptoRow : OpenClaim := { program := "ytgpfdacidgmelaa", sum := "018919eef7e3629bb2dad9d0790707b1bf4cc3103e37c7d1a4c0de927c5ef0b8", func := "cassegrain/cassegrainlaw01.PathSeen", spec := "pathSeen", inPlace := ["math/bits.Add64"], unfollowed := true, recurses := true, apart := false, narrowed := true }
def PathSeenUptoSaid : Prop := pathSeenUptoRow.holds Try.pinned (OpenSpec.upto pathSeenSpec)

end Rows
end Go.Proofs.Ytgpfdacidgmelaa
