/-
  No cell of these rows narrows 'for every input' (looked for: loops, veiled, ifaces, maps, wideKeys, modest, calm, conditions, laid).
  DERIVED. THE GIVEN ROWS OF THIS SEAT. 8 by the template 'for every input the law returns true; each argument reads behind the call as it read before'; 0 by the template 'total and deterministic' (their statements: YtgpfdacidgmelaaGreatTotals.lean).
  GIVEN WITH THE SEED: the statements are not yours to turn. If you find one false, say at which input.
  Laid BY PROGRAM, IN A SANDBOX (cutbox-rows.mjs): the forced cells as the released guide's own fill.sh prints them over the translation 198e92e078fe5627… (all of the seat's roots in one cut). By AI agents, Wed Nov 11 2026. No macro, syntax, notation, axiom, sorry.
-/
import Derived.Test.YtgpfdacidgmelaaGreatChecked
import GoSem.Claim
import GoSem.ClaimJoined
import GoSem.ClaimMapViews
import Derived.JoinedTies
import Derived.KernelRfl
namespace Go.Proofs.YtgpfdacidgmelaaGreat
/- THE CELL 'sum', in the pinned program and in every row, IS THE sha256 OF THE DUMP (.gsa) THAT YtgpfdacidgmelaaGreatProg.lean LOADS. Nothing in Lean hashes anything: it is a label: what it is worth is what the hold of that sum in a sandbox is worth. -/
noncomputable def Tryz.pinned : Pinned := { name := "ytgpfdacidgmelaagreat", sum := "198e92e078fe5627be635b6581f172105c0fdcc9081f519f8ab90011f2d766da", checked := Tryz.checked }
namespace Rows
def none {H : Type} : Left H := { results := [], args := [] }

/-- 'cassegrainlaw01.PathDistances': WHATEVER THE INPUT: true; the input reads as it did. -/
def pathDistancesSpec : ChangeSpec := { name := "pathDistances", fn := fun _ => fun
  | [d1, d2, d3] => { results := [.lit (.bool true)], args := [d1, d2, d3] }
  | _ => none }
def pathDistancesRow : OpenClaim := { program := "ytgpfdacidgmelaagreat", sum := "198e92e078fe5627be635b6581f172105c0fdcc9081f519f8ab90011f2d766da", func := "cassegrain/cassegrainlaw01.PathDistances", spec := "pathDistances", inPlace := ["math/bits.Add64"], unfollowed := true, recurses := true, apart := false }
def PathDistancesSaid : Prop := pathDistancesRow.holds Tryz.pinned (OpenSpec.ofChange pathDistancesSpec)

/-- ITS FALSE NEIGHBOUR: 'it returns false'. Refute it at one input. -/
def pathDistancesWrong : ChangeSpec := { name := "pathDistances", fn := fun _ => fun
  | [d1, d2, d3] => { results := [.lit (.bool false)], args := [d1, d2, d3] }
  | _ => none }
def PathDistancesWrongFalsely : Prop := pathDistancesRow.holds Tryz.pinned (OpenSpec.ofChange pathDistancesWrong)

/-- 'cassegrainlaw01.PathSignals': WHATEVER THE INPUT: true; the input reads as it did. -/
def pathSignalsSpec : ChangeSpec := { name := "pathSignals", fn := fun _ => fun
  | [d1, d2, d3] => { results := [.lit (.bool true)], args := [d1, d2, d3] }
  | _ => none }
def pathSignalsRow : OpenClaim := { program := "ytgpfdacidgmelaagreat", sum := "198e92e078fe5627be635b6581f172105c0fdcc9081f519f8ab90011f2d766da", func := "cassegrain/cassegrainlaw01.PathSignals", spec := "pathSignals", inPlace := ["math/bits.Add64"], unfollowed := true, recurses := true, apart := false }
def PathSignalsSaid : Prop := pathSignalsRow.holds Tryz.pinned (OpenSpec.ofChange pathSignalsSpec)

/-- ITS FALSE NEIGHBOUR: 'it returns false'. Refute it at one input. -/
def pathSignalsWrong : ChangeSpec := { name := "pathSignals", fn := fun _ => fun
  | [d1, d2, d3] => { results := [.lit (.bool false)], args := [d1, d2, d3] }
  | _ => none }
def PathSignalsWrongFalsely : Prop := pathSignalsRow.holds Tryz.pinned (OpenSpec.ofChange pathSignalsWrong)

/-- 'cassegrainlaw01.PathTrips': WHATEVER THE INPUT: true; the input reads as it did. -/
def pathTripsSpec : ChangeSpec := { name := "pathTrips", fn := fun _ => fun
  | [d1, d2, d3] => { results := [.lit (.bool true)], args := [d1, d2, d3] }
  | _ => none }
def pathTripsRow : OpenClaim := { program := "ytgpfdacidgmelaagreat", sum := "198e92e078fe5627be635b6581f172105c0fdcc9081f519f8ab90011f2d766da", func := "cassegrain/cassegrainlaw01.PathTrips", spec := "pathTrips", inPlace := ["math/bits.Add64"], unfollowed := true, recurses := true, apart := false }
def PathTripsSaid : Prop := pathTripsRow.holds Tryz.pinned (OpenSpec.ofChange pathTripsSpec)

/-- ITS FALSE NEIGHBOUR: 'it returns false'. Refute it at one input. -/
def pathTripsWrong : ChangeSpec := { name := "pathTrips", fn := fun _ => fun
  | [d1, d2, d3] => { results := [.lit (.bool false)], args := [d1, d2, d3] }
  | _ => none }
def PathTripsWrongFalsely : Prop := pathTripsRow.holds Tryz.pinned (OpenSpec.ofChange pathTripsWrong)

/-- 'cassegrainlaw01.PathReceived': WHATEVER THE INPUT: true; the input reads as it did. -/
def pathReceivedSpec : ChangeSpec := { name := "pathReceived", fn := fun _ => fun
  | [d1, d2, d3] => { results := [.lit (.bool true)], args := [d1, d2, d3] }
  | _ => none }
def pathReceivedRow : OpenClaim := { program := "ytgpfdacidgmelaagreat", sum := "198e92e078fe5627be635b6581f172105c0fdcc9081f519f8ab90011f2d766da", func := "cassegrain/cassegrainlaw01.PathReceived", spec := "pathReceived", inPlace := ["math/bits.Add64"], unfollowed := true, recurses := true, apart := false }
def PathReceivedSaid : Prop := pathReceivedRow.holds Tryz.pinned (OpenSpec.ofChange pathReceivedSpec)

/-- ITS FALSE NEIGHBOUR: 'it returns false'. Refute it at one input. -/
def pathReceivedWrong : ChangeSpec := { name := "pathReceived", fn := fun _ => fun
  | [d1, d2, d3] => { results := [.lit (.bool false)], args := [d1, d2, d3] }
  | _ => none }
def PathReceivedWrongFalsely : Prop := pathReceivedRow.holds Tryz.pinned (OpenSpec.ofChange pathReceivedWrong)

/-- 'cassegrainlaw01.PathBothWays': WHATEVER THE INPUT: true; the input reads as it did. -/
def pathBothWaysSpec : ChangeSpec := { name := "pathBothWays", fn := fun _ => fun
  | [d1, d2, d3] => { results := [.lit (.bool true)], args := [d1, d2, d3] }
  | _ => none }
def pathBothWaysRow : OpenClaim := { program := "ytgpfdacidgmelaagreat", sum := "198e92e078fe5627be635b6581f172105c0fdcc9081f519f8ab90011f2d766da", func := "cassegrain/cassegrainlaw01.PathBothWays", spec := "pathBothWays", inPlace := ["math/bits.Add64"], unfollowed := true, recurses := true, apart := false }
def PathBothWaysSaid : Prop := pathBothWaysRow.holds Tryz.pinned (OpenSpec.ofChange pathBothWaysSpec)

/-- ITS FALSE NEIGHBOUR: 'it returns false'. Refute it at one input. -/
def pathBothWaysWrong : ChangeSpec := { name := "pathBothWays", fn := fun _ => fun
  | [d1, d2, d3] => { results := [.lit (.bool false)], args := [d1, d2, d3] }
  | _ => none }
def PathBothWaysWrongFalsely : Prop := pathBothWaysRow.holds Tryz.pinned (OpenSpec.ofChange pathBothWaysWrong)

/-- 'cassegrainlaw01.PathSites': WHATEVER THE INPUT: true; the input reads as it did. -/
def pathSitesSpec : ChangeSpec := { name := "pathSites", fn := fun _ => fun
  | [d1, d2] => { results := [.lit (.bool true)], args := [d1, d2] }
  | _ => none }
def pathSitesRow : OpenClaim := { program := "ytgpfdacidgmelaagreat", sum := "198e92e078fe5627be635b6581f172105c0fdcc9081f519f8ab90011f2d766da", func := "cassegrain/cassegrainlaw01.PathSites", spec := "pathSites", inPlace := ["math/bits.Add64"], unfollowed := true, recurses := true, apart := false }
def PathSitesSaid : Prop := pathSitesRow.holds Tryz.pinned (OpenSpec.ofChange pathSitesSpec)

/-- ITS FALSE NEIGHBOUR: 'it returns false'. Refute it at one input. -/
def pathSitesWrong : ChangeSpec := { name := "pathSites", fn := fun _ => fun
  | [d1, d2] => { results := [.lit (.bool false)], args := [d1, d2] }
  | _ => none }
def PathSitesWrongFalsely : Prop := pathSitesRow.holds Tryz.pinned (OpenSpec.ofChange pathSitesWrong)

/-- 'cassegrainlaw01.PathWindows': WHATEVER THE INPUT: true; the input reads as it did. -/
def pathWindowsSpec : ChangeSpec := { name := "pathWindows", fn := fun _ => fun
  | [d1, d2] => { results := [.lit (.bool true)], args := [d1, d2] }
  | _ => none }
def pathWindowsRow : OpenClaim := { program := "ytgpfdacidgmelaagreat", sum := "198e92e078fe5627be635b6581f172105c0fdcc9081f519f8ab90011f2d766da", func := "cassegrain/cassegrainlaw01.PathWindows", spec := "pathWindows", inPlace := ["math/bits.Add64"], unfollowed := true, recurses := true, apart := false }
def PathWindowsSaid : Prop := pathWindowsRow.holds Tryz.pinned (OpenSpec.ofChange pathWindowsSpec)

/-- ITS FALSE NEIGHBOUR: 'it returns false'. Refute it at one input. -/
def pathWindowsWrong : ChangeSpec := { name := "pathWindows", fn := fun _ => fun
  | [d1, d2] => { results := [.lit (.bool false)], args := [d1, d2] }
  | _ => none }
def PathWindowsWrongFalsely : Prop := pathWindowsRow.holds Tryz.pinned (OpenSpec.ofChange pathWindowsWrong)

/-- 'cassegraintop.TopPathTracked': WHATEVER THE INPUT: true; the input reads as it did. -/
def topPathTrackedSpec : ChangeSpec := { name := "topPathTracked", fn := fun _ => fun
  | [d1, d2, d3] => { results := [.lit (.bool true)], args := [d1, d2, d3] }
  | _ => none }
def topPathTrackedRow : OpenClaim := { program := "ytgpfdacidgmelaagreat", sum := "198e92e078fe5627be635b6581f172105c0fdcc9081f519f8ab90011f2d766da", func := "cassegrain/cassegraintop.TopPathTracked", spec := "topPathTracked", inPlace := ["math/bits.Add64"], unfollowed := true, recurses := true, apart := false }
def TopPathTrackedSaid : Prop := topPathTrackedRow.holds Tryz.pinned (OpenSpec.ofChange topPathTrackedSpec)

/-- ITS FALSE NEIGHBOUR: 'it returns false'. Refute it at one input. -/
def topPathTrackedWrong : ChangeSpec := { name := "topPathTracked", fn := fun _ => fun
  | [d1, d2, d3] => { results := [.lit (.bool false)], args := [d1, d2, d3] }
  | _ => none }
def TopPathTrackedWrongFalsely : Prop := topPathTrackedRow.holds Tryz.pinned (OpenSpec.ofChange topPathTrackedWrong)

/- THE SECOND FORM. 'bulk': how many values and letters a reading holds, each counted each time it is reached (what is shared counts as often as it is met; a slice's spare places count too). A statement '..UptoSaid' is the law's where the arguments, and the package variables that the reading takes, are together of bulk at most 1048576: NARROWER than '..Said'. Prove '..Said' where nothing that the law and all that it calls make is longer than what came in: it says more and counts as full. Else prove '..UptoSaid'. A law counts once. -/
mutual
def uptoBulk {H : Type} : DataW H → Nat
  | .lit (.string bytes) => bytes.length + 1
  | .lit _ => 1
  | .nil => 1
  | .ptr d => uptoBulk d + 1
  | .slice elems spare => uptoBulkAll elems + uptoBulkAll spare + 1
  | .agg parts => uptoBulkAll parts + 1
  | .iface _ d => uptoBulk d + 1
  | .map entries => uptoBulkEntries entries + 1
  | .held _ => 1
def uptoBulkAll {H : Type} : List (DataW H) → Nat
  | [] => 0
  | d :: r => uptoBulk d + uptoBulkAll r
def uptoBulkEntries {H : Type} : List (Lit × DataW H) → Nat
  | [] => 0
  | x :: r => uptoBulkEntry x + uptoBulkEntries r
def uptoBulkEntry {H : Type} : Lit × DataW H → Nat
  | (.string bytes, d) => bytes.length + uptoBulk d + 1
  | (_, d) => uptoBulk d + 1
 end
def uptoSmall : (H : Type) → List (DataW H) → Bool := fun _ ds => decide (uptoBulkAll ds ≤ 1048576)
def OpenSpec.upto (s : _root_.Go.ChangeSpec) : _root_.Go.OpenSpec := { _root_.Go.OpenSpec.ofChange s with cond := some uptoSmall }

/-- 'cassegrainlaw01.PathDistances', WHERE WHAT IT READS IS OF BULK AT MOST 1048576: true; the input reads as it did. -/
def pathDistancesUptoRow : OpenClaim := { program := "ytgpfdacidgmelaagreat", sum := "198e92e078fe5627be635b6581f172105c0fdcc9081f519f8ab90011f2d766da", func := "cassegrain/cassegrainlaw01.PathDistances", spec := "pathDistances", inPlace := ["math/bits.Add64"], unfollowed := true, recurses := true, apart := false, narrowed := true }
def PathDistancesUptoSaid : Prop := pathDistancesUptoRow.holds Tryz.pinned (OpenSpec.upto pathDistancesSpec)

/-- 'cassegrainlaw01.PathSignals', WHERE WHAT IT READS IS OF BULK AT MOST 1048576: true; the input reads as it did. -/
def pathSignalsUptoRow : OpenClaim := { program := "ytgpfdacidgmelaagreat", sum := "198e92e078fe5627be635b6581f172105c0fdcc9081f519f8ab90011f2d766da", func := "cassegrain/cassegrainlaw01.PathSignals", spec := "pathSignals", inPlace := ["math/bits.Add64"], unfollowed := true, recurses := true, apart := false, narrowed := true }
def PathSignalsUptoSaid : Prop := pathSignalsUptoRow.holds Tryz.pinned (OpenSpec.upto pathSignalsSpec)

/-- 'cassegrainlaw01.PathTrips', WHERE WHAT IT READS IS OF BULK AT MOST 1048576: true; the input reads as it did. -/
def pathTripsUptoRow : OpenClaim := { program := "ytgpfdacidgmelaagreat", sum := "198e92e078fe5627be635b6581f172105c0fdcc9081f519f8ab90011f2d766da", func := "cassegrain/cassegrainlaw01.PathTrips", spec := "pathTrips", inPlace := ["math/bits.Add64"], unfollowed := true, recurses := true, apart := false, narrowed := true }
def PathTripsUptoSaid : Prop := pathTripsUptoRow.holds Tryz.pinned (OpenSpec.upto pathTripsSpec)

/-- 'cassegrainlaw01.PathReceived', WHERE WHAT IT READS IS OF BULK AT MOST 1048576: true; the input reads as it did. -/
def pathReceivedUptoRow : OpenClaim := { program := "ytgpfdacidgmelaagreat", sum := "198e92e078fe5627be635b6581f172105c0fdcc9081f519f8ab90011f2d766da", func := "cassegrain/cassegrainlaw01.PathReceived", spec := "pathReceived", inPlace := ["math/bits.Add64"], unfollowed := true, recurses := true, apart := false, narrowed := true }
def PathReceivedUptoSaid : Prop := pathReceivedUptoRow.holds Tryz.pinned (OpenSpec.upto pathReceivedSpec)

/-- 'cassegrainlaw01.PathBothWays', WHERE WHAT IT READS IS OF BULK AT MOST 1048576: true; the input reads as it did. -/
def pathBothWaysUptoRow : OpenClaim := { program := "ytgpfdacidgmelaagreat", sum := "198e92e078fe5627be635b6581f172105c0fdcc9081f519f8ab90011f2d766da", func := "cassegrain/cassegrainlaw01.PathBothWays", spec := "pathBothWays", inPlace := ["math/bits.Add64"], unfollowed := true, recurses := true, apart := false, narrowed := true }
def PathBothWaysUptoSaid : Prop := pathBothWaysUptoRow.holds Tryz.pinned (OpenSpec.upto pathBothWaysSpec)

/-- 'cassegrainlaw01.PathSites', WHERE WHAT IT READS IS OF BULK AT MOST 1048576: true; the input reads as it did. -/
def pathSitesUptoRow : OpenClaim := { program := "ytgpfdacidgmelaagreat", sum := "198e92e078fe5627be635b6581f172105c0fdcc9081f519f8ab90011f2d766da", func := "cassegrain/cassegrainlaw01.PathSites", spec := "pathSites", inPlace := ["math/bits.Add64"], unfollowed := true, recurses := true, apart := false, narrowed := true }
def PathSitesUptoSaid : Prop := pathSitesUptoRow.holds Tryz.pinned (OpenSpec.upto pathSitesSpec)

/-- 'cassegrainlaw01.PathWindows', WHERE WHAT IT READS IS OF BULK AT MOST 1048576: true; the input reads as it did. -/
def pathWindowsUptoRow : OpenClaim := { program := "ytgpfdacidgmelaagreat", sum := "198e92e078fe5627be635b6581f172105c0fdcc9081f519f8ab90011f2d766da", func := "cassegrain/cassegrainlaw01.PathWindows", spec := "pathWindows", inPlace := ["math/bits.Add64"], unfollowed := true, recurses := true, apart := false, narrowed := true }
def PathWindowsUptoSaid : Prop := pathWindowsUptoRow.holds Tryz.pinned (OpenSpec.upto pathWindowsSpec)

/-- 'cassegraintop.TopPathTracked', WHERE WHAT IT READS IS OF BULK AT MOST 1048576: true; the input reads as it did. -/
def topPathTrackedUptoRow : OpenClaim := { program := "ytgpfdacidgmelaagreat", sum := "198e92e078fe5627be635b6581f172105c0fdcc9081f519f8ab90011f2d766da", func := "cassegrain/cassegraintop.TopPathTracked", spec := "topPathTracked", inPlace := ["math/bits.Add64"], unfollowed := true, recurses := true, apart := false, narrowed := true }
def TopPathTrackedUptoSaid : Prop := topPathTrackedUptoRow.holds Tryz.pinned (OpenSpec.upto topPathTrackedSpec)

end Rows
end Go.Proofs.YtgpfdacidgmelaaGreat
