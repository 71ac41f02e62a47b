/-
  No cell of these rows narrows 'for every input' (looked for: loops, veiled, ifaces, maps, wideKeys, modest, calm, conditions, laid).
  DERIVED. THE GIVEN ROWS OF THIS SEAT. 14 by the template 'for every input the law returns true; each argument reads behind the call as it read before'; 0 by the template 'total and deterministic' (their statements: YtinkhmfciealkaaTotals.lean).
  GIVEN WITH THE SEED: the statements are not yours to turn. If you find one false, say at which input.
  Laid BY PROGRAM, IN A SANDBOX (cutbox-rows.mjs): the forced cells as the released guide's own fill.sh prints them over the translation 7f7465754481ec34… (all of the seat's roots in one cut). By AI agents, Wed Nov 11 2026. No macro, syntax, notation, axiom, sorry.
-/
import Derived.Test.YtinkhmfciealkaaChecked
import GoSem.Claim
import GoSem.ClaimJoined
import GoSem.ClaimMapViews
import Derived.JoinedTies
import Derived.KernelRfl
namespace Go.Proofs.Ytinkhmfciealkaa
/- THE CELL 'sum', in the pinned program and in every row, IS THE sha256 OF THE DUMP (.gsa) THAT YtinkhmfciealkaaProg.lean LOADS. Nothing in Lean hashes anything: it is a label: what it is worth is what the hold of that sum in a sandbox is worth. -/
noncomputable def Try.pinned : Pinned := { name := "ytinkhmfciealkaa", sum := "7f7465754481ec34ab4e38325ff34b6c014b77b7bf5392aea3f0e5861665a47b", checked := Try.checked }
namespace Rows
def none {H : Type} : Left H := { results := [], args := [] }

/-- 'cassegrainlaw02.SamplePackets': WHATEVER THE INPUT: true; the input reads as it did. -/
def samplePacketsSpec : ChangeSpec := { name := "samplePackets", fn := fun _ => fun
  | [d1, d2, d3] => { results := [.lit (.bool true)], args := [d1, d2, d3] }
  | _ => none }
def samplePacketsRow : OpenClaim := { program := "ytinkhmfciealkaa", sum := "7f7465754481ec34ab4e38325ff34b6c014b77b7bf5392aea3f0e5861665a47b", func := "cassegrain/cassegrainlaw02.SamplePackets", spec := "samplePackets", unfollowed := true, recurses := true, apart := false }
def SamplePacketsSaid : Prop := samplePacketsRow.holds Try.pinned (OpenSpec.ofChange samplePacketsSpec)

/-- ITS FALSE NEIGHBOUR: 'it returns false'. Refute it at one input. -/
def samplePacketsWrong : ChangeSpec := { name := "samplePackets", fn := fun _ => fun
  | [d1, d2, d3] => { results := [.lit (.bool false)], args := [d1, d2, d3] }
  | _ => none }
def SamplePacketsWrongFalsely : Prop := samplePacketsRow.holds Try.pinned (OpenSpec.ofChange samplePacketsWrong)

/-- 'cassegrainlaw02.SamplePrograms': WHATEVER THE INPUT: true; the input reads as it did. -/
def sampleProgramsSpec : ChangeSpec := { name := "samplePrograms", fn := fun _ => fun
  | [d1, d2, d3] => { results := [.lit (.bool true)], args := [d1, d2, d3] }
  | _ => none }
def sampleProgramsRow : OpenClaim := { program := "ytinkhmfciealkaa", sum := "7f7465754481ec34ab4e38325ff34b6c014b77b7bf5392aea3f0e5861665a47b", func := "cassegrain/cassegrainlaw02.SamplePrograms", spec := "samplePrograms", unfollowed := true, recurses := true, apart := false }
def SampleProgramsSaid : Prop := sampleProgramsRow.holds Try.pinned (OpenSpec.ofChange sampleProgramsSpec)

/-- ITS FALSE NEIGHBOUR: 'it returns false'. Refute it at one input. -/
def sampleProgramsWrong : ChangeSpec := { name := "samplePrograms", fn := fun _ => fun
  | [d1, d2, d3] => { results := [.lit (.bool false)], args := [d1, d2, d3] }
  | _ => none }
def SampleProgramsWrongFalsely : Prop := sampleProgramsRow.holds Try.pinned (OpenSpec.ofChange sampleProgramsWrong)

/-- 'cassegrainlaw02.SampleComposed': WHATEVER THE INPUT: true; the input reads as it did. -/
def sampleComposedSpec : ChangeSpec := { name := "sampleComposed", fn := fun _ => fun
  | [d1, d2, d3] => { results := [.lit (.bool true)], args := [d1, d2, d3] }
  | _ => none }
def sampleComposedRow : OpenClaim := { program := "ytinkhmfciealkaa", sum := "7f7465754481ec34ab4e38325ff34b6c014b77b7bf5392aea3f0e5861665a47b", func := "cassegrain/cassegrainlaw02.SampleComposed", spec := "sampleComposed", unfollowed := true, recurses := true, apart := false }
def SampleComposedSaid : Prop := sampleComposedRow.holds Try.pinned (OpenSpec.ofChange sampleComposedSpec)

/-- ITS FALSE NEIGHBOUR: 'it returns false'. Refute it at one input. -/
def sampleComposedWrong : ChangeSpec := { name := "sampleComposed", fn := fun _ => fun
  | [d1, d2, d3] => { results := [.lit (.bool false)], args := [d1, d2, d3] }
  | _ => none }
def SampleComposedWrongFalsely : Prop := sampleComposedRow.holds Try.pinned (OpenSpec.ofChange sampleComposedWrong)

/-- 'cassegrainlaw02.SampleHidden': WHATEVER THE INPUT: true; the input reads as it did. -/
def sampleHiddenSpec : ChangeSpec := { name := "sampleHidden", fn := fun _ => fun
  | [d1, d2, d3] => { results := [.lit (.bool true)], args := [d1, d2, d3] }
  | _ => none }
def sampleHiddenRow : OpenClaim := { program := "ytinkhmfciealkaa", sum := "7f7465754481ec34ab4e38325ff34b6c014b77b7bf5392aea3f0e5861665a47b", func := "cassegrain/cassegrainlaw02.SampleHidden", spec := "sampleHidden", unfollowed := true, recurses := true, apart := false }
def SampleHiddenSaid : Prop := sampleHiddenRow.holds Try.pinned (OpenSpec.ofChange sampleHiddenSpec)

/-- ITS FALSE NEIGHBOUR: 'it returns false'. Refute it at one input. -/
def sampleHiddenWrong : ChangeSpec := { name := "sampleHidden", fn := fun _ => fun
  | [d1, d2, d3] => { results := [.lit (.bool false)], args := [d1, d2, d3] }
  | _ => none }
def SampleHiddenWrongFalsely : Prop := sampleHiddenRow.holds Try.pinned (OpenSpec.ofChange sampleHiddenWrong)

/-- 'cassegrainlaw02.SampleBins': WHATEVER THE INPUT: true; the input reads as it did. -/
def sampleBinsSpec : ChangeSpec := { name := "sampleBins", fn := fun _ => fun
  | [d1, d2, d3] => { results := [.lit (.bool true)], args := [d1, d2, d3] }
  | _ => none }
def sampleBinsRow : OpenClaim := { program := "ytinkhmfciealkaa", sum := "7f7465754481ec34ab4e38325ff34b6c014b77b7bf5392aea3f0e5861665a47b", func := "cassegrain/cassegrainlaw02.SampleBins", spec := "sampleBins", unfollowed := true, recurses := true, apart := false }
def SampleBinsSaid : Prop := sampleBinsRow.holds Try.pinned (OpenSpec.ofChange sampleBinsSpec)

/-- ITS FALSE NEIGHBOUR: 'it returns false'. Refute it at one input. -/
def sampleBinsWrong : ChangeSpec := { name := "sampleBins", fn := fun _ => fun
  | [d1, d2, d3] => { results := [.lit (.bool false)], args := [d1, d2, d3] }
  | _ => none }
def SampleBinsWrongFalsely : Prop := sampleBinsRow.holds Try.pinned (OpenSpec.ofChange sampleBinsWrong)

/-- 'cassegrainlaw02.SampleFilters': WHATEVER THE INPUT: true; the input reads as it did. -/
def sampleFiltersSpec : ChangeSpec := { name := "sampleFilters", fn := fun _ => fun
  | [d1, d2, d3] => { results := [.lit (.bool true)], args := [d1, d2, d3] }
  | _ => none }
def sampleFiltersRow : OpenClaim := { program := "ytinkhmfciealkaa", sum := "7f7465754481ec34ab4e38325ff34b6c014b77b7bf5392aea3f0e5861665a47b", func := "cassegrain/cassegrainlaw02.SampleFilters", spec := "sampleFilters", unfollowed := true, recurses := true, apart := false }
def SampleFiltersSaid : Prop := sampleFiltersRow.holds Try.pinned (OpenSpec.ofChange sampleFiltersSpec)

/-- ITS FALSE NEIGHBOUR: 'it returns false'. Refute it at one input. -/
def sampleFiltersWrong : ChangeSpec := { name := "sampleFilters", fn := fun _ => fun
  | [d1, d2, d3] => { results := [.lit (.bool false)], args := [d1, d2, d3] }
  | _ => none }
def SampleFiltersWrongFalsely : Prop := sampleFiltersRow.holds Try.pinned (OpenSpec.ofChange sampleFiltersWrong)

/-- 'cassegrainlaw02.SampleStreams': WHATEVER THE INPUT: true; the input reads as it did. -/
def sampleStreamsSpec : ChangeSpec := { name := "sampleStreams", fn := fun _ => fun
  | [d] => { results := [.lit (.bool true)], args := [d] }
  | _ => none }
def sampleStreamsRow : OpenClaim := { program := "ytinkhmfciealkaa", sum := "7f7465754481ec34ab4e38325ff34b6c014b77b7bf5392aea3f0e5861665a47b", func := "cassegrain/cassegrainlaw02.SampleStreams", spec := "sampleStreams", unfollowed := true, recurses := true, apart := false }
def SampleStreamsSaid : Prop := sampleStreamsRow.holds Try.pinned (OpenSpec.ofChange sampleStreamsSpec)

/-- ITS FALSE NEIGHBOUR: 'it returns false'. Refute it at one input. -/
def sampleStreamsWrong : ChangeSpec := { name := "sampleStreams", fn := fun _ => fun
  | [d] => { results := [.lit (.bool false)], args := [d] }
  | _ => none }
def SampleStreamsWrongFalsely : Prop := sampleStreamsRow.holds Try.pinned (OpenSpec.ofChange sampleStreamsWrong)

/-- 'cassegrainlaw02.SampleOnce': WHATEVER THE INPUT: true; the input reads as it did. -/
def sampleOnceSpec : ChangeSpec := { name := "sampleOnce", fn := fun _ => fun
  | [d1, d2] => { results := [.lit (.bool true)], args := [d1, d2] }
  | _ => none }
def sampleOnceRow : OpenClaim := { program := "ytinkhmfciealkaa", sum := "7f7465754481ec34ab4e38325ff34b6c014b77b7bf5392aea3f0e5861665a47b", func := "cassegrain/cassegrainlaw02.SampleOnce", spec := "sampleOnce", unfollowed := true, recurses := true, apart := false }
def SampleOnceSaid : Prop := sampleOnceRow.holds Try.pinned (OpenSpec.ofChange sampleOnceSpec)

/-- ITS FALSE NEIGHBOUR: 'it returns false'. Refute it at one input. -/
def sampleOnceWrong : ChangeSpec := { name := "sampleOnce", fn := fun _ => fun
  | [d1, d2] => { results := [.lit (.bool false)], args := [d1, d2] }
  | _ => none }
def SampleOnceWrongFalsely : Prop := sampleOnceRow.holds Try.pinned (OpenSpec.ofChange sampleOnceWrong)

/-- 'cassegrainlaw02.SampleStrongest': WHATEVER THE INPUT: true; the input reads as it did. -/
def sampleStrongestSpec : ChangeSpec := { name := "sampleStrongest", fn := fun _ => fun
  | [d1, d2] => { results := [.lit (.bool true)], args := [d1, d2] }
  | _ => none }
def sampleStrongestRow : OpenClaim := { program := "ytinkhmfciealkaa", sum := "7f7465754481ec34ab4e38325ff34b6c014b77b7bf5392aea3f0e5861665a47b", func := "cassegrain/cassegrainlaw02.SampleStrongest", spec := "sampleStrongest", unfollowed := true, recurses := true, apart := false }
def SampleStrongestSaid : Prop := sampleStrongestRow.holds Try.pinned (OpenSpec.ofChange sampleStrongestSpec)

/-- ITS FALSE NEIGHBOUR: 'it returns false'. Refute it at one input. -/
def sampleStrongestWrong : ChangeSpec := { name := "sampleStrongest", fn := fun _ => fun
  | [d1, d2] => { results := [.lit (.bool false)], args := [d1, d2] }
  | _ => none }
def SampleStrongestWrongFalsely : Prop := sampleStrongestRow.holds Try.pinned (OpenSpec.ofChange sampleStrongestWrong)

/-- 'cassegrainlaw02.SampleTurnedBack': WHATEVER THE INPUT: true; the input reads as it did. -/
def sampleTurnedBackSpec : ChangeSpec := { name := "sampleTurnedBack", fn := fun _ => fun
  | [d1, d2, d3] => { results := [.lit (.bool true)], args := [d1, d2, d3] }
  | _ => none }
def sampleTurnedBackRow : OpenClaim := { program := "ytinkhmfciealkaa", sum := "7f7465754481ec34ab4e38325ff34b6c014b77b7bf5392aea3f0e5861665a47b", func := "cassegrain/cassegrainlaw02.SampleTurnedBack", spec := "sampleTurnedBack", unfollowed := true, recurses := true, apart := false }
def SampleTurnedBackSaid : Prop := sampleTurnedBackRow.holds Try.pinned (OpenSpec.ofChange sampleTurnedBackSpec)

/-- ITS FALSE NEIGHBOUR: 'it returns false'. Refute it at one input. -/
def sampleTurnedBackWrong : ChangeSpec := { name := "sampleTurnedBack", fn := fun _ => fun
  | [d1, d2, d3] => { results := [.lit (.bool false)], args := [d1, d2, d3] }
  | _ => none }
def SampleTurnedBackWrongFalsely : Prop := sampleTurnedBackRow.holds Try.pinned (OpenSpec.ofChange sampleTurnedBackWrong)

/-- 'cassegrainlaw02.SampleLinear': WHATEVER THE INPUT: true; the input reads as it did. -/
def sampleLinearSpec : ChangeSpec := { name := "sampleLinear", fn := fun _ => fun
  | [d1, d2, d3] => { results := [.lit (.bool true)], args := [d1, d2, d3] }
  | _ => none }
def sampleLinearRow : OpenClaim := { program := "ytinkhmfciealkaa", sum := "7f7465754481ec34ab4e38325ff34b6c014b77b7bf5392aea3f0e5861665a47b", func := "cassegrain/cassegrainlaw02.SampleLinear", spec := "sampleLinear", unfollowed := true, recurses := true, apart := false }
def SampleLinearSaid : Prop := sampleLinearRow.holds Try.pinned (OpenSpec.ofChange sampleLinearSpec)

/-- ITS FALSE NEIGHBOUR: 'it returns false'. Refute it at one input. -/
def sampleLinearWrong : ChangeSpec := { name := "sampleLinear", fn := fun _ => fun
  | [d1, d2, d3] => { results := [.lit (.bool false)], args := [d1, d2, d3] }
  | _ => none }
def SampleLinearWrongFalsely : Prop := sampleLinearRow.holds Try.pinned (OpenSpec.ofChange sampleLinearWrong)

/-- 'cassegrainlaw02.SampleMixes': WHATEVER THE INPUT: true; the input reads as it did. -/
def sampleMixesSpec : ChangeSpec := { name := "sampleMixes", fn := fun _ => fun
  | [d1, d2] => { results := [.lit (.bool true)], args := [d1, d2] }
  | _ => none }
def sampleMixesRow : OpenClaim := { program := "ytinkhmfciealkaa", sum := "7f7465754481ec34ab4e38325ff34b6c014b77b7bf5392aea3f0e5861665a47b", func := "cassegrain/cassegrainlaw02.SampleMixes", spec := "sampleMixes", unfollowed := true, recurses := true, apart := false }
def SampleMixesSaid : Prop := sampleMixesRow.holds Try.pinned (OpenSpec.ofChange sampleMixesSpec)

/-- ITS FALSE NEIGHBOUR: 'it returns false'. Refute it at one input. -/
def sampleMixesWrong : ChangeSpec := { name := "sampleMixes", fn := fun _ => fun
  | [d1, d2] => { results := [.lit (.bool false)], args := [d1, d2] }
  | _ => none }
def SampleMixesWrongFalsely : Prop := sampleMixesRow.holds Try.pinned (OpenSpec.ofChange sampleMixesWrong)

/-- 'cassegrainlaw02.SampleEnergies': WHATEVER THE INPUT: true; the input reads as it did. -/
def sampleEnergiesSpec : ChangeSpec := { name := "sampleEnergies", fn := fun _ => fun
  | [d1, d2, d3] => { results := [.lit (.bool true)], args := [d1, d2, d3] }
  | _ => none }
def sampleEnergiesRow : OpenClaim := { program := "ytinkhmfciealkaa", sum := "7f7465754481ec34ab4e38325ff34b6c014b77b7bf5392aea3f0e5861665a47b", func := "cassegrain/cassegrainlaw02.SampleEnergies", spec := "sampleEnergies", unfollowed := true, recurses := true, apart := false }
def SampleEnergiesSaid : Prop := sampleEnergiesRow.holds Try.pinned (OpenSpec.ofChange sampleEnergiesSpec)

/-- ITS FALSE NEIGHBOUR: 'it returns false'. Refute it at one input. -/
def sampleEnergiesWrong : ChangeSpec := { name := "sampleEnergies", fn := fun _ => fun
  | [d1, d2, d3] => { results := [.lit (.bool false)], args := [d1, d2, d3] }
  | _ => none }
def SampleEnergiesWrongFalsely : Prop := sampleEnergiesRow.holds Try.pinned (OpenSpec.ofChange sampleEnergiesWrong)

/-- 'cassegraintop.TopSampleTone': WHATEVER THE INPUT: true; the input reads as it did. -/
def topSampleToneSpec : ChangeSpec := { name := "topSampleTone", fn := fun _ => fun
  | [d1, d2, d3] => { results := [.lit (.bool true)], args := [d1, d2, d3] }
  | _ => none }
def topSampleToneRow : OpenClaim := { program := "ytinkhmfciealkaa", sum := "7f7465754481ec34ab4e38325ff34b6c014b77b7bf5392aea3f0e5861665a47b", func := "cassegrain/cassegraintop.TopSampleTone", spec := "topSampleTone", unfollowed := true, recurses := true, apart := false }
def TopSampleToneSaid : Prop := topSampleToneRow.holds Try.pinned (OpenSpec.ofChange topSampleToneSpec)

/-- ITS FALSE NEIGHBOUR: 'it returns false'. Refute it at one input. -/
def topSampleToneWrong : ChangeSpec := { name := "topSampleTone", fn := fun _ => fun
  | [d1, d2, d3] => { results := [.lit (.bool false)], args := [d1, d2, d3] }
  | _ => none }
def TopSampleToneWrongFalsely : Prop := topSampleToneRow.holds Try.pinned (OpenSpec.ofChange topSampleToneWrong)

/- THE SECOND FORM. 'bulk': how many values and letters a reading holds, each counted each time it is reached (what is shared counts as often as it is met; a slice's spare places count too). A statement '..UptoSaid' is the law's where the arguments, and the package variables that the reading takes, are together of bulk at most 1048576: NARROWER than '..Said'. Prove '..Said' where nothing that the law and all that it calls make is longer than what came in: it says more and counts as full. Else prove '..UptoSaid'. A law counts once. -/
mutual
def uptoBulk {H : Type} : DataW H → Nat
  | .lit (.string bytes) => bytes.length + 1
  | .lit _ => 1
  | .nil => 1
  | .ptr d => uptoBulk d + 1
  | .slice elems spare => uptoBulkAll elems + uptoBulkAll spare + 1
  | .agg parts => uptoBulkAll parts + 1
  | .iface _ d => uptoBulk d + 1
  | .map entries => uptoBulkEntries entries + 1
  | .held _ => 1
def uptoBulkAll {H : Type} : List (DataW H) → Nat
  | [] => 0
  | d :: r => uptoBulk d + uptoBulkAll r
def uptoBulkEntries {H : Type} : List (Lit × DataW H) → Nat
  | [] => 0
  | x :: r => uptoBulkEntry x + uptoBulkEntries r
def uptoBulkEntry {H : Type} : Lit × DataW H → Nat
  | (.string bytes, d) => bytes.length + uptoBulk d + 1
  | (_, d) => uptoBulk d + 1
 end
def uptoSmall : (H : Type) → List (DataW H) → Bool := fun _ ds => decide (uptoBulkAll ds ≤ 1048576)
def OpenSpec.upto (s : _root_.Go.ChangeSpec) : _root_.Go.OpenSpec := { _root_.Go.OpenSpec.ofChange s with cond := some uptoSmall }

/-- 'cassegrainlaw02.SamplePackets', WHERE WHAT IT READS IS OF BULK AT MOST 1048576: true; the input reads as it did. -/
def samplePacketsUptoRow : OpenClaim := { program := "ytinkhmfciealkaa", sum := "7f7465754481ec34ab4e38325ff34b6c014b77b7bf5392aea3f0e5861665a47b", func := "cassegrain/cassegrainlaw02.SamplePackets", spec := "samplePackets", unfollowed := true, recurses := true, apart := false, narrowed := true }
def SamplePacketsUptoSaid : Prop := samplePacketsUptoRow.holds Try.pinned (OpenSpec.upto samplePacketsSpec)

/-- 'cassegrainlaw02.SamplePrograms', WHERE WHAT IT READS IS OF BULK AT MOST 1048576: true; the input reads as it did. -/
def sampleProgramsUptoRow : OpenClaim := { program := "ytinkhmfciealkaa", sum := "7f7465754481ec34ab4e38325ff34b6c014b77b7bf5392aea3f0e5861665a47b", func := "cassegrain/cassegrainlaw02.SamplePrograms", spec := "samplePrograms", unfollowed := true, recurses := true, apart := false, narrowed := true }
def SampleProgramsUptoSaid : Prop := sampleProgramsUptoRow.holds Try.pinned (OpenSpec.upto sampleProgramsSpec)

/-- 'cassegrainlaw02.SampleComposed', WHERE WHAT IT READS IS OF BULK AT MOST 1048576: true; the input reads as it did. -/
def sampleComposedUptoRow : OpenClaim := { program := "ytinkhmfciealkaa", sum := "7f7465754481ec34ab4e38325ff34b6c014b77b7bf5392aea3f0e5861665a47b", func := "cassegrain/cassegrainlaw02.SampleComposed", spec := "sampleComposed", unfollowed := true, recurses := true, apart := false, narrowed := true }
def SampleComposedUptoSaid : Prop := sampleComposedUptoRow.holds Try.pinned (OpenSpec.upto sampleComposedSpec)

/-- 'cassegrainlaw02.SampleHidden', WHERE WHAT IT READS IS OF BULK AT MOST 1048576: true; the input reads as it did. -/
def sampleHiddenUptoRow : OpenClaim := { program := "ytinkhmfciealkaa", sum := "7f7465754481ec34ab4e38325ff34b6c014b77b7bf5392aea3f0e5861665a47b", func := "cassegrain/cassegrainlaw02.SampleHidden", spec := "sampleHidden", unfollowed := true, recurses := true, apart := false, narrowed := true }
def SampleHiddenUptoSaid : Prop := sampleHiddenUptoRow.holds Try.pinned (OpenSpec.upto sampleHiddenSpec)

/-- 'cassegrainlaw02.SampleBins', WHERE WHAT IT READS IS OF BULK AT MOST 1048576: true; the input reads as it did. -/
def sampleBinsUptoRow : OpenClaim := { program := "ytinkhmfciealkaa", sum := "7f7465754481ec34ab4e38325ff34b6c014b77b7bf5392aea3f0e5861665a47b", func := "cassegrain/cassegrainlaw02.SampleBins", spec := "sampleBins", unfollowed := true, recurses := true, apart := false, narrowed := true }
def SampleBinsUptoSaid : Prop := sampleBinsUptoRow.holds Try.pinned (OpenSpec.upto sampleBinsSpec)

/-- 'cassegrainlaw02.SampleFilters', WHERE WHAT IT READS IS OF BULK AT MOST 1048576: true; the input reads as it did. -/
def sampleFiltersUptoRow : OpenClaim := { program := "ytinkhmfciealkaa", sum := "7f7465754481ec34ab4e38325ff34b6c014b77b7bf5392aea3f0e5861665a47b", func := "cassegrain/cassegrainlaw02.SampleFilters", spec := "sampleFilters", unfollowed := true, recurses := true, apart := false, narrowed := true }
def SampleFiltersUptoSaid : Prop := sampleFiltersUptoRow.holds Try.pinned (OpenSpec.upto sampleFiltersSpec)

/-- 'cassegrainlaw02.SampleStreams', WHERE WHAT IT READS IS OF BULK AT MOST 1048576: true; the input reads as it did. -/
def sampleStreamsUptoRow : OpenClaim := { program := "ytinkhmfciealkaa", sum := "7f7465754481ec34ab4e38325ff34b6c014b77b7bf5392aea3f0e5861665a47b", func := "cassegrain/cassegrainlaw02.SampleStreams", spec := "sampleStreams", unfollowed := true, recurses := true, apart := false, narrowed := true }
def SampleStreamsUptoSaid : Prop := sampleStreamsUptoRow.holds Try.pinned (OpenSpec.upto sampleStreamsSpec)

/-- 'cassegrainlaw02.SampleOnce', WHERE WHAT IT READS IS OF BULK AT MOST 1048576: true; the input reads as it did. -/
def sampleOnceUptoRow : OpenClaim := { program := "ytinkhmfciealkaa", sum := "7f7465754481ec34ab4e38325ff34b6c014b77b7bf5392aea3f0e5861665a47b", func := "cassegrain/cassegrainlaw02.SampleOnce", spec := "sampleOnce", unfollowed := true, recurses := true, apart := false, narrowed := true }
def SampleOnceUptoSaid : Prop := sampleOnceUptoRow.holds Try.pinned (OpenSpec.upto sampleOnceSpec)

/-- 'cassegrainlaw02.SampleStrongest', WHERE WHAT IT READS IS OF BULK AT MOST 1048576: true; the input reads as it did. -/
def sampleStrongestUptoRow : OpenClaim := { program := "ytinkhmfciealkaa", sum := "7f7465754481ec34ab4e38325ff34b6c014b77b7bf5392aea3f0e5861665a47b", func := "cassegrain/cassegrainlaw02.SampleStrongest", spec := "sampleStrongest", unfollowed := true, recurses := true, apart := false, narrowed := true }
def SampleStrongestUptoSaid : Prop := sampleStrongestUptoRow.holds Try.pinned (OpenSpec.upto sampleStrongestSpec)

/-- 'cassegrainlaw02.SampleTurnedBack', WHERE WHAT IT READS IS OF BULK AT MOST 1048576: true; the input reads as it did. -/
def sampleTurnedBackUptoRow : OpenClaim := { program := "ytinkhmfciealkaa", sum := "7f7465754481ec34ab4e38325ff34b6c014b77b7bf5392aea3f0e5861665a47b", func := "cassegrain/cassegrainlaw02.SampleTurnedBack", spec := "sampleTurnedBack", unfollowed := true, recurses := true, apart := false, narrowed := true }
def SampleTurnedBackUptoSaid : Prop := sampleTurnedBackUptoRow.holds Try.pinned (OpenSpec.upto sampleTurnedBackSpec)

/-- 'cassegrainlaw02.SampleLinear', WHERE WHAT IT READS IS OF BULK AT MOST 1048576: true; the input reads as it did. -/
def sampleLinearUptoRow : OpenClaim := { program := "ytinkhmfciealkaa", sum := "7f7465754481ec34ab4e38325ff34b6c014b77b7bf5392aea3f0e5861665a47b", func := "cassegrain/cassegrainlaw02.SampleLinear", spec := "sampleLinear", unfollowed := true, recurses := true, apart := false, narrowed := true }
def SampleLinearUptoSaid : Prop := sampleLinearUptoRow.holds Try.pinned (OpenSpec.upto sampleLinearSpec)

/-- 'cassegrainlaw02.SampleMixes', WHERE WHAT IT READS IS OF BULK AT MOST 1048576: true; the input reads as it did. -/
def sampleMixesUptoRow : OpenClaim := { program := "ytinkhmfciealkaa", sum := "7f7465754481ec34ab4e38325ff34b6c014b77b7bf5392aea3f0e5861665a47b", func := "cassegrain/cassegrainlaw02.SampleMixes", spec := "sampleMixes", unfollowed := true, recurses := true, apart := false, narrowed := true }
def SampleMixesUptoSaid : Prop := sampleMixesUptoRow.holds Try.pinned (OpenSpec.upto sampleMixesSpec)

/-- 'cassegrainlaw02.SampleEnergies', WHERE WHAT IT READS IS OF BULK AT MOST 1048576: true; the input reads as it did. -/
def sampleEnergiesUptoRow : OpenClaim := { program := "ytinkhmfciealkaa", sum := "7f7465754481ec34ab4e38325ff34b6c014b77b7bf5392aea3f0e5861665a47b", func := "cassegrain/cassegrainlaw02.SampleEnergies", spec := "sampleEnergies", unfollowed := true, recurses := true, apart := false, narrowed := true }
def SampleEnergiesUptoSaid : Prop := sampleEnergiesUptoRow.holds Try.pinned (OpenSpec.upto sampleEnergiesSpec)

/-- 'cassegraintop.TopSampleTone', WHERE WHAT IT READS IS OF BULK AT MOST 1048576: true; the input reads as it did. -/
def topSampleToneUptoRow : OpenClaim := { program := "ytinkhmfciealkaa", sum := "7f7465754481ec34ab4e38325ff34b6c014b77b7bf5392aea3f0e5861665a47b", func := "cassegrain/cassegraintop.TopSampleTone", spec := "topSampleTone", unfollowed := true, recurses := true, apart := false, narrowed := true }
def TopSampleToneUptoSaid : Prop := topSampleToneUptoRow.holds Try.pinned (OpenSpec.upto topSampleToneSpec)

end Rows
end Go.Proofs.Ytinkhmfciealkaa
