/-
  NARROWER THAN 'FOR EVERY INPUT', by the rows' own cells (each row's printed sentence says how): RangingMeasurements: laid · RangingContradicting: laid · RangingEnclosures: laid · RangingEnclosed: laid · RangingCandidates: laid · RangingTones: laid · RangingAll: laid · RangingResiduals: laid · RangingToneSets: laid · RangingDelays: laid · TopRangingResolves: laid · RangingClaims: laid · RangingSound: laid · RangingProofs: laid.
  DERIVED. THE GIVEN ROWS OF THIS SEAT. 14 by the template 'for every input the law returns true; each argument reads behind the call as it read before'; 0 by the template 'total and deterministic' (their statements: YtfmfiflpokogiaaDoorTotals.lean).
  GIVEN WITH THE SEED: the statements are not yours to turn. If you find one false, say at which input.
  Laid BY PROGRAM, IN A SANDBOX (cutbox-rows.mjs): the forced cells as the released guide's own fill.sh prints them over the translation 858deb22780b37b6… (all of the seat's roots in one cut). By AI agents, Wed Nov 11 2026. No macro, syntax, notation, axiom, sorry.
-/
import Derived.Test.YtfmfiflpokogiaaDoorChecked
import GoSem.Claim
import GoSem.ClaimJoined
import GoSem.ClaimMapViews
import Derived.JoinedTies
import Derived.KernelRfl
namespace Go.Proofs.YtfmfiflpokogiaaDoor
/- THE CELL 'sum', in the pinned program and in every row, IS THE sha256 OF THE DUMP (.gsa) THAT YtfmfiflpokogiaaDoorProg.lean LOADS. Nothing in Lean hashes anything: it is a label: what it is worth is what the hold of that sum in a sandbox is worth. -/
noncomputable def Tryd.pinned : Pinned := { name := "ytfmfiflpokogiaadoor", sum := "858deb22780b37b64d07bae23a611cb4850690c9e8267513dd3b3fee3535d966", checked := Tryd.checked }
namespace Rows
def none {H : Type} : Left H := { results := [], args := [] }

/- WHAT THE LISTED PACKAGE-LEVEL VARIABLES READ AS WHEN THE CALL BEGINS. Each datum BY PROGRAM (the guide's laid-datum.mjs) off the statement by which the dump's own 'gosem.cut.vars' lays the variable. In a bare row this is a premise. The card (YtfmfiflpokogiaaDoorCards.lean) ties it to the program's text. -/
def laid_cassegrain_ranging_speeds {H : Type} : DataW H := .agg [.agg [.lit (.int .i64 0), .lit (.int .i64 (-1))], .agg [.lit (.int .i64 0), .lit (.int .i64 1)]]

/-- 'cassegrainlaw07.RangingMeasurements': WHATEVER THE INPUT: true; the input reads as it did. -/
def rangingMeasurementsSpec : ChangeSpec := { name := "rangingMeasurements", fn := fun _ => fun
  | [d] => { results := [.lit (.bool true)], args := [d] }
  | _ => none }
def rangingMeasurementsRow : OpenClaim := { program := "ytfmfiflpokogiaadoor", sum := "858deb22780b37b64d07bae23a611cb4850690c9e8267513dd3b3fee3535d966", func := "cassegrain/cassegrainlaw07.RangingMeasurements", spec := "rangingMeasurements", unfollowed := true, recurses := true, named := ["cassegrain/ranging.speeds"], apart := false, laid := [("cassegrain/ranging.speeds", laid_cassegrain_ranging_speeds)] }
def RangingMeasurementsSaid : Prop := rangingMeasurementsRow.holds Tryd.pinned (OpenSpec.ofChange rangingMeasurementsSpec)

/-- ITS FALSE NEIGHBOUR: 'it returns false'. Refute it at one input. -/
def rangingMeasurementsWrong : ChangeSpec := { name := "rangingMeasurements", fn := fun _ => fun
  | [d] => { results := [.lit (.bool false)], args := [d] }
  | _ => none }
def RangingMeasurementsWrongFalsely : Prop := rangingMeasurementsRow.holds Tryd.pinned (OpenSpec.ofChange rangingMeasurementsWrong)

/-- 'cassegrainlaw07.RangingContradicting': WHATEVER THE INPUT: true; the input reads as it did. -/
def rangingContradictingSpec : ChangeSpec := { name := "rangingContradicting", fn := fun _ => fun
  | [d] => { results := [.lit (.bool true)], args := [d] }
  | _ => none }
def rangingContradictingRow : OpenClaim := { program := "ytfmfiflpokogiaadoor", sum := "858deb22780b37b64d07bae23a611cb4850690c9e8267513dd3b3fee3535d966", func := "cassegrain/cassegrainlaw07.RangingContradicting", spec := "rangingContradicting", unfollowed := true, recurses := true, named := ["cassegrain/ranging.speeds"], apart := false, laid := [("cassegrain/ranging.speeds", laid_cassegrain_ranging_speeds)] }
def RangingContradictingSaid : Prop := rangingContradictingRow.holds Tryd.pinned (OpenSpec.ofChange rangingContradictingSpec)

/-- ITS FALSE NEIGHBOUR: 'it returns false'. Refute it at one input. -/
def rangingContradictingWrong : ChangeSpec := { name := "rangingContradicting", fn := fun _ => fun
  | [d] => { results := [.lit (.bool false)], args := [d] }
  | _ => none }
def RangingContradictingWrongFalsely : Prop := rangingContradictingRow.holds Tryd.pinned (OpenSpec.ofChange rangingContradictingWrong)

/-- 'cassegrainlaw07.RangingEnclosures': WHATEVER THE INPUT: true; the input reads as it did. -/
def rangingEnclosuresSpec : ChangeSpec := { name := "rangingEnclosures", fn := fun _ => fun
  | [d1, d2] => { results := [.lit (.bool true)], args := [d1, d2] }
  | _ => none }
def rangingEnclosuresRow : OpenClaim := { program := "ytfmfiflpokogiaadoor", sum := "858deb22780b37b64d07bae23a611cb4850690c9e8267513dd3b3fee3535d966", func := "cassegrain/cassegrainlaw07.RangingEnclosures", spec := "rangingEnclosures", unfollowed := true, recurses := true, named := ["cassegrain/ranging.speeds"], apart := false, laid := [("cassegrain/ranging.speeds", laid_cassegrain_ranging_speeds)] }
def RangingEnclosuresSaid : Prop := rangingEnclosuresRow.holds Tryd.pinned (OpenSpec.ofChange rangingEnclosuresSpec)

/-- ITS FALSE NEIGHBOUR: 'it returns false'. Refute it at one input. -/
def rangingEnclosuresWrong : ChangeSpec := { name := "rangingEnclosures", fn := fun _ => fun
  | [d1, d2] => { results := [.lit (.bool false)], args := [d1, d2] }
  | _ => none }
def RangingEnclosuresWrongFalsely : Prop := rangingEnclosuresRow.holds Tryd.pinned (OpenSpec.ofChange rangingEnclosuresWrong)

/-- 'cassegrainlaw07.RangingEnclosed': WHATEVER THE INPUT: true; the input reads as it did. -/
def rangingEnclosedSpec : ChangeSpec := { name := "rangingEnclosed", fn := fun _ => fun
  | [d1, d2, d3] => { results := [.lit (.bool true)], args := [d1, d2, d3] }
  | _ => none }
def rangingEnclosedRow : OpenClaim := { program := "ytfmfiflpokogiaadoor", sum := "858deb22780b37b64d07bae23a611cb4850690c9e8267513dd3b3fee3535d966", func := "cassegrain/cassegrainlaw07.RangingEnclosed", spec := "rangingEnclosed", unfollowed := true, recurses := true, named := ["cassegrain/ranging.speeds"], apart := false, laid := [("cassegrain/ranging.speeds", laid_cassegrain_ranging_speeds)] }
def RangingEnclosedSaid : Prop := rangingEnclosedRow.holds Tryd.pinned (OpenSpec.ofChange rangingEnclosedSpec)

/-- ITS FALSE NEIGHBOUR: 'it returns false'. Refute it at one input. -/
def rangingEnclosedWrong : ChangeSpec := { name := "rangingEnclosed", fn := fun _ => fun
  | [d1, d2, d3] => { results := [.lit (.bool false)], args := [d1, d2, d3] }
  | _ => none }
def RangingEnclosedWrongFalsely : Prop := rangingEnclosedRow.holds Tryd.pinned (OpenSpec.ofChange rangingEnclosedWrong)

/-- 'cassegrainlaw07.RangingCandidates': WHATEVER THE INPUT: true; the input reads as it did. -/
def rangingCandidatesSpec : ChangeSpec := { name := "rangingCandidates", fn := fun _ => fun
  | [d1, d2] => { results := [.lit (.bool true)], args := [d1, d2] }
  | _ => none }
def rangingCandidatesRow : OpenClaim := { program := "ytfmfiflpokogiaadoor", sum := "858deb22780b37b64d07bae23a611cb4850690c9e8267513dd3b3fee3535d966", func := "cassegrain/cassegrainlaw07.RangingCandidates", spec := "rangingCandidates", unfollowed := true, recurses := true, named := ["cassegrain/ranging.speeds"], apart := false, laid := [("cassegrain/ranging.speeds", laid_cassegrain_ranging_speeds)] }
def RangingCandidatesSaid : Prop := rangingCandidatesRow.holds Tryd.pinned (OpenSpec.ofChange rangingCandidatesSpec)

/-- ITS FALSE NEIGHBOUR: 'it returns false'. Refute it at one input. -/
def rangingCandidatesWrong : ChangeSpec := { name := "rangingCandidates", fn := fun _ => fun
  | [d1, d2] => { results := [.lit (.bool false)], args := [d1, d2] }
  | _ => none }
def RangingCandidatesWrongFalsely : Prop := rangingCandidatesRow.holds Tryd.pinned (OpenSpec.ofChange rangingCandidatesWrong)

/-- 'cassegrainlaw07.RangingTones': WHATEVER THE INPUT: true; the input reads as it did. -/
def rangingTonesSpec : ChangeSpec := { name := "rangingTones", fn := fun _ => fun
  | [d] => { results := [.lit (.bool true)], args := [d] }
  | _ => none }
def rangingTonesRow : OpenClaim := { program := "ytfmfiflpokogiaadoor", sum := "858deb22780b37b64d07bae23a611cb4850690c9e8267513dd3b3fee3535d966", func := "cassegrain/cassegrainlaw07.RangingTones", spec := "rangingTones", unfollowed := true, recurses := true, named := ["cassegrain/ranging.speeds"], apart := false, laid := [("cassegrain/ranging.speeds", laid_cassegrain_ranging_speeds)] }
def RangingTonesSaid : Prop := rangingTonesRow.holds Tryd.pinned (OpenSpec.ofChange rangingTonesSpec)

/-- ITS FALSE NEIGHBOUR: 'it returns false'. Refute it at one input. -/
def rangingTonesWrong : ChangeSpec := { name := "rangingTones", fn := fun _ => fun
  | [d] => { results := [.lit (.bool false)], args := [d] }
  | _ => none }
def RangingTonesWrongFalsely : Prop := rangingTonesRow.holds Tryd.pinned (OpenSpec.ofChange rangingTonesWrong)

/-- 'cassegrainlaw07.RangingAll': WHATEVER THE INPUT: true; the input reads as it did. -/
def rangingAllSpec : ChangeSpec := { name := "rangingAll", fn := fun _ => fun
  | [d1, d2, d3] => { results := [.lit (.bool true)], args := [d1, d2, d3] }
  | _ => none }
def rangingAllRow : OpenClaim := { program := "ytfmfiflpokogiaadoor", sum := "858deb22780b37b64d07bae23a611cb4850690c9e8267513dd3b3fee3535d966", func := "cassegrain/cassegrainlaw07.RangingAll", spec := "rangingAll", unfollowed := true, recurses := true, named := ["cassegrain/ranging.speeds"], apart := false, laid := [("cassegrain/ranging.speeds", laid_cassegrain_ranging_speeds)] }
def RangingAllSaid : Prop := rangingAllRow.holds Tryd.pinned (OpenSpec.ofChange rangingAllSpec)

/-- ITS FALSE NEIGHBOUR: 'it returns false'. Refute it at one input. -/
def rangingAllWrong : ChangeSpec := { name := "rangingAll", fn := fun _ => fun
  | [d1, d2, d3] => { results := [.lit (.bool false)], args := [d1, d2, d3] }
  | _ => none }
def RangingAllWrongFalsely : Prop := rangingAllRow.holds Tryd.pinned (OpenSpec.ofChange rangingAllWrong)

/-- 'cassegrainlaw07.RangingResiduals': WHATEVER THE INPUT: true; the input reads as it did. -/
def rangingResidualsSpec : ChangeSpec := { name := "rangingResiduals", fn := fun _ => fun
  | [d1, d2] => { results := [.lit (.bool true)], args := [d1, d2] }
  | _ => none }
def rangingResidualsRow : OpenClaim := { program := "ytfmfiflpokogiaadoor", sum := "858deb22780b37b64d07bae23a611cb4850690c9e8267513dd3b3fee3535d966", func := "cassegrain/cassegrainlaw07.RangingResiduals", spec := "rangingResiduals", unfollowed := true, recurses := true, named := ["cassegrain/ranging.speeds"], apart := false, laid := [("cassegrain/ranging.speeds", laid_cassegrain_ranging_speeds)] }
def RangingResidualsSaid : Prop := rangingResidualsRow.holds Tryd.pinned (OpenSpec.ofChange rangingResidualsSpec)

/-- ITS FALSE NEIGHBOUR: 'it returns false'. Refute it at one input. -/
def rangingResidualsWrong : ChangeSpec := { name := "rangingResiduals", fn := fun _ => fun
  | [d1, d2] => { results := [.lit (.bool false)], args := [d1, d2] }
  | _ => none }
def RangingResidualsWrongFalsely : Prop := rangingResidualsRow.holds Tryd.pinned (OpenSpec.ofChange rangingResidualsWrong)

/-- 'cassegrainlaw07.RangingToneSets': WHATEVER THE INPUT: true; the input reads as it did. -/
def rangingToneSetsSpec : ChangeSpec := { name := "rangingToneSets", fn := fun _ => fun
  | [d1, d2] => { results := [.lit (.bool true)], args := [d1, d2] }
  | _ => none }
def rangingToneSetsRow : OpenClaim := { program := "ytfmfiflpokogiaadoor", sum := "858deb22780b37b64d07bae23a611cb4850690c9e8267513dd3b3fee3535d966", func := "cassegrain/cassegrainlaw07.RangingToneSets", spec := "rangingToneSets", unfollowed := true, recurses := true, named := ["cassegrain/ranging.speeds"], apart := false, laid := [("cassegrain/ranging.speeds", laid_cassegrain_ranging_speeds)] }
def RangingToneSetsSaid : Prop := rangingToneSetsRow.holds Tryd.pinned (OpenSpec.ofChange rangingToneSetsSpec)

/-- ITS FALSE NEIGHBOUR: 'it returns false'. Refute it at one input. -/
def rangingToneSetsWrong : ChangeSpec := { name := "rangingToneSets", fn := fun _ => fun
  | [d1, d2] => { results := [.lit (.bool false)], args := [d1, d2] }
  | _ => none }
def RangingToneSetsWrongFalsely : Prop := rangingToneSetsRow.holds Tryd.pinned (OpenSpec.ofChange rangingToneSetsWrong)

/-- 'cassegrainlaw07.RangingDelays': WHATEVER THE INPUT: true; the input reads as it did. -/
def rangingDelaysSpec : ChangeSpec := { name := "rangingDelays", fn := fun _ => fun
  | [d1, d2, d3] => { results := [.lit (.bool true)], args := [d1, d2, d3] }
  | _ => none }
def rangingDelaysRow : OpenClaim := { program := "ytfmfiflpokogiaadoor", sum := "858deb22780b37b64d07bae23a611cb4850690c9e8267513dd3b3fee3535d966", func := "cassegrain/cassegrainlaw07.RangingDelays", spec := "rangingDelays", unfollowed := true, recurses := true, named := ["cassegrain/ranging.speeds"], apart := false, laid := [("cassegrain/ranging.speeds", laid_cassegrain_ranging_speeds)] }
def RangingDelaysSaid : Prop := rangingDelaysRow.holds Tryd.pinned (OpenSpec.ofChange rangingDelaysSpec)

/-- ITS FALSE NEIGHBOUR: 'it returns false'. Refute it at one input. -/
def rangingDelaysWrong : ChangeSpec := { name := "rangingDelays", fn := fun _ => fun
  | [d1, d2, d3] => { results := [.lit (.bool false)], args := [d1, d2, d3] }
  | _ => none }
def RangingDelaysWrongFalsely : Prop := rangingDelaysRow.holds Tryd.pinned (OpenSpec.ofChange rangingDelaysWrong)

/-- 'cassegraintop.TopRangingResolves': WHATEVER THE INPUT: true; the input reads as it did. -/
def topRangingResolvesSpec : ChangeSpec := { name := "topRangingResolves", fn := fun _ => fun
  | [d] => { results := [.lit (.bool true)], args := [d] }
  | _ => none }
def topRangingResolvesRow : OpenClaim := { program := "ytfmfiflpokogiaadoor", sum := "858deb22780b37b64d07bae23a611cb4850690c9e8267513dd3b3fee3535d966", func := "cassegrain/cassegraintop.TopRangingResolves", spec := "topRangingResolves", unfollowed := true, recurses := true, named := ["cassegrain/ranging.speeds"], apart := false, laid := [("cassegrain/ranging.speeds", laid_cassegrain_ranging_speeds)] }
def TopRangingResolvesSaid : Prop := topRangingResolvesRow.holds Tryd.pinned (OpenSpec.ofChange topRangingResolvesSpec)

/-- ITS FALSE NEIGHBOUR: 'it returns false'. Refute it at one input. -/
def topRangingResolvesWrong : ChangeSpec := { name := "topRangingResolves", fn := fun _ => fun
  | [d] => { results := [.lit (.bool false)], args := [d] }
  | _ => none }
def TopRangingResolvesWrongFalsely : Prop := topRangingResolvesRow.holds Tryd.pinned (OpenSpec.ofChange topRangingResolvesWrong)

/-- 'cassegrainlaw07.RangingClaims': WHATEVER THE INPUT: true; the input reads as it did. -/
def rangingClaimsSpec : ChangeSpec := { name := "rangingClaims", fn := fun _ => fun
  | [d1, d2] => { results := [.lit (.bool true)], args := [d1, d2] }
  | _ => none }
def rangingClaimsRow : OpenClaim := { program := "ytfmfiflpokogiaadoor", sum := "858deb22780b37b64d07bae23a611cb4850690c9e8267513dd3b3fee3535d966", func := "cassegrain/cassegrainlaw07.RangingClaims", spec := "rangingClaims", unfollowed := true, recurses := true, named := ["cassegrain/ranging.speeds"], apart := false, laid := [("cassegrain/ranging.speeds", laid_cassegrain_ranging_speeds)] }
def RangingClaimsSaid : Prop := rangingClaimsRow.holds Tryd.pinned (OpenSpec.ofChange rangingClaimsSpec)

/-- ITS FALSE NEIGHBOUR: 'it returns false'. Refute it at one input. -/
def rangingClaimsWrong : ChangeSpec := { name := "rangingClaims", fn := fun _ => fun
  | [d1, d2] => { results := [.lit (.bool false)], args := [d1, d2] }
  | _ => none }
def RangingClaimsWrongFalsely : Prop := rangingClaimsRow.holds Tryd.pinned (OpenSpec.ofChange rangingClaimsWrong)

/-- 'cassegrainlaw07.RangingSound': WHATEVER THE INPUT: true; the input reads as it did. -/
def rangingSoundSpec : ChangeSpec := { name := "rangingSound", fn := fun _ => fun
  | [d1, d2, d3] => { results := [.lit (.bool true)], args := [d1, d2, d3] }
  | _ => none }
def rangingSoundRow : OpenClaim := { program := "ytfmfiflpokogiaadoor", sum := "858deb22780b37b64d07bae23a611cb4850690c9e8267513dd3b3fee3535d966", func := "cassegrain/cassegrainlaw07.RangingSound", spec := "rangingSound", unfollowed := true, recurses := true, named := ["cassegrain/ranging.speeds"], apart := false, laid := [("cassegrain/ranging.speeds", laid_cassegrain_ranging_speeds)] }
def RangingSoundSaid : Prop := rangingSoundRow.holds Tryd.pinned (OpenSpec.ofChange rangingSoundSpec)

/-- ITS FALSE NEIGHBOUR: 'it returns false'. Refute it at one input. -/
def rangingSoundWrong : ChangeSpec := { name := "rangingSound", fn := fun _ => fun
  | [d1, d2, d3] => { results := [.lit (.bool false)], args := [d1, d2, d3] }
  | _ => none }
def RangingSoundWrongFalsely : Prop := rangingSoundRow.holds Tryd.pinned (OpenSpec.ofChange rangingSoundWrong)

/-- 'cassegrainlaw07.RangingProofs': WHATEVER THE INPUT: true; the input reads as it did. -/
def rangingProofsSpec : ChangeSpec := { name := "rangingProofs", fn := fun _ => fun
  | [d1, d2] => { results := [.lit (.bool true)], args := [d1, d2] }
  | _ => none }
def rangingProofsRow : OpenClaim := { program := "ytfmfiflpokogiaadoor", sum := "858deb22780b37b64d07bae23a611cb4850690c9e8267513dd3b3fee3535d966", func := "cassegrain/cassegrainlaw07.RangingProofs", spec := "rangingProofs", unfollowed := true, recurses := true, named := ["cassegrain/ranging.speeds"], apart := false, laid := [("cassegrain/ranging.speeds", laid_cassegrain_ranging_speeds)] }
def RangingProofsSaid : Prop := rangingProofsRow.holds Tryd.pinned (OpenSpec.ofChange rangingProofsSpec)

/-- ITS FALSE NEIGHBOUR: 'it returns false'. Refute it at one input. -/
def rangingProofsWrong : ChangeSpec := { name := "rangingProofs", fn := fun _ => fun
  | [d1, d2] => { results := [.lit (.bool false)], args := [d1, d2] }
  | _ => none }
def RangingProofsWrongFalsely : Prop := rangingProofsRow.holds Tryd.pinned (OpenSpec.ofChange rangingProofsWrong)

/- THE SECOND FORM. 'bulk': how many values and letters a reading holds, each counted each time it is reached (what is shared counts as often as it is met; a slice's spare places count too). A statement '..UptoSaid' is the law's where the arguments, and the package variables that the reading takes, are together of bulk at most 1048576: NARROWER than '..Said'. Prove '..Said' where nothing that the law and all that it calls make is longer than what came in: it says more and counts as full. Else prove '..UptoSaid'. A law counts once. -/
mutual
def uptoBulk {H : Type} : DataW H → Nat
  | .lit (.string bytes) => bytes.length + 1
  | .lit _ => 1
  | .nil => 1
  | .ptr d => uptoBulk d + 1
  | .slice elems spare => uptoBulkAll elems + uptoBulkAll spare + 1
  | .agg parts => uptoBulkAll parts + 1
  | .iface _ d => uptoBulk d + 1
  | .map entries => uptoBulkEntries entries + 1
  | .held _ => 1
def uptoBulkAll {H : Type} : List (DataW H) → Nat
  | [] => 0
  | d :: r => uptoBulk d + uptoBulkAll r
def uptoBulkEntries {H : Type} : List (Lit × DataW H) → Nat
  | [] => 0
  | x :: r => uptoBulkEntry x + uptoBulkEntries r
def uptoBulkEntry {H : Type} : Lit × DataW H → Nat
  | (.string bytes, d) => bytes.length + uptoBulk d + 1
  | (_, d) => uptoBulk d + 1
 end
def uptoSmall : (H : Type) → List (DataW H) → Bool := fun _ ds => decide (uptoBulkAll ds ≤ 1048576)
def OpenSpec.upto (s : _root_.Go.ChangeSpec) : _root_.Go.OpenSpec := { _root_.Go.OpenSpec.ofChange s with cond := some uptoSmall }

/-- 'cassegrainlaw07.RangingMeasurements', WHERE WHAT IT READS IS OF BULK AT MOST 1048576: true; the input reads as it did. -/
def rangingMeasurementsUptoRow : OpenClaim := { program := "ytfmfiflpokogiaadoor", sum := "858deb22780b37b64d07bae23a611cb4850690c9e8267513dd3b3fee3535d966", func := "cassegrain/cassegrainlaw07.RangingMeasurements", spec := "rangingMeasurements", unfollowed := true, recurses := true, named := ["cassegrain/ranging.speeds"], apart := false, laid := [("cassegrain/ranging.speeds", laid_cassegrain_ranging_speeds)], narrowed := true }
def RangingMeasurementsUptoSaid : Prop := rangingMeasurementsUptoRow.holds Tryd.pinned (OpenSpec.upto rangingMeasurementsSpec)

/-- 'cassegrainlaw07.RangingContradicting', WHERE WHAT IT READS IS OF BULK AT MOST 1048576: true; the input reads as it did. -/
def rangingContradictingUptoRow : OpenClaim := { program := "ytfmfiflpokogiaadoor", sum := "858deb22780b37b64d07bae23a611cb4850690c9e8267513dd3b3fee3535d966", func := "cassegrain/cassegrainlaw07.RangingContradicting", spec := "rangingContradicting", unfollowed := true, recurses := true, named := ["cassegrain/ranging.speeds"], apart := false, laid := [("cassegrain/ranging.speeds", laid_cassegrain_ranging_speeds)], narrowed := true }
def RangingContradictingUptoSaid : Prop := rangingContradictingUptoRow.holds Tryd.pinned (OpenSpec.upto rangingContradictingSpec)

/-- 'cassegrainlaw07.RangingEnclosures', WHERE WHAT IT READS IS OF BULK AT MOST 1048576: true; the input reads as it did. -/
def rangingEnclosuresUptoRow : OpenClaim := { program := "ytfmfiflpokogiaadoor", sum := "858deb22780b37b64d07bae23a611cb4850690c9e8267513dd3b3fee3535d966", func := "cassegrain/cassegrainlaw07.RangingEnclosures", spec := "rangingEnclosures", unfollowed := true, recurses := true, named := ["cassegrain/ranging.speeds"], apart := false, laid := [("cassegrain/ranging.speeds", laid_cassegrain_ranging_speeds)], narrowed := true }
def RangingEnclosuresUptoSaid : Prop := rangingEnclosuresUptoRow.holds Tryd.pinned (OpenSpec.upto rangingEnclosuresSpec)

/-- 'cassegrainlaw07.RangingEnclosed', WHERE WHAT IT READS IS OF BULK AT MOST 1048576: true; the input reads as it did. -/
def rangingEnclosedUptoRow : OpenClaim := { program := "ytfmfiflpokogiaadoor", sum := "858deb22780b37b64d07bae23a611cb4850690c9e8267513dd3b3fee3535d966", func := "cassegrain/cassegrainlaw07.RangingEnclosed", spec := "rangingEnclosed", unfollowed := true, recurses := true, named := ["cassegrain/ranging.speeds"], apart := false, laid := [("cassegrain/ranging.speeds", laid_cassegrain_ranging_speeds)], narrowed := true }
def RangingEnclosedUptoSaid : Prop := rangingEnclosedUptoRow.holds Tryd.pinned (OpenSpec.upto rangingEnclosedSpec)

/-- 'cassegrainlaw07.RangingCandidates', WHERE WHAT IT READS IS OF BULK AT MOST 1048576: true; the input reads as it did. -/
def rangingCandidatesUptoRow : OpenClaim := { program := "ytfmfiflpokogiaadoor", sum := "858deb22780b37b64d07bae23a611cb4850690c9e8267513dd3b3fee3535d966", func := "cassegrain/cassegrainlaw07.RangingCandidates", spec := "rangingCandidates", unfollowed := true, recurses := true, named := ["cassegrain/ranging.speeds"], apart := false, laid := [("cassegrain/ranging.speeds", laid_cassegrain_ranging_speeds)], narrowed := true }
def RangingCandidatesUptoSaid : Prop := rangingCandidatesUptoRow.holds Tryd.pinned (OpenSpec.upto rangingCandidatesSpec)

/-- 'cassegrainlaw07.RangingTones', WHERE WHAT IT READS IS OF BULK AT MOST 1048576: true; the input reads as it did. -/
def rangingTonesUptoRow : OpenClaim := { program := "ytfmfiflpokogiaadoor", sum := "858deb22780b37b64d07bae23a611cb4850690c9e8267513dd3b3fee3535d966", func := "cassegrain/cassegrainlaw07.RangingTones", spec := "rangingTones", unfollowed := true, recurses := true, named := ["cassegrain/ranging.speeds"], apart := false, laid := [("cassegrain/ranging.speeds", laid_cassegrain_ranging_speeds)], narrowed := true }
def RangingTonesUptoSaid : Prop := rangingTonesUptoRow.holds Tryd.pinned (OpenSpec.upto rangingTonesSpec)

/-- 'cassegrainlaw07.RangingAll', WHERE WHAT IT READS IS OF BULK AT MOST 1048576: true; the input reads as it did. -/
def rangingAllUptoRow : OpenClaim := { program := "ytfmfiflpokogiaadoor", sum := "858deb22780b37b64d07bae23a611cb4850690c9e8267513dd3b3fee3535d966", func := "cassegrain/cassegrainlaw07.RangingAll", spec := "rangingAll", unfollowed := true, recurses := true, named := ["cassegrain/ranging.speeds"], apart := false, laid := [("cassegrain/ranging.speeds", laid_cassegrain_ranging_speeds)], narrowed := true }
def RangingAllUptoSaid : Prop := rangingAllUptoRow.holds Tryd.pinned (OpenSpec.upto rangingAllSpec)

/-- 'cassegrainlaw07.RangingResiduals', WHERE WHAT IT READS IS OF BULK AT MOST 1048576: true; the input reads as it did. -/
def rangingResidualsUptoRow : OpenClaim := { program := "ytfmfiflpokogiaadoor", sum := "858deb22780b37b64d07bae23a611cb4850690c9e8267513dd3b3fee3535d966", func := "cassegrain/cassegrainlaw07.RangingResiduals", spec := "rangingResiduals", unfollowed := true, recurses := true, named := ["cassegrain/ranging.speeds"], apart := false, laid := [("cassegrain/ranging.speeds", laid_cassegrain_ranging_speeds)], narrowed := true }
def RangingResidualsUptoSaid : Prop := rangingResidualsUptoRow.holds Tryd.pinned (OpenSpec.upto rangingResidualsSpec)

/-- 'cassegrainlaw07.RangingToneSets', WHERE WHAT IT READS IS OF BULK AT MOST 1048576: true; the input reads as it did. -/
def rangingToneSetsUptoRow : OpenClaim := { program := "ytfmfiflpokogiaadoor", sum := "858deb22780b37b64d07bae23a611cb4850690c9e8267513dd3b3fee3535d966", func := "cassegrain/cassegrainlaw07.RangingToneSets", spec := "rangingToneSets", unfollowed := true, recurses := true, named := ["cassegrain/ranging.speeds"], apart := false, laid := [("cassegrain/ranging.speeds", laid_cassegrain_ranging_speeds)], narrowed := true }
def RangingToneSetsUptoSaid : Prop := rangingToneSetsUptoRow.holds Tryd.pinned (OpenSpec.upto rangingToneSetsSpec)

/-- 'cassegrainlaw07.RangingDelays', WHERE WHAT IT READS IS OF BULK AT MOST 1048576: true; the input reads as it did. -/
def rangingDelaysUptoRow : OpenClaim := { program := "ytfmfiflpokogiaadoor", sum := "858deb22780b37b64d07bae23a611cb4850690c9e8267513dd3b3fee3535d966", func := "cassegrain/cassegrainlaw07.RangingDelays", spec := "rangingDelays", unfollowed := true, recurses := true, named := ["cassegrain/ranging.speeds"], apart := false, laid := [("cassegrain/ranging.speeds", laid_cassegrain_ranging_speeds)], narrowed := true }
def RangingDelaysUptoSaid : Prop := rangingDelaysUptoRow.holds Tryd.pinned (OpenSpec.upto rangingDelaysSpec)

/-- 'cassegraintop.TopRangingResolves', WHERE WHAT IT READS IS OF BULK AT MOST 1048576: true; the input reads as it did. -/
def topRangingResolvesUptoRow : OpenClaim := { program := "ytfmfiflpokogiaadoor", sum := "858deb22780b37b64d07bae23a611cb4850690c9e8267513dd3b3fee3535d966", func := "cassegrain/cassegraintop.TopRangingResolves", spec := "topRangingResolves", unfollowed := true, recurses := true, named := ["cassegrain/ranging.speeds"], apart := false, laid := [("cassegrain/ranging.speeds", laid_cassegrain_ranging_speeds)], narrowed := true }
def TopRangingResolvesUptoSaid : Prop := topRangingResolvesUptoRow.holds Tryd.pinned (OpenSpec.upto topRangingResolvesSpec)

/-- 'cassegrainlaw07.RangingClaims', WHERE WHAT IT READS IS OF BULK AT MOST 1048576: true; the input reads as it did. -/
def rangingClaimsUptoRow : OpenClaim := { program := "ytfmfiflpokogiaadoor", sum := "858deb22780b37b64d07bae23a611cb4850690c9e8267513dd3b3fee3535d966", func := "cassegrain/cassegrainlaw07.RangingClaims", spec := "rangingClaims", unfollowed := true, recurses := true, named := ["cassegrain/ranging.speeds"], apart := false, laid := [("cassegrain/ranging.speeds", laid_cassegrain_ranging_speeds)], narrowed := true }
def RangingClaimsUptoSaid : Prop := rangingClaimsUptoRow.holds Tryd.pinned (OpenSpec.upto rangingClaimsSpec)

/-- 'cassegrainlaw07.RangingSound', WHERE WHAT IT READS IS OF BULK AT MOST 1048576: true; the input reads as it did. -/
def rangingSoundUptoRow : OpenClaim := { program := "ytfmfiflpokogiaadoor", sum := "858deb22780b37b64d07bae23a611cb4850690c9e8267513dd3b3fee3535d966", func := "cassegrain/cassegrainlaw07.RangingSound", spec := "rangingSound", unfollowed := true, recurses := true, named := ["cassegrain/ranging.speeds"], apart := false, laid := [("cassegrain/ranging.speeds", laid_cassegrain_ranging_speeds)], narrowed := true }
def RangingSoundUptoSaid : Prop := rangingSoundUptoRow.holds Tryd.pinned (OpenSpec.upto rangingSoundSpec)

/-- 'cassegrainlaw07.RangingProofs', WHERE WHAT IT READS IS OF BULK AT MOST 1048576: true; the input reads as it did. -/
def rangingProofsUptoRow : OpenClaim := { program := "ytfmfiflpokogiaadoor", sum := "858deb22780b37b64d07bae23a611cb4850690c9e8267513dd3b3fee3535d966", func := "cassegrain/cassegrainlaw07.RangingProofs", spec := "rangingProofs", unfollowed := true, recurses := true, named := ["cassegrain/ranging.speeds"], apart := false, laid := [("cassegrain/ranging.speeds", laid_cassegrain_ranging_speeds)], narrowed := true }
def RangingProofsUptoSaid : Prop := rangingProofsUptoRow.holds Tryd.pinned (OpenSpec.upto rangingProofsSpec)

end Rows
end Go.Proofs.YtfmfiflpokogiaaDoor
