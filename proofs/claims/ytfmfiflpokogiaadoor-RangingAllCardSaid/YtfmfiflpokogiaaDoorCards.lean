/-
  DERIVED. GIVEN WITH THE SEED: THE CARDS: each row of YtfmfiflpokogiaaDoorRows.lean that lists a variable, with what it lists TIED to the program's text (the seventh form; the later family's looks); each row that meets fmt, with fmt's text TOLD by the authors' own Lean function (tested against real Go, not proved from fmt's source: count such statements apart). THE CARD IS WHAT COUNTS. Prove the row's statement (the work); the ties are given (YtfmfiflpokogiaaDoorTie.lean); close each card by the builder's one call (the guide's Derived/Test/ToyasCard.lean, 'card_holds'). Laid BY PROGRAM, IN A SANDBOX (cutbox-door.mjs). By AI agents, Wed Nov 11 2026. No macro, syntax, notation, axiom, sorry.
-/
import Derived.Test.YtfmfiflpokogiaaDoorRows
import GoSem.ClaimSeven
namespace Go.Proofs.YtfmfiflpokogiaaDoor
namespace Rows

/-- THE TIED CARD OF 'cassegrainlaw07.RangingMeasurements'. -/
def rangingMeasurementsCard : Claim7 := { stood := { row := rangingMeasurementsRow, standIns := [], harness := (true, "b9a990e41395d9caa781e6d6f13123fc7fc88690115b0761975b0f7740f8aa07"), looks := false }, kinds := [], alts := [], laidByText := true, laidKinds := [.data], laidTests := true, laidLooks := .later }
def RangingMeasurementsCardSaid : Prop := Claim7.holds Tryd.pinned (.plain (OpenSpec.ofChange rangingMeasurementsSpec)) rangingMeasurementsCard

/-- THE TIED CARD OF 'cassegrainlaw07.RangingContradicting'. -/
def rangingContradictingCard : Claim7 := { stood := { row := rangingContradictingRow, standIns := [], harness := (true, "b9a990e41395d9caa781e6d6f13123fc7fc88690115b0761975b0f7740f8aa07"), looks := false }, kinds := [], alts := [], laidByText := true, laidKinds := [.data], laidTests := true, laidLooks := .later }
def RangingContradictingCardSaid : Prop := Claim7.holds Tryd.pinned (.plain (OpenSpec.ofChange rangingContradictingSpec)) rangingContradictingCard

/-- THE TIED CARD OF 'cassegrainlaw07.RangingEnclosures'. -/
def rangingEnclosuresCard : Claim7 := { stood := { row := rangingEnclosuresRow, standIns := [], harness := (true, "b9a990e41395d9caa781e6d6f13123fc7fc88690115b0761975b0f7740f8aa07"), looks := false }, kinds := [], alts := [], laidByText := true, laidKinds := [.data], laidTests := true, laidLooks := .later }
def RangingEnclosuresCardSaid : Prop := Claim7.holds Tryd.pinned (.plain (OpenSpec.ofChange rangingEnclosuresSpec)) rangingEnclosuresCard

/-- THE TIED CARD OF 'cassegrainlaw07.RangingEnclosed'. -/
def rangingEnclosedCard : Claim7 := { stood := { row := rangingEnclosedRow, standIns := [], harness := (true, "b9a990e41395d9caa781e6d6f13123fc7fc88690115b0761975b0f7740f8aa07"), looks := false }, kinds := [], alts := [], laidByText := true, laidKinds := [.data], laidTests := true, laidLooks := .later }
def RangingEnclosedCardSaid : Prop := Claim7.holds Tryd.pinned (.plain (OpenSpec.ofChange rangingEnclosedSpec)) rangingEnclosedCard

/-- THE TIED CARD OF 'cassegrainlaw07.RangingCandidates'. -/
def rangingCandidatesCard : Claim7 := { stood := { row := rangingCandidatesRow, standIns := [], harness := (true, "b9a990e41395d9caa781e6d6f13123fc7fc88690115b0761975b0f7740f8aa07"), looks := false }, kinds := [], alts := [], laidByText := true, laidKinds := [.data], laidTests := true, laidLooks := .later }
def RangingCandidatesCardSaid : Prop := Claim7.holds Tryd.pinned (.plain (OpenSpec.ofChange rangingCandidatesSpec)) rangingCandidatesCard

/-- THE TIED CARD OF 'cassegrainlaw07.RangingTones'. -/
def rangingTonesCard : Claim7 := { stood := { row := rangingTonesRow, standIns := [], harness := (true, "b9a990e41395d9caa781e6d6f13123fc7fc88690115b0761975b0f7740f8aa07"), looks := false }, kinds := [], alts := [], laidByText := true, laidKinds := [.data], laidTests := true, laidLooks := .later }
def RangingTonesCardSaid : Prop := Claim7.holds Tryd.pinned (.plain (OpenSpec.ofChange rangingTonesSpec)) rangingTonesCard

/-- THE TIED CARD OF 'cassegrainlaw07.RangingAll'. -/
def rangingAllCard : Claim7 := { stood := { row := rangingAllRow, standIns := [], harness := (true, "b9a990e41395d9caa781e6d6f13123fc7fc88690115b0761975b0f7740f8aa07"), looks := false }, kinds := [], alts := [], laidByText := true, laidKinds := [.data], laidTests := true, laidLooks := .later }
def RangingAllCardSaid : Prop := Claim7.holds Tryd.pinned (.plain (OpenSpec.ofChange rangingAllSpec)) rangingAllCard

/-- THE TIED CARD OF 'cassegrainlaw07.RangingResiduals'. -/
def rangingResidualsCard : Claim7 := { stood := { row := rangingResidualsRow, standIns := [], harness := (true, "b9a990e41395d9caa781e6d6f13123fc7fc88690115b0761975b0f7740f8aa07"), looks := false }, kinds := [], alts := [], laidByText := true, laidKinds := [.data], laidTests := true, laidLooks := .later }
def RangingResidualsCardSaid : Prop := Claim7.holds Tryd.pinned (.plain (OpenSpec.ofChange rangingResidualsSpec)) rangingResidualsCard

/-- THE TIED CARD OF 'cassegrainlaw07.RangingToneSets'. -/
def rangingToneSetsCard : Claim7 := { stood := { row := rangingToneSetsRow, standIns := [], harness := (true, "b9a990e41395d9caa781e6d6f13123fc7fc88690115b0761975b0f7740f8aa07"), looks := false }, kinds := [], alts := [], laidByText := true, laidKinds := [.data], laidTests := true, laidLooks := .later }
def RangingToneSetsCardSaid : Prop := Claim7.holds Tryd.pinned (.plain (OpenSpec.ofChange rangingToneSetsSpec)) rangingToneSetsCard

/-- THE TIED CARD OF 'cassegrainlaw07.RangingDelays'. -/
def rangingDelaysCard : Claim7 := { stood := { row := rangingDelaysRow, standIns := [], harness := (true, "b9a990e41395d9caa781e6d6f13123fc7fc88690115b0761975b0f7740f8aa07"), looks := false }, kinds := [], alts := [], laidByText := true, laidKinds := [.data], laidTests := true, laidLooks := .later }
def RangingDelaysCardSaid : Prop := Claim7.holds Tryd.pinned (.plain (OpenSpec.ofChange rangingDelaysSpec)) rangingDelaysCard

/-- THE TIED CARD OF 'cassegraintop.TopRangingResolves'. -/
def topRangingResolvesCard : Claim7 := { stood := { row := topRangingResolvesRow, standIns := [], harness := (true, "b9a990e41395d9caa781e6d6f13123fc7fc88690115b0761975b0f7740f8aa07"), looks := false }, kinds := [], alts := [], laidByText := true, laidKinds := [.data], laidTests := true, laidLooks := .later }
def TopRangingResolvesCardSaid : Prop := Claim7.holds Tryd.pinned (.plain (OpenSpec.ofChange topRangingResolvesSpec)) topRangingResolvesCard

/-- THE TIED CARD OF 'cassegrainlaw07.RangingClaims'. -/
def rangingClaimsCard : Claim7 := { stood := { row := rangingClaimsRow, standIns := [], harness := (true, "b9a990e41395d9caa781e6d6f13123fc7fc88690115b0761975b0f7740f8aa07"), looks := false }, kinds := [], alts := [], laidByText := true, laidKinds := [.data], laidTests := true, laidLooks := .later }
def RangingClaimsCardSaid : Prop := Claim7.holds Tryd.pinned (.plain (OpenSpec.ofChange rangingClaimsSpec)) rangingClaimsCard

/-- THE TIED CARD OF 'cassegrainlaw07.RangingSound'. -/
def rangingSoundCard : Claim7 := { stood := { row := rangingSoundRow, standIns := [], harness := (true, "b9a990e41395d9caa781e6d6f13123fc7fc88690115b0761975b0f7740f8aa07"), looks := false }, kinds := [], alts := [], laidByText := true, laidKinds := [.data], laidTests := true, laidLooks := .later }
def RangingSoundCardSaid : Prop := Claim7.holds Tryd.pinned (.plain (OpenSpec.ofChange rangingSoundSpec)) rangingSoundCard

/-- THE TIED CARD OF 'cassegrainlaw07.RangingProofs'. -/
def rangingProofsCard : Claim7 := { stood := { row := rangingProofsRow, standIns := [], harness := (true, "b9a990e41395d9caa781e6d6f13123fc7fc88690115b0761975b0f7740f8aa07"), looks := false }, kinds := [], alts := [], laidByText := true, laidKinds := [.data], laidTests := true, laidLooks := .later }
def RangingProofsCardSaid : Prop := Claim7.holds Tryd.pinned (.plain (OpenSpec.ofChange rangingProofsSpec)) rangingProofsCard

/-- THE SECOND FORM's CARD OF 'cassegrainlaw07.RangingMeasurements'. -/
def rangingMeasurementsUptoCard : Claim7 := { stood := { row := rangingMeasurementsUptoRow, standIns := [], harness := (true, "b9a990e41395d9caa781e6d6f13123fc7fc88690115b0761975b0f7740f8aa07"), looks := false }, kinds := [], alts := [], laidByText := true, laidKinds := [.data], laidTests := true, laidLooks := .later }
def RangingMeasurementsUptoCardSaid : Prop := Claim7.holds Tryd.pinned (.plain (OpenSpec.upto rangingMeasurementsSpec)) rangingMeasurementsUptoCard

/-- THE SECOND FORM's CARD OF 'cassegrainlaw07.RangingContradicting'. -/
def rangingContradictingUptoCard : Claim7 := { stood := { row := rangingContradictingUptoRow, standIns := [], harness := (true, "b9a990e41395d9caa781e6d6f13123fc7fc88690115b0761975b0f7740f8aa07"), looks := false }, kinds := [], alts := [], laidByText := true, laidKinds := [.data], laidTests := true, laidLooks := .later }
def RangingContradictingUptoCardSaid : Prop := Claim7.holds Tryd.pinned (.plain (OpenSpec.upto rangingContradictingSpec)) rangingContradictingUptoCard

/-- THE SECOND FORM's CARD OF 'cassegrainlaw07.RangingEnclosures'. -/
def rangingEnclosuresUptoCard : Claim7 := { stood := { row := rangingEnclosuresUptoRow, standIns := [], harness := (true, "b9a990e41395d9caa781e6d6f13123fc7fc88690115b0761975b0f7740f8aa07"), looks := false }, kinds := [], alts := [], laidByText := true, laidKinds := [.data], laidTests := true, laidLooks := .later }
def RangingEnclosuresUptoCardSaid : Prop := Claim7.holds Tryd.pinned (.plain (OpenSpec.upto rangingEnclosuresSpec)) rangingEnclosuresUptoCard

/-- THE SECOND FORM's CARD OF 'cassegrainlaw07.RangingEnclosed'. -/
def rangingEnclosedUptoCard : Claim7 := { stood := { row := rangingEnclosedUptoRow, standIns := [], harness := (true, "b9a990e41395d9caa781e6d6f13123fc7fc88690115b0761975b0f7740f8aa07"), looks := false }, kinds := [], alts := [], laidByText := true, laidKinds := [.data], laidTests := true, laidLooks := .later }
def RangingEnclosedUptoCardSaid : Prop := Claim7.holds Tryd.pinned (.plain (OpenSpec.upto rangingEnclosedSpec)) rangingEnclosedUptoCard

/-- THE SECOND FORM's CARD OF 'cassegrainlaw07.RangingCandidates'. -/
def rangingCandidatesUptoCard : Claim7 := { stood := { row := rangingCandidatesUptoRow, standIns := [], harness := (true, "b9a990e41395d9caa781e6d6f13123fc7fc88690115b0761975b0f7740f8aa07"), looks := false }, kinds := [], alts := [], laidByText := true, laidKinds := [.data], laidTests := true, laidLooks := .later }
def RangingCandidatesUptoCardSaid : Prop := Claim7.holds Tryd.pinned (.plain (OpenSpec.upto rangingCandidatesSpec)) rangingCandidatesUptoCard

/-- THE SECOND FORM's CARD OF 'cassegrainlaw07.RangingTones'. -/
def rangingTonesUptoCard : Claim7 := { stood := { row := rangingTonesUptoRow, standIns := [], harness := (true, "b9a990e41395d9caa781e6d6f13123fc7fc88690115b0761975b0f7740f8aa07"), looks := false }, kinds := [], alts := [], laidByText := true, laidKinds := [.data], laidTests := true, laidLooks := .later }
def RangingTonesUptoCardSaid : Prop := Claim7.holds Tryd.pinned (.plain (OpenSpec.upto rangingTonesSpec)) rangingTonesUptoCard

/-- THE SECOND FORM's CARD OF 'cassegrainlaw07.RangingAll'. -/
def rangingAllUptoCard : Claim7 := { stood := { row := rangingAllUptoRow, standIns := [], harness := (true, "b9a990e41395d9caa781e6d6f13123fc7fc88690115b0761975b0f7740f8aa07"), looks := false }, kinds := [], alts := [], laidByText := true, laidKinds := [.data], laidTests := true, laidLooks := .later }
def RangingAllUptoCardSaid : Prop := Claim7.holds Tryd.pinned (.plain (OpenSpec.upto rangingAllSpec)) rangingAllUptoCard

/-- THE SECOND FORM's CARD OF 'cassegrainlaw07.RangingResiduals'. -/
def rangingResidualsUptoCard : Claim7 := { stood := { row := rangingResidualsUptoRow, standIns := [], harness := (true, "b9a990e41395d9caa781e6d6f13123fc7fc88690115b0761975b0f7740f8aa07"), looks := false }, kinds := [], alts := [], laidByText := true, laidKinds := [.data], laidTests := true, laidLooks := .later }
def RangingResidualsUptoCardSaid : Prop := Claim7.holds Tryd.pinned (.plain (OpenSpec.upto rangingResidualsSpec)) rangingResidualsUptoCard

/-- THE SECOND FORM's CARD OF 'cassegrainlaw07.RangingToneSets'. -/
def rangingToneSetsUptoCard : Claim7 := { stood := { row := rangingToneSetsUptoRow, standIns := [], harness := (true, "b9a990e41395d9caa781e6d6f13123fc7fc88690115b0761975b0f7740f8aa07"), looks := false }, kinds := [], alts := [], laidByText := true, laidKinds := [.data], laidTests := true, laidLooks := .later }
def RangingToneSetsUptoCardSaid : Prop := Claim7.holds Tryd.pinned (.plain (OpenSpec.upto rangingToneSetsSpec)) rangingToneSetsUptoCard

/-- THE SECOND FORM's CARD OF 'cassegrainlaw07.RangingDelays'. -/
def rangingDelaysUptoCard : Claim7 := { stood := { row := rangingDelaysUptoRow, standIns := [], harness := (true, "b9a990e41395d9caa781e6d6f13123fc7fc88690115b0761975b0f7740f8aa07"), looks := false }, kinds := [], alts := [], laidByText := true, laidKinds := [.data], laidTests := true, laidLooks := .later }
def RangingDelaysUptoCardSaid : Prop := Claim7.holds Tryd.pinned (.plain (OpenSpec.upto rangingDelaysSpec)) rangingDelaysUptoCard

/-- THE SECOND FORM's CARD OF 'cassegraintop.TopRangingResolves'. -/
def topRangingResolvesUptoCard : Claim7 := { stood := { row := topRangingResolvesUptoRow, standIns := [], harness := (true, "b9a990e41395d9caa781e6d6f13123fc7fc88690115b0761975b0f7740f8aa07"), looks := false }, kinds := [], alts := [], laidByText := true, laidKinds := [.data], laidTests := true, laidLooks := .later }
def TopRangingResolvesUptoCardSaid : Prop := Claim7.holds Tryd.pinned (.plain (OpenSpec.upto topRangingResolvesSpec)) topRangingResolvesUptoCard

/-- THE SECOND FORM's CARD OF 'cassegrainlaw07.RangingClaims'. -/
def rangingClaimsUptoCard : Claim7 := { stood := { row := rangingClaimsUptoRow, standIns := [], harness := (true, "b9a990e41395d9caa781e6d6f13123fc7fc88690115b0761975b0f7740f8aa07"), looks := false }, kinds := [], alts := [], laidByText := true, laidKinds := [.data], laidTests := true, laidLooks := .later }
def RangingClaimsUptoCardSaid : Prop := Claim7.holds Tryd.pinned (.plain (OpenSpec.upto rangingClaimsSpec)) rangingClaimsUptoCard

/-- THE SECOND FORM's CARD OF 'cassegrainlaw07.RangingSound'. -/
def rangingSoundUptoCard : Claim7 := { stood := { row := rangingSoundUptoRow, standIns := [], harness := (true, "b9a990e41395d9caa781e6d6f13123fc7fc88690115b0761975b0f7740f8aa07"), looks := false }, kinds := [], alts := [], laidByText := true, laidKinds := [.data], laidTests := true, laidLooks := .later }
def RangingSoundUptoCardSaid : Prop := Claim7.holds Tryd.pinned (.plain (OpenSpec.upto rangingSoundSpec)) rangingSoundUptoCard

/-- THE SECOND FORM's CARD OF 'cassegrainlaw07.RangingProofs'. -/
def rangingProofsUptoCard : Claim7 := { stood := { row := rangingProofsUptoRow, standIns := [], harness := (true, "b9a990e41395d9caa781e6d6f13123fc7fc88690115b0761975b0f7740f8aa07"), looks := false }, kinds := [], alts := [], laidByText := true, laidKinds := [.data], laidTests := true, laidLooks := .later }
def RangingProofsUptoCardSaid : Prop := Claim7.holds Tryd.pinned (.plain (OpenSpec.upto rangingProofsSpec)) rangingProofsUptoCard
end Rows
end Go.Proofs.YtfmfiflpokogiaaDoor
