/-
  DERIVED. GIVEN WITH THE SEED: THE CARDS: each row of YthckjfbhdjjnkaaDoorRows.lean that lists a variable, with what it lists TIED to the program's text (the seventh form; the later family's looks); each row that meets fmt, with fmt's text TOLD by the authors' own Lean function (tested against real Go, not proved from fmt's source: count such statements apart). THE CARD IS WHAT COUNTS. Prove the row's statement (the work); the ties are given (YthckjfbhdjjnkaaDoorTie.lean); close each card by the builder's one call (the guide's Derived/Test/ToyasCard.lean, 'card_holds'). Laid BY PROGRAM, IN A SANDBOX (cutbox-door.mjs). By AI agents, Wed Nov 11 2026. No macro, syntax, notation, axiom, sorry.
-/
import Derived.Test.YthckjfbhdjjnkaaDoorRows
import GoSem.ClaimSeven
namespace Go.Proofs.YthckjfbhdjjnkaaDoor
namespace Rows

/-- THE TIED CARD OF 'cassegrainlaw04.SymbolMarkers'. -/
def symbolMarkersCard : Claim7 := { stood := { row := symbolMarkersRow, standIns := [], harness := (true, "fc35d03b8b601be7e2432c9146edea038834c15e3c955cd5ed778deb69910b8c"), looks := false }, kinds := [], alts := [], laidByText := true, laidKinds := [.data, .data, .data], laidTests := true, laidLooks := .later }
def SymbolMarkersCardSaid : Prop := Claim7.holds Tryd.pinned (.plain (OpenSpec.ofChange symbolMarkersSpec)) symbolMarkersCard

/-- THE TIED CARD OF 'cassegrainlaw04.SymbolFinds'. -/
def symbolFindsCard : Claim7 := { stood := { row := symbolFindsRow, standIns := [], harness := (true, "fc35d03b8b601be7e2432c9146edea038834c15e3c955cd5ed778deb69910b8c"), looks := false }, kinds := [], alts := [], laidByText := true, laidKinds := [.data, .data, .data], laidTests := true, laidLooks := .later }
def SymbolFindsCardSaid : Prop := Claim7.holds Tryd.pinned (.plain (OpenSpec.ofChange symbolFindsSpec)) symbolFindsCard

/-- THE TIED CARD OF 'cassegrainlaw04.SymbolSpacing'. -/
def symbolSpacingCard : Claim7 := { stood := { row := symbolSpacingRow, standIns := [], harness := (true, "fc35d03b8b601be7e2432c9146edea038834c15e3c955cd5ed778deb69910b8c"), looks := false }, kinds := [], alts := [], laidByText := true, laidKinds := [.data, .data, .data], laidTests := true, laidLooks := .later }
def SymbolSpacingCardSaid : Prop := Claim7.holds Tryd.pinned (.plain (OpenSpec.ofChange symbolSpacingSpec)) symbolSpacingCard

/-- THE TIED CARD OF 'cassegrainlaw04.SymbolDifferences'. -/
def symbolDifferencesCard : Claim7 := { stood := { row := symbolDifferencesRow, standIns := [], harness := (true, "fc35d03b8b601be7e2432c9146edea038834c15e3c955cd5ed778deb69910b8c"), looks := false }, kinds := [], alts := [], laidByText := true, laidKinds := [.data, .data, .data], laidTests := true, laidLooks := .later }
def SymbolDifferencesCardSaid : Prop := Claim7.holds Tryd.pinned (.plain (OpenSpec.ofChange symbolDifferencesSpec)) symbolDifferencesCard

/-- THE TIED CARD OF 'cassegrainlaw04.SymbolStarts'. -/
def symbolStartsCard : Claim7 := { stood := { row := symbolStartsRow, standIns := [], harness := (true, "fc35d03b8b601be7e2432c9146edea038834c15e3c955cd5ed778deb69910b8c"), looks := false }, kinds := [], alts := [], laidByText := true, laidKinds := [.data, .data, .data], laidTests := true, laidLooks := .later }
def SymbolStartsCardSaid : Prop := Claim7.holds Tryd.pinned (.plain (OpenSpec.ofChange symbolStartsSpec)) symbolStartsCard

/-- THE TIED CARD OF 'cassegrainlaw04.SymbolInverted'. -/
def symbolInvertedCard : Claim7 := { stood := { row := symbolInvertedRow, standIns := [], harness := (true, "fc35d03b8b601be7e2432c9146edea038834c15e3c955cd5ed778deb69910b8c"), looks := false }, kinds := [], alts := [], laidByText := true, laidKinds := [.data, .data, .data], laidTests := true, laidLooks := .later }
def SymbolInvertedCardSaid : Prop := Claim7.holds Tryd.pinned (.plain (OpenSpec.ofChange symbolInvertedSpec)) symbolInvertedCard

/-- THE TIED CARD OF 'cassegrainlaw04.SymbolSequences'. -/
def symbolSequencesCard : Claim7 := { stood := { row := symbolSequencesRow, standIns := [], harness := (true, "fc35d03b8b601be7e2432c9146edea038834c15e3c955cd5ed778deb69910b8c"), looks := false }, kinds := [], alts := [], laidByText := true, laidKinds := [.data, .data, .data], laidTests := true, laidLooks := .later }
def SymbolSequencesCardSaid : Prop := Claim7.holds Tryd.pinned (.plain (OpenSpec.ofChange symbolSequencesSpec)) symbolSequencesCard

/-- THE TIED CARD OF 'cassegrainlaw04.SymbolTwice'. -/
def symbolTwiceCard : Claim7 := { stood := { row := symbolTwiceRow, standIns := [], harness := (true, "fc35d03b8b601be7e2432c9146edea038834c15e3c955cd5ed778deb69910b8c"), looks := false }, kinds := [], alts := [], laidByText := true, laidKinds := [.data, .data, .data], laidTests := true, laidLooks := .later }
def SymbolTwiceCardSaid : Prop := Claim7.holds Tryd.pinned (.plain (OpenSpec.ofChange symbolTwiceSpec)) symbolTwiceCard

/-- THE TIED CARD OF 'cassegrainlaw04.SymbolValues'. -/
def symbolValuesCard : Claim7 := { stood := { row := symbolValuesRow, standIns := [], harness := (true, "fc35d03b8b601be7e2432c9146edea038834c15e3c955cd5ed778deb69910b8c"), looks := false }, kinds := [], alts := [], laidByText := true, laidKinds := [.data, .data, .data], laidTests := true, laidLooks := .later }
def SymbolValuesCardSaid : Prop := Claim7.holds Tryd.pinned (.plain (OpenSpec.ofChange symbolValuesSpec)) symbolValuesCard

/-- THE TIED CARD OF 'cassegrainlaw04.SymbolRegular'. -/
def symbolRegularCard : Claim7 := { stood := { row := symbolRegularRow, standIns := [], harness := (true, "fc35d03b8b601be7e2432c9146edea038834c15e3c955cd5ed778deb69910b8c"), looks := false }, kinds := [], alts := [], laidByText := true, laidKinds := [.data, .data, .data], laidTests := true, laidLooks := .later }
def SymbolRegularCardSaid : Prop := Claim7.holds Tryd.pinned (.plain (OpenSpec.ofChange symbolRegularSpec)) symbolRegularCard

/-- THE TIED CARD OF 'cassegrainlaw04.SymbolEnergies'. -/
def symbolEnergiesCard : Claim7 := { stood := { row := symbolEnergiesRow, standIns := [], harness := (true, "fc35d03b8b601be7e2432c9146edea038834c15e3c955cd5ed778deb69910b8c"), looks := false }, kinds := [], alts := [], laidByText := true, laidKinds := [.data, .data, .data], laidTests := true, laidLooks := .later }
def SymbolEnergiesCardSaid : Prop := Claim7.holds Tryd.pinned (.plain (OpenSpec.ofChange symbolEnergiesSpec)) symbolEnergiesCard

/-- THE TIED CARD OF 'cassegrainlaw04.SymbolTurned'. -/
def symbolTurnedCard : Claim7 := { stood := { row := symbolTurnedRow, standIns := [], harness := (true, "fc35d03b8b601be7e2432c9146edea038834c15e3c955cd5ed778deb69910b8c"), looks := false }, kinds := [], alts := [], laidByText := true, laidKinds := [.data, .data, .data], laidTests := true, laidLooks := .later }
def SymbolTurnedCardSaid : Prop := Claim7.holds Tryd.pinned (.plain (OpenSpec.ofChange symbolTurnedSpec)) symbolTurnedCard

/-- THE SECOND FORM's CARD OF 'cassegrainlaw04.SymbolMarkers'. -/
def symbolMarkersUptoCard : Claim7 := { stood := { row := symbolMarkersUptoRow, standIns := [], harness := (true, "fc35d03b8b601be7e2432c9146edea038834c15e3c955cd5ed778deb69910b8c"), looks := false }, kinds := [], alts := [], laidByText := true, laidKinds := [.data, .data, .data], laidTests := true, laidLooks := .later }
def SymbolMarkersUptoCardSaid : Prop := Claim7.holds Tryd.pinned (.plain (OpenSpec.upto symbolMarkersSpec)) symbolMarkersUptoCard

/-- THE SECOND FORM's CARD OF 'cassegrainlaw04.SymbolFinds'. -/
def symbolFindsUptoCard : Claim7 := { stood := { row := symbolFindsUptoRow, standIns := [], harness := (true, "fc35d03b8b601be7e2432c9146edea038834c15e3c955cd5ed778deb69910b8c"), looks := false }, kinds := [], alts := [], laidByText := true, laidKinds := [.data, .data, .data], laidTests := true, laidLooks := .later }
def SymbolFindsUptoCardSaid : Prop := Claim7.holds Tryd.pinned (.plain (OpenSpec.upto symbolFindsSpec)) symbolFindsUptoCard

/-- THE SECOND FORM's CARD OF 'cassegrainlaw04.SymbolSpacing'. -/
def symbolSpacingUptoCard : Claim7 := { stood := { row := symbolSpacingUptoRow, standIns := [], harness := (true, "fc35d03b8b601be7e2432c9146edea038834c15e3c955cd5ed778deb69910b8c"), looks := false }, kinds := [], alts := [], laidByText := true, laidKinds := [.data, .data, .data], laidTests := true, laidLooks := .later }
def SymbolSpacingUptoCardSaid : Prop := Claim7.holds Tryd.pinned (.plain (OpenSpec.upto symbolSpacingSpec)) symbolSpacingUptoCard

/-- THE SECOND FORM's CARD OF 'cassegrainlaw04.SymbolDifferences'. -/
def symbolDifferencesUptoCard : Claim7 := { stood := { row := symbolDifferencesUptoRow, standIns := [], harness := (true, "fc35d03b8b601be7e2432c9146edea038834c15e3c955cd5ed778deb69910b8c"), looks := false }, kinds := [], alts := [], laidByText := true, laidKinds := [.data, .data, .data], laidTests := true, laidLooks := .later }
def SymbolDifferencesUptoCardSaid : Prop := Claim7.holds Tryd.pinned (.plain (OpenSpec.upto symbolDifferencesSpec)) symbolDifferencesUptoCard

/-- THE SECOND FORM's CARD OF 'cassegrainlaw04.SymbolStarts'. -/
def symbolStartsUptoCard : Claim7 := { stood := { row := symbolStartsUptoRow, standIns := [], harness := (true, "fc35d03b8b601be7e2432c9146edea038834c15e3c955cd5ed778deb69910b8c"), looks := false }, kinds := [], alts := [], laidByText := true, laidKinds := [.data, .data, .data], laidTests := true, laidLooks := .later }
def SymbolStartsUptoCardSaid : Prop := Claim7.holds Tryd.pinned (.plain (OpenSpec.upto symbolStartsSpec)) symbolStartsUptoCard

/-- THE SECOND FORM's CARD OF 'cassegrainlaw04.SymbolInverted'. -/
def symbolInvertedUptoCard : Claim7 := { stood := { row := symbolInvertedUptoRow, standIns := [], harness := (true, "fc35d03b8b601be7e2432c9146edea038834c15e3c955cd5ed778deb69910b8c"), looks := false }, kinds := [], alts := [], laidByText := true, laidKinds := [.data, .data, .data], laidTests := true, laidLooks := .later }
def SymbolInvertedUptoCardSaid : Prop := Claim7.holds Tryd.pinned (.plain (OpenSpec.upto symbolInvertedSpec)) symbolInvertedUptoCard

/-- THE SECOND FORM's CARD OF 'cassegrainlaw04.SymbolSequences'. -/
def symbolSequencesUptoCard : Claim7 := { stood := { row := symbolSequencesUptoRow, standIns := [], harness := (true, "fc35d03b8b601be7e2432c9146edea038834c15e3c955cd5ed778deb69910b8c"), looks := false }, kinds := [], alts := [], laidByText := true, laidKinds := [.data, .data, .data], laidTests := true, laidLooks := .later }
def SymbolSequencesUptoCardSaid : Prop := Claim7.holds Tryd.pinned (.plain (OpenSpec.upto symbolSequencesSpec)) symbolSequencesUptoCard

/-- THE SECOND FORM's CARD OF 'cassegrainlaw04.SymbolTwice'. -/
def symbolTwiceUptoCard : Claim7 := { stood := { row := symbolTwiceUptoRow, standIns := [], harness := (true, "fc35d03b8b601be7e2432c9146edea038834c15e3c955cd5ed778deb69910b8c"), looks := false }, kinds := [], alts := [], laidByText := true, laidKinds := [.data, .data, .data], laidTests := true, laidLooks := .later }
def SymbolTwiceUptoCardSaid : Prop := Claim7.holds Tryd.pinned (.plain (OpenSpec.upto symbolTwiceSpec)) symbolTwiceUptoCard

/-- THE SECOND FORM's CARD OF 'cassegrainlaw04.SymbolValues'. -/
def symbolValuesUptoCard : Claim7 := { stood := { row := symbolValuesUptoRow, standIns := [], harness := (true, "fc35d03b8b601be7e2432c9146edea038834c15e3c955cd5ed778deb69910b8c"), looks := false }, kinds := [], alts := [], laidByText := true, laidKinds := [.data, .data, .data], laidTests := true, laidLooks := .later }
def SymbolValuesUptoCardSaid : Prop := Claim7.holds Tryd.pinned (.plain (OpenSpec.upto symbolValuesSpec)) symbolValuesUptoCard

/-- THE SECOND FORM's CARD OF 'cassegrainlaw04.SymbolRegular'. -/
def symbolRegularUptoCard : Claim7 := { stood := { row := symbolRegularUptoRow, standIns := [], harness := (true, "fc35d03b8b601be7e2432c9146edea038834c15e3c955cd5ed778deb69910b8c"), looks := false }, kinds := [], alts := [], laidByText := true, laidKinds := [.data, .data, .data], laidTests := true, laidLooks := .later }
def SymbolRegularUptoCardSaid : Prop := Claim7.holds Tryd.pinned (.plain (OpenSpec.upto symbolRegularSpec)) symbolRegularUptoCard

/-- THE SECOND FORM's CARD OF 'cassegrainlaw04.SymbolEnergies'. -/
def symbolEnergiesUptoCard : Claim7 := { stood := { row := symbolEnergiesUptoRow, standIns := [], harness := (true, "fc35d03b8b601be7e2432c9146edea038834c15e3c955cd5ed778deb69910b8c"), looks := false }, kinds := [], alts := [], laidByText := true, laidKinds := [.data, .data, .data], laidTests := true, laidLooks := .later }
def SymbolEnergiesUptoCardSaid : Prop := Claim7.holds Tryd.pinned (.plain (OpenSpec.upto symbolEnergiesSpec)) symbolEnergiesUptoCard

/-- THE SECOND FORM's CARD OF 'cassegrainlaw04.SymbolTurned'. -/
def symbolTurnedUptoCard : Claim7 := { stood := { row := symbolTurnedUptoRow, standIns := [], harness := (true, "fc35d03b8b601be7e2432c9146edea038834c15e3c955cd5ed778deb69910b8c"), looks := false }, kinds := [], alts := [], laidByText := true, laidKinds := [.data, .data, .data], laidTests := true, laidLooks := .later }
def SymbolTurnedUptoCardSaid : Prop := Claim7.holds Tryd.pinned (.plain (OpenSpec.upto symbolTurnedSpec)) symbolTurnedUptoCard
end Rows
end Go.Proofs.YthckjfbhdjjnkaaDoor
