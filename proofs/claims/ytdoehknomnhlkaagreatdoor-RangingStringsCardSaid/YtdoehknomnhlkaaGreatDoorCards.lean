/-
  DERIVED. GIVEN WITH THE SEED: THE CARDS: each row of YtdoehknomnhlkaaGreatDoorRows.lean that lists a variable, with what it lists TIED to the program's text (the seventh form; the later family's looks); each row that meets fmt, with fmt's text TOLD by the authors' own Lean function (tested against real Go, not proved from fmt's source: count such statements apart). THE CARD IS WHAT COUNTS. Prove the row's statement (the work); the ties are given (YtdoehknomnhlkaaGreatDoorTie.lean); close each card by the builder's one call (the guide's Derived/Test/ToyasCard.lean, 'card_holds'). Laid BY PROGRAM, IN A SANDBOX (cutbox-door.mjs). By AI agents, Wed Nov 11 2026. No macro, syntax, notation, axiom, sorry.
-/
import Derived.Test.YtdoehknomnhlkaaGreatDoorRows
import GoSem.ClaimSeven
namespace Go.Proofs.YtdoehknomnhlkaaGreatDoor
namespace Rows

/-- THE TIED CARD OF 'cassegrainlaw02.SampleStrings'. -/
def sampleStringsCard : Claim7 := { stood := { row := sampleStringsRow, standIns := [], harness := (true, "c5119c5f6dad273ce700befe837f5a28e87e3deafe0e06913fa7e94917cb8d26"), looks := true }, kinds := [], alts := [], laidByText := true, laidKinds := [.data, .data, .data, .data, .sentinel, .sentinel, .pinned], laidTests := true, laidLooks := .later }
def SampleStringsCardSaid : Prop := Claim7.holds Tryz.pinned (.plain (OpenSpec.ofChange sampleStringsSpec)) sampleStringsCard

/-- THE TIED CARD OF 'cassegrainlaw07.RangingToneStrings'. -/
def rangingToneStringsCard : Claim7 := { stood := { row := rangingToneStringsRow, standIns := [], harness := (true, "c5119c5f6dad273ce700befe837f5a28e87e3deafe0e06913fa7e94917cb8d26"), looks := true }, kinds := [], alts := [], laidByText := true, laidKinds := [.data, .data, .data, .data, .sentinel, .sentinel, .data, .pinned], laidTests := true, laidLooks := .later }
def RangingToneStringsCardSaid : Prop := Claim7.holds Tryz.pinned (.plain (OpenSpec.ofChange rangingToneStringsSpec)) rangingToneStringsCard

/-- THE TIED CARD OF 'cassegrainlaw04.SymbolStrings'. -/
def symbolStringsCard : Claim7 := { stood := { row := symbolStringsRow, standIns := [], harness := (true, "c5119c5f6dad273ce700befe837f5a28e87e3deafe0e06913fa7e94917cb8d26"), looks := true }, kinds := [], alts := [], laidByText := true, laidKinds := [.data, .data, .data, .data, .sentinel, .sentinel, .pinned], laidTests := true, laidLooks := .later }
def SymbolStringsCardSaid : Prop := Claim7.holds Tryz.pinned (.plain (OpenSpec.ofChange symbolStringsSpec)) symbolStringsCard

/-- THE TIED CARD OF 'cassegrainlaw07.RangingStrings'. -/
def rangingStringsCard : Claim7 := { stood := { row := rangingStringsRow, standIns := [], harness := (true, "c5119c5f6dad273ce700befe837f5a28e87e3deafe0e06913fa7e94917cb8d26"), looks := true }, kinds := [], alts := [], laidByText := true, laidKinds := [.data, .data, .data, .data, .sentinel, .sentinel, .data, .widerDeep, .pinned], laidTests := true, laidLooks := .later }
def RangingStringsCardSaid : Prop := Claim7.holds Tryz.pinned (.plain (OpenSpec.ofChange rangingStringsSpec)) rangingStringsCard

/-- THE TIED CARD OF 'cassegrainlaw01.PathStrings'. -/
def pathStringsCard : Claim7 := { stood := { row := pathStringsRow, standIns := [], harness := (true, "c5119c5f6dad273ce700befe837f5a28e87e3deafe0e06913fa7e94917cb8d26"), looks := true }, kinds := [], alts := [], laidByText := true, laidKinds := [.data, .data, .data, .data, .sentinel, .sentinel, .pinned], laidTests := true, laidLooks := .later }
def PathStringsCardSaid : Prop := Claim7.holds Tryz.pinned (.plain (OpenSpec.ofChange pathStringsSpec)) pathStringsCard

/-- THE TIED CARD OF 'cassegraintop.TopSampleNoneLost'. -/
def topSampleNoneLostCard : Claim7 := { stood := { row := topSampleNoneLostRow, standIns := [], harness := (true, "c5119c5f6dad273ce700befe837f5a28e87e3deafe0e06913fa7e94917cb8d26"), looks := true }, kinds := [], alts := [], laidByText := true, laidKinds := [.data, .data, .data, .data, .sentinel, .sentinel, .pinned], laidTests := true, laidLooks := .later }
def TopSampleNoneLostCardSaid : Prop := Claim7.holds Tryz.pinned (.plain (OpenSpec.ofChange topSampleNoneLostSpec)) topSampleNoneLostCard

/-- THE TIED CARD OF 'cassegraintop.TopRangingEncloses'. -/
def topRangingEnclosesCard : Claim7 := { stood := { row := topRangingEnclosesRow, standIns := [], harness := (true, "c5119c5f6dad273ce700befe837f5a28e87e3deafe0e06913fa7e94917cb8d26"), looks := true }, kinds := [], alts := [], laidByText := true, laidKinds := [.data, .data, .data, .data, .sentinel, .sentinel, .data, .widerDeep, .pinned], laidTests := true, laidLooks := .later }
def TopRangingEnclosesCardSaid : Prop := Claim7.holds Tryz.pinned (.plain (OpenSpec.ofChange topRangingEnclosesSpec)) topRangingEnclosesCard

/-- THE SECOND FORM's CARD OF 'cassegrainlaw02.SampleStrings'. -/
def sampleStringsUptoCard : Claim7 := { stood := { row := sampleStringsUptoRow, standIns := [], harness := (true, "c5119c5f6dad273ce700befe837f5a28e87e3deafe0e06913fa7e94917cb8d26"), looks := true }, kinds := [], alts := [], laidByText := true, laidKinds := [.data, .data, .data, .data, .sentinel, .sentinel, .pinned], laidTests := true, laidLooks := .later }
def SampleStringsUptoCardSaid : Prop := Claim7.holds Tryz.pinned (.plain (OpenSpec.upto sampleStringsSpec)) sampleStringsUptoCard

/-- THE SECOND FORM's CARD OF 'cassegrainlaw07.RangingToneStrings'. -/
def rangingToneStringsUptoCard : Claim7 := { stood := { row := rangingToneStringsUptoRow, standIns := [], harness := (true, "c5119c5f6dad273ce700befe837f5a28e87e3deafe0e06913fa7e94917cb8d26"), looks := true }, kinds := [], alts := [], laidByText := true, laidKinds := [.data, .data, .data, .data, .sentinel, .sentinel, .data, .pinned], laidTests := true, laidLooks := .later }
def RangingToneStringsUptoCardSaid : Prop := Claim7.holds Tryz.pinned (.plain (OpenSpec.upto rangingToneStringsSpec)) rangingToneStringsUptoCard

/-- THE SECOND FORM's CARD OF 'cassegrainlaw04.SymbolStrings'. -/
def symbolStringsUptoCard : Claim7 := { stood := { row := symbolStringsUptoRow, standIns := [], harness := (true, "c5119c5f6dad273ce700befe837f5a28e87e3deafe0e06913fa7e94917cb8d26"), looks := true }, kinds := [], alts := [], laidByText := true, laidKinds := [.data, .data, .data, .data, .sentinel, .sentinel, .pinned], laidTests := true, laidLooks := .later }
def SymbolStringsUptoCardSaid : Prop := Claim7.holds Tryz.pinned (.plain (OpenSpec.upto symbolStringsSpec)) symbolStringsUptoCard

/-- THE SECOND FORM's CARD OF 'cassegrainlaw07.RangingStrings'. -/
def rangingStringsUptoCard : Claim7 := { stood := { row := rangingStringsUptoRow, standIns := [], harness := (true, "c5119c5f6dad273ce700befe837f5a28e87e3deafe0e06913fa7e94917cb8d26"), looks := true }, kinds := [], alts := [], laidByText := true, laidKinds := [.data, .data, .data, .data, .sentinel, .sentinel, .data, .widerDeep, .pinned], laidTests := true, laidLooks := .later }
def RangingStringsUptoCardSaid : Prop := Claim7.holds Tryz.pinned (.plain (OpenSpec.upto rangingStringsSpec)) rangingStringsUptoCard

/-- THE SECOND FORM's CARD OF 'cassegrainlaw01.PathStrings'. -/
def pathStringsUptoCard : Claim7 := { stood := { row := pathStringsUptoRow, standIns := [], harness := (true, "c5119c5f6dad273ce700befe837f5a28e87e3deafe0e06913fa7e94917cb8d26"), looks := true }, kinds := [], alts := [], laidByText := true, laidKinds := [.data, .data, .data, .data, .sentinel, .sentinel, .pinned], laidTests := true, laidLooks := .later }
def PathStringsUptoCardSaid : Prop := Claim7.holds Tryz.pinned (.plain (OpenSpec.upto pathStringsSpec)) pathStringsUptoCard

/-- THE SECOND FORM's CARD OF 'cassegraintop.TopSampleNoneLost'. -/
def topSampleNoneLostUptoCard : Claim7 := { stood := { row := topSampleNoneLostUptoRow, standIns := [], harness := (true, "c5119c5f6dad273ce700befe837f5a28e87e3deafe0e06913fa7e94917cb8d26"), looks := true }, kinds := [], alts := [], laidByText := true, laidKinds := [.data, .data, .data, .data, .sentinel, .sentinel, .pinned], laidTests := true, laidLooks := .later }
def TopSampleNoneLostUptoCardSaid : Prop := Claim7.holds Tryz.pinned (.plain (OpenSpec.upto topSampleNoneLostSpec)) topSampleNoneLostUptoCard

/-- THE SECOND FORM's CARD OF 'cassegraintop.TopRangingEncloses'. -/
def topRangingEnclosesUptoCard : Claim7 := { stood := { row := topRangingEnclosesUptoRow, standIns := [], harness := (true, "c5119c5f6dad273ce700befe837f5a28e87e3deafe0e06913fa7e94917cb8d26"), looks := true }, kinds := [], alts := [], laidByText := true, laidKinds := [.data, .data, .data, .data, .sentinel, .sentinel, .data, .widerDeep, .pinned], laidTests := true, laidLooks := .later }
def TopRangingEnclosesUptoCardSaid : Prop := Claim7.holds Tryz.pinned (.plain (OpenSpec.upto topRangingEnclosesSpec)) topRangingEnclosesUptoCard
end Rows
end Go.Proofs.YtdoehknomnhlkaaGreatDoor
