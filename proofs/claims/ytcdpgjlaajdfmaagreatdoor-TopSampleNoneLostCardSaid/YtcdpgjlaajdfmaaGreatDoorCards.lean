/-
  DERIVED. GIVEN WITH THE SEED: THE CARDS: each row of YtcdpgjlaajdfmaaGreatDoorRows.lean that lists a variable, with what it lists TIED to the program's text (the seventh form; the later family's looks); each row that meets fmt, with fmt's text TOLD by the authors' own Lean function (tested against real Go, not proved from fmt's source: count such statements apart). THE CARD IS WHAT COUNTS. Prove the row's statement (the work); the ties are given (YtcdpgjlaajdfmaaGreatDoorTie.lean); close each card by the builder's one call (the guide's Derived/Test/ToyasCard.lean, 'card_holds'). Laid BY PROGRAM, IN A SANDBOX (cutbox-door.mjs). By AI agents, Wed Nov 11 2026. No macro, syntax, notation, axiom, sorry.
-/
import Derived.Test.YtcdpgjlaajdfmaaGreatDoorRows
import GoSem.ClaimSeven
namespace Go.Proofs.YtcdpgjlaajdfmaaGreatDoor
namespace Rows

/-- THE TIED CARD OF 'cassegrainlaw02.SampleStrings'. -/
def sampleStringsCard : Claim7 := { stood := { row := sampleStringsRow, standIns := [], harness := (true, "5cecdf3dc3e5583d1b9d2917316ac0785569ac78b043339a2187ea529e59e5e0"), looks := true }, kinds := [], alts := [], laidByText := true, laidKinds := [.data, .data, .data, .data, .sentinel, .sentinel, .pinned], laidTests := true, laidLooks := .later }
def SampleStringsCardSaid : Prop := Claim7.holds Tryz.pinned (.plain (OpenSpec.ofChange sampleStringsSpec)) sampleStringsCard

/-- THE TIED CARD OF 'cassegraintop.TopSampleNoneLost'. -/
def topSampleNoneLostCard : Claim7 := { stood := { row := topSampleNoneLostRow, standIns := [], harness := (true, "5cecdf3dc3e5583d1b9d2917316ac0785569ac78b043339a2187ea529e59e5e0"), looks := true }, kinds := [], alts := [], laidByText := true, laidKinds := [.data, .data, .data, .data, .sentinel, .sentinel, .pinned], laidTests := true, laidLooks := .later }
def TopSampleNoneLostCardSaid : Prop := Claim7.holds Tryz.pinned (.plain (OpenSpec.ofChange topSampleNoneLostSpec)) topSampleNoneLostCard

/-- THE SECOND FORM's CARD OF 'cassegrainlaw02.SampleStrings'. -/
def sampleStringsUptoCard : Claim7 := { stood := { row := sampleStringsUptoRow, standIns := [], harness := (true, "5cecdf3dc3e5583d1b9d2917316ac0785569ac78b043339a2187ea529e59e5e0"), looks := true }, kinds := [], alts := [], laidByText := true, laidKinds := [.data, .data, .data, .data, .sentinel, .sentinel, .pinned], laidTests := true, laidLooks := .later }
def SampleStringsUptoCardSaid : Prop := Claim7.holds Tryz.pinned (.plain (OpenSpec.upto sampleStringsSpec)) sampleStringsUptoCard

/-- THE SECOND FORM's CARD OF 'cassegraintop.TopSampleNoneLost'. -/
def topSampleNoneLostUptoCard : Claim7 := { stood := { row := topSampleNoneLostUptoRow, standIns := [], harness := (true, "5cecdf3dc3e5583d1b9d2917316ac0785569ac78b043339a2187ea529e59e5e0"), looks := true }, kinds := [], alts := [], laidByText := true, laidKinds := [.data, .data, .data, .data, .sentinel, .sentinel, .pinned], laidTests := true, laidLooks := .later }
def TopSampleNoneLostUptoCardSaid : Prop := Claim7.holds Tryz.pinned (.plain (OpenSpec.upto topSampleNoneLostSpec)) topSampleNoneLostUptoCard
end Rows
end Go.Proofs.YtcdpgjlaajdfmaaGreatDoor
