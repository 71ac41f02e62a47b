/-
  DERIVED. GIVEN WITH THE SEED: THE CARDS: each row of YtfpppijfkeidgaaGreatDoorRows.lean that lists a variable, with what it lists TIED to the program's text (the seventh form; the later family's looks); each row that meets fmt, with fmt's text TOLD by the authors' own Lean function (tested against real Go, not proved from fmt's source: count such statements apart). THE CARD IS WHAT COUNTS. Prove the row's statement (the work); the ties are given (YtfpppijfkeidgaaGreatDoorTie.lean); close each card by the builder's one call (the guide's Derived/Test/ToyasCard.lean, 'card_holds'). Laid BY PROGRAM, IN A SANDBOX (cutbox-door.mjs). By AI agents, Wed Nov 11 2026. No macro, syntax, notation, axiom, sorry.
-/
import Derived.Test.YtfpppijfkeidgaaGreatDoorRows
import GoSem.ClaimSeven
namespace Go.Proofs.YtfpppijfkeidgaaGreatDoor
namespace Rows

/-- THE TIED CARD OF 'cassegraintop.TopRangingEncloses'. -/
def topRangingEnclosesCard : Claim7 := { stood := { row := topRangingEnclosesRow, standIns := [], harness := (true, "16d0c761cd3f92b91cf7867def2c86f1785df7a7c0550421e744bd8ec550d365"), looks := true }, kinds := [], alts := [], laidByText := true, laidKinds := [.data, .data, .data, .data, .sentinel, .sentinel, .data, .widerDeep, .pinned], laidTests := true, laidLooks := .later }
def TopRangingEnclosesCardSaid : Prop := Claim7.holds Tryz.pinned (.plain (OpenSpec.ofChange topRangingEnclosesSpec)) topRangingEnclosesCard

/-- THE SECOND FORM's CARD OF 'cassegraintop.TopRangingEncloses'. -/
def topRangingEnclosesUptoCard : Claim7 := { stood := { row := topRangingEnclosesUptoRow, standIns := [], harness := (true, "16d0c761cd3f92b91cf7867def2c86f1785df7a7c0550421e744bd8ec550d365"), looks := true }, kinds := [], alts := [], laidByText := true, laidKinds := [.data, .data, .data, .data, .sentinel, .sentinel, .data, .widerDeep, .pinned], laidTests := true, laidLooks := .later }
def TopRangingEnclosesUptoCardSaid : Prop := Claim7.holds Tryz.pinned (.plain (OpenSpec.upto topRangingEnclosesSpec)) topRangingEnclosesUptoCard
end Rows
end Go.Proofs.YtfpppijfkeidgaaGreatDoor
