/-
  DERIVED. GIVEN WITH THE SEED: THE CARDS: each row of YtdoehknomnhlkaaDoorRows.lean that lists a variable, with what it lists TIED to the program's text (the seventh form; the later family's looks); each row that meets fmt, with fmt's text TOLD by the authors' own Lean function (tested against real Go, not proved from fmt's source: count such statements apart). THE CARD IS WHAT COUNTS. Prove the row's statement (the work); the ties are given (YtdoehknomnhlkaaDoorTie.lean); close each card by the builder's one call (the guide's Derived/Test/ToyasCard.lean, 'card_holds'). Laid BY PROGRAM, IN A SANDBOX (cutbox-door.mjs). By AI agents, Wed Nov 11 2026. No macro, syntax, notation, axiom, sorry.
-/
import Derived.Test.YtdoehknomnhlkaaDoorRows
import GoSem.ClaimSeven
namespace Go.Proofs.YtdoehknomnhlkaaDoor
namespace Rows

/-- THE TIED CARD OF 'cassegrainlaw07.RangingToneSets'. -/
def rangingToneSetsCard : Claim7 := { stood := { row := rangingToneSetsRow, standIns := [], harness := (true, "29c768bec3825d8d0af820096dde26eca2c566ab211de3fca6d1d9eb736e2b12"), looks := false }, kinds := [], alts := [], laidByText := true, laidKinds := [.data], laidTests := true, laidLooks := .later }
def RangingToneSetsCardSaid : Prop := Claim7.holds Tryd.pinned (.plain (OpenSpec.ofChange rangingToneSetsSpec)) rangingToneSetsCard

/-- THE TIED CARD OF 'cassegraintop.TopRangingResolves'. -/
def topRangingResolvesCard : Claim7 := { stood := { row := topRangingResolvesRow, standIns := [], harness := (true, "29c768bec3825d8d0af820096dde26eca2c566ab211de3fca6d1d9eb736e2b12"), looks := false }, kinds := [], alts := [], laidByText := true, laidKinds := [.data], laidTests := true, laidLooks := .later }
def TopRangingResolvesCardSaid : Prop := Claim7.holds Tryd.pinned (.plain (OpenSpec.ofChange topRangingResolvesSpec)) topRangingResolvesCard

/-- THE SECOND FORM's CARD OF 'cassegrainlaw07.RangingToneSets'. -/
def rangingToneSetsUptoCard : Claim7 := { stood := { row := rangingToneSetsUptoRow, standIns := [], harness := (true, "29c768bec3825d8d0af820096dde26eca2c566ab211de3fca6d1d9eb736e2b12"), looks := false }, kinds := [], alts := [], laidByText := true, laidKinds := [.data], laidTests := true, laidLooks := .later }
def RangingToneSetsUptoCardSaid : Prop := Claim7.holds Tryd.pinned (.plain (OpenSpec.upto rangingToneSetsSpec)) rangingToneSetsUptoCard

/-- THE SECOND FORM's CARD OF 'cassegraintop.TopRangingResolves'. -/
def topRangingResolvesUptoCard : Claim7 := { stood := { row := topRangingResolvesUptoRow, standIns := [], harness := (true, "29c768bec3825d8d0af820096dde26eca2c566ab211de3fca6d1d9eb736e2b12"), looks := false }, kinds := [], alts := [], laidByText := true, laidKinds := [.data], laidTests := true, laidLooks := .later }
def TopRangingResolvesUptoCardSaid : Prop := Claim7.holds Tryd.pinned (.plain (OpenSpec.upto topRangingResolvesSpec)) topRangingResolvesUptoCard
end Rows
end Go.Proofs.YtdoehknomnhlkaaDoor
