/- What is asked of the program once, fact by fact. -/
import Derived.Test.YtdoehknomnhlkaaDoorLaid7
import Derived.WalkKit
import Derived.SevenTiedAt
set_option linter.unusedSimpArgs false
set_option maxRecDepth 100000
namespace Go.Proofs.YtdoehknomnhlkaaDoor
open Go.Ev Go.ChangeShapes Go.WideShapes Go.ChangeAt Go.RowKit
theorem fMaps : mapsRowed Tryd.prog = true := by kernel_rfl
theorem fStops : Tryd.prog.stops = [] := by kernel_rfl
theorem fKnobs : Tryd.prog.stopKnobs = [] := by kernel_rfl
theorem fHeard : Tryd.prog.stopsHeard = true := by kernel_rfl
theorem fEnter : Tryd.prog.mayEnter = true := by kernel_rfl
theorem fMake : Tryd.prog.make.isSome = true := by kernel_rfl
theorem fMain : Tryd.pinned.checked.prog.mainIs = some (true, "29c768bec3825d8d0af820096dde26eca2c566ab211de3fca6d1d9eb736e2b12".toList) := by kernel_rfl
theorem fLooks : false = Tryd.pinned.checked.prog.looks [] := by kernel_rfl
end Go.Proofs.YtdoehknomnhlkaaDoor
