import Derived.Test.YtdoehknomnhlkaaGreatDoorLaid5
import Derived.WalkKit
import Derived.SevenTiedAt
set_option linter.unusedSimpArgs false
set_option maxRecDepth 100000
namespace Go.Proofs.YtdoehknomnhlkaaGreatDoor
open Go.Ev Go.ChangeShapes Go.WideShapes Go.ChangeAt Go.RowKit
theorem fMaps : mapsRowed Tryz.prog = true := by kernel_rfl
theorem fStops : Tryz.prog.stops = [] := by kernel_rfl
theorem fKnobs : Tryz.prog.stopKnobs = [] := by kernel_rfl
theorem fHeard : Tryz.prog.stopsHeard = true := by kernel_rfl
theorem fEnter : Tryz.prog.mayEnter = true := by kernel_rfl
theorem fMake : Tryz.prog.make.isSome = true := by kernel_rfl
theorem fMain : Tryz.pinned.checked.prog.mainIs = some (true, "c5119c5f6dad273ce700befe837f5a28e87e3deafe0e06913fa7e94917cb8d26".toList) := by kernel_rfl
theorem fLooks : true = Tryz.pinned.checked.prog.looks [] := by kernel_rfl
end Go.Proofs.YtdoehknomnhlkaaGreatDoor
