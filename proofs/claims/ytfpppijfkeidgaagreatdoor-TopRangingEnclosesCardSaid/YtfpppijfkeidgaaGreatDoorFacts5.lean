/- What is asked of the program once, fact by fact. -/
import Derived.Test.YtfpppijfkeidgaaGreatDoorLaid5
import Derived.WalkKit
import Derived.SevenTiedAt
set_option linter.unusedSimpArgs false
set_option maxRecDepth 100000
namespace Go.Proofs.YtfpppijfkeidgaaGreatDoor
open Go.Ev Go.ChangeShapes Go.WideShapes Go.ChangeAt Go.RowKit
theorem fMaps : mapsRowed Tryz.prog = true := by kernel_rfl
theorem fStops : Tryz.prog.stops = [] := by kernel_rfl
theorem fKnobs : Tryz.prog.stopKnobs = [] := by kernel_rfl
theorem fHeard : Tryz.prog.stopsHeard = true := by kernel_rfl
theorem fEnter : Tryz.prog.mayEnter = true := by kernel_rfl
theorem fMain : Tryz.pinned.checked.prog.mainIs = some (true, "16d0c761cd3f92b91cf7867def2c86f1785df7a7c0550421e744bd8ec550d365".toList) := by kernel_rfl
theorem fLooks : true = Tryz.pinned.checked.prog.looks [] := by kernel_rfl
end Go.Proofs.YtfpppijfkeidgaaGreatDoor
