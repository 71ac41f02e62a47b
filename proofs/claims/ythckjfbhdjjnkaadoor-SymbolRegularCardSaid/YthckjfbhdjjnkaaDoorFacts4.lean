/- What is asked of the program once, fact by fact. -/
import Derived.Test.YthckjfbhdjjnkaaDoorLaid4
import Derived.WalkKit
import Derived.SevenTiedAt
set_option linter.unusedSimpArgs false
set_option maxRecDepth 100000
namespace Go.Proofs.YthckjfbhdjjnkaaDoor
open Go.Ev Go.ChangeShapes Go.WideShapes Go.ChangeAt Go.RowKit
theorem fMaps : mapsRowed Tryd.prog = true := by kernel_rfl
theorem fStops : Tryd.prog.stops = [] := by kernel_rfl
theorem fKnobs : Tryd.prog.stopKnobs = [] := by kernel_rfl
theorem fHeard : Tryd.prog.stopsHeard = true := by kernel_rfl
theorem fEnter : Tryd.prog.mayEnter = true := by kernel_rfl
theorem fMain : Tryd.pinned.checked.prog.mainIs = some (true, "fc35d03b8b601be7e2432c9146edea038834c15e3c955cd5ed778deb69910b8c".toList) := by kernel_rfl
theorem fLooks : false = Tryd.pinned.checked.prog.looks [] := by kernel_rfl
end Go.Proofs.YthckjfbhdjjnkaaDoor
