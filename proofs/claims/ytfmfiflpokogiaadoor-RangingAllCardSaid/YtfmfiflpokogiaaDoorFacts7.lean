import Derived.Test.YtfmfiflpokogiaaDoorLaid7
import Derived.WalkKit
import Derived.SevenTiedAt
set_option linter.unusedSimpArgs false
set_option maxRecDepth 100000
namespace Go.Proofs.YtfmfiflpokogiaaDoor
open Go.Ev Go.ChangeShapes Go.WideShapes Go.ChangeAt Go.RowKit
theorem fMaps : mapsRowed Tryd.prog = true := by kernel_rfl
theorem fStops : Tryd.prog.stops = [] := by kernel_rfl
theorem fKnobs : Tryd.prog.stopKnobs = [] := by kernel_rfl
theorem fHeard : Tryd.prog.stopsHeard = true := by kernel_rfl
theorem fEnter : Tryd.prog.mayEnter = true := by kernel_rfl
theorem fMake : Tryd.prog.make.isSome = true := by kernel_rfl
theorem fMain : Tryd.pinned.checked.prog.mainIs = some (true, "b9a990e41395d9caa781e6d6f13123fc7fc88690115b0761975b0f7740f8aa07".toList) := by kernel_rfl
theorem fLooks : false = Tryd.pinned.checked.prog.looks [] := by kernel_rfl
end Go.Proofs.YtfmfiflpokogiaaDoor
