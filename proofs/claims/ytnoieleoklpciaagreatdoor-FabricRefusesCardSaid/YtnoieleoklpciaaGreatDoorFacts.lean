import Derived.Test.YtnoieleoklpciaaGreatDoorRows
import Derived.JoinedOf
set_option linter.unusedVariables false
set_option linter.unusedSimpArgs false
namespace Go.Proofs.YtnoieleoklpciaaGreatDoor
open Go
theorem pf1 : laidOutB Tryz.prog = true := by kernel_rfl
theorem pf2 : mapsRowed Tryz.prog = true := by kernel_rfl
theorem pf3 : (Tryz.prog.stops == []) = true := by kernel_rfl
theorem pf4 : (Tryz.prog.stopKnobs == []) = true := by kernel_rfl
theorem pf5 : Tryz.prog.stopsHeard = true := by kernel_rfl
theorem pf6 : Tryz.prog.mayEnter = true := by kernel_rfl
end Go.Proofs.YtnoieleoklpciaaGreatDoor
