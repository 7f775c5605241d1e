import Derived.Test.YtnoieleoklpciaaGreatDoorCards
set_option linter.unusedVariables false
set_option linter.unusedSimpArgs false
namespace Go.Proofs.YtnoieleoklpciaaGreatDoor
open Go
theorem fabricRefuses_c1 : Rows.fabricRefusesRow.wfByText (OpenSpec.ofChange Rows.fabricRefusesSpec) = true := by kernel_rfl
theorem fabricRefuses_c2 : Tryz.pinned.checked.prog.mainIs = some (true, "8fa8f401ed78c6ae76945d802435a45cce93047418e1b6c2902a4a2286de5231".toList) := by kernel_rfl
theorem fabricRefuses_c3 : Tryz.prog.funcNamed "rillmeter/rillmeterlaw24.FabricRefuses" = some 3 := by kernel_rfl
theorem fabricRefuses_c4 : false = Tryz.pinned.checked.prog.looks [] := by kernel_rfl
theorem fabricRefuses_c5 : ([23].all fun u => !Tryz.prog.wantsStandIn u) = true := by kernel_rfl
theorem fabricRefuses_c6 : false = Rows.fabricRefusesRow.goesBy Tryz.pinned.checked.prog := by kernel_rfl
end Go.Proofs.YtnoieleoklpciaaGreatDoor
