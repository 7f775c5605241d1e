import Derived.Test.YtkikpolmfaiabaaGreatDoorCards
namespace Go.Proofs.YtkikpolmfaiabaaGreatDoor
open Go
theorem meterClock_c1 : Rows.meterClockRow.wfByText (OpenSpec.ofChange Rows.meterClockSpec) = true := by kernel_rfl
theorem meterClock_c2 : Tryz.pinned.checked.prog.mainIs = some (true, "d6a5a30e148307116b9ee67773feac4c373f877372ee994b5d241c1e00975a0f".toList) := by kernel_rfl
theorem meterClock_c3 : Tryz.prog.funcNamed "rillmeter/rillmeterlaw21.MeterClock" = some 3 := by kernel_rfl
theorem meterClock_c4 : false = Tryz.pinned.checked.prog.looks [] := by kernel_rfl
theorem meterClock_c5 : ([3, 22].all fun u => !Tryz.prog.wantsStandIn u) = true := by kernel_rfl
theorem meterClock_c6 : false = Rows.meterClockRow.goesBy Tryz.pinned.checked.prog := by kernel_rfl
end Go.Proofs.YtkikpolmfaiabaaGreatDoor
