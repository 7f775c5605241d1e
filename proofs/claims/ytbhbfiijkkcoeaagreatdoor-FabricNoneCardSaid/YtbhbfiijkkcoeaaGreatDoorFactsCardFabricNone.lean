import Derived.Test.YtbhbfiijkkcoeaaGreatDoorCards
namespace Go.Proofs.YtbhbfiijkkcoeaaGreatDoor
open Go
theorem fabricNone_c1 : Rows.fabricNoneRow.wfByText (OpenSpec.ofChange Rows.fabricNoneSpec) = true := by kernel_rfl
theorem fabricNone_c2 : Tryz.pinned.checked.prog.mainIs = some (true, "b8832331339ca6047dc15a28567bcfae89fe858e98f7f90c76c3ff847aafce62".toList) := by kernel_rfl
theorem fabricNone_c3 : Tryz.prog.funcNamed "rillmeter/rillmeterlaw24.FabricNone" = some 3 := by kernel_rfl
theorem fabricNone_c4 : false = Tryz.pinned.checked.prog.looks [] := by kernel_rfl
theorem fabricNone_c5 : ([23, 3].all fun u => !Tryz.prog.wantsStandIn u) = true := by kernel_rfl
theorem fabricNone_c6 : false = Rows.fabricNoneRow.goesBy Tryz.pinned.checked.prog := by kernel_rfl
end Go.Proofs.YtbhbfiijkkcoeaaGreatDoor
