/- A part of the proof that a bank of any config is told as the document says. -/
import Derived.Test.YtjfgdcegpgoobaaGreatDoorCards
set_option linter.unusedVariables false
namespace Go.Proofs.YtjfgdcegpgoobaaGreatDoor
open Go
theorem bankNews_c1:Rows.bankNewsRow.wfByText (OpenSpec.ofChange Rows.bankNewsSpec) = true:=by kernel_rfl
theorem bankNews_c2 : Tryz.pinned.checked.prog.mainIs = some (true, "4bdff03543ffa5435a67fe436c346679664a7d0c45b5a8d75a144d08a5c2fa90".toList) := by kernel_rfl
theorem bankNews_c3 : Tryz.prog.funcNamed "rillmeter/rillmeterlaw20.BankNews" = some 3 := by kernel_rfl
theorem bankNews_c4:false = Tryz.pinned.checked.prog.looks []:=by kernel_rfl
theorem bankNews_c5:([24].all fun u=>!Tryz.prog.wantsStandIn u) = true:=by kernel_rfl
theorem bankNews_c6:false = Rows.bankNewsRow.goesBy Tryz.pinned.checked.prog:=by kernel_rfl
end Go.Proofs.YtjfgdcegpgoobaaGreatDoor
