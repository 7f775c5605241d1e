import Derived.Test.YtkikpolmfaiabaaGreatDoorFacts
namespace Go.Proofs.YtkikpolmfaiabaaGreatDoor
open Go
theorem pf7 : (false == Tryz.prog.liftsFinal) = true := by kernel_rfl
theorem pf8 : (true == Tryz.prog.plainKeys) = true := by kernel_rfl
end Go.Proofs.YtkikpolmfaiabaaGreatDoor
