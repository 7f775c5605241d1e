/- awake, run by the kernel from nothing. -/
import Derived.Test.YtkikpolmfaiabaaGreatDoorCx
namespace Go.Proofs.YtkikpolmfaiabaaGreatDoor
open Go.Run
def isTrue : Option (AV × St) → Bool
  | some (.one (.bool true), _) => true
  | _ => false
set_option maxRecDepth 1000000
theorem awake_true : isTrue (callK (C 1000000) noTab 1000000 11 [] σE) = true := by kernel_rfl
end Go.Proofs.YtkikpolmfaiabaaGreatDoor
