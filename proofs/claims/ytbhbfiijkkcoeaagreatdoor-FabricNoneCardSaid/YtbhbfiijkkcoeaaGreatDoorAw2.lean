import Derived.Test.YtbhbfiijkkcoeaaGreatDoorAw0
namespace Go.Proofs.YtbhbfiijkkcoeaaGreatDoor
open Go.Run
namespace Aw
set_option maxRecDepth 1000000
theorem part4 : comp (fst c3) cx0 call a3E a3S = .nrm a4E a4S := by kernel_rfl
end Aw
end Go.Proofs.YtbhbfiijkkcoeaaGreatDoor
