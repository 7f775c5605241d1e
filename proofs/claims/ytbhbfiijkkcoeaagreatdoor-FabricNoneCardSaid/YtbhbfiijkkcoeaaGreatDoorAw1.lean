import Derived.Test.YtbhbfiijkkcoeaaGreatDoorAw0
namespace Go.Proofs.YtbhbfiijkkcoeaaGreatDoor
open Go.Run
namespace Aw
set_option maxRecDepth 1000000
theorem part3 : thenR (comp (fst c2) cx0 call) (thenR (comp (fst c1) cx0 call) (comp (fst c0) cx0 call ⟨.leaf, .leaf, []⟩ σE)) = .nrm a3E a3S := by kernel_rfl
end Aw
end Go.Proofs.YtbhbfiijkkcoeaaGreatDoor
