import Derived.Test.YtbhbfiijkkcoeaaGreatDoorAw1
import Derived.Test.YtbhbfiijkkcoeaaGreatDoorAw2
namespace Go.Proofs.YtbhbfiijkkcoeaaGreatDoor
open Go.Run
namespace Aw
set_option maxRecDepth 1000000
theorem last : isTrue (finish cx0 call Tryz.f7.results.toList (comp c4 cx0 call a4E a4S)) = true := by kernel_rfl
end Aw
end Go.Proofs.YtbhbfiijkkcoeaaGreatDoor
