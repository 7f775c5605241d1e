import Derived.Test.YtbhbfiijkkcoeaaGreatDoorNone
namespace Go.Proofs.YtbhbfiijkkcoeaaGreatDoor
open Go.Run
set_option maxRecDepth 1000000
theorem run1 (a b c : Int) (s : ByteArray) (id : Int) : from_ a b c s id true = true := by kernel_rfl
theorem run2 (a b c : Int) (s : ByteArray) (id : Int) : from_ a b c s id false = true := by kernel_rfl
end Go.Proofs.YtbhbfiijkkcoeaaGreatDoor
