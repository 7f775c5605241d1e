/- awake, run by the kernel from nothing. -/
import Derived.Test.YtggjhmhjjghncaaGreatCx
namespace Go.Proofs.YtggjhmhjjghncaaGreat
open Go.Run
def isTrue : Option (AV × St) → Bool
  | some (.one (.bool true), _) => true
  | _ => false
set_option maxRecDepth 1000000
theorem awake_true : isTrue (callK (C 1000000) noTab 1000000 4 [] σE) = true := by kernel_rfl
end Go.Proofs.YtggjhmhjjghncaaGreat
