import Derived.Test.YtlenplmbdclkbaaGreatNone
namespace Go.Proofs.YtlenplmbdclkbaaGreat
open Go.Run
set_option maxRecDepth 1000000
theorem run1 (s : ByteArray) (i e : Int) (key : ByteArray) : from_ 3 (envA s i e key true) = true := by kernel_rfl
end Go.Proofs.YtlenplmbdclkbaaGreat
