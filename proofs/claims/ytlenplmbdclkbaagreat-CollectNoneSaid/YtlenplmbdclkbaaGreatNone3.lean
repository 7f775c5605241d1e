import Derived.Test.YtlenplmbdclkbaaGreatNone2
namespace Go.Proofs.YtlenplmbdclkbaaGreat
open Go.Run
set_option maxRecDepth 1000000
theorem run2 (s : ByteArray) (i e : Int) (key : ByteArray) : from_ 7 (envB s i e key true) = true := by kernel_rfl
end Go.Proofs.YtlenplmbdclkbaaGreat
