/- awake, run by the kernel: a part. -/
import Derived.Test.YtjfgdcegpgoobaaGreatDoorA0
set_option linter.unusedVariables false
namespace Go.Proofs.YtjfgdcegpgoobaaGreatDoor
open Go.Run Go
namespace Aw
open Core (TR)
set_option maxRecDepth 1000000
theorem p1:(Ql (C M) TR 500 4 [.agg oneL] (one1 σE)).map (seam B1L) = some (.tup [.agg B1L,I 0],128,a2S):=by kernel_rfl
end Aw
end Go.Proofs.YtjfgdcegpgoobaaGreatDoor
