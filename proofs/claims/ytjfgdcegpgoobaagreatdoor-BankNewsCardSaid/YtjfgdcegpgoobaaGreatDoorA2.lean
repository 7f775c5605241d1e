/- awake, run by the kernel: a part. -/
import Derived.Test.YtjfgdcegpgoobaaGreatDoorA0
set_option linter.unusedVariables false
namespace Go.Proofs.YtjfgdcegpgoobaaGreatDoor
open Go.Run Go
namespace Aw
open Core (TR)
set_option maxRecDepth 1000000
theorem p2:(Ql (C M) TR 500 23 [.agg B1L,S [115,104,111,114,116]] a2S).map (seam B2L) = some (.tup [.agg B2L,I 2],384,a3S):=by kernel_rfl
end Aw
end Go.Proofs.YtjfgdcegpgoobaaGreatDoor
