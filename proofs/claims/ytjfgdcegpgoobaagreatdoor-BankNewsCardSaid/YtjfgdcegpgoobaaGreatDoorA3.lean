/- awake, run by the kernel: a part. -/
import Derived.Test.YtjfgdcegpgoobaaGreatDoorA0
set_option linter.unusedVariables false
namespace Go.Proofs.YtjfgdcegpgoobaaGreatDoor
open Go.Run Go
namespace Aw
open Core (TR)
set_option maxRecDepth 1000000
theorem p3:Ql (C M) TR 500 24 [.agg B2L] a3S = some (.tup [S txt,I 0],a4S):=by kernel_rfl
end Aw
end Go.Proofs.YtjfgdcegpgoobaaGreatDoor
