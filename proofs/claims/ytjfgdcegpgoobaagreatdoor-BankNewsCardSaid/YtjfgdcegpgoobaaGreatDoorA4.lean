/- awake, run by the kernel: a part. -/
import Derived.Test.YtjfgdcegpgoobaaGreatDoorA0
set_option linter.unusedVariables false
namespace Go.Proofs.YtjfgdcegpgoobaaGreatDoor
open Go.Run Go
namespace Aw
open Core (TR)
set_option maxRecDepth 1000000
def DL:List CV:=[.int .u64 7,i 2,i 2,i 2,i 1,i 8,i 32,i 2,i 2,i 8,i 2,i 1,i 8,i 4,i 1,i 4,i 2,i 8,i 0,i 0,st 1224 0 18 1,.int .u64 105625,i 2,i 2,st 1245 0 2 2,.int .u64 100418638321,i 255,st 1239 0 1 1,.int .u64 112225,.int .u64 50382740521,i 2,st 1252 0 32 1,st 1280 0 2 1,.int .u64 119025,i 4,st 1310 0 2 3,.int .u64 126025,st 1346 0 1 1]
def rj (x:Bool):Blk:=.cells [i 0,i 0,i 1,i 0,i 0,i 0,i 0,i 0,i 0,i 0,i 0,i 0,i 0,i 0,i 0,i 0,i 0,i 0] 3 x
theorem p4:(Ql (C M) TR 500 25 [.agg oneL,S txt] (one1 a4S)).map (fun r=>(r.1,r.2.next,r.2.get 384,r.2.get 383,r.2.get 1224)) = some (.tup [.agg DL,I 0],1770,some (.cells B2L 45 true),some (rj false),some (rj true)):=by kernel_rfl
end Aw
end Go.Proofs.YtjfgdcegpgoobaaGreatDoor
