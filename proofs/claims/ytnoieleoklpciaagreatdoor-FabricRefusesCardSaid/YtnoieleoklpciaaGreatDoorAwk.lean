/- awake, by the kernel. -/
import Derived.Test.YtnoieleoklpciaaGreatDoorFeed3
set_option linter.unusedVariables false
set_option linter.unusedSimpArgs false
namespace Go.Proofs.YtnoieleoklpciaaGreatDoor
open Go.Run Go
namespace Core
open Ty
set_option maxRecDepth 1000000
theorem aw_run : okM 1 shT (callK (C M) tab4 500 4 [] (partsG deB [])) = true := by kernel_rfl
end Core
end Go.Proofs.YtnoieleoklpciaaGreatDoor
