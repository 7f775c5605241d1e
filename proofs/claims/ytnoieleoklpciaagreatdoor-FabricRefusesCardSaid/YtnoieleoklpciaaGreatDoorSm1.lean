/- The law: what is the same behind a step that is refused. -/
import Derived.Test.YtnoieleoklpciaaGreatDoorLw0
set_option linter.unusedVariables false
set_option linter.unusedSimpArgs false
namespace Go.Proofs.YtnoieleoklpciaaGreatDoor
open Go.Run Go
namespace Core
open Ty
set_option maxRecDepth 1000000
theorem sm1 (k w n : Int) (fr : List UInt8) : (cL 999 9 [P 101 0, .agg xL] ((W1 k w n fr).push (.cells (stepL k w n fr) 23 true))).map (fun r => (r.1, r.2.get 0, Nat.blt 0 r.2.next)) = some (B true, some (.ro deB), true) := by kernel_rfl
end Core
end Go.Proofs.YtnoieleoklpciaaGreatDoor
