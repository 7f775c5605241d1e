/- The flow of any frame is what the document's answer says. Conditions: none beyond the statement's own. -/
import Derived.Test.YtfdhifigndmgaaaBase
import Derived.Test.YtfdhifigndmgaaaCFlowExtracts
import Derived.Test.YtfdhifigndmgaaaQx27
namespace Go.Proofs.Ytfdhifigndmgaaa.Pure
open Go Go.RowKit Go.Proofs.Ytfdhifigndmgaaa.Q Go.Proofs.Ytfdhifigndmgaaa.Base Go.Proofs.Ytfdhifigndmgaaa.LAt Go.Proofs.Ytfdhifigndmgaaa.L09 Go.Proofs.YtfdhifigndmgaaaW.PrintWords Go.Proofs.YtfdhifigndmgaaaW.PrintMore
set_option linter.unusedVariables false
set_option linter.unusedSimpArgs false
theorem FlowExtracts : rillmeterlaw09_FlowExtracts.Pure := by
  intro s hs
  refine ⟨300, ?_⟩
  unfold rillmeterlaw09_FlowExtracts.f
  by_cases h1 : (s.size : Int) > 4096
  · rw [if_pos h1, L09.awake_eq _ (by omega)]; rfl
  rw [if_neg h1, extr_eq s hs _ (by omega), Option.bind_some, refextr_eq s hs _ (by omega), Option.bind_some]
  unfold tupE
  dsimp only
  rw [if_pos (by simp), if_pos rfl, L09.awake_eq _ (by omega)]; rfl
end Go.Proofs.Ytfdhifigndmgaaa.Pure
