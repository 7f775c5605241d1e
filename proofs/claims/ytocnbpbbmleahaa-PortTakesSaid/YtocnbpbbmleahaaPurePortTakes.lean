/- The ports of any bytes of any protocol are told as the reference says, or refused. Conditions: none beyond the statement's own. -/
import Derived.Test.YtocnbpbbmleahaaL08
import Derived.Test.YtocnbpbbmleahaaL08
import Derived.Test.YtocnbpbbmleahaaQx8
namespace Go.Proofs.Ytocnbpbbmleahaa.Pure
open Go Go.RowKit Go.Proofs.Ytocnbpbbmleahaa.Q Go.Proofs.Ytocnbpbbmleahaa.Base Go.Proofs.Ytocnbpbbmleahaa.L04 Go.Proofs.Ytocnbpbbmleahaa.L08 Go.Proofs.YtocnbpbbmleahaaW.PrintWords Go.Proofs.YtocnbpbbmleahaaW.PrintMore
set_option linter.unusedVariables false
set_option linter.unusedSimpArgs false
theorem PortTakes : rillmeterlaw08_PortTakes.Pure := by
  intro p s _ hs
  refine ⟨60, ?_⟩
  unfold rillmeterlaw08_PortTakes.f
  by_cases h : (s.size : Int) > 4096
  · rw [if_pos h, L08.awake_eq _ (by omega)]; rfl
  · rw [if_neg h, port_eq p s hs _ (by omega), Option.bind_some, refport_eq p s hs _ (by omega), Option.bind_some, if_pos rfl, if_pos rfl, if_pos rfl, if_pos rfl, L08.awake_eq _ (by omega)]; rfl
end Go.Proofs.Ytocnbpbbmleahaa.Pure
