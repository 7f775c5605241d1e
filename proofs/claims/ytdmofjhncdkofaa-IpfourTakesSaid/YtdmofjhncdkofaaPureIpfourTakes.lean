/- The header at the beginning of any bytes, and its body, are told as the reference says, or refused. Conditions: none beyond the statement's own. -/

import Derived.Test.YtdmofjhncdkofaaLAt
import Derived.Test.YtdmofjhncdkofaaL06
import Derived.Test.YtdmofjhncdkofaaL06r
import Derived.Test.YtdmofjhncdkofaaQx12
namespace Go.Proofs.Ytdmofjhncdkofaa.Pure
open Go Go.RowKit Go.Proofs.Ytdmofjhncdkofaa.Q Go.Proofs.Ytdmofjhncdkofaa.Base Go.Proofs.Ytdmofjhncdkofaa.L04 Go.Proofs.Ytdmofjhncdkofaa.LAt Go.Proofs.Ytdmofjhncdkofaa.L06 Go.Proofs.YtdmofjhncdkofaaW.PrintWords Go.Proofs.YtdmofjhncdkofaaW.PrintMore
set_option linter.unusedVariables false
set_option linter.unusedSimpArgs false
theorem IpfourTakes : rillmeterlaw06_IpfourTakes.Pure := by
  intro s hs
  refine ⟨260, ?_⟩
  unfold rillmeterlaw06_IpfourTakes.f
  by_cases h : (s.size : Int) > 4096
  · rw [if_pos h, L06.awake_eq _ (by omega)]; rfl
  · rw [if_neg h, take4_eq s hs _ (by omega), Option.bind_some, reftake4_eq s hs _ (by omega), Option.bind_some, if_pos (by simp), if_pos rfl, if_pos rfl, L06.awake_eq _ (by omega)]; rfl
end Go.Proofs.Ytdmofjhncdkofaa.Pure
