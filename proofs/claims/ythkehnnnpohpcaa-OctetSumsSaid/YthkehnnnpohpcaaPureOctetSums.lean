/- The sum of any bytes, as the program reckons it, is that of the reference. Conditions: none beyond the statement's own. -/
import Derived.Test.YthkehnnnpohpcaaL04
import Derived.Test.YthkehnnnpohpcaaQx11
namespace Go.Proofs.Ythkehnnnpohpcaa.Pure
open Go Go.RowKit Go.Proofs.Ythkehnnnpohpcaa.Q Go.Proofs.Ythkehnnnpohpcaa.Base Go.Proofs.Ythkehnnnpohpcaa.L04 Go.Proofs.YthkehnnnpohpcaaW.PrintWords Go.Proofs.YthkehnnnpohpcaaW.PrintMore
set_option linter.unusedVariables false
set_option linter.unusedSimpArgs false
theorem OctetSums : rillmeterlaw04_OctetSums.Pure := by
  intro a _
  refine ⟨a.size + 30, ?_⟩
  unfold rillmeterlaw04_OctetSums.f
  by_cases h : (a.size : Int) > 4096
  · rw [if_pos h, awake_eq _ (by omega)]; rfl
  · rw [if_neg h, sum_eq a (by omega) _ (by omega), Option.bind_some, refsum_eq a (by omega) _ (by omega), Option.bind_some, if_pos rfl, awake_eq _ (by omega)]; rfl
end Go.Proofs.Ythkehnnnpohpcaa.Pure
