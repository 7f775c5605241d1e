/- Any key is its flow's, or refused. Conditions: none beyond the statement's own. -/
import Derived.Test.YtfdhifigndmgaaaLAt
import Derived.Test.YtfdhifigndmgaaaL09k
import Derived.Test.YtfdhifigndmgaaaQx10
namespace Go.Proofs.Ytfdhifigndmgaaa.Pure
open Go Go.RowKit Go.Proofs.Ytfdhifigndmgaaa.Q Go.Proofs.Ytfdhifigndmgaaa.Base Go.Proofs.Ytfdhifigndmgaaa.LAt Go.Proofs.Ytfdhifigndmgaaa.L09 Go.Proofs.YtfdhifigndmgaaaW.PrintWords Go.Proofs.YtfdhifigndmgaaaW.PrintMore
set_option linter.unusedVariables false
set_option linter.unusedSimpArgs false
theorem FlowBack : rillmeterlaw09_FlowBack.Pure := by
  intro s hs
  refine ⟨60, ?_⟩
  unfold rillmeterlaw09_FlowBack.f
  by_cases h : (s.size : Int) > 1024
  · rw [if_pos h, L09.awake_eq _ (by omega)]; rfl
  rw [if_neg h]
  by_cases h37 : s.size = 37
  · rw [of_eq s h37 _ (by omega), Option.bind_some, refof_eq s h37, Option.bind_some, if_pos rfl]
    simp only []
    rw [key_eq (ofS s) _ (by omega), Option.bind_some, fright_eq (ofS s) _ (by omega), decide_eq_true (ok_of s h37)]
    have e : keyS (ofS s) = (s, 0) := by unfold keyS; rw [if_pos (ok_of s h37), key_of s h37]
    rw [e, if_pos (by simp), if_pos rfl, if_pos rfl, if_pos trivial, Option.bind_some, if_pos rfl, L09.awake_eq _ (by omega)]; rfl
  · rw [of_bad s h37, Option.bind_some, refof_bad s h37, Option.bind_some, if_neg (by decide)]
    simp only [mkB_toList]
    rw [if_pos (by decide), if_pos trivial, source_eq, if_neg h37, Option.bind_some, mkB_toList, if_pos rfl, target_eq, if_neg h37, Option.bind_some, mkB_toList, if_pos rfl, L09.awake_eq _ (by omega)]; rfl
end Go.Proofs.Ytfdhifigndmgaaa.Pure
