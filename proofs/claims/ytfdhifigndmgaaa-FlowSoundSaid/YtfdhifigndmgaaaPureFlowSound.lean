/- What is extracted is a right flow. Conditions: none beyond the statement's own. -/
import Derived.Test.YtfdhifigndmgaaaBase
import Derived.Test.YtfdhifigndmgaaaP9
import Derived.Test.YtfdhifigndmgaaaL09x
import Derived.Test.YtfdhifigndmgaaaQx34
namespace Go.Proofs.Ytfdhifigndmgaaa.Pure
open Go Go.RowKit Go.Proofs.Ytfdhifigndmgaaa.Q Go.Proofs.Ytfdhifigndmgaaa.Base Go.Proofs.Ytfdhifigndmgaaa.L09 Go.Proofs.YtfdhifigndmgaaaW.PrintWords Go.Proofs.YtfdhifigndmgaaaW.PrintMore
set_option linter.unusedVariables false
set_option linter.unusedSimpArgs false
theorem FlowSound : rillmeterlaw09_FlowSound.Pure := by
  intro s hs
  refine ⟨300, ?_⟩
  unfold rillmeterlaw09_FlowSound.f
  by_cases h : (s.size : Int) > 4096
  · rw [if_pos h, L09.awake_eq _ (by omega)]; rfl
  rw [if_neg h, extr_eq s hs _ (by omega), Option.bind_some]
  unfold tupE
  dsimp only
  by_cases e : (extr s).2 = 0
  · obtain ⟨h1, h2⟩ := extr_ok s e
    rw [if_pos e, fright_eq (extr s).1 _ (by omega), Option.bind_some, decide_eq_true h1, if_pos rfl, if_pos (by omega), L09.awake_eq _ (by omega)]; rfl
  · have hz := extr_err s e
    rw [if_neg e, hz]
    unfold zF
    dsimp only
    rw [mkB_toList, if_pos (by decide), L09.awake_eq _ (by omega)]; rfl
end Go.Proofs.Ytfdhifigndmgaaa.Pure
