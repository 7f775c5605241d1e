/- A tag's ID is its value's remainder by 4096. Conditions: none beyond the statement's own. -/
import Derived.Test.YtngcelombflnfaaLAt
import Derived.Test.YtngcelombflnfaaL05
import Derived.Test.YtngcelombflnfaaQx12
namespace Go.Proofs.Ytngcelombflnfaa.Pure
open Go Go.RowKit Go.Proofs.Ytngcelombflnfaa.Q Go.Proofs.Ytngcelombflnfaa.Base Go.Proofs.Ytngcelombflnfaa.LAt Go.Proofs.Ytngcelombflnfaa.L05 Go.Proofs.YtngcelombflnfaaW.PrintWords Go.Proofs.YtngcelombflnfaaW.PrintMore
set_option linter.unusedVariables false
set_option linter.unusedSimpArgs false
theorem EtherIDs : rillmeterlaw05_EtherIDs.Pure := by
  intro x n hx hn
  have hn := wf64 hn
  refine ⟨60, ?_⟩
  unfold rillmeterlaw05_EtherIDs.f
  rw [L05.id_eq, Option.bind_some]
  have e : Int.tmod n 4096 = if 0 ≤ n then n % 4096 else -((-n) % 4096) := by
    by_cases h : 0 ≤ n
    · rw [if_pos h, Int.tmod_eq_emod_of_nonneg h]
    · rw [if_neg h, ← Int.tmod_eq_emod_of_nonneg (a := -n) (by omega), Int.neg_tmod, Int.neg_neg]
  by_cases h : 0 ≤ n
  · rw [if_pos h] at e
    rw [e, if_neg (by omega), if_pos rfl, L05.awake_eq _ (by omega)]; rfl
  · rw [if_neg h] at e
    rw [e]
    by_cases h1 : -((-n) % 4096) < 0
    · rw [if_pos h1, w64 (by omega) (by omega), if_pos (by omega), L05.awake_eq _ (by omega)]; rfl
    · rw [if_neg h1, if_pos (by omega), L05.awake_eq _ (by omega)]; rfl
end Go.Proofs.Ytngcelombflnfaa.Pure
