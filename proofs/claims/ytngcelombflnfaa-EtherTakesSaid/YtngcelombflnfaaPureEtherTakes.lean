/- Frames at the beginning of any bytes are told as the reference tells them, or refused as it refuses them. Conditions: none beyond the statement's own. -/
import Derived.Test.YtngcelombflnfaaLAt
import Derived.Test.YtngcelombflnfaaL05
import Derived.Test.YtngcelombflnfaaQx11
namespace Go.Proofs.Ytngcelombflnfaa.Pure
open Go Go.RowKit Go.Proofs.Ytngcelombflnfaa.Q Go.Proofs.Ytngcelombflnfaa.Base Go.Proofs.Ytngcelombflnfaa.LAt Go.Proofs.Ytngcelombflnfaa.L05 Go.Proofs.YtngcelombflnfaaW.PrintWords Go.Proofs.YtngcelombflnfaaW.PrintMore
set_option linter.unusedVariables false
set_option linter.unusedSimpArgs false
theorem EtherTakes : rillmeterlaw05_EtherTakes.Pure := by
  intro s hs
  refine ⟨60, ?_⟩
  unfold rillmeterlaw05_EtherTakes.f
  by_cases h : (s.size : Int) > 4096
  · rw [if_pos h, L05.awake_eq _ (by omega)]; rfl
  · rw [if_neg h, ethtake_eq s _ (by omega), Option.bind_some, refethtake_eq s hs _ (by omega), Option.bind_some]
    unfold res
    cases c : tk0 s with
    | error e =>
      simp only [out, List.map_nil]
      rw [ref_nil _ (by omega), Option.bind_some, equal_nil _ (by omega), Option.bind_some, if_pos rfl, if_pos trivial, if_pos trivial, L05.awake_eq _ (by omega)]; rfl
    | ok v =>
      obtain ⟨ts, n, q⟩ := v
      have hl : ts.length ≤ 2 := by
        unfold tk0 at c
        split at c
        · cases c
        · exact tk_len _ _ _ _ _ _ _ (by decide) c
      simp only [out]
      rw [ref_eq ts _ _ _ (by omega) _ (by omega), Option.bind_some, equal_eq ts _ _ _ (by omega) _ (by omega), Option.bind_some, if_pos rfl, if_pos trivial, if_pos trivial, L05.awake_eq _ (by omega)]; rfl
end Go.Proofs.Ytngcelombflnfaa.Pure
