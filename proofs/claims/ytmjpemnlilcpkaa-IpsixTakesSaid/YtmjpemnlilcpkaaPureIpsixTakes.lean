/- The header at the beginning of any bytes, its chain, and its body, are told as the reference says, or refused. Conditions: none beyond the statement's own. -/
import Derived.Test.YtmjpemnlilcpkaaBase
import Derived.Test.YtmjpemnlilcpkaaL7q
import Derived.Test.YtmjpemnlilcpkaaQx18
namespace Go.Proofs.Ytmjpemnlilcpkaa.Pure
open Go Go.RowKit Go.Proofs.Ytmjpemnlilcpkaa.Q Go.Proofs.Ytmjpemnlilcpkaa.Base Go.Proofs.Ytmjpemnlilcpkaa.L07 Go.Proofs.Ytmjpemnlilcpkaa.LAt Go.Proofs.YtmjpemnlilcpkaaW.PrintWords Go.Proofs.YtmjpemnlilcpkaaW.PrintMore
set_option linter.unusedVariables false
set_option linter.unusedSimpArgs false
theorem IpsixTakes : rillmeterlaw07_IpsixTakes.Pure := by
  intro s hs
  refine ⟨60, ?_⟩
  unfold rillmeterlaw07_IpsixTakes.f
  by_cases h : (s.size : Int) > 4096
  · rw [if_pos h, L07.awake_eq _ (by omega)]; rfl
  rw [if_neg h, take6_eq s hs _ (by omega), Option.bind_some, reftake6_eq s hs _ (by omega), Option.bind_some]
  rcases take6_cases s with ⟨e, _, he⟩ | ⟨h, body, he, hr, hf, hp, hok⟩
  · rw [he Xe t1, he Rx t2]
    have a1 := ref_eq [] 0 0 0 0 (mkB []) (mkB []) (by decide) 60 (by decide)
    have a2 := equal_eq [] 0 0 0 0 (mkB []) (mkB []) (by decide) 60 (by decide)
    have a3 := piece_eq [] 0 0 0 0 (mkB []) (mkB []) (by decide) 60 (by decide)
    have a4 := refpiece_eq [] 0 0 0 0 (mkB []) (mkB []) (by decide) 60 (by decide)
    rw [List.map_nil] at a1 a2 a3 a4
    rw [List.map_nil] at a1
    dsimp only
    rw [a1, Option.bind_some]
    dsimp only
    rw [a2, Option.bind_some, if_pos rfl, if_pos rfl, if_pos rfl, a3, Option.bind_some, a4, Option.bind_some, L07.awake_eq _ (by omega)]; rfl
  · obtain ⟨hC, hR⟩ := (right_iff h).mp hr
    have hl := hR.2.2.2.2.2.2.2
    rw [he Xe t1, he Rx t2]
    dsimp only
    rw [ref_eq h.ch _ _ _ _ _ _ (by omega) _ (by omega), Option.bind_some]
    dsimp only
    rw [equal_eq h.ch _ _ _ _ _ _ (by omega) _ (by omega), Option.bind_some, if_pos rfl, if_pos rfl, if_pos rfl, piece_eq h.ch _ _ _ _ _ _ (by omega) _ (by omega), Option.bind_some, refpiece_eq h.ch _ _ _ _ _ _ (by omega) _ (by omega), Option.bind_some, if_pos (by simp), L07.awake_eq _ (by omega)]; rfl
end Go.Proofs.Ytmjpemnlilcpkaa.Pure
