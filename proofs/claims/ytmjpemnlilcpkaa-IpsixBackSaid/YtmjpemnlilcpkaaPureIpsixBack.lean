/- What is taken is written as it stood there, up to the length. Conditions: none beyond the statement's own. -/
import Derived.Test.YtmjpemnlilcpkaaBase
import Derived.Test.YtmjpemnlilcpkaaL7
import Derived.Test.YtmjpemnlilcpkaaQx25
namespace Go.Proofs.Ytmjpemnlilcpkaa.Pure
open Go Go.RowKit Go.Proofs.Ytmjpemnlilcpkaa.Q Go.Proofs.Ytmjpemnlilcpkaa.Base Go.Proofs.Ytmjpemnlilcpkaa.L07 Go.Proofs.Ytmjpemnlilcpkaa.LAt Go.Proofs.YtmjpemnlilcpkaaW.PrintWords Go.Proofs.YtmjpemnlilcpkaaW.PrintMore
set_option linter.unusedVariables false
set_option linter.unusedSimpArgs false
theorem IpsixBack : rillmeterlaw07_IpsixBack.Pure := by
  intro s hs
  refine ⟨60, ?_⟩
  unfold rillmeterlaw07_IpsixBack.f
  by_cases h : (s.size : Int) > 4096
  · rw [if_pos h, L07.awake_eq _ (by omega)]; rfl
  rw [if_neg h, take6_eq s hs _ (by omega), Option.bind_some]
  rcases take6_cases s with ⟨e, hv, he⟩ | ⟨h, body, he, hr, hf, hp, hok⟩
  · rw [he Xe t1]
    have a1 := ref_eq [] 0 0 0 0 (mkB []) (mkB []) (by decide) 60 (by decide)
    have a2 := equal_eq [] 0 0 0 0 (mkB []) (mkB []) (by decide) 60 (by decide)
    rw [List.map_nil] at a1 a2
    rw [List.map_nil] at a1
    dsimp only
    rw [if_neg (by omega), a1, Option.bind_some]
    dsimp only
    rw [show (⟨#[]⟩ : ByteArray) = mkB [] from rfl, a2, Option.bind_some, if_pos rfl, mkB_toList, if_pos rfl, L07.awake_eq _ (by omega)]; rfl
  · obtain ⟨hC, hR⟩ := (right_iff h).mp hr
    have hl := hR.2.2.2.2.2.2.2
    have hlen := put6_length h hR body
    obtain ⟨k1, k2, k3⟩ := hok
    have hbz : body.size ≤ 65535 := by unfold fits at hf; omega
    have hpl := congrArg List.length hp
    rw [List.length_take, len] at hpl
    rw [he Xe t1]
    dsimp only
    have hsm := small_of h hr
    rw [if_pos rfl, put6_eq h hsm body (by omega) _ (by omega), Option.bind_some]
    rw [put6S_yes hr hf]
    dsimp only
    rw [if_pos rfl, mkB_size, if_pos (by omega), if_pos (by omega), Int.toNat_natCast, if_pos (by rw [mkB_toList, toL, extract_list, List.drop_zero, Nat.sub_zero, hpl, hp]; congr 1; omega), right_eq h hsm _ (by omega), hr, Option.bind_some, if_pos rfl, L07.awake_eq _ (by omega)]; rfl
end Go.Proofs.Ytmjpemnlilcpkaa.Pure
