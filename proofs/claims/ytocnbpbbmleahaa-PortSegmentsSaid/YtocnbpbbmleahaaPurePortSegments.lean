/- Any segment is written as the reference says, or refused, and taken back. Conditions: none beyond the statement's own. -/
import Derived.Test.YtocnbpbbmleahaaBase
import Derived.Test.YtocnbpbbmleahaaCPortSegments
import Derived.Test.YtocnbpbbmleahaaQx12
namespace Go.Proofs.Ytocnbpbbmleahaa.Pure
open Go Go.RowKit Go.Proofs.Ytocnbpbbmleahaa.Q Go.Proofs.Ytocnbpbbmleahaa.Base Go.Proofs.Ytocnbpbbmleahaa.L04 Go.Proofs.Ytocnbpbbmleahaa.L08 Go.Proofs.YtocnbpbbmleahaaW.PrintWords Go.Proofs.YtocnbpbbmleahaaW.PrintMore
set_option linter.unusedVariables false
set_option linter.unusedSimpArgs false
theorem PortSegments : rillmeterlaw08_PortSegments.Pure := by
  intro a b o s _ _ ho hs
  refine ⟨61, ?_⟩
  have skip : rillmeterlaw08_PortSegments.j0 61 a b o s true = some true := by
    rw [show (61 : Nat) = 60 + 1 from rfl]
    simp only [rillmeterlaw08_PortSegments.j0, if_true]
    rw [L08.awake_eq _ (by omega)]; rfl
  unfold rillmeterlaw08_PortSegments.f
  by_cases c1 : (o.size : Int) > 4096
  · rw [if_pos c1, skip]
  rw [if_neg c1]
  by_cases c2 : (s.size : Int) > 4096
  · rw [decide_eq_true c2, skip]
  rw [decide_eq_false c2, show (61 : Nat) = 60 + 1 from rfl]
  simp only [rillmeterlaw08_PortSegments.j0]
  rw [if_neg (by decide), tcp_eq a b o s hs _ (by omega), Option.bind_some, reftcp_eq a b o s hs _ (by omega), Option.bind_some]
  by_cases h : okT a b o
  · have e : tcpS a b o s = (mkB (tcpL a b o s), 0) := by unfold tcpS; rw [if_pos h]
    have hz : (mkB (tcpL a b o s)).size ≤ 140737488351232 := by
      rw [mkB_size]; unfold tcpL
      simp only [List.length_append, L08.two_length, List.length_cons, List.length_nil, len]; omega
    rw [e]
    dsimp only
    rw [show decide ((0 : Int) = 0) = true by decide, if_pos rfl, port_eq 6 _ hz _ (by omega), Option.bind_some, port_tcp a b o s h]
    dsimp only
    rw [if_pos rfl, if_pos rfl, if_pos rfl, if_pos rfl, if_pos rfl, if_pos rfl, L08.awake_eq _ (by omega)]; rfl
  · have e : tcpS a b o s = (mkB [], 1) := by unfold tcpS; rw [if_neg h]
    rw [e]
    dsimp only
    rw [show decide ((1 : Int) = 0) = false by decide, if_neg (by decide), mkB_toList, if_pos rfl, if_pos rfl, L08.awake_eq _ (by omega)]; rfl
end Go.Proofs.Ytocnbpbbmleahaa.Pure
