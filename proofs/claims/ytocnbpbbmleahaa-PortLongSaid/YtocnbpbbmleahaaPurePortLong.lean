/- A datagram is refused just if it has more than 2^16 - 1 bytes. Conditions: none beyond the statement's own. -/
import Derived.Test.YtocnbpbbmleahaaL08
import Derived.Test.YtocnbpbbmleahaaQx11
namespace Go.Proofs.Ytocnbpbbmleahaa.Pure
open Go Go.RowKit Go.Proofs.Ytocnbpbbmleahaa.Q Go.Proofs.Ytocnbpbbmleahaa.Base Go.Proofs.Ytocnbpbbmleahaa.L08 Go.Proofs.YtocnbpbbmleahaaW.PrintWords Go.Proofs.YtocnbpbbmleahaaW.PrintMore
set_option linter.unusedVariables false
set_option linter.unusedSimpArgs false
theorem wf8 {n : Int} (h : (Lit.int .i8 n).wf = true) : -128 ≤ n ∧ n ≤ 127 := by
  simp only [Lit.wf, Bool.and_eq_true, decide_eq_true_eq] at h
  have h1 : IntKind.i8.min = -128 := rfl
  have h2 : IntKind.i8.max = 127 := rfl
  omega
theorem PortLong : rillmeterlaw08_PortLong.Pure := by
  intro n hn
  have hN := wf8 hn
  refine ⟨60, ?_⟩
  unfold rillmeterlaw08_PortLong.f
  have e1 : wrap64 n = n := w64 (by omega) (by omega)
  have e2 : wrap64 (65527 + n) = 65527 + n := w64 (by omega) (by omega)
  have e3 : wrap64 (65527 + n + 8) = 65527 + n + 8 := w64 (by omega) (by omega)
  rw [e1, e2, e3, if_pos (by omega), if_pos (by omega)]
  obtain ⟨m, hm⟩ : ∃ m : Nat, (65527 + n).toNat = m := ⟨_, rfl⟩
  have hs : (strOfNums (List.replicate (65527 + n).toNat 0)).size = m := by rw [strOfNums_size, List.length_replicate, hm]
  rw [udp_eq _ _ _ (by omega) _ (by omega), Option.bind_some]
  unfold udpS
  rw [hs]
  by_cases h : 65527 + n > 65527
  · have hc : ¬ (okPort 1 ∧ okPort 2 ∧ m ≤ 65527) := fun h => by have := h.2.2; omega
    rw [if_neg hc, if_pos h]
    simp only [mkB_toList, if_true]
    rw [L08.awake_eq _ (by omega)]; rfl
  · have hc : okPort 1 ∧ okPort 2 ∧ m ≤ 65527 := ⟨by decide, by decide, by omega⟩
    rw [if_pos hc, if_neg h]
    simp only [mkB_size, List.length_append, two_length, len, hs]
    rw [if_pos (by simp; omega), if_pos trivial, L08.awake_eq _ (by omega)]; rfl
end Go.Proofs.Ytocnbpbbmleahaa.Pure
