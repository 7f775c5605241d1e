/- A segment or datagram that ends within its head is refused. Conditions: none beyond the statement's own. -/
import Derived.Test.YtocnbpbbmleahaaL08
import Derived.Test.YtocnbpbbmleahaaQx12
namespace Go.Proofs.Ytocnbpbbmleahaa.Pure
open Go Go.RowKit Go.Proofs.Ytocnbpbbmleahaa.Q Go.Proofs.Ytocnbpbbmleahaa.Base Go.Proofs.Ytocnbpbbmleahaa.L08 Go.Proofs.YtocnbpbbmleahaaW.PrintWords Go.Proofs.YtocnbpbbmleahaaW.PrintMore
set_option linter.unusedVariables false
set_option linter.unusedSimpArgs false
theorem PortShort : rillmeterlaw08_PortShort.Pure := by
  intro p s c _ hs hc
  have hC := wf64 hc
  refine ⟨61, ?_⟩
  have skip : rillmeterlaw08_PortShort.j0 61 p s c true = some true := by
    rw [show (61 : Nat) = 60 + 1 from rfl]
    simp only [rillmeterlaw08_PortShort.j0, if_true]
    rw [L08.awake_eq _ (by omega)]; rfl
  unfold rillmeterlaw08_PortShort.f
  by_cases h : (s.size : Int) > 4096
  · rw [if_pos h, skip]
  rw [if_neg h]
  by_cases h0 : c < 0
  · rw [if_pos h0, skip]
  rw [if_neg h0]
  by_cases h1 : c > (s.size : Int)
  · rw [decide_eq_true h1, skip]
  rw [decide_eq_false h1, show (61 : Nat) = 60 + 1 from rfl]
  simp only [rillmeterlaw08_PortShort.j0, Bool.false_eq_true, if_false]
  rw [port_eq p s hs _ (by omega), Option.bind_some]
  by_cases he : (portS p s).2.2.2 = 0
  · rw [if_pos he]
    by_cases h7 : c > 7
    · rw [if_pos h7, L08.awake_eq _ (by omega)]; rfl
    · rw [if_neg h7, if_pos (by omega), if_pos (by omega)]
      have hz : (s.extract 0 c.toNat).size < 8 := by rw [ByteArray.size_extract]; omega
      have hb : portS p (s.extract 0 c.toNat) = bad := by
        unfold portS
        by_cases h6 : p = 6
        · rw [if_pos h6, if_pos (by omega)]
        · by_cases h17 : p = 17
          · rw [if_neg h6, if_pos h17, if_pos hz]
          · exfalso
            unfold portS at he
            rw [if_neg h6, if_neg h17] at he
            exact absurd he (by decide)
      rw [port_eq p _ (by omega) _ (by omega), Option.bind_some, hb]
      unfold bad
      simp only [mkB_toList, if_true]
      rw [L08.awake_eq _ (by omega)]; rfl
  · rw [if_neg he]
    have hb : (portS p s).2.2.1 = mkB [] := by
      unfold portS at he ⊢
      by_cases h6 : p = 6
      · rw [if_pos h6] at he ⊢
        by_cases a : s.size < 20
        · rw [if_pos a]; rfl
        · rw [if_neg a] at he ⊢
          by_cases b : 4 * (bt s 12 / 16) < 20 ∨ (s.size : Int) < 4 * (bt s 12 / 16)
          · rw [if_pos b]; rfl
          · rw [if_neg b] at he; exact absurd rfl he
      · rw [if_neg h6] at he ⊢
        by_cases h17 : p = 17
        · rw [if_pos h17] at he ⊢
          by_cases a : s.size < 8
          · rw [if_pos a]; rfl
          · rw [if_neg a] at he ⊢
            by_cases b : at_ s 4 6 < 8 ∨ s.size < at_ s 4 6
            · rw [if_pos b]; rfl
            · rw [if_neg b] at he; exact absurd rfl he
        · rw [if_neg h17]
    rw [hb, mkB_toList, if_pos rfl, L08.awake_eq _ (by omega)]; rfl
end Go.Proofs.Ytocnbpbbmleahaa.Pure
