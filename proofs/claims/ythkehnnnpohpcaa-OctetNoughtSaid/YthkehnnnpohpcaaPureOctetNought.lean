/- Bytes of an even number, with their sum behind, have the sum 0. Conditions: none beyond the statement's own. -/
import Derived.Test.YthkehnnnpohpcaaL04
import Derived.Test.YthkehnnnpohpcaaQx12
namespace Go.Proofs.Ythkehnnnpohpcaa.Pure
open Go Go.RowKit Go.Proofs.Ythkehnnnpohpcaa.Q Go.Proofs.Ythkehnnnpohpcaa.Base Go.Proofs.Ythkehnnnpohpcaa.L04 Go.Proofs.YthkehnnnpohpcaaW.PrintWords Go.Proofs.YthkehnnnpohpcaaW.PrintMore
set_option linter.unusedVariables false
set_option linter.unusedSimpArgs false
theorem put_two (n : Nat) (h : n ≤ 65535) : putS (n : Int) 2 = (mkB (enc n 2), 0) := by
  unfold putS
  rw [if_neg (by simp only [show (2 : Int).toNat = 2 from rfl]; omega)]; rfl
theorem OctetNought : rillmeterlaw04_OctetNought.Pure := by
  intro a _
  refine ⟨a.size + 40, ?_⟩
  have skip : rillmeterlaw04_OctetNought.j0 (a.size + 40) a true = some true := by
    rw [show a.size + 40 = (a.size + 39) + 1 from rfl]
    simp only [rillmeterlaw04_OctetNought.j0, if_true]
    rw [awake_eq _ (by omega)]; rfl
  unfold rillmeterlaw04_OctetNought.f
  by_cases h : (a.size : Int) > 4096
  · rw [if_pos h, skip]
  · rw [if_neg h]
    by_cases h2 : (a.size : Int) % 2 = 1
    · rw [show (((a.size : Int) % 2) == 1) = true by simpa using h2, skip]
    · rw [show (((a.size : Int) % 2) == 1) = false by simpa using h2]
      rw [show a.size + 40 = (a.size + 39) + 1 from rfl]
      simp only [rillmeterlaw04_OctetNought.j0, Bool.false_eq_true, if_false]
      have hi := isum_le a.data.toList
      have hl : (enc (isum a.data.toList) 2).length = 2 := enc_length _ _
      rw [sum_eq a (by omega) _ (by omega), Option.bind_some, put_eq _ _ _ (by omega), Option.bind_some, put_two _ hi]
      simp only [if_true]
      have hs : (a ++ mkB (enc (isum a.data.toList) 2)).size = a.size + 2 := by rw [ByteArray.size_append, mkB_size, hl]
      rw [if_pos (by rw [mkB_size, hl]; omega), sum_eq _ (by omega) _ (by omega), Option.bind_some]
      have e : isum (a ++ mkB (enc (isum a.data.toList) 2)).data.toList = 0 := by
        have e1 : (a ++ mkB (enc (isum a.data.toList) 2)).data.toList = a.data.toList ++ enc (isum a.data.toList) 2 := by
          conv => lhs; rw [← mkB_eta a, mkB_app]
          simp [mkB_eta, mkB]
        rw [e1]
        have hev : a.data.toList.length % 2 = 0 := by rw [len]; omega
        have e2 : wsum true (enc (isum a.data.toList) 2) = isum a.data.toList := by
          have := num_enc (isum a.data.toList) 2
          simp only [enc, List.nil_append, List.singleton_append, List.append_assoc, num, wsum, List.length_cons, List.length_nil, ofNat_mod] at this ⊢
          omega
        unfold isum at *
        rw [wsum_even _ _ _ hev, e2]
        have hf : ∀ W, fold (W + (65535 - fold W)) = 65535 := by
          intro W; unfold fold
          by_cases h0 : W = 0
          · subst h0; rfl
          · rw [if_neg h0, if_neg (by omega)]; omega
        rw [hf]
      rw [e, if_pos (by rfl), awake_eq _ (by omega)]; rfl
end Go.Proofs.Ythkehnnnpohpcaa.Pure
