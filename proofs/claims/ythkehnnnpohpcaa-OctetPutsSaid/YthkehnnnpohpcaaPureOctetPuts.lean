/- Any number in any number of bytes is written as the reference says, or refused, and taken back. Conditions: none beyond the statement's own. -/
import Derived.Test.YthkehnnnpohpcaaL04
import Derived.Test.YthkehnnnpohpcaaQx8
namespace Go.Proofs.Ythkehnnnpohpcaa.Pure
open Go Go.RowKit Go.Proofs.Ythkehnnnpohpcaa.Q Go.Proofs.Ythkehnnnpohpcaa.Base Go.Proofs.Ythkehnnnpohpcaa.L04 Go.Proofs.YthkehnnnpohpcaaW.PrintWords Go.Proofs.YthkehnnnpohpcaaW.PrintMore
set_option linter.unusedVariables false
set_option linter.unusedSimpArgs false
theorem OctetPuts : rillmeterlaw04_OctetPuts.Pure := by
  intro a b ha hb
  have hA := wf64 ha
  have hB := wf64 hb
  refine ⟨40, ?_⟩
  unfold rillmeterlaw04_OctetPuts.f
  rw [put_eq a b _ (by omega), Option.bind_some, refput_eq a b (by omega) _ (by omega), Option.bind_some]
  by_cases h : b < 1 ∨ 7 < b ∨ a < 0 ∨ (256 ^ b.toNat : Int) ≤ a
  · have e : putS a b = (mkB [], 1) := by unfold putS; rw [if_pos h]
    rw [e]
    have : ¬ (decide ((1 : Int) = 0) = true) := by decide
    rw [if_neg this, mkB_toList, if_pos rfl, if_pos rfl, awake_eq _ (by omega)]; rfl
  · have e : putS a b = (mkB (enc a.toNat b.toNat), 0) := by unfold putS; rw [if_neg h]
    have h1 : 1 ≤ b ∧ b ≤ 7 ∧ 0 ≤ a ∧ a < 256 ^ b.toNat := by omega
    have hl : (enc a.toNat b.toNat).length = b.toNat := enc_length _ _
    rw [e]
    have : decide ((0 : Int) = 0) = true := by decide
    rw [if_pos this, if_pos (by rw [mkB_size, hl]; omega), take_eq _ _ _ (by omega), Option.bind_some]
    have ez : (⟨#[120]⟩ : ByteArray) = mkB [120] := rfl
    have et : takeS (mkB (enc a.toNat b.toNat) ++ ⟨#[120]⟩) b = (a, mkB [120], 0) := by
      unfold takeS
      rw [ez, mkB_app, if_neg (by omega), if_neg (by rw [mkB_size, List.length_append, hl]; show ¬ ((b.toNat + 1 : Nat) : Int) < b; omega), mkB_data, mkB_extract, mkB_size]
      have e1 : (enc a.toNat b.toNat ++ [120]).take b.toNat = enc a.toNat b.toNat := List.take_left' hl
      have e2 : (enc a.toNat b.toNat ++ [120]).drop b.toNat = [120] := List.drop_left' hl
      rw [e1, e2, num_enc]
      have e3 : a.toNat % 256 ^ b.toNat = a.toNat := by
        apply Nat.mod_eq_of_lt
        have h4 : ((256 ^ b.toNat : Nat) : Int) = 256 ^ b.toNat := by simp
        omega
      rw [e3, List.length_append, hl]
      have e4 : (a.toNat : Int) = a := by omega
      rw [e4]
      simp
    rw [et, if_pos rfl, if_pos rfl, if_pos rfl, mkB_toList, if_pos rfl, if_pos rfl, awake_eq _ (by omega)]; rfl
end Go.Proofs.Ythkehnnnpohpcaa.Pure
