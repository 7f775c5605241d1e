/- The number, or the piece, at the beginning of any bytes is told as the reference says, or refused. Conditions: none beyond the statement's own. -/
import Derived.Test.YthkehnnnpohpcaaL04
import Derived.Test.YthkehnnnpohpcaaQx10
namespace Go.Proofs.Ythkehnnnpohpcaa.Pure
open Go Go.RowKit Go.Proofs.Ythkehnnnpohpcaa.Q Go.Proofs.Ythkehnnnpohpcaa.Base Go.Proofs.Ythkehnnnpohpcaa.L04 Go.Proofs.YthkehnnnpohpcaaW.PrintWords Go.Proofs.YthkehnnnpohpcaaW.PrintMore
set_option linter.unusedVariables false
set_option linter.unusedSimpArgs false
theorem OctetTakes : rillmeterlaw04_OctetTakes.Pure := by
  intro s b _ hb
  have hB := wf64 hb
  refine ⟨60, ?_⟩
  unfold rillmeterlaw04_OctetTakes.f
  by_cases h : (s.size : Int) > 4096
  · rw [if_pos h, awake_eq _ (by omega)]; rfl
  rw [if_neg h, take_eq s b _ (by omega), Option.bind_some, cut_eq, Option.bind_some]
  by_cases h0 : b < 0
  · have e1 : takeS s b = (0, mkB [], 1) := by unfold takeS; rw [if_pos (by omega)]
    have e2 : cutS s b = (mkB [], mkB [], 1) := by unfold cutS; rw [if_pos h0]
    rw [if_pos h0, e1, e2]
    simp only [mkB_toList, if_true]
    rw [awake_eq _ (by omega)]; rfl
  rw [if_neg h0]
  by_cases h1 : b > (s.size : Int)
  · have e2 : cutS s b = (mkB [], mkB [], 2) := by unfold cutS; rw [if_neg h0, if_pos (by omega)]
    rw [if_pos h1, e2]
    by_cases h7 : b > 7
    · have e1 : takeS s b = (0, mkB [], 1) := by unfold takeS; rw [if_pos (by omega)]
      rw [e1, decide_eq_true h7]
      simp only [mkB_toList, if_true]
      rw [if_neg (by decide), if_pos h7, if_pos (by decide), awake_eq _ (by omega)]; rfl
    · have e1 : takeS s b = (0, mkB [], 2) := by
        unfold takeS
        rw [if_neg (by omega), if_pos (by omega)]
      rw [e1, decide_eq_false h7]
      simp only [mkB_toList, if_true]
      rw [if_pos (by decide), awake_eq _ (by omega)]; rfl
  rw [if_neg h1, if_pos (by omega), if_pos (by omega)]
  have e2 : cutS s b = (s.extract 0 b.toNat, s.extract b.toNat s.size, 0) := by unfold cutS; rw [if_neg h0, if_neg (by omega)]
  rw [e2]
  simp only [if_true]
  rw [show ((0 : Int) != 0) = false from rfl, show (60 : Nat) = 59 + 1 from rfl]
  simp only [rillmeterlaw04_OctetTakes.j0, Bool.false_eq_true, if_false]
  by_cases hr : b < 1 ∨ 7 < b
  · have e1 : takeS s b = (0, mkB [], 1) := by unfold takeS; rw [if_pos hr]
    rw [e1]
    have ej : rillmeterlaw04_OctetTakes.j1 59 0 (mkB []) 1 (s.extract 0 b.toNat) (s.extract b.toNat s.size) true = some true := by
      rw [show (59 : Nat) = 58 + 1 from rfl]
      simp only [rillmeterlaw04_OctetTakes.j1, if_true, mkB_toList]
      rw [awake_eq _ (by omega)]; rfl
    by_cases hr1 : b < 1
    · rw [if_pos hr1]; exact ej
    · rw [if_neg hr1, decide_eq_true (show b > 7 by omega)]; exact ej
  · have e1 : takeS s b = ((num (s.data.toList.take b.toNat) : Int), s.extract b.toNat s.size, 0) := by unfold takeS; rw [if_neg hr, if_neg (by omega)]
    rw [e1, if_neg (show ¬ b < 1 by omega), decide_eq_false (show ¬ b > 7 by omega)]
    rw [show (59 : Nat) = 58 + 1 from rfl]
    simp only [rillmeterlaw04_OctetTakes.j1, Bool.false_eq_true, if_false]
    have hz : (s.extract 0 b.toNat).size ≤ 7 := by rw [ByteArray.size_extract]; omega
    rw [number_eq _ hz _ (by omega), Option.bind_some]
    have e : (s.extract 0 b.toNat).data.toList = s.data.toList.take b.toNat := by
      have := mkB_extract s.data.toList 0 b.toNat
      rw [mkB_eta] at this
      rw [this, mkB_data]; simp
    rw [e]
    simp only [if_true]
    rw [awake_eq _ (by omega)]; rfl
end Go.Proofs.Ythkehnnnpohpcaa.Pure
