/- The sum of bytes does not hang on the order of two pieces of even length. Conditions: none beyond the statement's own. -/
import Derived.Test.YthkehnnnpohpcaaL04
import Derived.Test.YthkehnnnpohpcaaQx13
namespace Go.Proofs.Ythkehnnnpohpcaa.Pure
open Go Go.RowKit Go.Proofs.Ythkehnnnpohpcaa.Q Go.Proofs.Ythkehnnnpohpcaa.Base Go.Proofs.Ythkehnnnpohpcaa.L04 Go.Proofs.YthkehnnnpohpcaaW.PrintWords Go.Proofs.YthkehnnnpohpcaaW.PrintMore
set_option linter.unusedVariables false
set_option linter.unusedSimpArgs false
theorem OctetPairs : rillmeterlaw04_OctetPairs.Pure := by
  intro a b _ _
  refine ⟨a.size + b.size + 40, ?_⟩
  have skip : rillmeterlaw04_OctetPairs.j0 (a.size + b.size + 40) a b true = some true := by
    rw [show a.size + b.size + 40 = (a.size + b.size + 39) + 1 from rfl]
    simp only [rillmeterlaw04_OctetPairs.j0, if_true]
    rw [awake_eq _ (by omega)]; rfl
  unfold rillmeterlaw04_OctetPairs.f
  by_cases h : (a.size : Int) > 4096
  · rw [if_pos h, skip]
  rw [if_neg h]
  by_cases h1 : (b.size : Int) > 4096
  · rw [if_pos h1, skip]
  rw [if_neg h1]
  by_cases h2 : (a.size : Int) % 2 = 1
  · rw [if_pos h2, skip]
  rw [if_neg h2]
  by_cases h3 : (b.size : Int) % 2 = 1
  · rw [show (((b.size : Int) % 2) == 1) = true by simpa using h3, skip]
  rw [show (((b.size : Int) % 2) == 1) = false by simpa using h3]
  rw [show a.size + b.size + 40 = (a.size + b.size + 39) + 1 from rfl]
  simp only [rillmeterlaw04_OctetPairs.j0, Bool.false_eq_true, if_false]
  have app : ∀ x y : ByteArray, (x ++ y).data.toList = x.data.toList ++ y.data.toList := by
    intro x y
    conv => lhs; rw [← mkB_eta x, ← mkB_eta y, mkB_app]
    rfl
  rw [if_pos (by omega), sum_eq _ (by rw [ByteArray.size_append]; omega) _ (by rw [ByteArray.size_append]; omega), Option.bind_some]
  rw [if_pos (by omega), sum_eq _ (by rw [ByteArray.size_append]; omega) _ (by rw [ByteArray.size_append]; omega), Option.bind_some]
  have e : isum (a ++ b).data.toList = isum (b ++ a).data.toList := by
    rw [app, app]; unfold isum
    rw [wsum_even _ _ _ (by rw [len]; omega), wsum_even _ _ _ (by rw [len]; omega), Nat.add_comm]
  rw [if_pos (by rw [e]), awake_eq _ (by omega)]; rfl
end Go.Proofs.Ythkehnnnpohpcaa.Pure
