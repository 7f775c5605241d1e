import Derived.Test.YtnoieleoklpciaaGreatDoorFacts2
set_option linter.unusedVariables false
set_option linter.unusedSimpArgs false
namespace Go.Proofs.YtnoieleoklpciaaGreatDoor
open Go
theorem fabricRefuses_n10 : (Rows.fabricRefusesRow.inPlace == Tryz.prog.inPlace 3) = true := by kernel_rfl
theorem fabricRefuses_n11 : (Rows.fabricRefusesRow.unfollowed == Tryz.prog.unfollowed 3) = true := by kernel_rfl
theorem fabricRefuses_n12 : (Rows.fabricRefusesRow.recurses == Tryz.prog.recurses 3) = true := by kernel_rfl
theorem fabricRefuses_n13 : (Rows.fabricRefusesRow.named == Tryz.prog.varsNamed 3) = true := by kernel_rfl
theorem fabricRefuses_n5 : namedTie Tryz.prog Rows.fabricRefusesRow.named Rows.fabricRefusesSpec.vars = true := by kernel_rfl
theorem fabricRefuses_facts : joinedFacts Tryz.prog 3 Tryz.f3 Rows.fabricRefusesSpec Rows.fabricRefusesRow = true :=
  joinedFacts_of (by kernel_rfl) pf1 pf2 (by kernel_rfl) fabricRefuses_n5 (by kernel_rfl) pf3 (by kernel_rfl) pf4 fabricRefuses_n10 fabricRefuses_n11 fabricRefuses_n12 fabricRefuses_n13 (by kernel_rfl) (by kernel_rfl) (by kernel_rfl) (by kernel_rfl) (by kernel_rfl) (by kernel_rfl) (by kernel_rfl) (by kernel_rfl) (by kernel_rfl)
    pf8 (by kernel_rfl) pf5 pf6 pf7 pf9 (by kernel_rfl) (by kernel_rfl) (by kernel_rfl) (by kernel_rfl)
theorem fabricRefuses_instance : Tryz.f3.isInstance Tryz.prog Rows.fabricRefusesRow.origin Rows.fabricRefusesRow.targs := of_decide_eq_true (by kernel_rfl)
theorem fabricRefuses_wrapper : Tryz.f3.isWrapper Tryz.prog Rows.fabricRefusesRow.wrapper Rows.fabricRefusesRow.mainSum := by unfold Func.isWrapper; first | (rw [if_pos (by decide +kernel)]; kernel_rfl) | (rw [if_neg (by decide +kernel)]; exact ⟨rfl, rfl⟩)
end Go.Proofs.YtnoieleoklpciaaGreatDoor
