import Derived.Test.YtggjhmhjjghncaaGreatFacts2
namespace Go.Proofs.YtggjhmhjjghncaaGreat
open Go
theorem collectWrites_n10 : (Rows.collectWritesRow.inPlace == Tryz.prog.inPlace 3) = true := by kernel_rfl
theorem collectWrites_n11 : (Rows.collectWritesRow.unfollowed == Tryz.prog.unfollowed 3) = true := by kernel_rfl
theorem collectWrites_n12 : (Rows.collectWritesRow.recurses == Tryz.prog.recurses 3) = true := by kernel_rfl
theorem collectWrites_n13 : (Rows.collectWritesRow.named == Tryz.prog.varsNamed 3) = true := by kernel_rfl
theorem collectWrites_n5 : namedTie Tryz.prog Rows.collectWritesRow.named Rows.collectWritesSpec.vars = true := by kernel_rfl
theorem collectWrites_facts : joinedFacts Tryz.prog 3 Tryz.f3 Rows.collectWritesSpec Rows.collectWritesRow = true :=
  joinedFacts_of (by kernel_rfl) pf1 pf2 (by kernel_rfl) collectWrites_n5 (by kernel_rfl) pf3 (by kernel_rfl) pf4 collectWrites_n10 collectWrites_n11 collectWrites_n12 collectWrites_n13 (by kernel_rfl) (by kernel_rfl) (by kernel_rfl) (by kernel_rfl) (by kernel_rfl) (by kernel_rfl) (by kernel_rfl) (by kernel_rfl) (by kernel_rfl)
    pf8 (by kernel_rfl) pf5 pf6 pf7 pf9 (by kernel_rfl) (by kernel_rfl) (by kernel_rfl) (by kernel_rfl)
theorem collectWrites_instance : Tryz.f3.isInstance Tryz.prog Rows.collectWritesRow.origin Rows.collectWritesRow.targs := of_decide_eq_true (by kernel_rfl)
theorem collectWrites_wrapper : Tryz.f3.isWrapper Tryz.prog Rows.collectWritesRow.wrapper Rows.collectWritesRow.mainSum := by unfold Func.isWrapper; first | (rw [if_pos (by decide +kernel)]; kernel_rfl) | (rw [if_neg (by decide +kernel)]; exact ⟨rfl, rfl⟩)
end Go.Proofs.YtggjhmhjjghncaaGreat
