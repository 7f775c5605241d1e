import Derived.Test.YtlenplmbdclkbaaGreatFacts2
namespace Go.Proofs.YtlenplmbdclkbaaGreat
open Go
theorem collectNone_n10 : (Rows.collectNoneRow.inPlace == Tryz.prog.inPlace 6) = true := by kernel_rfl
theorem collectNone_n11 : (Rows.collectNoneRow.unfollowed == Tryz.prog.unfollowed 6) = true := by kernel_rfl
theorem collectNone_n12 : (Rows.collectNoneRow.recurses == Tryz.prog.recurses 6) = true := by kernel_rfl
theorem collectNone_n13 : (Rows.collectNoneRow.named == Tryz.prog.varsNamed 6) = true := by kernel_rfl
theorem collectNone_n5 : namedTie Tryz.prog Rows.collectNoneRow.named Rows.collectNoneSpec.vars = true := by kernel_rfl
theorem collectNone_facts : joinedFacts Tryz.prog 6 Tryz.f6 Rows.collectNoneSpec Rows.collectNoneRow = true :=
  joinedFacts_of (by kernel_rfl) pf1 pf2 (by kernel_rfl) collectNone_n5 (by kernel_rfl) pf3 (by kernel_rfl) pf4 collectNone_n10 collectNone_n11 collectNone_n12 collectNone_n13 (by kernel_rfl) (by kernel_rfl) (by kernel_rfl) (by kernel_rfl) (by kernel_rfl) (by kernel_rfl) (by kernel_rfl) (by kernel_rfl) (by kernel_rfl)
    pf8 (by kernel_rfl) pf5 pf6 pf7 pf9 (by kernel_rfl) (by kernel_rfl) (by kernel_rfl) (by kernel_rfl)
theorem collectNone_instance : Tryz.f6.isInstance Tryz.prog Rows.collectNoneRow.origin Rows.collectNoneRow.targs := of_decide_eq_true (by kernel_rfl)
theorem collectNone_wrapper : Tryz.f6.isWrapper Tryz.prog Rows.collectNoneRow.wrapper Rows.collectNoneRow.mainSum := by unfold Func.isWrapper; first | (rw [if_pos (by decide +kernel)]; kernel_rfl) | (rw [if_neg (by decide +kernel)]; exact ⟨rfl, rfl⟩)
end Go.Proofs.YtlenplmbdclkbaaGreat
