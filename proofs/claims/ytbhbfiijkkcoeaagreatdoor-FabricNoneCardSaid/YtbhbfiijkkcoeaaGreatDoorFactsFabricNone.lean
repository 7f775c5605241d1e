import Derived.Test.YtbhbfiijkkcoeaaGreatDoorFacts2
namespace Go.Proofs.YtbhbfiijkkcoeaaGreatDoor
open Go
theorem fabricNone_n10 : (Rows.fabricNoneRow.inPlace == Tryz.prog.inPlace 3) = true := by kernel_rfl
theorem fabricNone_n11 : (Rows.fabricNoneRow.unfollowed == Tryz.prog.unfollowed 3) = true := by kernel_rfl
theorem fabricNone_n12 : (Rows.fabricNoneRow.recurses == Tryz.prog.recurses 3) = true := by kernel_rfl
theorem fabricNone_n13 : (Rows.fabricNoneRow.named == Tryz.prog.varsNamed 3) = true := by kernel_rfl
theorem fabricNone_n5 : namedTie Tryz.prog Rows.fabricNoneRow.named Rows.fabricNoneSpec.vars = true := by kernel_rfl
theorem fabricNone_facts : joinedFacts Tryz.prog 3 Tryz.f3 Rows.fabricNoneSpec Rows.fabricNoneRow = true :=
  joinedFacts_of (by kernel_rfl) pf1 pf2 (by kernel_rfl) fabricNone_n5 (by kernel_rfl) pf3 (by kernel_rfl) pf4 fabricNone_n10 fabricNone_n11 fabricNone_n12 fabricNone_n13 (by kernel_rfl) (by kernel_rfl) (by kernel_rfl) (by kernel_rfl) (by kernel_rfl) (by kernel_rfl) (by kernel_rfl) (by kernel_rfl) (by kernel_rfl)
    pf8 (by kernel_rfl) pf5 pf6 pf7 pf9 (by kernel_rfl) (by kernel_rfl) (by kernel_rfl) (by kernel_rfl)
theorem fabricNone_instance : Tryz.f3.isInstance Tryz.prog Rows.fabricNoneRow.origin Rows.fabricNoneRow.targs := of_decide_eq_true (by kernel_rfl)
theorem fabricNone_wrapper : Tryz.f3.isWrapper Tryz.prog Rows.fabricNoneRow.wrapper Rows.fabricNoneRow.mainSum := by unfold Func.isWrapper; first | (rw [if_pos (by decide +kernel)]; kernel_rfl) | (rw [if_neg (by decide +kernel)]; exact ⟨rfl, rfl⟩)
end Go.Proofs.YtbhbfiijkkcoeaaGreatDoor
