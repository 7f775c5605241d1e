import Derived.Test.YtkikpolmfaiabaaGreatDoorFacts2
namespace Go.Proofs.YtkikpolmfaiabaaGreatDoor
open Go
theorem meterClock_n10 : (Rows.meterClockRow.inPlace == Tryz.prog.inPlace 3) = true := by kernel_rfl
theorem meterClock_n11 : (Rows.meterClockRow.unfollowed == Tryz.prog.unfollowed 3) = true := by kernel_rfl
theorem meterClock_n12 : (Rows.meterClockRow.recurses == Tryz.prog.recurses 3) = true := by kernel_rfl
theorem meterClock_n13 : (Rows.meterClockRow.named == Tryz.prog.varsNamed 3) = true := by kernel_rfl
theorem meterClock_n5 : namedTie Tryz.prog Rows.meterClockRow.named Rows.meterClockSpec.vars = true := by kernel_rfl
theorem meterClock_facts : joinedFacts Tryz.prog 3 Tryz.f3 Rows.meterClockSpec Rows.meterClockRow = true :=
  joinedFacts_of (by kernel_rfl) pf1 pf2 (by kernel_rfl) meterClock_n5 (by kernel_rfl) pf3 (by kernel_rfl) pf4 meterClock_n10 meterClock_n11 meterClock_n12 meterClock_n13 (by kernel_rfl) (by kernel_rfl) (by kernel_rfl) (by kernel_rfl) (by kernel_rfl) (by kernel_rfl) (by kernel_rfl) (by kernel_rfl) (by kernel_rfl)
    pf8 (by kernel_rfl) pf5 pf6 pf7 pf9 (by kernel_rfl) (by kernel_rfl) (by kernel_rfl) (by kernel_rfl)
theorem meterClock_instance : Tryz.f3.isInstance Tryz.prog Rows.meterClockRow.origin Rows.meterClockRow.targs := of_decide_eq_true (by kernel_rfl)
theorem meterClock_wrapper : Tryz.f3.isWrapper Tryz.prog Rows.meterClockRow.wrapper Rows.meterClockRow.mainSum := by unfold Func.isWrapper; first | (rw [if_pos (by decide +kernel)]; kernel_rfl) | (rw [if_neg (by decide +kernel)]; exact ⟨rfl, rfl⟩)
end Go.Proofs.YtkikpolmfaiabaaGreatDoor
