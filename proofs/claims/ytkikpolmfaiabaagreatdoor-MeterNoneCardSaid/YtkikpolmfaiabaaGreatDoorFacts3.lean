import Derived.Test.YtkikpolmfaiabaaGreatDoorFacts2
namespace Go.Proofs.YtkikpolmfaiabaaGreatDoor
open Go
theorem pf9 : (Tryz.prog.make == some .cut) = true := by kernel_rfl
theorem n10 : (Rows.meterNoneRow.inPlace == Tryz.prog.inPlace 7) = true := by kernel_rfl
theorem n11 : (Rows.meterNoneRow.unfollowed == Tryz.prog.unfollowed 7) = true := by kernel_rfl
theorem n12 : (Rows.meterNoneRow.recurses == Tryz.prog.recurses 7) = true := by kernel_rfl
theorem n13 : (Rows.meterNoneRow.named == Tryz.prog.varsNamed 7) = true := by kernel_rfl
theorem n5 : namedTie Tryz.prog Rows.meterNoneRow.named Rows.meterNoneSpec.vars = true := by kernel_rfl
end Go.Proofs.YtkikpolmfaiabaaGreatDoor
