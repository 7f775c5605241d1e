/- A part of the proof that a bank of any config is told as the document says. -/
import Derived.Test.YtjfgdcegpgoobaaGreatDoorFacts
set_option linter.unusedVariables false
namespace Go.Proofs.YtjfgdcegpgoobaaGreatDoor
open Go
theorem bankNews_n10:(Rows.bankNewsRow.inPlace == Tryz.prog.inPlace 3) = true:=by kernel_rfl
theorem bankNews_n11:(Rows.bankNewsRow.unfollowed == Tryz.prog.unfollowed 3) = true:=by kernel_rfl
theorem bankNews_n12:(Rows.bankNewsRow.recurses == Tryz.prog.recurses 3) = true:=by kernel_rfl
theorem bankNews_n13:(Rows.bankNewsRow.named == Tryz.prog.varsNamed 3) = true:=by kernel_rfl
theorem bankNews_n5:namedTie Tryz.prog Rows.bankNewsRow.named Rows.bankNewsSpec.vars = true:=by kernel_rfl
theorem bankNews_facts:joinedFacts Tryz.prog 3 Tryz.f3 Rows.bankNewsSpec Rows.bankNewsRow = true:=
  joinedFacts_of (by kernel_rfl) pf1 pf2 (by kernel_rfl) bankNews_n5 (by kernel_rfl) pf3 (by kernel_rfl) pf4 bankNews_n10 bankNews_n11 bankNews_n12 bankNews_n13 (by kernel_rfl) (by kernel_rfl) (by kernel_rfl) (by kernel_rfl) (by kernel_rfl) (by kernel_rfl) (by kernel_rfl) (by kernel_rfl) (by kernel_rfl)
    pf8 (by kernel_rfl) pf5 pf6 pf7 pf9 (by kernel_rfl) (by kernel_rfl) (by kernel_rfl) (by kernel_rfl)
theorem bankNews_instance:Tryz.f3.isInstance Tryz.prog Rows.bankNewsRow.origin Rows.bankNewsRow.targs:=of_decide_eq_true (by kernel_rfl)
theorem bankNews_wrapper:Tryz.f3.isWrapper Tryz.prog Rows.bankNewsRow.wrapper Rows.bankNewsRow.mainSum:=by unfold Func.isWrapper; first | (rw [if_pos (by decide +kernel)]; kernel_rfl) | (rw [if_neg (by decide +kernel)]; exact ⟨rfl,rfl⟩)
end Go.Proofs.YtjfgdcegpgoobaaGreatDoor
