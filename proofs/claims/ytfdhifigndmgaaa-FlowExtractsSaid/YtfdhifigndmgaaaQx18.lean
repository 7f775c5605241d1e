-- made by a program of this session (wip/print-patch.py, over the kit's print)
import Derived.Test.YtfdhifigndmgaaaQx0
namespace Go.Proofs.Ytfdhifigndmgaaa.Q
open Go.RowKit Go.Proofs.YtfdhifigndmgaaaW.PrintWords Go.Proofs.YtfdhifigndmgaaaW.PrintLast Go.Proofs.YtfdhifigndmgaaaW.PrintMore
attribute [local go_sem] max2_int min2_int max_two min_two max_three min_three max_four min_four   -- for this text's walks alone
set_option linter.unusedVariables false
set_option linter.unusedSimpArgs false

attribute [local go_sem] cell_twice_ cell_twiceN_
/-! ### rillmeterref05_tag: function 44 -/
def rillmeterref05_tag.f (a0 : Int) : Option (Bool) := if a0 = 33024 then (some true) else (some (a0 == 34984))
set_option maxHeartbeats 8000000 in
set_option maxRecDepth 100000 in
theorem rillmeterref05_tag.calls (a0 : Int) (r : Bool) (w : World) (h : rillmeterref05_tag.f a0 = some r) :
  Calls Try.prog 44 #[.int .i64 a0] w fun e w' => e = .returned (.bool r) ∧ Drawn0 w w' := by
 have H : (if a0 = 33024 then (some true) else (some (a0 == 34984))) = some r := h
 clear h
 by_cases c2 : a0 = 33024
 ·rw [if_pos c2] at H
  have c2b0 : (a0 == 33024) = true := beq_iff_eq.mpr c2
  have c2b1 : (a0 != 33024) = false := bne_eq_false_iff_eq.mpr c2
  clear c2
  obtain rfl := Option.some.inj H
  go_enter Try.func44, Try.ntmps44
  go_wp2
  go_ret
  exact ⟨by first | rfl | (simp; done) | (simp [*]; done), by repeat (first | exact Drawn0.refl _ | apply Drawn0.step)⟩
 ·rw [if_neg c2] at H
  have c2b0 : (a0 == 33024) = false := beq_eq_false_iff_ne.mpr c2
  have c2b1 : (a0 != 33024) = true := bne_iff_ne.mpr c2
  obtain rfl := Option.some.inj H
  go_enter Try.func44, Try.ntmps44
  go_wp2
  go_ret
  exact ⟨by first | rfl | (simp; done) | (simp [*]; done), by repeat (first | exact Drawn0.refl _ | apply Drawn0.step)⟩
end Go.Proofs.Ytfdhifigndmgaaa.Q
