-- made by a program of this session (wip/print-patch.py, over the kit's print)
import Derived.Test.YtfdhifigndmgaaaQx0
import Derived.Test.YtfdhifigndmgaaaQx4
namespace Go.Proofs.Ytfdhifigndmgaaa.Q
open Go.RowKit Go.Proofs.YtfdhifigndmgaaaW.PrintWords Go.Proofs.YtfdhifigndmgaaaW.PrintLast Go.Proofs.YtfdhifigndmgaaaW.PrintMore
attribute [local go_sem] max2_int min2_int max_two min_two max_three min_three max_four min_four   -- for this text's walks alone
set_option linter.unusedVariables false
set_option linter.unusedSimpArgs false

attribute [local go_sem] cell_twice_ cell_twiceN_
/-! ### port_take: function 43 -/
def port_take.f (k : Nat) (a0 : ByteArray) (a1 : Int) : Option (Int) := if 0 ≤ a1 then (if a1 ≤ (a0.size : Int) then ((octet_Take.f k (a0.extract (a1 : Int).toNat a0.size) 2).bind fun bt101 => (some bt101.1)) else (none)) else (none)
theorem port_take.mono : ∀ a0 a1 k, LeO (port_take.f k a0 a1) (port_take.f (k + 1) a0 a1) := by
 intro a0 a1 k
 unfold port_take.f
 repeat' first
   | (with_reducible exact octet_Take.mono _ _ _)
   | (with_reducible exact LeO.refl _)
   | (with_reducible exact LeO.none _)
   | (with_reducible refine LeO.ite ?_ ?_)
   | (with_reducible refine LeO.bind ?_ (fun _ => ?_))
   | exact octet_Take.mono _ _ _
   | exact LeO.none _
   | refine LeO.ite ?_ ?_
   | refine LeO.bind ?_ (fun _ => ?_)
set_option maxHeartbeats 8000000 in
set_option maxRecDepth 100000 in
theorem port_take.calls (k : Nat) (a0 : ByteArray) (a1 : Int) (r : Int) (w : World) (h : port_take.f k a0 a1 = some r) :
  Calls Try.prog 43 #[.string a0, .int .i64 a1] w fun e w' => e = .returned (.int .i64 r) ∧ Below w.heap.size w w' := by
 have HB := Aside0.mk (Below.refl w.heap.size w)
 have H : (if 0 ≤ a1 then (if a1 ≤ (a0.size : Int) then ((octet_Take.f k (a0.extract (a1 : Int).toNat a0.size) 2).bind fun bt101 => (some bt101.1)) else (none)) else (none)) = some r := h
 clear h
 by_cases c3 : 0 ≤ a1
 rotate_left
 ·rw [if_neg c3] at H; exact absurd H (by simp)
 rw [if_pos c3] at H
 have c3b0 := eq_true c3
 have c3b1 : decide (0 ≤ a1) = true := decide_eq_true c3
 clear c3
 by_cases c4 : a1 ≤ (a0.size : Int)
 rotate_left
 ·rw [if_neg c4] at H; exact absurd H (by simp)
 rw [if_pos c4] at H
 have c4b0 := eq_true c4
 have c4b1 : decide (a1 ≤ (a0.size : Int)) = true := decide_eq_true c4
 clear c4
 replace H := Option.bind_eq_some_iff.mp H
 obtain ⟨⟨t101, t102, t103⟩, A50, H⟩ := H
 replace H : (some t101) = some r := H
 have A5 := Aside0.mk A50
 clear A50
 obtain rfl := Option.some.inj H
 go_enter Try.func43, Try.ntmps43
 go_wp2_with (first | ((with_reducible refine gate_callee (f := 25) rfl ?_); refine gL_ (some 12) rfl rfl Try.func25 (by kernel_rfl) rfl #[.string (a0.extract (a1 : Int).toNat a0.size), .int .i64 2] rfl ?_; (with_reducible refine (octet_Take.calls k (a0.extract (a1 : Int).toNat a0.size) 2 t101 t102 t103 _ A5.out).mono ?_); rintro e w6 ⟨rfl, hb⟩; refine ⟨_, rfl, ?_⟩; have n0_ := Aside0.mk (below_step (bU_ HB.out) hb); clear HB; have HB := n0_; clear n0_; (try clear hb); (try clear hb2); (try clear hk); (try clear hi)))
 go_ret
 exact rE_ (bU_ HB.out)
end Go.Proofs.Ytfdhifigndmgaaa.Q
