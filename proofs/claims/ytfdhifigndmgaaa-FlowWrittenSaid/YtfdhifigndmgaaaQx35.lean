-- made by a program of this session (wip/print-patch.py, over the kit's print)
import Derived.Test.YtfdhifigndmgaaaQx0
import Derived.Test.YtfdhifigndmgaaaQx2
import Derived.Test.YtfdhifigndmgaaaQx34
namespace Go.Proofs.Ytfdhifigndmgaaa.Q
open Go.RowKit Go.Proofs.YtfdhifigndmgaaaW.PrintWords Go.Proofs.YtfdhifigndmgaaaW.PrintLast Go.Proofs.YtfdhifigndmgaaaW.PrintMore
attribute [local go_sem] max2_int min2_int max_two min_two max_three min_three max_four min_four   -- for this text's walks alone
set_option linter.unusedVariables false
set_option linter.unusedSimpArgs false

attribute [local go_sem] cell_twice_ cell_twiceN_
/-! ### port_UDP: function 21 -/
def port_UDP.f (k : Nat) (a0 : Int) (a1 : Int) (a2 : ByteArray) : Option (ByteArray × Int) := (port_ports.f k a0 a1).bind fun bt101 => ((octet_Put.f k (wrap64 (8 + (a2.size : Int))) 2).bind fun bt103 => (if bt101.2 = 0 then (if bt103.2 = 0 then (if bt101.1.size + bt103.1.size ≤ 9223372036854775807 then (if (bt101.1 ++ bt103.1).size + 2 ≤ 9223372036854775807 then (if ((bt101.1 ++ bt103.1) ++ (⟨#[0, 0]⟩ : ByteArray)).size + a2.size ≤ 9223372036854775807 then (some (((bt101.1 ++ bt103.1) ++ (⟨#[0, 0]⟩ : ByteArray)) ++ a2, 0)) else (none)) else (none)) else (none)) else (some ((⟨#[]⟩ : ByteArray), 1))) else (some ((⟨#[]⟩ : ByteArray), 1))))
theorem port_UDP.mono : ∀ a0 a1 a2 k, LeO (port_UDP.f k a0 a1 a2) (port_UDP.f (k + 1) a0 a1 a2) := by
 intro a0 a1 a2 k
 unfold port_UDP.f
 repeat' first
   | (with_reducible exact octet_Put.mono _ _ _)
   | (with_reducible exact port_ports.mono _ _ _)
   | (with_reducible exact LeO.refl _)
   | (with_reducible exact LeO.none _)
   | (with_reducible refine LeO.ite ?_ ?_)
   | (with_reducible refine LeO.bind ?_ (fun _ => ?_))
   | exact octet_Put.mono _ _ _
   | exact port_ports.mono _ _ _
   | exact LeO.none _
   | refine LeO.ite ?_ ?_
   | refine LeO.bind ?_ (fun _ => ?_)
set_option maxHeartbeats 8000000 in
set_option maxRecDepth 100000 in
theorem port_UDP.calls (k : Nat) (a0 : Int) (a1 : Int) (a2 : ByteArray) (r1 : ByteArray) (r2 : Int) (w : World) (h : port_UDP.f k a0 a1 a2 = some (r1, r2)) :
  Calls Try.prog 21 #[.int .i64 a0, .int .i64 a1, .string a2] w fun e w' => e = .returned (.tuple #[.string r1, .int .i64 r2]) ∧ Below w.heap.size w w' := by
 have HB := Aside0.mk (Below.refl w.heap.size w)
 have H : ((port_ports.f k a0 a1).bind fun bt101 => ((octet_Put.f k (wrap64 (8 + (a2.size : Int))) 2).bind fun bt103 => (if bt101.2 = 0 then (if bt103.2 = 0 then (if bt101.1.size + bt103.1.size ≤ 9223372036854775807 then (if (bt101.1 ++ bt103.1).size + 2 ≤ 9223372036854775807 then (if ((bt101.1 ++ bt103.1) ++ (⟨#[0, 0]⟩ : ByteArray)).size + a2.size ≤ 9223372036854775807 then (some (((bt101.1 ++ bt103.1) ++ (⟨#[0, 0]⟩ : ByteArray)) ++ a2, 0)) else (none)) else (none)) else (none)) else (some ((⟨#[]⟩ : ByteArray), 1))) else (some ((⟨#[]⟩ : ByteArray), 1))))) = some (r1, r2) := h
 clear h
 replace H := Option.bind_eq_some_iff.mp H
 obtain ⟨⟨t101, t102⟩, A40, H⟩ := H
 replace H : ((octet_Put.f k (wrap64 (8 + (a2.size : Int))) 2).bind fun bt103 => (if t102 = 0 then (if bt103.2 = 0 then (if t101.size + bt103.1.size ≤ 9223372036854775807 then (if (t101 ++ bt103.1).size + 2 ≤ 9223372036854775807 then (if ((t101 ++ bt103.1) ++ (⟨#[0, 0]⟩ : ByteArray)).size + a2.size ≤ 9223372036854775807 then (some (((t101 ++ bt103.1) ++ (⟨#[0, 0]⟩ : ByteArray)) ++ a2, 0)) else (none)) else (none)) else (none)) else (some ((⟨#[]⟩ : ByteArray), 1))) else (some ((⟨#[]⟩ : ByteArray), 1)))) = some (r1, r2) := H
 have A4 := Aside0.mk A40
 clear A40
 replace H := Option.bind_eq_some_iff.mp H
 obtain ⟨⟨t103, t104⟩, A50, H⟩ := H
 replace H : (if t102 = 0 then (if t104 = 0 then (if t101.size + t103.size ≤ 9223372036854775807 then (if (t101 ++ t103).size + 2 ≤ 9223372036854775807 then (if ((t101 ++ t103) ++ (⟨#[0, 0]⟩ : ByteArray)).size + a2.size ≤ 9223372036854775807 then (some (((t101 ++ t103) ++ (⟨#[0, 0]⟩ : ByteArray)) ++ a2, 0)) else (none)) else (none)) else (none)) else (some ((⟨#[]⟩ : ByteArray), 1))) else (some ((⟨#[]⟩ : ByteArray), 1))) = some (r1, r2) := H
 have A5 := Aside0.mk A50
 clear A50
 by_cases c6 : t102 = 0
 ·rw [if_pos c6] at H
  have c6b0 : (t102 == 0) = true := beq_iff_eq.mpr c6
  have c6b1 : (t102 != 0) = false := bne_eq_false_iff_eq.mpr c6
  clear c6
  by_cases c7 : t104 = 0
  ·rw [if_pos c7] at H
   have c7b0 : (t104 == 0) = true := beq_iff_eq.mpr c7
   have c7b1 : (t104 != 0) = false := bne_eq_false_iff_eq.mpr c7
   clear c7
   by_cases c8 : t101.size + t103.size ≤ 9223372036854775807
   rotate_left
   ·rw [if_neg c8] at H
    exact absurd H (by simp)
   rw [if_pos c8] at H
   have c8b0 := eq_true c8
   have c8b1 : decide (t101.size + t103.size ≤ 9223372036854775807) = true := decide_eq_true c8
   try have c8b2 : (9223372036854775807 < t101.size + t103.size) = False := eq_false (Nat.not_lt.2 c8)
   try (have c8b3 := c8; simp only [ByteArray.size_append, ByteArray.size_extract, Nat.sub_zero, Nat.min_self] at c8b3; have c8b4 := eq_false (Nat.not_lt.2 c8b3))
   by_cases c9 : (t101 ++ t103).size + 2 ≤ 9223372036854775807
   rotate_left
   ·rw [if_neg c9] at H
    exact absurd H (by simp)
   rw [if_pos c9] at H
   have c9b0 := eq_true c9
   have c9b1 : decide ((t101 ++ t103).size + 2 ≤ 9223372036854775807) = true := decide_eq_true c9
   try have c9b2 : (9223372036854775807 < (t101 ++ t103).size + 2) = False := eq_false (Nat.not_lt.2 c9)
   try (have c9b3 := c9; simp only [ByteArray.size_append, ByteArray.size_extract, Nat.sub_zero, Nat.min_self] at c9b3; have c9b4 := eq_false (Nat.not_lt.2 c9b3))
   by_cases c10 : ((t101 ++ t103) ++ (⟨#[0, 0]⟩ : ByteArray)).size + a2.size ≤ 9223372036854775807
   rotate_left
   ·rw [if_neg c10] at H
    exact absurd H (by simp)
   rw [if_pos c10] at H
   have c10b0 := eq_true c10
   have c10b1 : decide (((t101 ++ t103) ++ (⟨#[0, 0]⟩ : ByteArray)).size + a2.size ≤ 9223372036854775807) = true := decide_eq_true c10
   try have c10b2 : (9223372036854775807 < ((t101 ++ t103) ++ (⟨#[0, 0]⟩ : ByteArray)).size + a2.size) = False := eq_false (Nat.not_lt.2 c10)
   try (have c10b3 := c10; simp only [ByteArray.size_append, ByteArray.size_extract, Nat.sub_zero, Nat.min_self, show (⟨#[0, 0]⟩ : ByteArray).size = 2 from rfl] at c10b3; have c10b4 := eq_false (Nat.not_lt.2 c10b3))
   simp only [Option.some.injEq, Prod.mk.injEq] at H
   obtain ⟨rfl, rfl⟩ := H
   go_enter Try.func21, Try.ntmps21
   go_wp2_with (first | ((with_reducible refine gate_callee (f := 35) rfl ?_); refine gL_ (some 15) rfl rfl Try.func35 (by kernel_rfl) rfl #[.int .i64 a0, .int .i64 a1] rfl ?_; (with_reducible refine (port_ports.calls k a0 a1 t101 t102 _ A4.out).mono ?_); rintro e w11 ⟨rfl, hb⟩; refine ⟨_, rfl, ?_⟩; have n0_ := Aside0.mk (below_step (bU_ HB.out) hb); clear HB; have HB := n0_; clear n0_; (try clear hb); (try clear hb2); (try clear hk); (try clear hi)) | ((with_reducible refine gate_callee (f := 24) rfl ?_); refine gL_ (some 22) rfl rfl Try.func24 (by kernel_rfl) rfl #[.int .i64 (wrap64 (8 + (a2.size : Int))), .int .i64 2] rfl ?_; (with_reducible refine (octet_Put.calls k (wrap64 (8 + (a2.size : Int))) 2 t103 t104 _ A5.out).mono ?_); rintro e w12 ⟨rfl, hb⟩; refine ⟨_, rfl, ?_⟩; have n0_ := Aside0.mk (below_step (bU_ HB.out) hb); clear HB; have HB := n0_; clear n0_; (try clear hb); (try clear hb2); (try clear hk); (try clear hi)))
   go_ret2
   exact ⟨by first | rfl | (simp [errW_none, errW_some] <;> rfl) | (simp [*, errW_none, errW_some] <;> rfl), bU_ HB.out⟩
  ·rw [if_neg c7] at H
   have c7b0 : (t104 == 0) = false := beq_eq_false_iff_ne.mpr c7
   have c7b1 : (t104 != 0) = true := bne_iff_ne.mpr c7
   simp only [Option.some.injEq, Prod.mk.injEq] at H
   obtain ⟨rfl, rfl⟩ := H
   go_enter Try.func21, Try.ntmps21
   go_wp2_with (first | ((with_reducible refine gate_callee (f := 35) rfl ?_); refine gL_ (some 15) rfl rfl Try.func35 (by kernel_rfl) rfl #[.int .i64 a0, .int .i64 a1] rfl ?_; (with_reducible refine (port_ports.calls k a0 a1 t101 t102 _ A4.out).mono ?_); rintro e w13 ⟨rfl, hb⟩; refine ⟨_, rfl, ?_⟩; have n0_ := Aside0.mk (below_step (bU_ HB.out) hb); clear HB; have HB := n0_; clear n0_; (try clear hb); (try clear hb2); (try clear hk); (try clear hi)) | ((with_reducible refine gate_callee (f := 24) rfl ?_); refine gL_ (some 22) rfl rfl Try.func24 (by kernel_rfl) rfl #[.int .i64 (wrap64 (8 + (a2.size : Int))), .int .i64 2] rfl ?_; (with_reducible refine (octet_Put.calls k (wrap64 (8 + (a2.size : Int))) 2 t103 t104 _ A5.out).mono ?_); rintro e w14 ⟨rfl, hb⟩; refine ⟨_, rfl, ?_⟩; have n0_ := Aside0.mk (below_step (bU_ HB.out) hb); clear HB; have HB := n0_; clear n0_; (try clear hb); (try clear hb2); (try clear hk); (try clear hi)))
   go_ret2
   exact ⟨by first | rfl | (simp [errW_none, errW_some] <;> rfl) | (simp [*, errW_none, errW_some] <;> rfl), bU_ HB.out⟩
 ·rw [if_neg c6] at H
  have c6b0 : (t102 == 0) = false := beq_eq_false_iff_ne.mpr c6
  have c6b1 : (t102 != 0) = true := bne_iff_ne.mpr c6
  simp only [Option.some.injEq, Prod.mk.injEq] at H
  obtain ⟨rfl, rfl⟩ := H
  go_enter Try.func21, Try.ntmps21
  go_wp2_with (first | ((with_reducible refine gate_callee (f := 35) rfl ?_); refine gL_ (some 15) rfl rfl Try.func35 (by kernel_rfl) rfl #[.int .i64 a0, .int .i64 a1] rfl ?_; (with_reducible refine (port_ports.calls k a0 a1 t101 t102 _ A4.out).mono ?_); rintro e w15 ⟨rfl, hb⟩; refine ⟨_, rfl, ?_⟩; have n0_ := Aside0.mk (below_step (bU_ HB.out) hb); clear HB; have HB := n0_; clear n0_; (try clear hb); (try clear hb2); (try clear hk); (try clear hi)) | ((with_reducible refine gate_callee (f := 24) rfl ?_); refine gL_ (some 22) rfl rfl Try.func24 (by kernel_rfl) rfl #[.int .i64 (wrap64 (8 + (a2.size : Int))), .int .i64 2] rfl ?_; (with_reducible refine (octet_Put.calls k (wrap64 (8 + (a2.size : Int))) 2 t103 t104 _ A5.out).mono ?_); rintro e w16 ⟨rfl, hb⟩; refine ⟨_, rfl, ?_⟩; have n0_ := Aside0.mk (below_step (bU_ HB.out) hb); clear HB; have HB := n0_; clear n0_; (try clear hb); (try clear hb2); (try clear hk); (try clear hi)))
  go_ret2
  exact ⟨by first | rfl | (simp [errW_none, errW_some] <;> rfl) | (simp [*, errW_none, errW_some] <;> rfl), bU_ HB.out⟩
/-! ### ipfour_within: function 48 -/
def ipfour_within.f (a0 : Int) (a1 : Int) : Option (Bool) := if a0 ≥ 0 then (some (decide (a0 < a1))) else (some false)
set_option maxHeartbeats 8000000 in
set_option maxRecDepth 100000 in
theorem ipfour_within.calls (a0 : Int) (a1 : Int) (r : Bool) (w : World) (h : ipfour_within.f a0 a1 = some r) :
  Calls Try.prog 48 #[.int .i64 a0, .int .i64 a1] w fun e w' => e = .returned (.bool r) ∧ Drawn0 w w' := by
 have H : (if a0 ≥ 0 then (some (decide (a0 < a1))) else (some false)) = some r := h
 clear h
 by_cases c3 : a0 ≥ 0
 ·rw [if_pos c3] at H
  have c3b0 : decide (0 ≤ a0) = true := decide_eq_true c3
  clear c3
  obtain rfl := Option.some.inj H
  go_enter Try.func48, Try.ntmps48
  go_wp2
  go_ret
  exact ⟨by first | rfl | (simp; done) | (simp [*]; done), by repeat (first | exact Drawn0.refl _ | apply Drawn0.step)⟩
 ·rw [if_neg c3] at H
  have c3b0 : decide (0 ≤ a0) = false := decide_eq_false c3
  clear c3
  obtain rfl := Option.some.inj H
  go_enter Try.func48, Try.ntmps48
  go_wp2
  go_ret
  exact ⟨by first | rfl | (simp; done) | (simp [*]; done), by repeat (first | exact Drawn0.refl _ | apply Drawn0.step)⟩
end Go.Proofs.Ytfdhifigndmgaaa.Q
