-- made by a program of this session (wip/print-patch.py, over the kit's print)
import Derived.Test.YtocnbpbbmleahaaQx0
import Derived.Test.YtocnbpbbmleahaaQx3
import Derived.Test.YtocnbpbbmleahaaQx4
namespace Go.Proofs.Ytocnbpbbmleahaa.Q
open Go.RowKit Go.Proofs.YtocnbpbbmleahaaW.PrintWords Go.Proofs.YtocnbpbbmleahaaW.PrintLast Go.Proofs.YtocnbpbbmleahaaW.PrintMore
attribute [local go_sem] max2_int min2_int max_two min_two max_three min_three max_four min_four   -- for this text's walks alone
set_option linter.unusedVariables false
set_option linter.unusedSimpArgs false

attribute [local go_sem] cell_twice_ cell_twiceN_
/-! ### port_ports: function 17 -/
def port_ports.f (k : Nat) (a0 : Int) (a1 : Int) : Option (ByteArray × Int) := (octet_Put.f k a0 2).bind fun bt101 => ((octet_Put.f k a1 2).bind fun bt103 => (if bt101.1.size + bt103.1.size ≤ 9223372036854775807 then (some (bt101.1 ++ bt103.1, mx bt101.2 bt103.2)) else (none)))
theorem port_ports.mono : ∀ a0 a1 k, LeO (port_ports.f k a0 a1) (port_ports.f (k + 1) a0 a1) := by
 intro a0 a1 k
 unfold port_ports.f
 repeat' first
   | (with_reducible exact octet_Put.mono _ _ _)
   | (with_reducible exact LeO.refl _)
   | (with_reducible exact LeO.none _)
   | (with_reducible refine LeO.ite ?_ ?_)
   | (with_reducible refine LeO.bind ?_ (fun _ => ?_))
   | exact octet_Put.mono _ _ _
   | exact LeO.none _
   | refine LeO.ite ?_ ?_
   | refine LeO.bind ?_ (fun _ => ?_)
set_option maxHeartbeats 8000000 in
set_option maxRecDepth 100000 in
theorem port_ports.calls (k : Nat) (a0 : Int) (a1 : Int) (r1 : ByteArray) (r2 : Int) (w : World) (h : port_ports.f k a0 a1 = some (r1, r2)) :
  Calls Try.prog 17 #[.int .i64 a0, .int .i64 a1] w fun e w' => e = .returned (.tuple #[.string r1, .int .i64 r2]) ∧ Below w.heap.size w w' := by
 have HB := Aside0.mk (Below.refl w.heap.size w)
 have H : ((octet_Put.f k a0 2).bind fun bt101 => ((octet_Put.f k a1 2).bind fun bt103 => (if bt101.1.size + bt103.1.size ≤ 9223372036854775807 then (some (bt101.1 ++ bt103.1, mx bt101.2 bt103.2)) else (none)))) = some (r1, r2) := h
 clear h
 replace H := Option.bind_eq_some_iff.mp H
 obtain ⟨⟨t101, t102⟩, A30, H⟩ := H
 replace H : ((octet_Put.f k a1 2).bind fun bt103 => (if t101.size + bt103.1.size ≤ 9223372036854775807 then (some (t101 ++ bt103.1, mx t102 bt103.2)) else (none))) = some (r1, r2) := H
 have A3 := Aside0.mk A30
 clear A30
 replace H := Option.bind_eq_some_iff.mp H
 obtain ⟨⟨t103, t104⟩, A40, H⟩ := H
 replace H : (if t101.size + t103.size ≤ 9223372036854775807 then (some (t101 ++ t103, mx t102 t104)) else (none)) = some (r1, r2) := H
 have A4 := Aside0.mk A40
 clear A40
 by_cases c5 : t101.size + t103.size ≤ 9223372036854775807
 rotate_left
 ·rw [if_neg c5] at H
  exact absurd H (by simp)
 rw [if_pos c5] at H
 have c5b0 := eq_true c5
 have c5b1 : decide (t101.size + t103.size ≤ 9223372036854775807) = true := decide_eq_true c5
 try have c5b2 : (9223372036854775807 < t101.size + t103.size) = False := eq_false (Nat.not_lt.2 c5)
 try (have c5b3 := c5; simp only [ByteArray.size_append, ByteArray.size_extract, Nat.sub_zero, Nat.min_self] at c5b3; have c5b4 := eq_false (Nat.not_lt.2 c5b3))
 obtain ⟨ji6, hji6⟩ : ∃ j_ : Int, (mx t102 t104) = j_ := ⟨_, rfl⟩
 replace H : (some (t101 ++ t103, ji6)) = some (r1, r2) := by first | (rw [hji6] at H; exact H) | (simp only [hji6] at H ⊢; exact H)
 (try rw [hji6] at A3)
 (try rw [hji6] at A4)
 have hji6_ : (if t102 < t104 then t104 else t102) = ji6 := hji6
 simp only [Option.some.injEq, Prod.mk.injEq] at H
 obtain ⟨rfl, rfl⟩ := H
 go_enter Try.func17, Try.ntmps17
 go_wp2_with (first | ((with_reducible refine gate_callee (f := 18) rfl ?_); refine gL_ (some 12) rfl rfl Try.func18 (by kernel_rfl) rfl #[.int .i64 a0, .int .i64 2] rfl ?_; (with_reducible refine (octet_Put.calls k a0 2 t101 t102 _ A3.out).mono ?_); rintro e w7 ⟨rfl, hb⟩; refine ⟨_, rfl, ?_⟩; have n0_ := Aside0.mk (below_step (bU_ HB.out) hb); clear HB; have HB := n0_; clear n0_; (try clear hb); (try clear hb2); (try clear hk); (try clear hi)) | ((with_reducible refine gate_callee (f := 18) rfl ?_); refine gL_ (some 17) rfl rfl Try.func18 (by kernel_rfl) rfl #[.int .i64 a1, .int .i64 2] rfl ?_; (with_reducible refine (octet_Put.calls k a1 2 t103 t104 _ A4.out).mono ?_); rintro e w8 ⟨rfl, hb⟩; refine ⟨_, rfl, ?_⟩; have n0_ := Aside0.mk (below_step (bU_ HB.out) hb); clear HB; have HB := n0_; clear n0_; (try clear hb); (try clear hb2); (try clear hk); (try clear hi)))
 go_ret2
 exact ⟨by first | rfl | (simp [errW_none, errW_some] <;> rfl) | (simp only [← hji6]; first | rfl | (simp [errW_none, errW_some] <;> rfl)) | (simp [*, errW_none, errW_some] <;> rfl), bU_ HB.out⟩
/-! ### port_UDP: function 11 -/
def port_UDP.f (k : Nat) (a0 : Int) (a1 : Int) (a2 : ByteArray) : Option (ByteArray × Int) := (port_ports.f k a0 a1).bind fun bt101 => ((octet_Put.f k (wrap64 (8 + (a2.size : Int))) 2).bind fun bt103 => (if bt101.2 = 0 then (if bt103.2 = 0 then (if bt101.1.size + bt103.1.size ≤ 9223372036854775807 then (if (bt101.1 ++ bt103.1).size + 2 ≤ 9223372036854775807 then (if ((bt101.1 ++ bt103.1) ++ (⟨#[0, 0]⟩ : ByteArray)).size + a2.size ≤ 9223372036854775807 then (some (((bt101.1 ++ bt103.1) ++ (⟨#[0, 0]⟩ : ByteArray)) ++ a2, 0)) else (none)) else (none)) else (none)) else (some ((⟨#[]⟩ : ByteArray), 1))) else (some ((⟨#[]⟩ : ByteArray), 1))))
theorem port_UDP.mono : ∀ a0 a1 a2 k, LeO (port_UDP.f k a0 a1 a2) (port_UDP.f (k + 1) a0 a1 a2) := by
 intro a0 a1 a2 k
 unfold port_UDP.f
 repeat' first
   | (with_reducible exact octet_Put.mono _ _ _)
   | (with_reducible exact port_ports.mono _ _ _)
   | (with_reducible exact LeO.refl _)
   | (with_reducible exact LeO.none _)
   | (with_reducible refine LeO.ite ?_ ?_)
   | (with_reducible refine LeO.bind ?_ (fun _ => ?_))
   | exact octet_Put.mono _ _ _
   | exact port_ports.mono _ _ _
   | exact LeO.none _
   | refine LeO.ite ?_ ?_
   | refine LeO.bind ?_ (fun _ => ?_)
set_option maxHeartbeats 8000000 in
set_option maxRecDepth 100000 in
theorem port_UDP.calls (k : Nat) (a0 : Int) (a1 : Int) (a2 : ByteArray) (r1 : ByteArray) (r2 : Int) (w : World) (h : port_UDP.f k a0 a1 a2 = some (r1, r2)) :
  Calls Try.prog 11 #[.int .i64 a0, .int .i64 a1, .string a2] w fun e w' => e = .returned (.tuple #[.string r1, .int .i64 r2]) ∧ Below w.heap.size w w' := by
 have HB := Aside0.mk (Below.refl w.heap.size w)
 have H : ((port_ports.f k a0 a1).bind fun bt101 => ((octet_Put.f k (wrap64 (8 + (a2.size : Int))) 2).bind fun bt103 => (if bt101.2 = 0 then (if bt103.2 = 0 then (if bt101.1.size + bt103.1.size ≤ 9223372036854775807 then (if (bt101.1 ++ bt103.1).size + 2 ≤ 9223372036854775807 then (if ((bt101.1 ++ bt103.1) ++ (⟨#[0, 0]⟩ : ByteArray)).size + a2.size ≤ 9223372036854775807 then (some (((bt101.1 ++ bt103.1) ++ (⟨#[0, 0]⟩ : ByteArray)) ++ a2, 0)) else (none)) else (none)) else (none)) else (some ((⟨#[]⟩ : ByteArray), 1))) else (some ((⟨#[]⟩ : ByteArray), 1))))) = some (r1, r2) := h
 clear h
 replace H := Option.bind_eq_some_iff.mp H
 obtain ⟨⟨t101, t102⟩, A40, H⟩ := H
 replace H : ((octet_Put.f k (wrap64 (8 + (a2.size : Int))) 2).bind fun bt103 => (if t102 = 0 then (if bt103.2 = 0 then (if t101.size + bt103.1.size ≤ 9223372036854775807 then (if (t101 ++ bt103.1).size + 2 ≤ 9223372036854775807 then (if ((t101 ++ bt103.1) ++ (⟨#[0, 0]⟩ : ByteArray)).size + a2.size ≤ 9223372036854775807 then (some (((t101 ++ bt103.1) ++ (⟨#[0, 0]⟩ : ByteArray)) ++ a2, 0)) else (none)) else (none)) else (none)) else (some ((⟨#[]⟩ : ByteArray), 1))) else (some ((⟨#[]⟩ : ByteArray), 1)))) = some (r1, r2) := H
 have A4 := Aside0.mk A40
 clear A40
 replace H := Option.bind_eq_some_iff.mp H
 obtain ⟨⟨t103, t104⟩, A50, H⟩ := H
 replace H : (if t102 = 0 then (if t104 = 0 then (if t101.size + t103.size ≤ 9223372036854775807 then (if (t101 ++ t103).size + 2 ≤ 9223372036854775807 then (if ((t101 ++ t103) ++ (⟨#[0, 0]⟩ : ByteArray)).size + a2.size ≤ 9223372036854775807 then (some (((t101 ++ t103) ++ (⟨#[0, 0]⟩ : ByteArray)) ++ a2, 0)) else (none)) else (none)) else (none)) else (some ((⟨#[]⟩ : ByteArray), 1))) else (some ((⟨#[]⟩ : ByteArray), 1))) = some (r1, r2) := H
 have A5 := Aside0.mk A50
 clear A50
 by_cases c6 : t102 = 0
 ·rw [if_pos c6] at H
  have c6b0 : (t102 == 0) = true := beq_iff_eq.mpr c6
  have c6b1 : (t102 != 0) = false := bne_eq_false_iff_eq.mpr c6
  clear c6
  by_cases c7 : t104 = 0
  ·rw [if_pos c7] at H
   have c7b0 : (t104 == 0) = true := beq_iff_eq.mpr c7
   have c7b1 : (t104 != 0) = false := bne_eq_false_iff_eq.mpr c7
   clear c7
   by_cases c8 : t101.size + t103.size ≤ 9223372036854775807
   rotate_left
   ·rw [if_neg c8] at H
    exact absurd H (by simp)
   rw [if_pos c8] at H
   have c8b0 := eq_true c8
   have c8b1 : decide (t101.size + t103.size ≤ 9223372036854775807) = true := decide_eq_true c8
   try have c8b2 : (9223372036854775807 < t101.size + t103.size) = False := eq_false (Nat.not_lt.2 c8)
   try (have c8b3 := c8; simp only [ByteArray.size_append, ByteArray.size_extract, Nat.sub_zero, Nat.min_self] at c8b3; have c8b4 := eq_false (Nat.not_lt.2 c8b3))
   by_cases c9 : (t101 ++ t103).size + 2 ≤ 9223372036854775807
   rotate_left
   ·rw [if_neg c9] at H
    exact absurd H (by simp)
   rw [if_pos c9] at H
   have c9b0 := eq_true c9
   have c9b1 : decide ((t101 ++ t103).size + 2 ≤ 9223372036854775807) = true := decide_eq_true c9
   try have c9b2 : (9223372036854775807 < (t101 ++ t103).size + 2) = False := eq_false (Nat.not_lt.2 c9)
   try (have c9b3 := c9; simp only [ByteArray.size_append, ByteArray.size_extract, Nat.sub_zero, Nat.min_self] at c9b3; have c9b4 := eq_false (Nat.not_lt.2 c9b3))
   by_cases c10 : ((t101 ++ t103) ++ (⟨#[0, 0]⟩ : ByteArray)).size + a2.size ≤ 9223372036854775807
   rotate_left
   ·rw [if_neg c10] at H
    exact absurd H (by simp)
   rw [if_pos c10] at H
   have c10b0 := eq_true c10
   have c10b1 : decide (((t101 ++ t103) ++ (⟨#[0, 0]⟩ : ByteArray)).size + a2.size ≤ 9223372036854775807) = true := decide_eq_true c10
   try have c10b2 : (9223372036854775807 < ((t101 ++ t103) ++ (⟨#[0, 0]⟩ : ByteArray)).size + a2.size) = False := eq_false (Nat.not_lt.2 c10)
   try (have c10b3 := c10; simp only [ByteArray.size_append, ByteArray.size_extract, Nat.sub_zero, Nat.min_self, show (⟨#[0, 0]⟩ : ByteArray).size = 2 from rfl] at c10b3; have c10b4 := eq_false (Nat.not_lt.2 c10b3))
   simp only [Option.some.injEq, Prod.mk.injEq] at H
   obtain ⟨rfl, rfl⟩ := H
   go_enter Try.func11, Try.ntmps11
   go_wp2_with (first | ((with_reducible refine gate_callee (f := 17) rfl ?_); refine gL_ (some 15) rfl rfl Try.func17 (by kernel_rfl) rfl #[.int .i64 a0, .int .i64 a1] rfl ?_; (with_reducible refine (port_ports.calls k a0 a1 t101 t102 _ A4.out).mono ?_); rintro e w11 ⟨rfl, hb⟩; refine ⟨_, rfl, ?_⟩; have n0_ := Aside0.mk (below_step (bU_ HB.out) hb); clear HB; have HB := n0_; clear n0_; (try clear hb); (try clear hb2); (try clear hk); (try clear hi)) | ((with_reducible refine gate_callee (f := 18) rfl ?_); refine gL_ (some 22) rfl rfl Try.func18 (by kernel_rfl) rfl #[.int .i64 (wrap64 (8 + (a2.size : Int))), .int .i64 2] rfl ?_; (with_reducible refine (octet_Put.calls k (wrap64 (8 + (a2.size : Int))) 2 t103 t104 _ A5.out).mono ?_); rintro e w12 ⟨rfl, hb⟩; refine ⟨_, rfl, ?_⟩; have n0_ := Aside0.mk (below_step (bU_ HB.out) hb); clear HB; have HB := n0_; clear n0_; (try clear hb); (try clear hb2); (try clear hk); (try clear hi)))
   go_ret2
   exact ⟨by first | rfl | (simp [errW_none, errW_some] <;> rfl) | (simp [*, errW_none, errW_some] <;> rfl), bU_ HB.out⟩
  ·rw [if_neg c7] at H
   have c7b0 : (t104 == 0) = false := beq_eq_false_iff_ne.mpr c7
   have c7b1 : (t104 != 0) = true := bne_iff_ne.mpr c7
   simp only [Option.some.injEq, Prod.mk.injEq] at H
   obtain ⟨rfl, rfl⟩ := H
   go_enter Try.func11, Try.ntmps11
   go_wp2_with (first | ((with_reducible refine gate_callee (f := 17) rfl ?_); refine gL_ (some 15) rfl rfl Try.func17 (by kernel_rfl) rfl #[.int .i64 a0, .int .i64 a1] rfl ?_; (with_reducible refine (port_ports.calls k a0 a1 t101 t102 _ A4.out).mono ?_); rintro e w13 ⟨rfl, hb⟩; refine ⟨_, rfl, ?_⟩; have n0_ := Aside0.mk (below_step (bU_ HB.out) hb); clear HB; have HB := n0_; clear n0_; (try clear hb); (try clear hb2); (try clear hk); (try clear hi)) | ((with_reducible refine gate_callee (f := 18) rfl ?_); refine gL_ (some 22) rfl rfl Try.func18 (by kernel_rfl) rfl #[.int .i64 (wrap64 (8 + (a2.size : Int))), .int .i64 2] rfl ?_; (with_reducible refine (octet_Put.calls k (wrap64 (8 + (a2.size : Int))) 2 t103 t104 _ A5.out).mono ?_); rintro e w14 ⟨rfl, hb⟩; refine ⟨_, rfl, ?_⟩; have n0_ := Aside0.mk (below_step (bU_ HB.out) hb); clear HB; have HB := n0_; clear n0_; (try clear hb); (try clear hb2); (try clear hk); (try clear hi)))
   go_ret2
   exact ⟨by first | rfl | (simp [errW_none, errW_some] <;> rfl) | (simp [*, errW_none, errW_some] <;> rfl), bU_ HB.out⟩
 ·rw [if_neg c6] at H
  have c6b0 : (t102 == 0) = false := beq_eq_false_iff_ne.mpr c6
  have c6b1 : (t102 != 0) = true := bne_iff_ne.mpr c6
  simp only [Option.some.injEq, Prod.mk.injEq] at H
  obtain ⟨rfl, rfl⟩ := H
  go_enter Try.func11, Try.ntmps11
  go_wp2_with (first | ((with_reducible refine gate_callee (f := 17) rfl ?_); refine gL_ (some 15) rfl rfl Try.func17 (by kernel_rfl) rfl #[.int .i64 a0, .int .i64 a1] rfl ?_; (with_reducible refine (port_ports.calls k a0 a1 t101 t102 _ A4.out).mono ?_); rintro e w15 ⟨rfl, hb⟩; refine ⟨_, rfl, ?_⟩; have n0_ := Aside0.mk (below_step (bU_ HB.out) hb); clear HB; have HB := n0_; clear n0_; (try clear hb); (try clear hb2); (try clear hk); (try clear hi)) | ((with_reducible refine gate_callee (f := 18) rfl ?_); refine gL_ (some 22) rfl rfl Try.func18 (by kernel_rfl) rfl #[.int .i64 (wrap64 (8 + (a2.size : Int))), .int .i64 2] rfl ?_; (with_reducible refine (octet_Put.calls k (wrap64 (8 + (a2.size : Int))) 2 t103 t104 _ A5.out).mono ?_); rintro e w16 ⟨rfl, hb⟩; refine ⟨_, rfl, ?_⟩; have n0_ := Aside0.mk (below_step (bU_ HB.out) hb); clear HB; have HB := n0_; clear n0_; (try clear hb); (try clear hb2); (try clear hk); (try clear hi)))
  go_ret2
  exact ⟨by first | rfl | (simp [errW_none, errW_some] <;> rfl) | (simp [*, errW_none, errW_some] <;> rfl), bU_ HB.out⟩
/-! ### rillmeterlaw08_awake: function 8 -/
def rillmeterlaw08_awake.f (k : Nat)  : Option (Bool) := (port_UDP.f k 53 1000 (⟨#[120]⟩ : ByteArray)).bind fun bt101 => ((port_Take.f k 17 bt101.1).bind fun bt103 => (if bt101.1.toList = ([0, 53, 3, 232, 0, 9, 0, 0, 120] : List UInt8) then (if bt101.2 = 0 then (if bt103.1 = 53 then (if bt103.2.1 = 1000 then (if bt103.2.2.1.toList = ([120] : List UInt8) then (some (bt103.2.2.2 == 0)) else (some false)) else (some false)) else (some false)) else (some false)) else (some false)))
theorem rillmeterlaw08_awake.mono : ∀ k, LeO (rillmeterlaw08_awake.f k ) (rillmeterlaw08_awake.f (k + 1) ) := by
 intro  k
 unfold rillmeterlaw08_awake.f
 repeat' first
   | (with_reducible exact port_Take.mono _ _ _)
   | (with_reducible exact port_UDP.mono _ _ _ _)
   | (with_reducible exact LeO.refl _)
   | (with_reducible exact LeO.none _)
   | (with_reducible refine LeO.ite ?_ ?_)
   | (with_reducible refine LeO.bind ?_ (fun _ => ?_))
   | exact port_Take.mono _ _ _
   | exact port_UDP.mono _ _ _ _
   | exact LeO.none _
   | refine LeO.ite ?_ ?_
   | refine LeO.bind ?_ (fun _ => ?_)
set_option maxHeartbeats 8000000 in
set_option maxRecDepth 100000 in
theorem rillmeterlaw08_awake.calls (k : Nat)  (r : Bool) (w : World) (hrt : Aside0 (r = true)) (h : rillmeterlaw08_awake.f k  = some r) :
  Calls Try.prog 8 #[] w fun e w' => e = .returned (.bool r) ∧ Below w.heap.size w w' := by
 have HB := Aside0.mk (Below.refl w.heap.size w)
 have H : ((port_UDP.f k 53 1000 (⟨#[120]⟩ : ByteArray)).bind fun bt101 => ((port_Take.f k 17 bt101.1).bind fun bt103 => (if bt101.1.toList = ([0, 53, 3, 232, 0, 9, 0, 0, 120] : List UInt8) then (if bt101.2 = 0 then (if bt103.1 = 53 then (if bt103.2.1 = 1000 then (if bt103.2.2.1.toList = ([120] : List UInt8) then (some (bt103.2.2.2 == 0)) else (some false)) else (some false)) else (some false)) else (some false)) else (some false)))) = some r := h
 clear h
 replace H := Option.bind_eq_some_iff.mp H
 obtain ⟨⟨t101, t102⟩, A10, H⟩ := H
 replace H : ((port_Take.f k 17 t101).bind fun bt103 => (if t101.toList = ([0, 53, 3, 232, 0, 9, 0, 0, 120] : List UInt8) then (if t102 = 0 then (if bt103.1 = 53 then (if bt103.2.1 = 1000 then (if bt103.2.2.1.toList = ([120] : List UInt8) then (some (bt103.2.2.2 == 0)) else (some false)) else (some false)) else (some false)) else (some false)) else (some false))) = some r := H
 have A1 := Aside0.mk A10
 clear A10
 replace H := Option.bind_eq_some_iff.mp H
 obtain ⟨⟨t103, t104, t105, t106⟩, A20, H⟩ := H
 replace H : (if t101.toList = ([0, 53, 3, 232, 0, 9, 0, 0, 120] : List UInt8) then (if t102 = 0 then (if t103 = 53 then (if t104 = 1000 then (if t105.toList = ([120] : List UInt8) then (some (t106 == 0)) else (some false)) else (some false)) else (some false)) else (some false)) else (some false)) = some r := H
 have A2 := Aside0.mk A20
 clear A20
 by_cases c3 : t101.toList = ([0, 53, 3, 232, 0, 9, 0, 0, 120] : List UInt8)
 rotate_left
 ·rw [if_neg c3] at H
  obtain rfl := Option.some.inj H
  exact absurd hrt.out (by decide)
 rw [if_pos c3] at H
 have c3b0 : (t101.toList == ([0, 53, 3, 232, 0, 9, 0, 0, 120] : List UInt8)) = true := beq_iff_eq.mpr c3
 have c3b1 : (t101.toList != ([0, 53, 3, 232, 0, 9, 0, 0, 120] : List UInt8)) = false := bne_eq_false_iff_eq.mpr c3
 clear c3
 by_cases c4 : t102 = 0
 rotate_left
 ·rw [if_neg c4] at H
  obtain rfl := Option.some.inj H
  exact absurd hrt.out (by decide)
 rw [if_pos c4] at H
 have c4b0 : (t102 == 0) = true := beq_iff_eq.mpr c4
 have c4b1 : (t102 != 0) = false := bne_eq_false_iff_eq.mpr c4
 clear c4
 by_cases c5 : t103 = 53
 rotate_left
 ·rw [if_neg c5] at H
  obtain rfl := Option.some.inj H
  exact absurd hrt.out (by decide)
 rw [if_pos c5] at H
 have c5b0 : (t103 == 53) = true := beq_iff_eq.mpr c5
 have c5b1 : (t103 != 53) = false := bne_eq_false_iff_eq.mpr c5
 clear c5
 by_cases c6 : t104 = 1000
 rotate_left
 ·rw [if_neg c6] at H
  obtain rfl := Option.some.inj H
  exact absurd hrt.out (by decide)
 rw [if_pos c6] at H
 have c6b0 : (t104 == 1000) = true := beq_iff_eq.mpr c6
 have c6b1 : (t104 != 1000) = false := bne_eq_false_iff_eq.mpr c6
 clear c6
 by_cases c7 : t105.toList = ([120] : List UInt8)
 rotate_left
 ·rw [if_neg c7] at H
  obtain rfl := Option.some.inj H
  exact absurd hrt.out (by decide)
 rw [if_pos c7] at H
 have c7b0 : (t105.toList == ([120] : List UInt8)) = true := beq_iff_eq.mpr c7
 have c7b1 : (t105.toList != ([120] : List UInt8)) = false := bne_eq_false_iff_eq.mpr c7
 clear c7
 obtain rfl := Option.some.inj H
 go_enter Try.func8, Try.ntmps8
 go_wp2_with (first | ((with_reducible refine gate_callee (f := 11) rfl ?_); refine gL_ (some 8) rfl rfl Try.func11 (by kernel_rfl) rfl #[.int .i64 53, .int .i64 1000, .string (⟨#[120]⟩ : ByteArray)] rfl ?_; (with_reducible refine (port_UDP.calls k 53 1000 (⟨#[120]⟩ : ByteArray) t101 t102 _ A1.out).mono ?_); rintro e w8 ⟨rfl, hb⟩; refine ⟨_, rfl, ?_⟩; have n0_ := Aside0.mk (below_step (bU_ HB.out) hb); clear HB; have HB := n0_; clear n0_; (try clear hb); (try clear hb2); (try clear hk); (try clear hi)) | ((with_reducible refine gate_callee (f := 9) rfl ?_); refine gL_ (some 13) rfl rfl Try.func9 (by kernel_rfl) rfl #[.int .i64 17, .string t101] rfl ?_; (with_reducible refine (port_Take.calls k 17 t101 t103 t104 t105 t106 _ A2.out).mono ?_); rintro e w9 ⟨rfl, hb⟩; refine ⟨_, rfl, ?_⟩; have n0_ := Aside0.mk (below_step (bU_ HB.out) hb); clear HB; have HB := n0_; clear n0_; (try clear hb); (try clear hb2); (try clear hk); (try clear hi)))
 go_ret
 exact ⟨by first | rfl | (simp [errW_none, errW_some] <;> rfl) | (simp [*, errW_none, errW_some] <;> rfl), bU_ HB.out⟩
end Go.Proofs.Ytocnbpbbmleahaa.Q
