-- made by a program of this session (wip/print-patch.py, over the kit's print)
import Derived.Test.YtdmofjhncdkofaaQx0
import Derived.Test.YtdmofjhncdkofaaQx6
namespace Go.Proofs.Ytdmofjhncdkofaa.Q
open Go.RowKit Go.Proofs.YtdmofjhncdkofaaW.PrintWords Go.Proofs.YtdmofjhncdkofaaW.PrintLast Go.Proofs.YtdmofjhncdkofaaW.PrintMore
attribute [local go_sem] max2_int min2_int max_two min_two max_three min_three max_four min_four   -- for this text's walks alone
set_option linter.unusedVariables false
set_option linter.unusedSimpArgs false

attribute [local go_sem] cell_twice_ cell_twiceN_
/-! ### rillmeterlaw06_awake: function 9 -/
def rillmeterlaw06_awake.f (k : Nat)  : Option (Bool) := (ipfour_Put.f k 0 0 0 0 64 17 (⟨#[10, 0, 0, 1]⟩ : ByteArray) (⟨#[10, 0, 0, 2]⟩ : ByteArray) (⟨#[]⟩ : ByteArray) (⟨#[]⟩ : ByteArray)).bind fun bt101 => (if bt101.1.toList = ([69, 0, 0, 20, 0, 0, 0, 0, 64, 17, 102, 215, 10, 0, 0, 1, 10, 0, 0, 2] : List UInt8) then (some (bt101.2 == 0)) else (some false))
theorem rillmeterlaw06_awake.mono : ∀ k, LeO (rillmeterlaw06_awake.f k ) (rillmeterlaw06_awake.f (k + 1) ) := by
 intro  k
 unfold rillmeterlaw06_awake.f
 repeat' first
   | (with_reducible exact ipfour_Put.mono _ _ _ _ _ _ _ _ _ _ _)
   | (with_reducible exact LeO.refl _)
   | (with_reducible exact LeO.none _)
   | (with_reducible refine LeO.ite ?_ ?_)
   | (with_reducible refine LeO.bind ?_ (fun _ => ?_))
   | exact ipfour_Put.mono _ _ _ _ _ _ _ _ _ _ _
   | exact LeO.none _
   | refine LeO.ite ?_ ?_
   | refine LeO.bind ?_ (fun _ => ?_)
set_option maxHeartbeats 8000000 in
set_option maxRecDepth 100000 in
theorem rillmeterlaw06_awake.calls (k : Nat)  (r : Bool) (w : World) (hrt : Aside0 (r = true)) (h : rillmeterlaw06_awake.f k  = some r) :
  Calls Try.prog 9 #[] w fun e w' => e = .returned (.bool r) ∧ Below w.heap.size w w' := by
 have hu27 := Try.underlying27
 have HB := Aside0.mk (Below.refl w.heap.size w)
 have H : ((ipfour_Put.f k 0 0 0 0 64 17 (⟨#[10, 0, 0, 1]⟩ : ByteArray) (⟨#[10, 0, 0, 2]⟩ : ByteArray) (⟨#[]⟩ : ByteArray) (⟨#[]⟩ : ByteArray)).bind fun bt101 => (if bt101.1.toList = ([69, 0, 0, 20, 0, 0, 0, 0, 64, 17, 102, 215, 10, 0, 0, 1, 10, 0, 0, 2] : List UInt8) then (some (bt101.2 == 0)) else (some false))) = some r := h
 clear h
 replace H := Option.bind_eq_some_iff.mp H
 obtain ⟨⟨t101, t102⟩, A10, H⟩ := H
 replace H : (if t101.toList = ([69, 0, 0, 20, 0, 0, 0, 0, 64, 17, 102, 215, 10, 0, 0, 1, 10, 0, 0, 2] : List UInt8) then (some (t102 == 0)) else (some false)) = some r := H
 have A1 := Aside0.mk A10
 clear A10
 by_cases c2 : t101.toList = ([69, 0, 0, 20, 0, 0, 0, 0, 64, 17, 102, 215, 10, 0, 0, 1, 10, 0, 0, 2] : List UInt8)
 rotate_left
 ·rw [if_neg c2] at H
  obtain rfl := Option.some.inj H
  exact absurd hrt.out (by decide)
 rw [if_pos c2] at H
 have c2b0 : (t101.toList == ([69, 0, 0, 20, 0, 0, 0, 0, 64, 17, 102, 215, 10, 0, 0, 1, 10, 0, 0, 2] : List UInt8)) = true := beq_iff_eq.mpr c2
 have c2b1 : (t101.toList != ([69, 0, 0, 20, 0, 0, 0, 0, 64, 17, 102, 215, 10, 0, 0, 1, 10, 0, 0, 2] : List UInt8)) = false := bne_eq_false_iff_eq.mpr c2
 clear c2
 obtain rfl := Option.some.inj H
 go_enter Try.func9, Try.ntmps9
 go_wp2_with (first | ((with_reducible refine gate_callee (f := 8) rfl ?_); refine gL_ (some 5) rfl rfl Try.func8 (by kernel_rfl) rfl #[.agg #[.int .i64 0, .int .i64 0, .int .i64 0, .int .i64 0, .int .i64 64, .int .i64 17, .string (⟨#[10, 0, 0, 1]⟩ : ByteArray), .string (⟨#[10, 0, 0, 2]⟩ : ByteArray), .string ⟨#[]⟩], .string ⟨#[]⟩] rfl ?_; (with_reducible refine (ipfour_Put.calls k 0 0 0 0 64 17 (⟨#[10, 0, 0, 1]⟩ : ByteArray) (⟨#[10, 0, 0, 2]⟩ : ByteArray) (⟨#[]⟩ : ByteArray) (⟨#[]⟩ : ByteArray) t101 t102 _ A1.out).mono ?_); rintro e w3 ⟨rfl, hb⟩; refine ⟨_, rfl, ?_⟩; have n0_ := Aside0.mk (below_step (bU_ HB.out) hb); clear HB; have HB := n0_; clear n0_; (try clear hb); (try clear hb2); (try clear hk); (try clear hi)))
 go_ret
 exact ⟨by first | rfl | (simp [errW_none, errW_some] <;> rfl) | (simp [*, errW_none, errW_some] <;> rfl), bU_ HB.out⟩
/-! ### rillmeterlaw06_IpfourLong: function 3 -/
def rillmeterlaw06_IpfourLong.f (k : Nat) (a0 : Int) : Option (Bool) := if 0 ≤ (wrap64 (65515 + (wrap64 (a0)))) then (if (wrap64 (65515 + (wrap64 (a0))) : Int).toNat ≤ 281474976710656 then ((ipfour_Put.f k 0 0 0 0 0 0 (⟨#[97, 97, 97, 97]⟩ : ByteArray) (⟨#[98, 98, 98, 98]⟩ : ByteArray) (⟨#[]⟩ : ByteArray) (strOfNums (List.replicate (wrap64 (65515 + (wrap64 (a0))) : Int).toNat 0))).bind fun bt104 => (if (wrap64 (65515 + (wrap64 (a0)))) > 65515 then (if bt104.1.toList = ([] : List UInt8) then (if bt104.2 = 1 then ((rillmeterlaw06_awake.f k).bind fun t106 => (some t106)) else (some false)) else (some false)) else (if (bt104.1.size : Int) = (wrap64 ((wrap64 (65515 + (wrap64 (a0)))) + 20)) then (if bt104.2 = 0 then ((rillmeterlaw06_awake.f k).bind fun t107 => (some t107)) else (some false)) else (some false)))) else (none)) else (none)
theorem rillmeterlaw06_IpfourLong.mono : ∀ a0 k, LeO (rillmeterlaw06_IpfourLong.f k a0) (rillmeterlaw06_IpfourLong.f (k + 1) a0) := by
 intro a0 k
 unfold rillmeterlaw06_IpfourLong.f
 repeat' first
   | (with_reducible exact ipfour_Put.mono _ _ _ _ _ _ _ _ _ _ _)
   | (with_reducible exact rillmeterlaw06_awake.mono _)
   | (with_reducible exact LeO.refl _)
   | (with_reducible exact LeO.none _)
   | (with_reducible refine LeO.ite ?_ ?_)
   | (with_reducible refine LeO.bind ?_ (fun _ => ?_))
   | exact ipfour_Put.mono _ _ _ _ _ _ _ _ _ _ _
   | exact rillmeterlaw06_awake.mono _
   | exact LeO.none _
   | refine LeO.ite ?_ ?_
   | refine LeO.bind ?_ (fun _ => ?_)
set_option maxHeartbeats 8000000 in
set_option maxRecDepth 100000 in
theorem rillmeterlaw06_IpfourLong.calls (k : Nat) (a0 : Int) (r : Bool) (w : World) (hrt : Aside0 (r = true)) (h : rillmeterlaw06_IpfourLong.f k a0 = some r) :
  Calls Try.prog 3 #[.int .i8 a0] w fun e w' => e = .returned (.bool r) ∧ Below w.heap.size w w' := by
 have hu27 := Try.underlying27
 have HB := Aside0.mk (Below.refl w.heap.size w)
 have H : (if 0 ≤ (wrap64 (65515 + (wrap64 (a0)))) then (if (wrap64 (65515 + (wrap64 (a0))) : Int).toNat ≤ 281474976710656 then ((ipfour_Put.f k 0 0 0 0 0 0 (⟨#[97, 97, 97, 97]⟩ : ByteArray) (⟨#[98, 98, 98, 98]⟩ : ByteArray) (⟨#[]⟩ : ByteArray) (strOfNums (List.replicate (wrap64 (65515 + (wrap64 (a0))) : Int).toNat 0))).bind fun bt104 => (if (wrap64 (65515 + (wrap64 (a0)))) > 65515 then (if bt104.1.toList = ([] : List UInt8) then (if bt104.2 = 1 then ((rillmeterlaw06_awake.f k).bind fun t106 => (some t106)) else (some false)) else (some false)) else (if (bt104.1.size : Int) = (wrap64 ((wrap64 (65515 + (wrap64 (a0)))) + 20)) then (if bt104.2 = 0 then ((rillmeterlaw06_awake.f k).bind fun t107 => (some t107)) else (some false)) else (some false)))) else (none)) else (none)) = some r := h
 clear h
 obtain ⟨ji2, hji2⟩ : ∃ j_ : Int, (wrap64 (65515 + (wrap64 (a0)))) = j_ := ⟨_, rfl⟩
 replace H : (if 0 ≤ (ji2) then (if (ji2 : Int).toNat ≤ 281474976710656 then ((ipfour_Put.f k 0 0 0 0 0 0 (⟨#[97, 97, 97, 97]⟩ : ByteArray) (⟨#[98, 98, 98, 98]⟩ : ByteArray) (⟨#[]⟩ : ByteArray) (strOfNums (List.replicate (ji2 : Int).toNat 0))).bind fun bt104 => (if (ji2) > 65515 then (if bt104.1.toList = ([] : List UInt8) then (if bt104.2 = 1 then ((rillmeterlaw06_awake.f k).bind fun t106 => (some t106)) else (some false)) else (some false)) else (if (bt104.1.size : Int) = (wrap64 ((ji2) + 20)) then (if bt104.2 = 0 then ((rillmeterlaw06_awake.f k).bind fun t107 => (some t107)) else (some false)) else (some false)))) else (none)) else (none)) = some r := by first | (rw [hji2] at H; exact H) | (simp only [hji2] at H ⊢; exact H)
 have hji2w : (IntKind.i64.wrap (65515 + (wrap64 (a0)))) = ji2 := (i64_w _).trans hji2
 by_cases c3 : 0 ≤ (ji2)
 rotate_left
 ·rw [if_neg c3] at H
  exact absurd H (by simp)
 rw [if_pos c3] at H
 have c3b0 := eq_true c3
 have c3b1 : decide (0 ≤ (ji2)) = true := decide_eq_true c3
 clear c3
 by_cases c4 : (ji2 : Int).toNat ≤ 281474976710656
 rotate_left
 ·rw [if_neg c4] at H
  exact absurd H (by simp)
 rw [if_pos c4] at H
 have c4b0 := eq_true c4
 have c4b1 : decide ((ji2 : Int).toNat ≤ 281474976710656) = true := decide_eq_true c4
 clear c4
 obtain ⟨y101, hy101⟩ : ∃ y_ : List Int, y_ = (List.replicate (ji2 : Int).toNat 0) := ⟨_, rfl⟩
 replace H : ((ipfour_Put.f k 0 0 0 0 0 0 (⟨#[97, 97, 97, 97]⟩ : ByteArray) (⟨#[98, 98, 98, 98]⟩ : ByteArray) (⟨#[]⟩ : ByteArray) (strOfNums y101)).bind fun bt104 => (if (ji2) > 65515 then (if bt104.1.toList = ([] : List UInt8) then (if bt104.2 = 1 then ((rillmeterlaw06_awake.f k).bind fun t106 => (some t106)) else (some false)) else (some false)) else (if (bt104.1.size : Int) = (wrap64 ((ji2) + 20)) then (if bt104.2 = 0 then ((rillmeterlaw06_awake.f k).bind fun t107 => (some t107)) else (some false)) else (some false)))) = some r := by first | (rw [hy101]; with_reducible exact H) | (have H2_ := (Option.bind_some _ _).symm.trans H; rw [hy101]; with_reducible exact H2_) | (have H2_ := (Option.bind_some _ _).symm.trans H; with_reducible exact H2_) | with_reducible exact H | (rw [hy101]; exact H) | exact H
 have Ny101 := Aside0.mk hy101
 clear hy101
 replace H := Option.bind_eq_some_iff.mp H
 obtain ⟨⟨t104, t105⟩, A50, H⟩ := H
 replace H : (if (ji2) > 65515 then (if t104.toList = ([] : List UInt8) then (if t105 = 1 then ((rillmeterlaw06_awake.f k).bind fun t106 => (some t106)) else (some false)) else (some false)) else (if (t104.size : Int) = (wrap64 ((ji2) + 20)) then (if t105 = 0 then ((rillmeterlaw06_awake.f k).bind fun t107 => (some t107)) else (some false)) else (some false))) = some r := H
 have A5 := Aside0.mk A50
 clear A50
 by_cases c6 : (ji2) > 65515
 ·rw [if_pos c6] at H
  have c6b0 : decide (65515 < (ji2)) = true := decide_eq_true c6
  clear c6
  by_cases c7 : t104.toList = ([] : List UInt8)
  rotate_left
  ·rw [if_neg c7] at H
   obtain rfl := Option.some.inj H
   exact absurd hrt.out (by decide)
  rw [if_pos c7] at H
  have c7b0 : (t104.toList == ([] : List UInt8)) = true := beq_iff_eq.mpr c7
  have c7b1 : (t104.toList != ([] : List UInt8)) = false := bne_eq_false_iff_eq.mpr c7
  clear c7
  by_cases c8 : t105 = 1
  rotate_left
  ·rw [if_neg c8] at H
   obtain rfl := Option.some.inj H
   exact absurd hrt.out (by decide)
  rw [if_pos c8] at H
  have c8b0 : (t105 == 1) = true := beq_iff_eq.mpr c8
  have c8b1 : (t105 != 1) = false := bne_eq_false_iff_eq.mpr c8
  clear c8
  replace H := Option.bind_eq_some_iff.mp H
  obtain ⟨t106, A90, H⟩ := H
  replace H : (some t106) = some r := H
  have A9 := Aside0.mk A90
  clear A90
  obtain rfl := Option.some.inj H
  go_enter Try.func3, Try.ntmps3
  go_wp2_with (first | ((with_reducible refine gate_dst (N := 12) rfl ?_); refine Kd.R_make (Kd.int .u8) _ 5 rfl (N := 12) rfl 28 _ _ rfl ji2 rfl rfl Try.underlying28 (.int .u8 0) 1 info5 rfl (by decide) (by omega) 0 (ok := fun _ => True) (okp := fun _ => True) rfl (fun _ hk => hk) trivial (of_decide_eq_true (by first | (with_reducible assumption) | assumption)) (Nat.le_trans (Nat.mul_le_mul_right _ (of_decide_eq_true (by first | (with_reducible assumption) | assumption) : ji2.toNat ≤ 281474976710656)) (by omega)) (Below.refl _ _) (Nat.le_refl _) ?_; intro v102 w10 ho11 hb hg_ hnew_; clear hg_ hnew_; (first | rw [← Ny101.out] at ho11 | (simp only [Int.reduceToNat] at ho11; rw [← Ny101.out] at ho11)); have n0_ := Aside0.mk (Kd.R_lower ho11 (below_size (bU_ HB.out))); have n1_ := Aside0.mk (below_step (bU_ HB.out) hb); clear HB; have HO103 := n0_; have HB := n1_; clear n0_ n1_; clear hb ho11; have hcv12 := own_string (P := Try.prog) Try.underlying28 Try.underlying5 Try.underlying9 (Kd.own_of_R HO103.out)) | ((with_reducible refine gate_callee (f := 8) rfl ?_); refine gL_ (some 14) rfl rfl Try.func8 (by kernel_rfl) rfl #[.agg #[.int .i64 0, .int .i64 0, .int .i64 0, .int .i64 0, .int .i64 0, .int .i64 0, .string (⟨#[97, 97, 97, 97]⟩ : ByteArray), .string (⟨#[98, 98, 98, 98]⟩ : ByteArray), .string ⟨#[]⟩], .string (strOfNums y101)] rfl ?_; (with_reducible refine (ipfour_Put.calls k 0 0 0 0 0 0 (⟨#[97, 97, 97, 97]⟩ : ByteArray) (⟨#[98, 98, 98, 98]⟩ : ByteArray) (⟨#[]⟩ : ByteArray) (strOfNums y101) t104 t105 _ A5.out).mono ?_); rintro e w13 ⟨rfl, hb⟩; refine ⟨_, rfl, ?_⟩; have n0_ := Aside0.mk (Kd.R_below (by (with_reducible repeat first | apply Kd.R_alloc | apply Kd.R_drewN | apply Kd.R_drew); exact HO103.out) hb); have n1_ := Aside0.mk (below_step (bU_ HB.out) hb); clear HO103 HB; have HO103 := n0_; have HB := n1_; clear n0_ n1_; (try clear hb); (try clear hb2); (try clear hk); (try clear hi)) | (go_at_call 9; (with_reducible refine (rillmeterlaw06_awake.calls k  t106 _ hrt A9.out).mono ?_); rintro e w14 ⟨rfl, hb⟩; have n0_ := Aside0.mk (Kd.R_below (by (with_reducible repeat first | apply Kd.R_alloc | apply Kd.R_drewN | apply Kd.R_drew); exact HO103.out) hb); have n1_ := Aside0.mk (below_step (bU_ HB.out) hb); clear HO103 HB; have HO103 := n0_; have HB := n1_; clear n0_ n1_; (try clear hb); (try clear hb2); (try clear hk); (try clear hi)))
  go_ret
  exact ⟨by first | rfl | (simp [errW_none, errW_some] <;> rfl) | (simp only [← hji2]; first | rfl | (simp [errW_none, errW_some] <;> rfl)) | (simp [*, errW_none, errW_some] <;> rfl), bU_ HB.out⟩
 ·rw [if_neg c6] at H
  have c6b0 : decide (65515 < (ji2)) = false := decide_eq_false c6
  clear c6
  by_cases c15 : (t104.size : Int) = (wrap64 ((ji2) + 20))
  rotate_left
  ·rw [if_neg c15] at H
   obtain rfl := Option.some.inj H
   exact absurd hrt.out (by decide)
  rw [if_pos c15] at H
  have c15b0 : ((t104.size : Int) == (wrap64 ((ji2) + 20))) = true := beq_iff_eq.mpr c15
  have c15b1 : ((t104.size : Int) != (wrap64 ((ji2) + 20))) = false := bne_eq_false_iff_eq.mpr c15
  clear c15
  by_cases c16 : t105 = 0
  rotate_left
  ·rw [if_neg c16] at H
   obtain rfl := Option.some.inj H
   exact absurd hrt.out (by decide)
  rw [if_pos c16] at H
  have c16b0 : (t105 == 0) = true := beq_iff_eq.mpr c16
  have c16b1 : (t105 != 0) = false := bne_eq_false_iff_eq.mpr c16
  clear c16
  replace H := Option.bind_eq_some_iff.mp H
  obtain ⟨t107, A170, H⟩ := H
  replace H : (some t107) = some r := H
  have A17 := Aside0.mk A170
  clear A170
  obtain rfl := Option.some.inj H
  go_enter Try.func3, Try.ntmps3
  go_wp2_with (first | ((with_reducible refine gate_dst (N := 12) rfl ?_); refine Kd.R_make (Kd.int .u8) _ 5 rfl (N := 12) rfl 28 _ _ rfl ji2 rfl rfl Try.underlying28 (.int .u8 0) 1 info5 rfl (by decide) (by omega) 0 (ok := fun _ => True) (okp := fun _ => True) rfl (fun _ hk => hk) trivial (of_decide_eq_true (by first | (with_reducible assumption) | assumption)) (Nat.le_trans (Nat.mul_le_mul_right _ (of_decide_eq_true (by first | (with_reducible assumption) | assumption) : ji2.toNat ≤ 281474976710656)) (by omega)) (Below.refl _ _) (Nat.le_refl _) ?_; intro v102 w18 ho19 hb hg_ hnew_; clear hg_ hnew_; (first | rw [← Ny101.out] at ho19 | (simp only [Int.reduceToNat] at ho19; rw [← Ny101.out] at ho19)); have n0_ := Aside0.mk (Kd.R_lower ho19 (below_size (bU_ HB.out))); have n1_ := Aside0.mk (below_step (bU_ HB.out) hb); clear HB; have HO103 := n0_; have HB := n1_; clear n0_ n1_; clear hb ho19; have hcv20 := own_string (P := Try.prog) Try.underlying28 Try.underlying5 Try.underlying9 (Kd.own_of_R HO103.out)) | ((with_reducible refine gate_callee (f := 8) rfl ?_); refine gL_ (some 14) rfl rfl Try.func8 (by kernel_rfl) rfl #[.agg #[.int .i64 0, .int .i64 0, .int .i64 0, .int .i64 0, .int .i64 0, .int .i64 0, .string (⟨#[97, 97, 97, 97]⟩ : ByteArray), .string (⟨#[98, 98, 98, 98]⟩ : ByteArray), .string ⟨#[]⟩], .string (strOfNums y101)] rfl ?_; (with_reducible refine (ipfour_Put.calls k 0 0 0 0 0 0 (⟨#[97, 97, 97, 97]⟩ : ByteArray) (⟨#[98, 98, 98, 98]⟩ : ByteArray) (⟨#[]⟩ : ByteArray) (strOfNums y101) t104 t105 _ A5.out).mono ?_); rintro e w21 ⟨rfl, hb⟩; refine ⟨_, rfl, ?_⟩; have n0_ := Aside0.mk (Kd.R_below (by (with_reducible repeat first | apply Kd.R_alloc | apply Kd.R_drewN | apply Kd.R_drew); exact HO103.out) hb); have n1_ := Aside0.mk (below_step (bU_ HB.out) hb); clear HO103 HB; have HO103 := n0_; have HB := n1_; clear n0_ n1_; (try clear hb); (try clear hb2); (try clear hk); (try clear hi)) | (go_at_call 9; (with_reducible refine (rillmeterlaw06_awake.calls k  t107 _ hrt A17.out).mono ?_); rintro e w22 ⟨rfl, hb⟩; have n0_ := Aside0.mk (Kd.R_below (by (with_reducible repeat first | apply Kd.R_alloc | apply Kd.R_drewN | apply Kd.R_drew); exact HO103.out) hb); have n1_ := Aside0.mk (below_step (bU_ HB.out) hb); clear HO103 HB; have HO103 := n0_; have HB := n1_; clear n0_ n1_; (try clear hb); (try clear hb2); (try clear hk); (try clear hi)))
  go_ret
  exact ⟨by first | rfl | (simp [errW_none, errW_some] <;> rfl) | (simp only [← hji2]; first | rfl | (simp [errW_none, errW_some] <;> rfl)) | (simp [*, errW_none, errW_some] <;> rfl), bU_ HB.out⟩

/-- THE ONE PURE STATEMENT of rillmeterlaw06_IpfourLong: yours. -/
def rillmeterlaw06_IpfourLong.Pure : Prop := ∀ (a0 : Int), (Lit.int .i8 a0).wf = true → ∃ k, rillmeterlaw06_IpfourLong.f k a0 = some true
theorem rillmeterlaw06_IpfourLong.walk (P : rillmeterlaw06_IpfourLong.Pure) (a0 : Int) (w : World) (w0 : (Lit.int .i8 a0).wf = true) :
  Calls Try.prog 3 #[.int .i8 a0] w fun e w' => e = .returned (.bool true) ∧ Below w.heap.size w w' := by
 obtain ⟨k, h⟩ := P a0 w0
 refine (rillmeterlaw06_IpfourLong.calls k a0 true w (Aside0.mk rfl) h).mono ?_
 rintro e w' ⟨rfl, hd⟩
 exact ⟨rfl, hd⟩
/-! ### octet_Cut: function 25 -/
def octet_Cut.f (a0 : ByteArray) (a1 : Int) : Option (ByteArray × ByteArray × Int) := if a1 < 0 then (some ((⟨#[]⟩ : ByteArray), (⟨#[]⟩ : ByteArray), 1)) else (if (a0.size : Int) < a1 then (some ((⟨#[]⟩ : ByteArray), (⟨#[]⟩ : ByteArray), 2)) else (if 0 ≤ a1 then (if a1 ≤ (a0.size : Int) then (some (a0.extract 0 (a1 : Int).toNat, a0.extract (a1 : Int).toNat a0.size, 0)) else (none)) else (none)))
set_option maxHeartbeats 8000000 in
set_option maxRecDepth 100000 in
theorem octet_Cut.calls (a0 : ByteArray) (a1 : Int) (r1 : ByteArray) (r2 : ByteArray) (r3 : Int) (w : World) (h : octet_Cut.f a0 a1 = some (r1, r2, r3)) :
  Calls Try.prog 25 #[.string a0, .int .i64 a1] w fun e w' => e = .returned (.tuple #[.string r1, .string r2, .int .i64 r3]) ∧ Drawn0 w w' := by
 have H : (if a1 < 0 then (some ((⟨#[]⟩ : ByteArray), (⟨#[]⟩ : ByteArray), 1)) else (if (a0.size : Int) < a1 then (some ((⟨#[]⟩ : ByteArray), (⟨#[]⟩ : ByteArray), 2)) else (if 0 ≤ a1 then (if a1 ≤ (a0.size : Int) then (some (a0.extract 0 (a1 : Int).toNat, a0.extract (a1 : Int).toNat a0.size, 0)) else (none)) else (none)))) = some (r1, r2, r3) := h
 clear h
 by_cases c3 : a1 < 0
 ·rw [if_pos c3] at H
  have c3b0 : decide (a1 < 0) = true := decide_eq_true c3
  clear c3
  simp only [Option.some.injEq, Prod.mk.injEq] at H
  obtain ⟨rfl, rfl, rfl⟩ := H
  go_enter Try.func25, Try.ntmps25
  go_wp2
  repeat (go_quiet (fail); try go_wp2)
  go_ret3
  exact ⟨by first | rfl | (simp; done) | (simp [*]; done), by repeat (first | exact Drawn0.refl _ | apply Drawn0.step)⟩
 ·rw [if_neg c3] at H
  have c3b0 : decide (a1 < 0) = false := decide_eq_false c3
  clear c3
  by_cases c4 : (a0.size : Int) < a1
  ·rw [if_pos c4] at H
   have c4b0 : decide ((a0.size : Int) < a1) = true := decide_eq_true c4
   clear c4
   simp only [Option.some.injEq, Prod.mk.injEq] at H
   obtain ⟨rfl, rfl, rfl⟩ := H
   go_enter Try.func25, Try.ntmps25
   go_wp2
   repeat (go_quiet (fail); try go_wp2)
   go_ret3
   exact ⟨by first | rfl | (simp; done) | (simp [*]; done), by repeat (first | exact Drawn0.refl _ | apply Drawn0.step)⟩
  ·rw [if_neg c4] at H
   have c4b0 : decide ((a0.size : Int) < a1) = false := decide_eq_false c4
   clear c4
   by_cases c5 : 0 ≤ a1
   rotate_left
   ·rw [if_neg c5] at H
    exact absurd H (by simp)
   rw [if_pos c5] at H
   have c5b0 := eq_true c5
   have c5b1 : decide (0 ≤ a1) = true := decide_eq_true c5
   clear c5
   by_cases c6 : a1 ≤ (a0.size : Int)
   rotate_left
   ·rw [if_neg c6] at H
    exact absurd H (by simp)
   rw [if_pos c6] at H
   have c6b0 := eq_true c6
   have c6b1 : decide (a1 ≤ (a0.size : Int)) = true := decide_eq_true c6
   clear c6
   have c7b0 := eq_true (of_decide_eq_true (by first | (with_reducible assumption) | assumption) : 0 ≤ a1)
   have c8b0 := eq_true (of_decide_eq_true (by first | (with_reducible assumption) | assumption) : a1 ≤ (a0.size : Int))
   simp only [Option.some.injEq, Prod.mk.injEq] at H
   obtain ⟨rfl, rfl, rfl⟩ := H
   go_enter Try.func25, Try.ntmps25
   go_wp2
   repeat (go_quiet (fail); try go_wp2)
   go_ret3
   exact ⟨by first | rfl | (simp; done) | (simp [*]; done), by repeat (first | exact Drawn0.refl _ | apply Drawn0.step)⟩
end Go.Proofs.Ytdmofjhncdkofaa.Q
