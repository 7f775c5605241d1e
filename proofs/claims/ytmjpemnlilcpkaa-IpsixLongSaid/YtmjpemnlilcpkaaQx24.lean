-- made by a program of this session (wip/print-patch.py, over the kit's print)
import Derived.Test.YtmjpemnlilcpkaaQx0
import Derived.Test.YtmjpemnlilcpkaaQx12
import Derived.Test.YtmjpemnlilcpkaaQx13
namespace Go.Proofs.Ytmjpemnlilcpkaa.Q
open Go.RowKit Go.Proofs.YtmjpemnlilcpkaaW.PrintWords Go.Proofs.YtmjpemnlilcpkaaW.PrintLast Go.Proofs.YtmjpemnlilcpkaaW.PrintMore
attribute [local go_sem] max2_int min2_int max_two min_two max_three min_three max_four min_four   -- for this text's walks alone
set_option linter.unusedVariables false
set_option linter.unusedSimpArgs false

attribute [local go_sem] cell_twice_ cell_twiceN_
/-! ### rillmeterlaw07_IpsixLong: function 5 -/
def rillmeterlaw07_IpsixLong.f (k : Nat) (a0 : Int) : Option (Bool) := if 0 ≤ (wrap64 (65535 + (wrap64 (a0)))) then (if (wrap64 (65535 + (wrap64 (a0))) : Int).toNat ≤ 281474976710656 then ((ipsix_Put.f k 0 0 0 59 (⟨#[115, 115, 115, 115, 115, 115, 115, 115, 115, 115, 115, 115, 115, 115, 115, 115]⟩ : ByteArray) (⟨#[100, 100, 100, 100, 100, 100, 100, 100, 100, 100, 100, 100, 100, 100, 100, 100]⟩ : ByteArray) ([] : List (S49)) (strOfNums (List.replicate (wrap64 (65535 + (wrap64 (a0))) : Int).toNat 0))).bind fun bt104 => (if (wrap64 (65535 + (wrap64 (a0)))) > 65535 then (if bt104.1.toList = ([] : List UInt8) then (if bt104.2 = 1 then ((rillmeterlaw07_awake.f k).bind fun t106 => (some t106)) else (some false)) else (some false)) else (if (bt104.1.size : Int) = (wrap64 ((wrap64 (65535 + (wrap64 (a0)))) + 40)) then (if bt104.2 = 0 then ((rillmeterlaw07_awake.f k).bind fun t107 => (some t107)) else (some false)) else (some false)))) else (none)) else (none)
theorem rillmeterlaw07_IpsixLong.mono : ∀ a0 k, LeO (rillmeterlaw07_IpsixLong.f k a0) (rillmeterlaw07_IpsixLong.f (k + 1) a0) := by
 intro a0 k
 unfold rillmeterlaw07_IpsixLong.f
 repeat' first
   | (with_reducible exact ipsix_Put.mono _ _ _ _ _ _ _ _ _)
   | (with_reducible exact rillmeterlaw07_awake.mono _)
   | (with_reducible exact LeO.refl _)
   | (with_reducible exact LeO.none _)
   | (with_reducible refine LeO.ite ?_ ?_)
   | (with_reducible refine LeO.bind ?_ (fun _ => ?_))
   | exact ipsix_Put.mono _ _ _ _ _ _ _ _ _
   | exact rillmeterlaw07_awake.mono _
   | exact LeO.none _
   | refine LeO.ite ?_ ?_
   | refine LeO.bind ?_ (fun _ => ?_)
set_option maxHeartbeats 8000000 in
set_option maxRecDepth 100000 in
theorem rillmeterlaw07_IpsixLong.calls (k : Nat) (a0 : Int) (r : Bool) (w : World) (hrt : Aside0 (r = true)) (h : rillmeterlaw07_IpsixLong.f k a0 = some r) :
  Calls Try.prog 5 #[.int .i8 a0] w fun e w' => e = .returned (.bool r) ∧ Below w.heap.size w w' := by
 have hu25 := Try.underlying25
 have HB := Aside0.mk (Below.refl w.heap.size w)
 have H : (if 0 ≤ (wrap64 (65535 + (wrap64 (a0)))) then (if (wrap64 (65535 + (wrap64 (a0))) : Int).toNat ≤ 281474976710656 then ((ipsix_Put.f k 0 0 0 59 (⟨#[115, 115, 115, 115, 115, 115, 115, 115, 115, 115, 115, 115, 115, 115, 115, 115]⟩ : ByteArray) (⟨#[100, 100, 100, 100, 100, 100, 100, 100, 100, 100, 100, 100, 100, 100, 100, 100]⟩ : ByteArray) ([] : List (S49)) (strOfNums (List.replicate (wrap64 (65535 + (wrap64 (a0))) : Int).toNat 0))).bind fun bt104 => (if (wrap64 (65535 + (wrap64 (a0)))) > 65535 then (if bt104.1.toList = ([] : List UInt8) then (if bt104.2 = 1 then ((rillmeterlaw07_awake.f k).bind fun t106 => (some t106)) else (some false)) else (some false)) else (if (bt104.1.size : Int) = (wrap64 ((wrap64 (65535 + (wrap64 (a0)))) + 40)) then (if bt104.2 = 0 then ((rillmeterlaw07_awake.f k).bind fun t107 => (some t107)) else (some false)) else (some false)))) else (none)) else (none)) = some r := h
 clear h
 obtain ⟨ji2, hji2⟩ : ∃ j_ : Int, (wrap64 (65535 + (wrap64 (a0)))) = j_ := ⟨_, rfl⟩
 replace H : (if 0 ≤ (ji2) then (if (ji2 : Int).toNat ≤ 281474976710656 then ((ipsix_Put.f k 0 0 0 59 (⟨#[115, 115, 115, 115, 115, 115, 115, 115, 115, 115, 115, 115, 115, 115, 115, 115]⟩ : ByteArray) (⟨#[100, 100, 100, 100, 100, 100, 100, 100, 100, 100, 100, 100, 100, 100, 100, 100]⟩ : ByteArray) ([] : List (S49)) (strOfNums (List.replicate (ji2 : Int).toNat 0))).bind fun bt104 => (if (ji2) > 65535 then (if bt104.1.toList = ([] : List UInt8) then (if bt104.2 = 1 then ((rillmeterlaw07_awake.f k).bind fun t106 => (some t106)) else (some false)) else (some false)) else (if (bt104.1.size : Int) = (wrap64 ((ji2) + 40)) then (if bt104.2 = 0 then ((rillmeterlaw07_awake.f k).bind fun t107 => (some t107)) else (some false)) else (some false)))) else (none)) else (none)) = some r := by first | (rw [hji2] at H; exact H) | (simp only [hji2] at H ⊢; exact H)
 have hji2w : (IntKind.i64.wrap (65535 + (wrap64 (a0)))) = ji2 := (i64_w _).trans hji2
 by_cases c3 : 0 ≤ (ji2)
 ·rw [if_pos c3] at H
  have c3b0 := eq_true c3
  have c3b1 : decide (0 ≤ (ji2)) = true := decide_eq_true c3
  clear c3
  by_cases c4 : (ji2 : Int).toNat ≤ 281474976710656
  ·rw [if_pos c4] at H
   have c4b0 := eq_true c4
   have c4b1 : decide ((ji2 : Int).toNat ≤ 281474976710656) = true := decide_eq_true c4
   clear c4
   obtain ⟨y101, hy101⟩ : ∃ y_ : List Int, y_ = (List.replicate (ji2 : Int).toNat 0) := ⟨_, rfl⟩
   replace H : ((ipsix_Put.f k 0 0 0 59 (⟨#[115, 115, 115, 115, 115, 115, 115, 115, 115, 115, 115, 115, 115, 115, 115, 115]⟩ : ByteArray) (⟨#[100, 100, 100, 100, 100, 100, 100, 100, 100, 100, 100, 100, 100, 100, 100, 100]⟩ : ByteArray) ([] : List (S49)) (strOfNums y101)).bind fun bt104 => (if (ji2) > 65535 then (if bt104.1.toList = ([] : List UInt8) then (if bt104.2 = 1 then ((rillmeterlaw07_awake.f k).bind fun t106 => (some t106)) else (some false)) else (some false)) else (if (bt104.1.size : Int) = (wrap64 ((ji2) + 40)) then (if bt104.2 = 0 then ((rillmeterlaw07_awake.f k).bind fun t107 => (some t107)) else (some false)) else (some false)))) = some r := by first | (rw [hy101]; with_reducible exact H) | (have H2_ := (Option.bind_some _ _).symm.trans H; rw [hy101]; with_reducible exact H2_) | (have H2_ := (Option.bind_some _ _).symm.trans H; with_reducible exact H2_) | with_reducible exact H | (rw [hy101]; exact H) | exact H
   have Ny101 := Aside0.mk hy101
   clear hy101
   replace H := Option.bind_eq_some_iff.mp H
   obtain ⟨⟨t104, t105⟩, A50, H⟩ := H
   replace H : (if (ji2) > 65535 then (if t104.toList = ([] : List UInt8) then (if t105 = 1 then ((rillmeterlaw07_awake.f k).bind fun t106 => (some t106)) else (some false)) else (some false)) else (if (t104.size : Int) = (wrap64 ((ji2) + 40)) then (if t105 = 0 then ((rillmeterlaw07_awake.f k).bind fun t107 => (some t107)) else (some false)) else (some false))) = some r := H
   have A5 := Aside0.mk A50
   clear A50
   by_cases c6 : (ji2) > 65535
   ·rw [if_pos c6] at H
    have c6b0 : decide (65535 < (ji2)) = true := decide_eq_true c6
    clear c6
    by_cases c7 : t104.toList = ([] : List UInt8)
    ·rw [if_pos c7] at H
     have c7b0 : (t104.toList == ([] : List UInt8)) = true := beq_iff_eq.mpr c7
     have c7b1 : (t104.toList != ([] : List UInt8)) = false := bne_eq_false_iff_eq.mpr c7
     clear c7
     by_cases c8 : t105 = 1
     ·rw [if_pos c8] at H
      have c8b0 : (t105 == 1) = true := beq_iff_eq.mpr c8
      have c8b1 : (t105 != 1) = false := bne_eq_false_iff_eq.mpr c8
      clear c8
      replace H := Option.bind_eq_some_iff.mp H
      obtain ⟨t106, A90, H⟩ := H
      replace H : (some t106) = some r := H
      have A9 := Aside0.mk A90
      clear A90
      obtain rfl := Option.some.inj H
      go_enter Try.func5, Try.ntmps5
      go_wp2_with (first | ((with_reducible refine gate_dst (N := 12) rfl ?_); refine Kd.R_make (Kd.int .u8) _ 5 rfl (N := 12) rfl 45 _ _ rfl ji2 rfl rfl Try.underlying45 (.int .u8 0) 1 info5 rfl (by decide) (by omega) 0 (ok := fun _ => True) (okp := fun _ => True) rfl (fun _ hk => hk) trivial (of_decide_eq_true (by first | (with_reducible assumption) | assumption)) (Nat.le_trans (Nat.mul_le_mul_right _ (of_decide_eq_true (by first | (with_reducible assumption) | assumption) : ji2.toNat ≤ 281474976710656)) (by omega)) (Below.refl _ _) (Nat.le_refl _) ?_; intro v102 w10 ho11 hb hg_ hnew_; clear hg_ hnew_; (first | rw [← Ny101.out] at ho11 | (simp only [Int.reduceToNat] at ho11; rw [← Ny101.out] at ho11)); have n0_ := Aside0.mk (Kd.R_lower ho11 (below_size (bU_ HB.out))); have n1_ := Aside0.mk (below_step (bU_ HB.out) hb); clear HB; have HO103 := n0_; have HB := n1_; clear n0_ n1_; clear hb ho11; have hcv12 := own_string (P := Try.prog) Try.underlying45 Try.underlying5 Try.underlying9 (Kd.own_of_R HO103.out)) | ((with_reducible refine gate_callee (f := 16) rfl ?_); refine gL_ (some 14) rfl rfl Try.func16 (by kernel_rfl) rfl #[.agg #[.int .i64 0, .int .i64 0, .int .i64 0, .int .i64 59, .string (⟨#[115, 115, 115, 115, 115, 115, 115, 115, 115, 115, 115, 115, 115, 115, 115, 115]⟩ : ByteArray), .string (⟨#[100, 100, 100, 100, 100, 100, 100, 100, 100, 100, 100, 100, 100, 100, 100, 100]⟩ : ByteArray), .slice none 0 0], .string (strOfNums y101)] rfl ?_; (refine (ipsix_Put.calls k 0 0 0 59 (⟨#[115, 115, 115, 115, 115, 115, 115, 115, 115, 115, 115, 115, 115, 115, 115, 115]⟩ : ByteArray) (⟨#[100, 100, 100, 100, 100, 100, 100, 100, 100, 100, 100, 100, 100, 100, 100, 100]⟩ : ByteArray) _ _ ([] : List (S49)) (strOfNums y101) t104 t105 _ ?side1 ?side2 A5.out).mono ?_); (case side1 => exact Kd.C_nil _ _); (case side2 => exact Nat.le_refl _); rintro e w13 ⟨rfl, hb⟩; refine ⟨_, rfl, ?_⟩; have n0_ := Aside0.mk (Kd.R_below (by (with_reducible repeat first | apply Kd.R_alloc | apply Kd.R_drewN | apply Kd.R_drew); exact HO103.out) hb); have n1_ := Aside0.mk (below_step (bU_ HB.out) hb); clear HO103; clear HB; have HO103 := n0_; have HB := n1_; clear n0_ n1_; (try clear hb); (try clear hb2); (try clear hk); (try clear hi)) | (go_at_call 8; (with_reducible refine (rillmeterlaw07_awake.calls k  t106 _ hrt A9.out).mono ?_); rintro e w14 ⟨rfl, hb⟩; have n0_ := Aside0.mk (Kd.R_below (by (with_reducible repeat first | apply Kd.R_alloc | apply Kd.R_drewN | apply Kd.R_drew); exact HO103.out) hb); have n1_ := Aside0.mk (below_step (bU_ HB.out) hb); clear HO103; clear HB; have HO103 := n0_; have HB := n1_; clear n0_ n1_; (try clear hb); (try clear hb2); (try clear hk); (try clear hi)))
      go_ret
      exact ⟨by first | rfl | (simp [errW_none, errW_some] <;> rfl) | (simp only [← hji2]; first | rfl | (simp [errW_none, errW_some] <;> rfl)) | (simp [*, errW_none, errW_some] <;> rfl), bU_ HB.out⟩
     ·rw [if_neg c8] at H
      obtain rfl := Option.some.inj H
      exact absurd hrt.out (by decide)
    ·rw [if_neg c7] at H
     obtain rfl := Option.some.inj H
     exact absurd hrt.out (by decide)
   ·rw [if_neg c6] at H
    have c6b0 : decide (65535 < (ji2)) = false := decide_eq_false c6
    clear c6
    by_cases c15 : (t104.size : Int) = (wrap64 ((ji2) + 40))
    ·rw [if_pos c15] at H
     have c15b0 : ((t104.size : Int) == (wrap64 ((ji2) + 40))) = true := beq_iff_eq.mpr c15
     have c15b1 : ((t104.size : Int) != (wrap64 ((ji2) + 40))) = false := bne_eq_false_iff_eq.mpr c15
     clear c15
     by_cases c16 : t105 = 0
     ·rw [if_pos c16] at H
      have c16b0 : (t105 == 0) = true := beq_iff_eq.mpr c16
      have c16b1 : (t105 != 0) = false := bne_eq_false_iff_eq.mpr c16
      clear c16
      replace H := Option.bind_eq_some_iff.mp H
      obtain ⟨t107, A170, H⟩ := H
      replace H : (some t107) = some r := H
      have A17 := Aside0.mk A170
      clear A170
      obtain rfl := Option.some.inj H
      go_enter Try.func5, Try.ntmps5
      go_wp2_with (first | ((with_reducible refine gate_dst (N := 12) rfl ?_); refine Kd.R_make (Kd.int .u8) _ 5 rfl (N := 12) rfl 45 _ _ rfl ji2 rfl rfl Try.underlying45 (.int .u8 0) 1 info5 rfl (by decide) (by omega) 0 (ok := fun _ => True) (okp := fun _ => True) rfl (fun _ hk => hk) trivial (of_decide_eq_true (by first | (with_reducible assumption) | assumption)) (Nat.le_trans (Nat.mul_le_mul_right _ (of_decide_eq_true (by first | (with_reducible assumption) | assumption) : ji2.toNat ≤ 281474976710656)) (by omega)) (Below.refl _ _) (Nat.le_refl _) ?_; intro v102 w18 ho19 hb hg_ hnew_; clear hg_ hnew_; (first | rw [← Ny101.out] at ho19 | (simp only [Int.reduceToNat] at ho19; rw [← Ny101.out] at ho19)); have n0_ := Aside0.mk (Kd.R_lower ho19 (below_size (bU_ HB.out))); have n1_ := Aside0.mk (below_step (bU_ HB.out) hb); clear HB; have HO103 := n0_; have HB := n1_; clear n0_ n1_; clear hb ho19; have hcv20 := own_string (P := Try.prog) Try.underlying45 Try.underlying5 Try.underlying9 (Kd.own_of_R HO103.out)) | ((with_reducible refine gate_callee (f := 16) rfl ?_); refine gL_ (some 14) rfl rfl Try.func16 (by kernel_rfl) rfl #[.agg #[.int .i64 0, .int .i64 0, .int .i64 0, .int .i64 59, .string (⟨#[115, 115, 115, 115, 115, 115, 115, 115, 115, 115, 115, 115, 115, 115, 115, 115]⟩ : ByteArray), .string (⟨#[100, 100, 100, 100, 100, 100, 100, 100, 100, 100, 100, 100, 100, 100, 100, 100]⟩ : ByteArray), .slice none 0 0], .string (strOfNums y101)] rfl ?_; (refine (ipsix_Put.calls k 0 0 0 59 (⟨#[115, 115, 115, 115, 115, 115, 115, 115, 115, 115, 115, 115, 115, 115, 115, 115]⟩ : ByteArray) (⟨#[100, 100, 100, 100, 100, 100, 100, 100, 100, 100, 100, 100, 100, 100, 100, 100]⟩ : ByteArray) _ _ ([] : List (S49)) (strOfNums y101) t104 t105 _ ?side1 ?side2 A5.out).mono ?_); (case side1 => exact Kd.C_nil _ _); (case side2 => exact Nat.le_refl _); rintro e w21 ⟨rfl, hb⟩; refine ⟨_, rfl, ?_⟩; have n0_ := Aside0.mk (Kd.R_below (by (with_reducible repeat first | apply Kd.R_alloc | apply Kd.R_drewN | apply Kd.R_drew); exact HO103.out) hb); have n1_ := Aside0.mk (below_step (bU_ HB.out) hb); clear HO103; clear HB; have HO103 := n0_; have HB := n1_; clear n0_ n1_; (try clear hb); (try clear hb2); (try clear hk); (try clear hi)) | (go_at_call 8; (with_reducible refine (rillmeterlaw07_awake.calls k  t107 _ hrt A17.out).mono ?_); rintro e w22 ⟨rfl, hb⟩; have n0_ := Aside0.mk (Kd.R_below (by (with_reducible repeat first | apply Kd.R_alloc | apply Kd.R_drewN | apply Kd.R_drew); exact HO103.out) hb); have n1_ := Aside0.mk (below_step (bU_ HB.out) hb); clear HO103; clear HB; have HO103 := n0_; have HB := n1_; clear n0_ n1_; (try clear hb); (try clear hb2); (try clear hk); (try clear hi)))
      go_ret
      exact ⟨by first | rfl | (simp [errW_none, errW_some] <;> rfl) | (simp only [← hji2]; first | rfl | (simp [errW_none, errW_some] <;> rfl)) | (simp [*, errW_none, errW_some] <;> rfl), bU_ HB.out⟩
     ·rw [if_neg c16] at H
      obtain rfl := Option.some.inj H
      exact absurd hrt.out (by decide)
    ·rw [if_neg c15] at H
     obtain rfl := Option.some.inj H
     exact absurd hrt.out (by decide)
  ·rw [if_neg c4] at H
   exact absurd H (by simp)
 ·rw [if_neg c3] at H
  exact absurd H (by simp)

/-- THE ONE PURE STATEMENT of rillmeterlaw07_IpsixLong: yours. -/
def rillmeterlaw07_IpsixLong.Pure : Prop := ∀ (a0 : Int), (Lit.int .i8 a0).wf = true → ∃ k, rillmeterlaw07_IpsixLong.f k a0 = some true
theorem rillmeterlaw07_IpsixLong.walk (P : rillmeterlaw07_IpsixLong.Pure) (a0 : Int) (w : World) (w0 : (Lit.int .i8 a0).wf = true) :
  Calls Try.prog 5 #[.int .i8 a0] w fun e w' => e = .returned (.bool true) ∧ Below w.heap.size w w' := by
 obtain ⟨k, h⟩ := P a0 w0
 refine (rillmeterlaw07_IpsixLong.calls k a0 true w (Aside0.mk rfl) h).mono ?_
 rintro e w' ⟨rfl, hd⟩
 exact ⟨rfl, hd⟩

end Go.Proofs.Ytmjpemnlilcpkaa.Q
