-- made by a program of this session (wip/print-patch.py, over the kit's print)
import Derived.Test.YtfdhifigndmgaaaQx0
import Derived.Test.YtfdhifigndmgaaaQx2
namespace Go.Proofs.Ytfdhifigndmgaaa.Q
open Go.RowKit Go.Proofs.YtfdhifigndmgaaaW.PrintWords Go.Proofs.YtfdhifigndmgaaaW.PrintLast Go.Proofs.YtfdhifigndmgaaaW.PrintMore
attribute [local go_sem] max2_int min2_int max_two min_two max_three min_three max_four min_four   -- for this text's walks alone
set_option linter.unusedVariables false
set_option linter.unusedSimpArgs false

attribute [local go_sem] cell_twice_ cell_twiceN_
/-! ### flow_Key: function 9 -/
def flow_Key.f (k : Nat) (a0_0 : ByteArray) (a0_1 : ByteArray) (a0_2 : Int) (a0_3 : Int) (a0_4 : Int) : Option (ByteArray × Int) := (octet_Put.f k a0_2 1).bind fun bt102 => ((octet_Put.f k a0_3 2).bind fun bt104 => ((octet_Put.f k a0_4 2).bind fun bt106 => (if (a0_0.size : Int) = 16 then (if (a0_1.size : Int) = 16 then (if (mx (mx bt102.2 bt104.2) bt106.2) = 0 then (if a0_0.size + a0_1.size ≤ 9223372036854775807 then (if (a0_0 ++ a0_1).size + bt102.1.size ≤ 9223372036854775807 then (if ((a0_0 ++ a0_1) ++ bt102.1).size + bt104.1.size ≤ 9223372036854775807 then (if (((a0_0 ++ a0_1) ++ bt102.1) ++ bt104.1).size + bt106.1.size ≤ 9223372036854775807 then (some ((((a0_0 ++ a0_1) ++ bt102.1) ++ bt104.1) ++ bt106.1, 0)) else (none)) else (none)) else (none)) else (none)) else (some ((⟨#[]⟩ : ByteArray), 1))) else (some ((⟨#[]⟩ : ByteArray), 1))) else (some ((⟨#[]⟩ : ByteArray), 1)))))
theorem flow_Key.mono : ∀ a0 a1 a2 a3 a4 k, LeO (flow_Key.f k a0 a1 a2 a3 a4) (flow_Key.f (k + 1) a0 a1 a2 a3 a4) := by
 intro a0 a1 a2 a3 a4 k
 unfold flow_Key.f
 repeat' first
   | (with_reducible exact octet_Put.mono _ _ _)
   | (with_reducible exact LeO.refl _)
   | (with_reducible exact LeO.none _)
   | (with_reducible refine LeO.ite ?_ ?_)
   | (with_reducible refine LeO.bind ?_ (fun _ => ?_))
   | exact octet_Put.mono _ _ _
   | exact LeO.none _
   | refine LeO.ite ?_ ?_
   | refine LeO.bind ?_ (fun _ => ?_)
set_option maxHeartbeats 8000000 in
set_option maxRecDepth 100000 in
theorem flow_Key.calls (k : Nat) (a0_0 : ByteArray) (a0_1 : ByteArray) (a0_2 : Int) (a0_3 : Int) (a0_4 : Int) (r1 : ByteArray) (r2 : Int) (w : World) (h : flow_Key.f k a0_0 a0_1 a0_2 a0_3 a0_4 = some (r1, r2)) :
  Calls Try.prog 9 #[.agg #[.string a0_0, .string a0_1, .int .i64 a0_2, .int .i64 a0_3, .int .i64 a0_4]] w fun e w' => e = .returned (.tuple #[.string r1, .int .i64 r2]) ∧ Below w.heap.size w w' := by
 have hu23 := Try.underlying23
 have HB := Aside0.mk (Below.refl w.heap.size w)
 have H : ((octet_Put.f k a0_2 1).bind fun bt102 => ((octet_Put.f k a0_3 2).bind fun bt104 => ((octet_Put.f k a0_4 2).bind fun bt106 => (if (a0_0.size : Int) = 16 then (if (a0_1.size : Int) = 16 then (if (mx (mx bt102.2 bt104.2) bt106.2) = 0 then (if a0_0.size + a0_1.size ≤ 9223372036854775807 then (if (a0_0 ++ a0_1).size + bt102.1.size ≤ 9223372036854775807 then (if ((a0_0 ++ a0_1) ++ bt102.1).size + bt104.1.size ≤ 9223372036854775807 then (if (((a0_0 ++ a0_1) ++ bt102.1) ++ bt104.1).size + bt106.1.size ≤ 9223372036854775807 then (some ((((a0_0 ++ a0_1) ++ bt102.1) ++ bt104.1) ++ bt106.1, 0)) else (none)) else (none)) else (none)) else (none)) else (some ((⟨#[]⟩ : ByteArray), 1))) else (some ((⟨#[]⟩ : ByteArray), 1))) else (some ((⟨#[]⟩ : ByteArray), 1)))))) = some (r1, r2) := h
 clear h
 replace H := Option.bind_eq_some_iff.mp H
 obtain ⟨⟨t102, t103⟩, A20, H⟩ := H
 replace H : ((octet_Put.f k a0_3 2).bind fun bt104 => ((octet_Put.f k a0_4 2).bind fun bt106 => (if (a0_0.size : Int) = 16 then (if (a0_1.size : Int) = 16 then (if (mx (mx t103 bt104.2) bt106.2) = 0 then (if a0_0.size + a0_1.size ≤ 9223372036854775807 then (if (a0_0 ++ a0_1).size + t102.size ≤ 9223372036854775807 then (if ((a0_0 ++ a0_1) ++ t102).size + bt104.1.size ≤ 9223372036854775807 then (if (((a0_0 ++ a0_1) ++ t102) ++ bt104.1).size + bt106.1.size ≤ 9223372036854775807 then (some ((((a0_0 ++ a0_1) ++ t102) ++ bt104.1) ++ bt106.1, 0)) else (none)) else (none)) else (none)) else (none)) else (some ((⟨#[]⟩ : ByteArray), 1))) else (some ((⟨#[]⟩ : ByteArray), 1))) else (some ((⟨#[]⟩ : ByteArray), 1))))) = some (r1, r2) := H
 have A2 := Aside0.mk A20
 clear A20
 replace H := Option.bind_eq_some_iff.mp H
 obtain ⟨⟨t104, t105⟩, A30, H⟩ := H
 replace H : ((octet_Put.f k a0_4 2).bind fun bt106 => (if (a0_0.size : Int) = 16 then (if (a0_1.size : Int) = 16 then (if (mx (mx t103 t105) bt106.2) = 0 then (if a0_0.size + a0_1.size ≤ 9223372036854775807 then (if (a0_0 ++ a0_1).size + t102.size ≤ 9223372036854775807 then (if ((a0_0 ++ a0_1) ++ t102).size + t104.size ≤ 9223372036854775807 then (if (((a0_0 ++ a0_1) ++ t102) ++ t104).size + bt106.1.size ≤ 9223372036854775807 then (some ((((a0_0 ++ a0_1) ++ t102) ++ t104) ++ bt106.1, 0)) else (none)) else (none)) else (none)) else (none)) else (some ((⟨#[]⟩ : ByteArray), 1))) else (some ((⟨#[]⟩ : ByteArray), 1))) else (some ((⟨#[]⟩ : ByteArray), 1)))) = some (r1, r2) := H
 have A3 := Aside0.mk A30
 clear A30
 replace H := Option.bind_eq_some_iff.mp H
 obtain ⟨⟨t106, t107⟩, A40, H⟩ := H
 replace H : (if (a0_0.size : Int) = 16 then (if (a0_1.size : Int) = 16 then (if (mx (mx t103 t105) t107) = 0 then (if a0_0.size + a0_1.size ≤ 9223372036854775807 then (if (a0_0 ++ a0_1).size + t102.size ≤ 9223372036854775807 then (if ((a0_0 ++ a0_1) ++ t102).size + t104.size ≤ 9223372036854775807 then (if (((a0_0 ++ a0_1) ++ t102) ++ t104).size + t106.size ≤ 9223372036854775807 then (some ((((a0_0 ++ a0_1) ++ t102) ++ t104) ++ t106, 0)) else (none)) else (none)) else (none)) else (none)) else (some ((⟨#[]⟩ : ByteArray), 1))) else (some ((⟨#[]⟩ : ByteArray), 1))) else (some ((⟨#[]⟩ : ByteArray), 1))) = some (r1, r2) := H
 have A4 := Aside0.mk A40
 clear A40
 by_cases c5 : (a0_0.size : Int) = 16
 ·rw [if_pos c5] at H
  have c5b0 : ((a0_0.size : Int) == 16) = true := beq_iff_eq.mpr c5
  have c5b1 : ((a0_0.size : Int) != 16) = false := bne_eq_false_iff_eq.mpr c5
  clear c5
  by_cases c6 : (a0_1.size : Int) = 16
  ·rw [if_pos c6] at H
   have c6b0 : ((a0_1.size : Int) == 16) = true := beq_iff_eq.mpr c6
   have c6b1 : ((a0_1.size : Int) != 16) = false := bne_eq_false_iff_eq.mpr c6
   clear c6
   obtain ⟨ji7, hji7⟩ : ∃ j_ : Int, (mx t103 t105) = j_ := ⟨_, rfl⟩
   replace H : (if (mx (ji7) t107) = 0 then (if a0_0.size + a0_1.size ≤ 9223372036854775807 then (if (a0_0 ++ a0_1).size + t102.size ≤ 9223372036854775807 then (if ((a0_0 ++ a0_1) ++ t102).size + t104.size ≤ 9223372036854775807 then (if (((a0_0 ++ a0_1) ++ t102) ++ t104).size + t106.size ≤ 9223372036854775807 then (some ((((a0_0 ++ a0_1) ++ t102) ++ t104) ++ t106, 0)) else (none)) else (none)) else (none)) else (none)) else (some ((⟨#[]⟩ : ByteArray), 1))) = some (r1, r2) := by first | (rw [hji7] at H; exact H) | (simp only [hji7] at H ⊢; exact H)
   (try rw [hji7] at A2)
   (try rw [hji7] at A3)
   (try rw [hji7] at A4)
   have hji7_ : (if t103 < t105 then t105 else t103) = ji7 := hji7
   obtain ⟨ji8, hji8⟩ : ∃ j_ : Int, (mx (ji7) t107) = j_ := ⟨_, rfl⟩
   replace H : (if (ji8) = 0 then (if a0_0.size + a0_1.size ≤ 9223372036854775807 then (if (a0_0 ++ a0_1).size + t102.size ≤ 9223372036854775807 then (if ((a0_0 ++ a0_1) ++ t102).size + t104.size ≤ 9223372036854775807 then (if (((a0_0 ++ a0_1) ++ t102) ++ t104).size + t106.size ≤ 9223372036854775807 then (some ((((a0_0 ++ a0_1) ++ t102) ++ t104) ++ t106, 0)) else (none)) else (none)) else (none)) else (none)) else (some ((⟨#[]⟩ : ByteArray), 1))) = some (r1, r2) := by first | (rw [hji8] at H; exact H) | (simp only [hji8] at H ⊢; exact H)
   (try rw [hji8] at A2)
   (try rw [hji8] at A3)
   (try rw [hji8] at A4)
   have hji8_ : (if (ji7) < t107 then t107 else (ji7)) = ji8 := hji8
   by_cases c9 : (ji8) = 0
   ·rw [if_pos c9] at H
    have c9b0 : ((ji8) == 0) = true := beq_iff_eq.mpr c9
    have c9b1 : ((ji8) != 0) = false := bne_eq_false_iff_eq.mpr c9
    clear c9
    by_cases c10 : a0_0.size + a0_1.size ≤ 9223372036854775807
    rotate_left
    ·rw [if_neg c10] at H; exact absurd H (by simp)
    rw [if_pos c10] at H
    have c10b0 := eq_true c10
    have c10b1 : decide (a0_0.size + a0_1.size ≤ 9223372036854775807) = true := decide_eq_true c10
    try have c10b2 : (9223372036854775807 < a0_0.size + a0_1.size) = False := eq_false (Nat.not_lt.2 c10)
    try (have c10b3 := c10; simp only [ByteArray.size_append, ByteArray.size_extract, Nat.sub_zero, Nat.min_self] at c10b3; have c10b4 := eq_false (Nat.not_lt.2 c10b3))
    by_cases c11 : (a0_0 ++ a0_1).size + t102.size ≤ 9223372036854775807
    rotate_left
    ·rw [if_neg c11] at H; exact absurd H (by simp)
    rw [if_pos c11] at H
    have c11b0 := eq_true c11
    have c11b1 : decide ((a0_0 ++ a0_1).size + t102.size ≤ 9223372036854775807) = true := decide_eq_true c11
    try have c11b2 : (9223372036854775807 < (a0_0 ++ a0_1).size + t102.size) = False := eq_false (Nat.not_lt.2 c11)
    try (have c11b3 := c11; simp only [ByteArray.size_append, ByteArray.size_extract, Nat.sub_zero, Nat.min_self] at c11b3; have c11b4 := eq_false (Nat.not_lt.2 c11b3))
    by_cases c12 : ((a0_0 ++ a0_1) ++ t102).size + t104.size ≤ 9223372036854775807
    rotate_left
    ·rw [if_neg c12] at H; exact absurd H (by simp)
    rw [if_pos c12] at H
    have c12b0 := eq_true c12
    have c12b1 : decide (((a0_0 ++ a0_1) ++ t102).size + t104.size ≤ 9223372036854775807) = true := decide_eq_true c12
    try have c12b2 : (9223372036854775807 < ((a0_0 ++ a0_1) ++ t102).size + t104.size) = False := eq_false (Nat.not_lt.2 c12)
    try (have c12b3 := c12; simp only [ByteArray.size_append, ByteArray.size_extract, Nat.sub_zero, Nat.min_self] at c12b3; have c12b4 := eq_false (Nat.not_lt.2 c12b3))
    by_cases c13 : (((a0_0 ++ a0_1) ++ t102) ++ t104).size + t106.size ≤ 9223372036854775807
    rotate_left
    ·rw [if_neg c13] at H; exact absurd H (by simp)
    rw [if_pos c13] at H
    have c13b0 := eq_true c13
    have c13b1 : decide ((((a0_0 ++ a0_1) ++ t102) ++ t104).size + t106.size ≤ 9223372036854775807) = true := decide_eq_true c13
    try have c13b2 : (9223372036854775807 < (((a0_0 ++ a0_1) ++ t102) ++ t104).size + t106.size) = False := eq_false (Nat.not_lt.2 c13)
    try (have c13b3 := c13; simp only [ByteArray.size_append, ByteArray.size_extract, Nat.sub_zero, Nat.min_self] at c13b3; have c13b4 := eq_false (Nat.not_lt.2 c13b3))
    simp only [Option.some.injEq, Prod.mk.injEq] at H
    obtain ⟨rfl, rfl⟩ := H
    go_enter Try.func9, Try.ntmps9
    go_wp2_with (first | ((with_reducible refine gate_dst (N := 1) rfl ?_); (try (refine gate_guard (by rfl) ?_; dsimp only)); refine bE_ (N := 1) (cs := #[.string a0_0, .string a0_1, .int .i64 a0_2, .int .i64 a0_3, .int .i64 a0_4]) (t := 23) ?_; intro gb101 hg w14 hbox hb; have n0_ := Aside0.mk (below_step (bU_ HB.out) hb); have n1_ := Aside0.mk (hbox); have n2_ := Aside0.mk (bZ_ hg (bU_ HB.out) : w.heap.size ≤ gb101); have n3_ := n2_; clear HB; have HB := n0_; have BK101 := n1_; have GW101 := n2_; have GE101 := n3_; clear n0_ n1_ n2_ n3_; clear hb hbox hg; have hcz15_0 : w14.cell? ⟨gb101, 0, none⟩ = some (.string a0_0) := (blk_cell BK101.out 0).trans rfl; have hcz15_1 : w14.cell? ⟨gb101, 1, none⟩ = some (.string a0_1) := (blk_cell BK101.out 1).trans rfl; have hcz15_2 : w14.cell? ⟨gb101, 2, none⟩ = some (.int .i64 a0_2) := (blk_cell BK101.out 2).trans rfl; have hcz15_3 : w14.cell? ⟨gb101, 3, none⟩ = some (.int .i64 a0_3) := (blk_cell BK101.out 3).trans rfl; have hcz15_4 : w14.cell? ⟨gb101, 4, none⟩ = some (.int .i64 a0_4) := (blk_cell BK101.out 4).trans rfl; have hfz15_0 := blk_frozen BK101.out 0; have hfz15_1 := blk_frozen BK101.out 1; have hfz15_2 := blk_frozen BK101.out 2; have hfz15_3 := blk_frozen BK101.out 3; have hfz15_4 := blk_frozen BK101.out 4) | ((with_reducible refine gate_callee (f := 24) rfl ?_); refine gL_ (some 13) rfl rfl Try.func24 (by kernel_rfl) rfl #[.int .i64 a0_2, .int .i64 1] rfl ?_; (with_reducible refine (octet_Put.calls k a0_2 1 t102 t103 _ A2.out).mono ?_); rintro e w16 ⟨rfl, hb⟩; refine ⟨_, rfl, ?_⟩; have n0_ := Aside0.mk (bB_ BK101.out hb); have n1_ := Aside0.mk (below_step (bU_ HB.out) hb); clear BK101 HB; have BK101 := n0_; have HB := n1_; clear n0_ n1_; (try clear hb); (try clear hb2); (try clear hk); (try clear hi); have hcz17_0 : w16.cell? ⟨gb101, 0, none⟩ = some (.string a0_0) := (blk_cell BK101.out 0).trans rfl; have hcz17_1 : w16.cell? ⟨gb101, 1, none⟩ = some (.string a0_1) := (blk_cell BK101.out 1).trans rfl; have hcz17_2 : w16.cell? ⟨gb101, 2, none⟩ = some (.int .i64 a0_2) := (blk_cell BK101.out 2).trans rfl; have hcz17_3 : w16.cell? ⟨gb101, 3, none⟩ = some (.int .i64 a0_3) := (blk_cell BK101.out 3).trans rfl; have hcz17_4 : w16.cell? ⟨gb101, 4, none⟩ = some (.int .i64 a0_4) := (blk_cell BK101.out 4).trans rfl; have hfz17_0 := blk_frozen BK101.out 0; have hfz17_1 := blk_frozen BK101.out 1; have hfz17_2 := blk_frozen BK101.out 2; have hfz17_3 := blk_frozen BK101.out 3; have hfz17_4 := blk_frozen BK101.out 4) | ((with_reducible refine gate_callee (f := 24) rfl ?_); refine gL_ (some 19) rfl rfl Try.func24 (by kernel_rfl) rfl #[.int .i64 a0_3, .int .i64 2] rfl ?_; (with_reducible refine (octet_Put.calls k a0_3 2 t104 t105 _ A3.out).mono ?_); rintro e w18 ⟨rfl, hb⟩; refine ⟨_, rfl, ?_⟩; have n0_ := Aside0.mk (bB_ BK101.out hb); have n1_ := Aside0.mk (below_step (bU_ HB.out) hb); clear BK101 HB; have BK101 := n0_; have HB := n1_; clear n0_ n1_; (try clear hb); (try clear hb2); (try clear hk); (try clear hi); have hcz19_0 : w18.cell? ⟨gb101, 0, none⟩ = some (.string a0_0) := (blk_cell BK101.out 0).trans rfl; have hcz19_1 : w18.cell? ⟨gb101, 1, none⟩ = some (.string a0_1) := (blk_cell BK101.out 1).trans rfl; have hcz19_2 : w18.cell? ⟨gb101, 2, none⟩ = some (.int .i64 a0_2) := (blk_cell BK101.out 2).trans rfl; have hcz19_3 : w18.cell? ⟨gb101, 3, none⟩ = some (.int .i64 a0_3) := (blk_cell BK101.out 3).trans rfl; have hcz19_4 : w18.cell? ⟨gb101, 4, none⟩ = some (.int .i64 a0_4) := (blk_cell BK101.out 4).trans rfl; have hfz19_0 := blk_frozen BK101.out 0; have hfz19_1 := blk_frozen BK101.out 1; have hfz19_2 := blk_frozen BK101.out 2; have hfz19_3 := blk_frozen BK101.out 3; have hfz19_4 := blk_frozen BK101.out 4) | ((with_reducible refine gate_callee (f := 24) rfl ?_); refine gL_ (some 25) rfl rfl Try.func24 (by kernel_rfl) rfl #[.int .i64 a0_4, .int .i64 2] rfl ?_; (with_reducible refine (octet_Put.calls k a0_4 2 t106 t107 _ A4.out).mono ?_); rintro e w20 ⟨rfl, hb⟩; refine ⟨_, rfl, ?_⟩; have n0_ := Aside0.mk (bB_ BK101.out hb); have n1_ := Aside0.mk (below_step (bU_ HB.out) hb); clear BK101 HB; have BK101 := n0_; have HB := n1_; clear n0_ n1_; (try clear hb); (try clear hb2); (try clear hk); (try clear hi); have hcz21_0 : w20.cell? ⟨gb101, 0, none⟩ = some (.string a0_0) := (blk_cell BK101.out 0).trans rfl; have hcz21_1 : w20.cell? ⟨gb101, 1, none⟩ = some (.string a0_1) := (blk_cell BK101.out 1).trans rfl; have hcz21_2 : w20.cell? ⟨gb101, 2, none⟩ = some (.int .i64 a0_2) := (blk_cell BK101.out 2).trans rfl; have hcz21_3 : w20.cell? ⟨gb101, 3, none⟩ = some (.int .i64 a0_3) := (blk_cell BK101.out 3).trans rfl; have hcz21_4 : w20.cell? ⟨gb101, 4, none⟩ = some (.int .i64 a0_4) := (blk_cell BK101.out 4).trans rfl; have hfz21_0 := blk_frozen BK101.out 0; have hfz21_1 := blk_frozen BK101.out 1; have hfz21_2 := blk_frozen BK101.out 2; have hfz21_3 := blk_frozen BK101.out 3; have hfz21_4 := blk_frozen BK101.out 4))
    go_ret2
    exact ⟨by first | rfl | (simp [errW_none, errW_some] <;> rfl) | (simp only [← hji7, ← hji8]; first | rfl | (simp [errW_none, errW_some] <;> rfl)) | (simp [*, errW_none, errW_some] <;> rfl), bU_ HB.out⟩
   ·rw [if_neg c9] at H
    have c9b0 : ((ji8) == 0) = false := beq_eq_false_iff_ne.mpr c9
    have c9b1 : ((ji8) != 0) = true := bne_iff_ne.mpr c9
    simp only [Option.some.injEq, Prod.mk.injEq] at H
    obtain ⟨rfl, rfl⟩ := H
    go_enter Try.func9, Try.ntmps9
    go_wp2_with (first | ((with_reducible refine gate_dst (N := 1) rfl ?_); (try (refine gate_guard (by rfl) ?_; dsimp only)); refine bE_ (N := 1) (cs := #[.string a0_0, .string a0_1, .int .i64 a0_2, .int .i64 a0_3, .int .i64 a0_4]) (t := 23) ?_; intro gb101 hg w22 hbox hb; have n0_ := Aside0.mk (below_step (bU_ HB.out) hb); have n1_ := Aside0.mk (hbox); have n2_ := Aside0.mk (bZ_ hg (bU_ HB.out) : w.heap.size ≤ gb101); have n3_ := n2_; clear HB; have HB := n0_; have BK101 := n1_; have GW101 := n2_; have GE101 := n3_; clear n0_ n1_ n2_ n3_; clear hb hbox hg; have hcz23_0 : w22.cell? ⟨gb101, 0, none⟩ = some (.string a0_0) := (blk_cell BK101.out 0).trans rfl; have hcz23_1 : w22.cell? ⟨gb101, 1, none⟩ = some (.string a0_1) := (blk_cell BK101.out 1).trans rfl; have hcz23_2 : w22.cell? ⟨gb101, 2, none⟩ = some (.int .i64 a0_2) := (blk_cell BK101.out 2).trans rfl; have hcz23_3 : w22.cell? ⟨gb101, 3, none⟩ = some (.int .i64 a0_3) := (blk_cell BK101.out 3).trans rfl; have hcz23_4 : w22.cell? ⟨gb101, 4, none⟩ = some (.int .i64 a0_4) := (blk_cell BK101.out 4).trans rfl; have hfz23_0 := blk_frozen BK101.out 0; have hfz23_1 := blk_frozen BK101.out 1; have hfz23_2 := blk_frozen BK101.out 2; have hfz23_3 := blk_frozen BK101.out 3; have hfz23_4 := blk_frozen BK101.out 4) | ((with_reducible refine gate_callee (f := 24) rfl ?_); refine gL_ (some 13) rfl rfl Try.func24 (by kernel_rfl) rfl #[.int .i64 a0_2, .int .i64 1] rfl ?_; (with_reducible refine (octet_Put.calls k a0_2 1 t102 t103 _ A2.out).mono ?_); rintro e w24 ⟨rfl, hb⟩; refine ⟨_, rfl, ?_⟩; have n0_ := Aside0.mk (bB_ BK101.out hb); have n1_ := Aside0.mk (below_step (bU_ HB.out) hb); clear BK101 HB; have BK101 := n0_; have HB := n1_; clear n0_ n1_; (try clear hb); (try clear hb2); (try clear hk); (try clear hi); have hcz25_0 : w24.cell? ⟨gb101, 0, none⟩ = some (.string a0_0) := (blk_cell BK101.out 0).trans rfl; have hcz25_1 : w24.cell? ⟨gb101, 1, none⟩ = some (.string a0_1) := (blk_cell BK101.out 1).trans rfl; have hcz25_2 : w24.cell? ⟨gb101, 2, none⟩ = some (.int .i64 a0_2) := (blk_cell BK101.out 2).trans rfl; have hcz25_3 : w24.cell? ⟨gb101, 3, none⟩ = some (.int .i64 a0_3) := (blk_cell BK101.out 3).trans rfl; have hcz25_4 : w24.cell? ⟨gb101, 4, none⟩ = some (.int .i64 a0_4) := (blk_cell BK101.out 4).trans rfl; have hfz25_0 := blk_frozen BK101.out 0; have hfz25_1 := blk_frozen BK101.out 1; have hfz25_2 := blk_frozen BK101.out 2; have hfz25_3 := blk_frozen BK101.out 3; have hfz25_4 := blk_frozen BK101.out 4) | ((with_reducible refine gate_callee (f := 24) rfl ?_); refine gL_ (some 19) rfl rfl Try.func24 (by kernel_rfl) rfl #[.int .i64 a0_3, .int .i64 2] rfl ?_; (with_reducible refine (octet_Put.calls k a0_3 2 t104 t105 _ A3.out).mono ?_); rintro e w26 ⟨rfl, hb⟩; refine ⟨_, rfl, ?_⟩; have n0_ := Aside0.mk (bB_ BK101.out hb); have n1_ := Aside0.mk (below_step (bU_ HB.out) hb); clear BK101 HB; have BK101 := n0_; have HB := n1_; clear n0_ n1_; (try clear hb); (try clear hb2); (try clear hk); (try clear hi); have hcz27_0 : w26.cell? ⟨gb101, 0, none⟩ = some (.string a0_0) := (blk_cell BK101.out 0).trans rfl; have hcz27_1 : w26.cell? ⟨gb101, 1, none⟩ = some (.string a0_1) := (blk_cell BK101.out 1).trans rfl; have hcz27_2 : w26.cell? ⟨gb101, 2, none⟩ = some (.int .i64 a0_2) := (blk_cell BK101.out 2).trans rfl; have hcz27_3 : w26.cell? ⟨gb101, 3, none⟩ = some (.int .i64 a0_3) := (blk_cell BK101.out 3).trans rfl; have hcz27_4 : w26.cell? ⟨gb101, 4, none⟩ = some (.int .i64 a0_4) := (blk_cell BK101.out 4).trans rfl; have hfz27_0 := blk_frozen BK101.out 0; have hfz27_1 := blk_frozen BK101.out 1; have hfz27_2 := blk_frozen BK101.out 2; have hfz27_3 := blk_frozen BK101.out 3; have hfz27_4 := blk_frozen BK101.out 4) | ((with_reducible refine gate_callee (f := 24) rfl ?_); refine gL_ (some 25) rfl rfl Try.func24 (by kernel_rfl) rfl #[.int .i64 a0_4, .int .i64 2] rfl ?_; (with_reducible refine (octet_Put.calls k a0_4 2 t106 t107 _ A4.out).mono ?_); rintro e w28 ⟨rfl, hb⟩; refine ⟨_, rfl, ?_⟩; have n0_ := Aside0.mk (bB_ BK101.out hb); have n1_ := Aside0.mk (below_step (bU_ HB.out) hb); clear BK101 HB; have BK101 := n0_; have HB := n1_; clear n0_ n1_; (try clear hb); (try clear hb2); (try clear hk); (try clear hi); have hcz29_0 : w28.cell? ⟨gb101, 0, none⟩ = some (.string a0_0) := (blk_cell BK101.out 0).trans rfl; have hcz29_1 : w28.cell? ⟨gb101, 1, none⟩ = some (.string a0_1) := (blk_cell BK101.out 1).trans rfl; have hcz29_2 : w28.cell? ⟨gb101, 2, none⟩ = some (.int .i64 a0_2) := (blk_cell BK101.out 2).trans rfl; have hcz29_3 : w28.cell? ⟨gb101, 3, none⟩ = some (.int .i64 a0_3) := (blk_cell BK101.out 3).trans rfl; have hcz29_4 : w28.cell? ⟨gb101, 4, none⟩ = some (.int .i64 a0_4) := (blk_cell BK101.out 4).trans rfl; have hfz29_0 := blk_frozen BK101.out 0; have hfz29_1 := blk_frozen BK101.out 1; have hfz29_2 := blk_frozen BK101.out 2; have hfz29_3 := blk_frozen BK101.out 3; have hfz29_4 := blk_frozen BK101.out 4))
    go_ret2
    exact ⟨by first | rfl | (simp [errW_none, errW_some] <;> rfl) | (simp only [← hji7, ← hji8]; first | rfl | (simp [errW_none, errW_some] <;> rfl)) | (simp [*, errW_none, errW_some] <;> rfl), bU_ HB.out⟩
  ·rw [if_neg c6] at H
   have c6b0 : ((a0_1.size : Int) == 16) = false := beq_eq_false_iff_ne.mpr c6
   have c6b1 : ((a0_1.size : Int) != 16) = true := bne_iff_ne.mpr c6
   simp only [Option.some.injEq, Prod.mk.injEq] at H
   obtain ⟨rfl, rfl⟩ := H
   go_enter Try.func9, Try.ntmps9
   go_wp2_with (first | ((with_reducible refine gate_dst (N := 1) rfl ?_); (try (refine gate_guard (by rfl) ?_; dsimp only)); refine bE_ (N := 1) (cs := #[.string a0_0, .string a0_1, .int .i64 a0_2, .int .i64 a0_3, .int .i64 a0_4]) (t := 23) ?_; intro gb101 hg w30 hbox hb; have n0_ := Aside0.mk (below_step (bU_ HB.out) hb); have n1_ := Aside0.mk (hbox); have n2_ := Aside0.mk (bZ_ hg (bU_ HB.out) : w.heap.size ≤ gb101); have n3_ := n2_; clear HB; have HB := n0_; have BK101 := n1_; have GW101 := n2_; have GE101 := n3_; clear n0_ n1_ n2_ n3_; clear hb hbox hg; have hcz31_0 : w30.cell? ⟨gb101, 0, none⟩ = some (.string a0_0) := (blk_cell BK101.out 0).trans rfl; have hcz31_1 : w30.cell? ⟨gb101, 1, none⟩ = some (.string a0_1) := (blk_cell BK101.out 1).trans rfl; have hcz31_2 : w30.cell? ⟨gb101, 2, none⟩ = some (.int .i64 a0_2) := (blk_cell BK101.out 2).trans rfl; have hcz31_3 : w30.cell? ⟨gb101, 3, none⟩ = some (.int .i64 a0_3) := (blk_cell BK101.out 3).trans rfl; have hcz31_4 : w30.cell? ⟨gb101, 4, none⟩ = some (.int .i64 a0_4) := (blk_cell BK101.out 4).trans rfl; have hfz31_0 := blk_frozen BK101.out 0; have hfz31_1 := blk_frozen BK101.out 1; have hfz31_2 := blk_frozen BK101.out 2; have hfz31_3 := blk_frozen BK101.out 3; have hfz31_4 := blk_frozen BK101.out 4) | ((with_reducible refine gate_callee (f := 24) rfl ?_); refine gL_ (some 13) rfl rfl Try.func24 (by kernel_rfl) rfl #[.int .i64 a0_2, .int .i64 1] rfl ?_; (with_reducible refine (octet_Put.calls k a0_2 1 t102 t103 _ A2.out).mono ?_); rintro e w32 ⟨rfl, hb⟩; refine ⟨_, rfl, ?_⟩; have n0_ := Aside0.mk (bB_ BK101.out hb); have n1_ := Aside0.mk (below_step (bU_ HB.out) hb); clear BK101 HB; have BK101 := n0_; have HB := n1_; clear n0_ n1_; (try clear hb); (try clear hb2); (try clear hk); (try clear hi); have hcz33_0 : w32.cell? ⟨gb101, 0, none⟩ = some (.string a0_0) := (blk_cell BK101.out 0).trans rfl; have hcz33_1 : w32.cell? ⟨gb101, 1, none⟩ = some (.string a0_1) := (blk_cell BK101.out 1).trans rfl; have hcz33_2 : w32.cell? ⟨gb101, 2, none⟩ = some (.int .i64 a0_2) := (blk_cell BK101.out 2).trans rfl; have hcz33_3 : w32.cell? ⟨gb101, 3, none⟩ = some (.int .i64 a0_3) := (blk_cell BK101.out 3).trans rfl; have hcz33_4 : w32.cell? ⟨gb101, 4, none⟩ = some (.int .i64 a0_4) := (blk_cell BK101.out 4).trans rfl; have hfz33_0 := blk_frozen BK101.out 0; have hfz33_1 := blk_frozen BK101.out 1; have hfz33_2 := blk_frozen BK101.out 2; have hfz33_3 := blk_frozen BK101.out 3; have hfz33_4 := blk_frozen BK101.out 4) | ((with_reducible refine gate_callee (f := 24) rfl ?_); refine gL_ (some 19) rfl rfl Try.func24 (by kernel_rfl) rfl #[.int .i64 a0_3, .int .i64 2] rfl ?_; (with_reducible refine (octet_Put.calls k a0_3 2 t104 t105 _ A3.out).mono ?_); rintro e w34 ⟨rfl, hb⟩; refine ⟨_, rfl, ?_⟩; have n0_ := Aside0.mk (bB_ BK101.out hb); have n1_ := Aside0.mk (below_step (bU_ HB.out) hb); clear BK101 HB; have BK101 := n0_; have HB := n1_; clear n0_ n1_; (try clear hb); (try clear hb2); (try clear hk); (try clear hi); have hcz35_0 : w34.cell? ⟨gb101, 0, none⟩ = some (.string a0_0) := (blk_cell BK101.out 0).trans rfl; have hcz35_1 : w34.cell? ⟨gb101, 1, none⟩ = some (.string a0_1) := (blk_cell BK101.out 1).trans rfl; have hcz35_2 : w34.cell? ⟨gb101, 2, none⟩ = some (.int .i64 a0_2) := (blk_cell BK101.out 2).trans rfl; have hcz35_3 : w34.cell? ⟨gb101, 3, none⟩ = some (.int .i64 a0_3) := (blk_cell BK101.out 3).trans rfl; have hcz35_4 : w34.cell? ⟨gb101, 4, none⟩ = some (.int .i64 a0_4) := (blk_cell BK101.out 4).trans rfl; have hfz35_0 := blk_frozen BK101.out 0; have hfz35_1 := blk_frozen BK101.out 1; have hfz35_2 := blk_frozen BK101.out 2; have hfz35_3 := blk_frozen BK101.out 3; have hfz35_4 := blk_frozen BK101.out 4) | ((with_reducible refine gate_callee (f := 24) rfl ?_); refine gL_ (some 25) rfl rfl Try.func24 (by kernel_rfl) rfl #[.int .i64 a0_4, .int .i64 2] rfl ?_; (with_reducible refine (octet_Put.calls k a0_4 2 t106 t107 _ A4.out).mono ?_); rintro e w36 ⟨rfl, hb⟩; refine ⟨_, rfl, ?_⟩; have n0_ := Aside0.mk (bB_ BK101.out hb); have n1_ := Aside0.mk (below_step (bU_ HB.out) hb); clear BK101 HB; have BK101 := n0_; have HB := n1_; clear n0_ n1_; (try clear hb); (try clear hb2); (try clear hk); (try clear hi); have hcz37_0 : w36.cell? ⟨gb101, 0, none⟩ = some (.string a0_0) := (blk_cell BK101.out 0).trans rfl; have hcz37_1 : w36.cell? ⟨gb101, 1, none⟩ = some (.string a0_1) := (blk_cell BK101.out 1).trans rfl; have hcz37_2 : w36.cell? ⟨gb101, 2, none⟩ = some (.int .i64 a0_2) := (blk_cell BK101.out 2).trans rfl; have hcz37_3 : w36.cell? ⟨gb101, 3, none⟩ = some (.int .i64 a0_3) := (blk_cell BK101.out 3).trans rfl; have hcz37_4 : w36.cell? ⟨gb101, 4, none⟩ = some (.int .i64 a0_4) := (blk_cell BK101.out 4).trans rfl; have hfz37_0 := blk_frozen BK101.out 0; have hfz37_1 := blk_frozen BK101.out 1; have hfz37_2 := blk_frozen BK101.out 2; have hfz37_3 := blk_frozen BK101.out 3; have hfz37_4 := blk_frozen BK101.out 4))
   go_ret2
   exact rE_ (bU_ HB.out)
 ·rw [if_neg c5] at H
  have c5b0 : ((a0_0.size : Int) == 16) = false := beq_eq_false_iff_ne.mpr c5
  have c5b1 : ((a0_0.size : Int) != 16) = true := bne_iff_ne.mpr c5
  simp only [Option.some.injEq, Prod.mk.injEq] at H
  obtain ⟨rfl, rfl⟩ := H
  go_enter Try.func9, Try.ntmps9
  go_wp2_with (first | ((with_reducible refine gate_dst (N := 1) rfl ?_); (try (refine gate_guard (by rfl) ?_; dsimp only)); refine bE_ (N := 1) (cs := #[.string a0_0, .string a0_1, .int .i64 a0_2, .int .i64 a0_3, .int .i64 a0_4]) (t := 23) ?_; intro gb101 hg w38 hbox hb; have n0_ := Aside0.mk (below_step (bU_ HB.out) hb); have n1_ := Aside0.mk (hbox); have n2_ := Aside0.mk (bZ_ hg (bU_ HB.out) : w.heap.size ≤ gb101); have n3_ := n2_; clear HB; have HB := n0_; have BK101 := n1_; have GW101 := n2_; have GE101 := n3_; clear n0_ n1_ n2_ n3_; clear hb hbox hg; have hcz39_0 : w38.cell? ⟨gb101, 0, none⟩ = some (.string a0_0) := (blk_cell BK101.out 0).trans rfl; have hcz39_1 : w38.cell? ⟨gb101, 1, none⟩ = some (.string a0_1) := (blk_cell BK101.out 1).trans rfl; have hcz39_2 : w38.cell? ⟨gb101, 2, none⟩ = some (.int .i64 a0_2) := (blk_cell BK101.out 2).trans rfl; have hcz39_3 : w38.cell? ⟨gb101, 3, none⟩ = some (.int .i64 a0_3) := (blk_cell BK101.out 3).trans rfl; have hcz39_4 : w38.cell? ⟨gb101, 4, none⟩ = some (.int .i64 a0_4) := (blk_cell BK101.out 4).trans rfl; have hfz39_0 := blk_frozen BK101.out 0; have hfz39_1 := blk_frozen BK101.out 1; have hfz39_2 := blk_frozen BK101.out 2; have hfz39_3 := blk_frozen BK101.out 3; have hfz39_4 := blk_frozen BK101.out 4) | ((with_reducible refine gate_callee (f := 24) rfl ?_); refine gL_ (some 13) rfl rfl Try.func24 (by kernel_rfl) rfl #[.int .i64 a0_2, .int .i64 1] rfl ?_; (with_reducible refine (octet_Put.calls k a0_2 1 t102 t103 _ A2.out).mono ?_); rintro e w40 ⟨rfl, hb⟩; refine ⟨_, rfl, ?_⟩; have n0_ := Aside0.mk (bB_ BK101.out hb); have n1_ := Aside0.mk (below_step (bU_ HB.out) hb); clear BK101 HB; have BK101 := n0_; have HB := n1_; clear n0_ n1_; (try clear hb); (try clear hb2); (try clear hk); (try clear hi); have hcz41_0 : w40.cell? ⟨gb101, 0, none⟩ = some (.string a0_0) := (blk_cell BK101.out 0).trans rfl; have hcz41_1 : w40.cell? ⟨gb101, 1, none⟩ = some (.string a0_1) := (blk_cell BK101.out 1).trans rfl; have hcz41_2 : w40.cell? ⟨gb101, 2, none⟩ = some (.int .i64 a0_2) := (blk_cell BK101.out 2).trans rfl; have hcz41_3 : w40.cell? ⟨gb101, 3, none⟩ = some (.int .i64 a0_3) := (blk_cell BK101.out 3).trans rfl; have hcz41_4 : w40.cell? ⟨gb101, 4, none⟩ = some (.int .i64 a0_4) := (blk_cell BK101.out 4).trans rfl; have hfz41_0 := blk_frozen BK101.out 0; have hfz41_1 := blk_frozen BK101.out 1; have hfz41_2 := blk_frozen BK101.out 2; have hfz41_3 := blk_frozen BK101.out 3; have hfz41_4 := blk_frozen BK101.out 4) | ((with_reducible refine gate_callee (f := 24) rfl ?_); refine gL_ (some 19) rfl rfl Try.func24 (by kernel_rfl) rfl #[.int .i64 a0_3, .int .i64 2] rfl ?_; (with_reducible refine (octet_Put.calls k a0_3 2 t104 t105 _ A3.out).mono ?_); rintro e w42 ⟨rfl, hb⟩; refine ⟨_, rfl, ?_⟩; have n0_ := Aside0.mk (bB_ BK101.out hb); have n1_ := Aside0.mk (below_step (bU_ HB.out) hb); clear BK101 HB; have BK101 := n0_; have HB := n1_; clear n0_ n1_; (try clear hb); (try clear hb2); (try clear hk); (try clear hi); have hcz43_0 : w42.cell? ⟨gb101, 0, none⟩ = some (.string a0_0) := (blk_cell BK101.out 0).trans rfl; have hcz43_1 : w42.cell? ⟨gb101, 1, none⟩ = some (.string a0_1) := (blk_cell BK101.out 1).trans rfl; have hcz43_2 : w42.cell? ⟨gb101, 2, none⟩ = some (.int .i64 a0_2) := (blk_cell BK101.out 2).trans rfl; have hcz43_3 : w42.cell? ⟨gb101, 3, none⟩ = some (.int .i64 a0_3) := (blk_cell BK101.out 3).trans rfl; have hcz43_4 : w42.cell? ⟨gb101, 4, none⟩ = some (.int .i64 a0_4) := (blk_cell BK101.out 4).trans rfl; have hfz43_0 := blk_frozen BK101.out 0; have hfz43_1 := blk_frozen BK101.out 1; have hfz43_2 := blk_frozen BK101.out 2; have hfz43_3 := blk_frozen BK101.out 3; have hfz43_4 := blk_frozen BK101.out 4) | ((with_reducible refine gate_callee (f := 24) rfl ?_); refine gL_ (some 25) rfl rfl Try.func24 (by kernel_rfl) rfl #[.int .i64 a0_4, .int .i64 2] rfl ?_; (with_reducible refine (octet_Put.calls k a0_4 2 t106 t107 _ A4.out).mono ?_); rintro e w44 ⟨rfl, hb⟩; refine ⟨_, rfl, ?_⟩; have n0_ := Aside0.mk (bB_ BK101.out hb); have n1_ := Aside0.mk (below_step (bU_ HB.out) hb); clear BK101 HB; have BK101 := n0_; have HB := n1_; clear n0_ n1_; (try clear hb); (try clear hb2); (try clear hk); (try clear hi); have hcz45_0 : w44.cell? ⟨gb101, 0, none⟩ = some (.string a0_0) := (blk_cell BK101.out 0).trans rfl; have hcz45_1 : w44.cell? ⟨gb101, 1, none⟩ = some (.string a0_1) := (blk_cell BK101.out 1).trans rfl; have hcz45_2 : w44.cell? ⟨gb101, 2, none⟩ = some (.int .i64 a0_2) := (blk_cell BK101.out 2).trans rfl; have hcz45_3 : w44.cell? ⟨gb101, 3, none⟩ = some (.int .i64 a0_3) := (blk_cell BK101.out 3).trans rfl; have hcz45_4 : w44.cell? ⟨gb101, 4, none⟩ = some (.int .i64 a0_4) := (blk_cell BK101.out 4).trans rfl; have hfz45_0 := blk_frozen BK101.out 0; have hfz45_1 := blk_frozen BK101.out 1; have hfz45_2 := blk_frozen BK101.out 2; have hfz45_3 := blk_frozen BK101.out 3; have hfz45_4 := blk_frozen BK101.out 4))
  go_ret2
  exact rE_ (bU_ HB.out)
/-! ### octet_Cut: function 33 -/
def octet_Cut.f (a0 : ByteArray) (a1 : Int) : Option (ByteArray × ByteArray × Int) := if a1 < 0 then (some ((⟨#[]⟩ : ByteArray), (⟨#[]⟩ : ByteArray), 1)) else (if (a0.size : Int) < a1 then (some ((⟨#[]⟩ : ByteArray), (⟨#[]⟩ : ByteArray), 2)) else (if 0 ≤ a1 then (if a1 ≤ (a0.size : Int) then (some (a0.extract 0 (a1 : Int).toNat, a0.extract (a1 : Int).toNat a0.size, 0)) else (none)) else (none)))
set_option maxHeartbeats 8000000 in
set_option maxRecDepth 100000 in
theorem octet_Cut.calls (a0 : ByteArray) (a1 : Int) (r1 : ByteArray) (r2 : ByteArray) (r3 : Int) (w : World) (h : octet_Cut.f a0 a1 = some (r1, r2, r3)) :
  Calls Try.prog 33 #[.string a0, .int .i64 a1] w fun e w' => e = .returned (.tuple #[.string r1, .string r2, .int .i64 r3]) ∧ Drawn0 w w' := by
 have H : (if a1 < 0 then (some ((⟨#[]⟩ : ByteArray), (⟨#[]⟩ : ByteArray), 1)) else (if (a0.size : Int) < a1 then (some ((⟨#[]⟩ : ByteArray), (⟨#[]⟩ : ByteArray), 2)) else (if 0 ≤ a1 then (if a1 ≤ (a0.size : Int) then (some (a0.extract 0 (a1 : Int).toNat, a0.extract (a1 : Int).toNat a0.size, 0)) else (none)) else (none)))) = some (r1, r2, r3) := h
 clear h
 by_cases c3 : a1 < 0
 ·rw [if_pos c3] at H
  have c3b0 : decide (a1 < 0) = true := decide_eq_true c3
  clear c3
  simp only [Option.some.injEq, Prod.mk.injEq] at H
  obtain ⟨rfl, rfl, rfl⟩ := H
  go_enter Try.func33, Try.ntmps33
  go_wp2
  repeat (go_quiet (fail); try go_wp2)
  go_ret3
  exact ⟨by first | rfl | (simp; done) | (simp [*]; done), by repeat (first | exact Drawn0.refl _ | apply Drawn0.step)⟩
 ·rw [if_neg c3] at H
  have c3b0 : decide (a1 < 0) = false := decide_eq_false c3
  clear c3
  by_cases c4 : (a0.size : Int) < a1
  ·rw [if_pos c4] at H
   have c4b0 : decide ((a0.size : Int) < a1) = true := decide_eq_true c4
   clear c4
   simp only [Option.some.injEq, Prod.mk.injEq] at H
   obtain ⟨rfl, rfl, rfl⟩ := H
   go_enter Try.func33, Try.ntmps33
   go_wp2
   repeat (go_quiet (fail); try go_wp2)
   go_ret3
   exact ⟨by first | rfl | (simp; done) | (simp [*]; done), by repeat (first | exact Drawn0.refl _ | apply Drawn0.step)⟩
  ·rw [if_neg c4] at H
   have c4b0 : decide ((a0.size : Int) < a1) = false := decide_eq_false c4
   clear c4
   by_cases c5 : 0 ≤ a1
   rotate_left
   ·rw [if_neg c5] at H; exact absurd H (by simp)
   rw [if_pos c5] at H
   have c5b0 := eq_true c5
   have c5b1 : decide (0 ≤ a1) = true := decide_eq_true c5
   clear c5
   by_cases c6 : a1 ≤ (a0.size : Int)
   rotate_left
   ·rw [if_neg c6] at H; exact absurd H (by simp)
   rw [if_pos c6] at H
   have c6b0 := eq_true c6
   have c6b1 : decide (a1 ≤ (a0.size : Int)) = true := decide_eq_true c6
   clear c6
   have c7b0 := eq_true (oD_ : 0 ≤ a1)
   have c8b0 := eq_true (oD_ : a1 ≤ (a0.size : Int))
   simp only [Option.some.injEq, Prod.mk.injEq] at H
   obtain ⟨rfl, rfl, rfl⟩ := H
   go_enter Try.func33, Try.ntmps33
   go_wp2
   repeat (go_quiet (fail); try go_wp2)
   go_ret3
   exact ⟨by first | rfl | (simp; done) | (simp [*]; done), by repeat (first | exact Drawn0.refl _ | apply Drawn0.step)⟩
end Go.Proofs.Ytfdhifigndmgaaa.Q
