-- made by a program of this session (wip/print-patch.py, over the kit's print)
import Derived.Test.YtdmofjhncdkofaaQx0
import Derived.Test.YtdmofjhncdkofaaQx14
namespace Go.Proofs.Ytdmofjhncdkofaa.Q
open Go.RowKit Go.Proofs.YtdmofjhncdkofaaW.PrintWords Go.Proofs.YtdmofjhncdkofaaW.PrintLast Go.Proofs.YtdmofjhncdkofaaW.PrintMore
attribute [local go_sem] max2_int min2_int max_two min_two max_three min_three max_four min_four   -- for this text's walks alone
set_option linter.unusedVariables false
set_option linter.unusedSimpArgs false

attribute [local go_sem] cell_twice_ cell_twiceN_
/-! ### rillmeterref06_head: function 21 -/
def rillmeterref06_head.f (a0_0 : Int) (a0_1 : Int) (a0_2 : Int) (a0_3 : Int) (a0_4 : Int) (a0_5 : Int) (a0_6 : ByteArray) (a0_7 : ByteArray) (a0_8 : ByteArray) (a1 : Int) (a2 : Int) : Option (ByteArray) := (some (([(wrap64 (64 + (wrap64 (Int.tdiv (wrap64 (20 + (a0_8.size : Int))) 4)))) % 256, (a0_0) % 256] : List Int) : List Int)).bind fun y102 => ((rillmeterref06_two.f (wrap64 ((wrap64 (20 + (a0_8.size : Int))) + a1))).bind fun t105 => (if (strOfNums y102).size + t105.size ≤ 9223372036854775807 then ((rillmeterref06_two.f a0_1).bind fun t106 => (if ((strOfNums y102) ++ t105).size + t106.size ≤ 9223372036854775807 then ((rillmeterref06_two.f (wrap64 ((wrap64 (8192 * a0_2)) + a0_3))).bind fun t107 => (if (((strOfNums y102) ++ t105) ++ t106).size + t107.size ≤ 9223372036854775807 then ((some (([(a0_4) % 256, (a0_5) % 256] : List Int) : List Int)).bind fun y108 => (if ((((strOfNums y102) ++ t105) ++ t106) ++ t107).size + (strOfNums y108).size ≤ 9223372036854775807 then ((rillmeterref06_two.f a2).bind fun t111 => (if (((((strOfNums y102) ++ t105) ++ t106) ++ t107) ++ (strOfNums y108)).size + t111.size ≤ 9223372036854775807 then (if ((((((strOfNums y102) ++ t105) ++ t106) ++ t107) ++ (strOfNums y108)) ++ t111).size + a0_6.size ≤ 9223372036854775807 then (if (((((((strOfNums y102) ++ t105) ++ t106) ++ t107) ++ (strOfNums y108)) ++ t111) ++ a0_6).size + a0_7.size ≤ 9223372036854775807 then (if ((((((((strOfNums y102) ++ t105) ++ t106) ++ t107) ++ (strOfNums y108)) ++ t111) ++ a0_6) ++ a0_7).size + a0_8.size ≤ 9223372036854775807 then (some (((((((((strOfNums y102) ++ t105) ++ t106) ++ t107) ++ (strOfNums y108)) ++ t111) ++ a0_6) ++ a0_7) ++ a0_8)) else (none)) else (none)) else (none)) else (none))) else (none))) else (none))) else (none))) else (none)))
def rillmeterref06_head.T2 : Bool × List (List Nat × List Nat) := (true, [([], []), ([0], [0]), ([1], [1]), ([2], [2]), ([], []), ([4], [4]), ([5], [5]), ([3, 6], [3, 6]), ([7], [7]), ([], []), ([], []), ([9, 10], [9, 10]), ([11], [11]), ([8, 12], [8, 12]), ([], []), ([14], [14]), ([15, 12], [15]), ([13, 16], [13, 16]), ([], []), ([18], [18]), ([19], [19]), ([], []), ([21], [21]), ([20, 22], [20, 22]), ([23, 16], [23]), ([17, 24], [17, 24]), ([25, 24, 0, 1, 2, 3, 4, 5, 6, 7, 8, 9, 10, 11, 12, 13, 14, 15, 16, 17, 18, 19, 20, 21, 22, 23, 24, 25], [25])])
def rillmeterref06_head.B2 : List Nat := [0, 1, 3, 7, 0, 16, 48, 127, 255, 0, 0, 1536, 3584, 8191, 0, 16384, 56832, 131071, 0, 262144, 786432, 0, 2097152, 8126464, 16637440, 33554431, 67108863]
theorem rillmeterref06_head.tab2 : rtab .any (opsOf Try.f21 2) = rillmeterref06_head.T2 := by kernel_rfl
theorem rillmeterref06_head.bits2 : waitsOk rillmeterref06_head.T2.2 rillmeterref06_head.B2 = true := by kernel_rfl
def rillmeterref06_head.T3 : Bool × List (List Nat × List Nat) := (true, [([], []), ([], []), ([1], [1]), ([2], [2]), ([], []), ([4], [4]), ([5], [5]), ([3, 6], [3, 6]), ([7], [7]), ([0, 8], [0, 8]), ([], []), ([10], [10]), ([9, 11], [9, 11]), ([], []), ([13], [13]), ([12, 14], [12, 14]), ([], []), ([16], [16]), ([15, 17], [15, 17]), ([], []), ([19], [19]), ([18, 20], [18, 20]), ([21, 11, 0, 1, 2, 3, 4, 5, 6, 7, 8, 9, 10, 11, 12, 13, 14, 15, 16, 17, 18, 19, 20, 21], [21])])
def rillmeterref06_head.B3 : List Nat := [0, 0, 2, 6, 0, 16, 48, 126, 254, 511, 0, 1024, 4095, 0, 8192, 32767, 0, 65536, 262143, 0, 524288, 2097151, 4194303]
theorem rillmeterref06_head.tab3 : rtab .any (opsOf Try.f21 3) = rillmeterref06_head.T3 := by kernel_rfl
theorem rillmeterref06_head.bits3 : waitsOk rillmeterref06_head.T3.2 rillmeterref06_head.B3 = true := by kernel_rfl
set_option maxHeartbeats 8000000 in
set_option maxRecDepth 100000 in
theorem rillmeterref06_head.calls (a0_0 : Int) (a0_1 : Int) (a0_2 : Int) (a0_3 : Int) (a0_4 : Int) (a0_5 : Int) (a0_6 : ByteArray) (a0_7 : ByteArray) (a0_8 : ByteArray) (a1 : Int) (a2 : Int) (r : ByteArray) (w : World) (h : rillmeterref06_head.f a0_0 a0_1 a0_2 a0_3 a0_4 a0_5 a0_6 a0_7 a0_8 a1 a2 = some r) :
  Calls Try.prog 21 #[.agg #[.int .i64 a0_0, .int .i64 a0_1, .int .i64 a0_2, .int .i64 a0_3, .int .i64 a0_4, .int .i64 a0_5, .string a0_6, .string a0_7, .string a0_8], .int .i64 a1, .int .i64 a2] w fun e w' => e = .returned (.string r) ∧ Below w.heap.size w w' := by
 have hu33 := Try.underlying33
 have HB := Aside0.mk (Below.refl w.heap.size w)
 have H : ((some (([(wrap64 (64 + (wrap64 (Int.tdiv (wrap64 (20 + (a0_8.size : Int))) 4)))) % 256, (a0_0) % 256] : List Int) : List Int)).bind fun y102 => ((rillmeterref06_two.f (wrap64 ((wrap64 (20 + (a0_8.size : Int))) + a1))).bind fun t105 => (if (strOfNums y102).size + t105.size ≤ 9223372036854775807 then ((rillmeterref06_two.f a0_1).bind fun t106 => (if ((strOfNums y102) ++ t105).size + t106.size ≤ 9223372036854775807 then ((rillmeterref06_two.f (wrap64 ((wrap64 (8192 * a0_2)) + a0_3))).bind fun t107 => (if (((strOfNums y102) ++ t105) ++ t106).size + t107.size ≤ 9223372036854775807 then ((some (([(a0_4) % 256, (a0_5) % 256] : List Int) : List Int)).bind fun y108 => (if ((((strOfNums y102) ++ t105) ++ t106) ++ t107).size + (strOfNums y108).size ≤ 9223372036854775807 then ((rillmeterref06_two.f a2).bind fun t111 => (if (((((strOfNums y102) ++ t105) ++ t106) ++ t107) ++ (strOfNums y108)).size + t111.size ≤ 9223372036854775807 then (if ((((((strOfNums y102) ++ t105) ++ t106) ++ t107) ++ (strOfNums y108)) ++ t111).size + a0_6.size ≤ 9223372036854775807 then (if (((((((strOfNums y102) ++ t105) ++ t106) ++ t107) ++ (strOfNums y108)) ++ t111) ++ a0_6).size + a0_7.size ≤ 9223372036854775807 then (if ((((((((strOfNums y102) ++ t105) ++ t106) ++ t107) ++ (strOfNums y108)) ++ t111) ++ a0_6) ++ a0_7).size + a0_8.size ≤ 9223372036854775807 then (some (((((((((strOfNums y102) ++ t105) ++ t106) ++ t107) ++ (strOfNums y108)) ++ t111) ++ a0_6) ++ a0_7) ++ a0_8)) else (none)) else (none)) else (none)) else (none))) else (none))) else (none))) else (none))) else (none)))) = some r := h
 clear h
 obtain ⟨y102, hy102⟩ : ∃ y_ : List Int, y_ = (([(wrap64 (64 + (wrap64 (Int.tdiv (wrap64 (20 + (a0_8.size : Int))) 4)))) % 256, (a0_0) % 256] : List Int)) := ⟨_, rfl⟩
 replace H : ((rillmeterref06_two.f (wrap64 ((wrap64 (20 + (a0_8.size : Int))) + a1))).bind fun t105 => (if (strOfNums y102).size + t105.size ≤ 9223372036854775807 then ((rillmeterref06_two.f a0_1).bind fun t106 => (if ((strOfNums y102) ++ t105).size + t106.size ≤ 9223372036854775807 then ((rillmeterref06_two.f (wrap64 ((wrap64 (8192 * a0_2)) + a0_3))).bind fun t107 => (if (((strOfNums y102) ++ t105) ++ t106).size + t107.size ≤ 9223372036854775807 then ((some (([(a0_4) % 256, (a0_5) % 256] : List Int) : List Int)).bind fun y108 => (if ((((strOfNums y102) ++ t105) ++ t106) ++ t107).size + (strOfNums y108).size ≤ 9223372036854775807 then ((rillmeterref06_two.f a2).bind fun t111 => (if (((((strOfNums y102) ++ t105) ++ t106) ++ t107) ++ (strOfNums y108)).size + t111.size ≤ 9223372036854775807 then (if ((((((strOfNums y102) ++ t105) ++ t106) ++ t107) ++ (strOfNums y108)) ++ t111).size + a0_6.size ≤ 9223372036854775807 then (if (((((((strOfNums y102) ++ t105) ++ t106) ++ t107) ++ (strOfNums y108)) ++ t111) ++ a0_6).size + a0_7.size ≤ 9223372036854775807 then (if ((((((((strOfNums y102) ++ t105) ++ t106) ++ t107) ++ (strOfNums y108)) ++ t111) ++ a0_6) ++ a0_7).size + a0_8.size ≤ 9223372036854775807 then (some (((((((((strOfNums y102) ++ t105) ++ t106) ++ t107) ++ (strOfNums y108)) ++ t111) ++ a0_6) ++ a0_7) ++ a0_8)) else (none)) else (none)) else (none)) else (none))) else (none))) else (none))) else (none))) else (none))) = some r := by first | (rw [hy102]; with_reducible exact H) | (have H2_ := (Option.bind_some _ _).symm.trans H; rw [hy102]; with_reducible exact H2_) | (have H2_ := (Option.bind_some _ _).symm.trans H; with_reducible exact H2_) | with_reducible exact H | (rw [hy102]; exact H) | exact H
 have Ny102 := Aside0.mk hy102
 clear hy102
 replace H := Option.bind_eq_some_iff.mp H
 obtain ⟨t105, A40, H⟩ := H
 replace H : (if (strOfNums y102).size + t105.size ≤ 9223372036854775807 then ((rillmeterref06_two.f a0_1).bind fun t106 => (if ((strOfNums y102) ++ t105).size + t106.size ≤ 9223372036854775807 then ((rillmeterref06_two.f (wrap64 ((wrap64 (8192 * a0_2)) + a0_3))).bind fun t107 => (if (((strOfNums y102) ++ t105) ++ t106).size + t107.size ≤ 9223372036854775807 then ((some (([(a0_4) % 256, (a0_5) % 256] : List Int) : List Int)).bind fun y108 => (if ((((strOfNums y102) ++ t105) ++ t106) ++ t107).size + (strOfNums y108).size ≤ 9223372036854775807 then ((rillmeterref06_two.f a2).bind fun t111 => (if (((((strOfNums y102) ++ t105) ++ t106) ++ t107) ++ (strOfNums y108)).size + t111.size ≤ 9223372036854775807 then (if ((((((strOfNums y102) ++ t105) ++ t106) ++ t107) ++ (strOfNums y108)) ++ t111).size + a0_6.size ≤ 9223372036854775807 then (if (((((((strOfNums y102) ++ t105) ++ t106) ++ t107) ++ (strOfNums y108)) ++ t111) ++ a0_6).size + a0_7.size ≤ 9223372036854775807 then (if ((((((((strOfNums y102) ++ t105) ++ t106) ++ t107) ++ (strOfNums y108)) ++ t111) ++ a0_6) ++ a0_7).size + a0_8.size ≤ 9223372036854775807 then (some (((((((((strOfNums y102) ++ t105) ++ t106) ++ t107) ++ (strOfNums y108)) ++ t111) ++ a0_6) ++ a0_7) ++ a0_8)) else (none)) else (none)) else (none)) else (none))) else (none))) else (none))) else (none))) else (none)) = some r := H
 have A4 := Aside0.mk A40
 clear A40
 by_cases c5 : (strOfNums y102).size + t105.size ≤ 9223372036854775807
 rotate_left
 ·rw [if_neg c5] at H
  exact absurd H (by simp)
 rw [if_pos c5] at H
 have c5b0 := eq_true c5
 have c5b1 : decide ((strOfNums y102).size + t105.size ≤ 9223372036854775807) = true := decide_eq_true c5
 try have c5b2 : (9223372036854775807 < (strOfNums y102).size + t105.size) = False := eq_false (Nat.not_lt.2 c5)
 try (have c5b3 := c5; simp only [ByteArray.size_append, ByteArray.size_extract, Nat.sub_zero, Nat.min_self] at c5b3; have c5b4 := eq_false (Nat.not_lt.2 c5b3))
 replace H := Option.bind_eq_some_iff.mp H
 obtain ⟨t106, A60, H⟩ := H
 replace H : (if ((strOfNums y102) ++ t105).size + t106.size ≤ 9223372036854775807 then ((rillmeterref06_two.f (wrap64 ((wrap64 (8192 * a0_2)) + a0_3))).bind fun t107 => (if (((strOfNums y102) ++ t105) ++ t106).size + t107.size ≤ 9223372036854775807 then ((some (([(a0_4) % 256, (a0_5) % 256] : List Int) : List Int)).bind fun y108 => (if ((((strOfNums y102) ++ t105) ++ t106) ++ t107).size + (strOfNums y108).size ≤ 9223372036854775807 then ((rillmeterref06_two.f a2).bind fun t111 => (if (((((strOfNums y102) ++ t105) ++ t106) ++ t107) ++ (strOfNums y108)).size + t111.size ≤ 9223372036854775807 then (if ((((((strOfNums y102) ++ t105) ++ t106) ++ t107) ++ (strOfNums y108)) ++ t111).size + a0_6.size ≤ 9223372036854775807 then (if (((((((strOfNums y102) ++ t105) ++ t106) ++ t107) ++ (strOfNums y108)) ++ t111) ++ a0_6).size + a0_7.size ≤ 9223372036854775807 then (if ((((((((strOfNums y102) ++ t105) ++ t106) ++ t107) ++ (strOfNums y108)) ++ t111) ++ a0_6) ++ a0_7).size + a0_8.size ≤ 9223372036854775807 then (some (((((((((strOfNums y102) ++ t105) ++ t106) ++ t107) ++ (strOfNums y108)) ++ t111) ++ a0_6) ++ a0_7) ++ a0_8)) else (none)) else (none)) else (none)) else (none))) else (none))) else (none))) else (none)) = some r := H
 have A6 := Aside0.mk A60
 clear A60
 by_cases c7 : ((strOfNums y102) ++ t105).size + t106.size ≤ 9223372036854775807
 rotate_left
 ·rw [if_neg c7] at H
  exact absurd H (by simp)
 rw [if_pos c7] at H
 have c7b0 := eq_true c7
 have c7b1 : decide (((strOfNums y102) ++ t105).size + t106.size ≤ 9223372036854775807) = true := decide_eq_true c7
 try have c7b2 : (9223372036854775807 < ((strOfNums y102) ++ t105).size + t106.size) = False := eq_false (Nat.not_lt.2 c7)
 try (have c7b3 := c7; simp only [ByteArray.size_append, ByteArray.size_extract, Nat.sub_zero, Nat.min_self] at c7b3; have c7b4 := eq_false (Nat.not_lt.2 c7b3))
 replace H := Option.bind_eq_some_iff.mp H
 obtain ⟨t107, A80, H⟩ := H
 replace H : (if (((strOfNums y102) ++ t105) ++ t106).size + t107.size ≤ 9223372036854775807 then ((some (([(a0_4) % 256, (a0_5) % 256] : List Int) : List Int)).bind fun y108 => (if ((((strOfNums y102) ++ t105) ++ t106) ++ t107).size + (strOfNums y108).size ≤ 9223372036854775807 then ((rillmeterref06_two.f a2).bind fun t111 => (if (((((strOfNums y102) ++ t105) ++ t106) ++ t107) ++ (strOfNums y108)).size + t111.size ≤ 9223372036854775807 then (if ((((((strOfNums y102) ++ t105) ++ t106) ++ t107) ++ (strOfNums y108)) ++ t111).size + a0_6.size ≤ 9223372036854775807 then (if (((((((strOfNums y102) ++ t105) ++ t106) ++ t107) ++ (strOfNums y108)) ++ t111) ++ a0_6).size + a0_7.size ≤ 9223372036854775807 then (if ((((((((strOfNums y102) ++ t105) ++ t106) ++ t107) ++ (strOfNums y108)) ++ t111) ++ a0_6) ++ a0_7).size + a0_8.size ≤ 9223372036854775807 then (some (((((((((strOfNums y102) ++ t105) ++ t106) ++ t107) ++ (strOfNums y108)) ++ t111) ++ a0_6) ++ a0_7) ++ a0_8)) else (none)) else (none)) else (none)) else (none))) else (none))) else (none)) = some r := H
 have A8 := Aside0.mk A80
 clear A80
 by_cases c9 : (((strOfNums y102) ++ t105) ++ t106).size + t107.size ≤ 9223372036854775807
 rotate_left
 ·rw [if_neg c9] at H
  exact absurd H (by simp)
 rw [if_pos c9] at H
 have c9b0 := eq_true c9
 have c9b1 : decide ((((strOfNums y102) ++ t105) ++ t106).size + t107.size ≤ 9223372036854775807) = true := decide_eq_true c9
 try have c9b2 : (9223372036854775807 < (((strOfNums y102) ++ t105) ++ t106).size + t107.size) = False := eq_false (Nat.not_lt.2 c9)
 try (have c9b3 := c9; simp only [ByteArray.size_append, ByteArray.size_extract, Nat.sub_zero, Nat.min_self] at c9b3; have c9b4 := eq_false (Nat.not_lt.2 c9b3))
 obtain ⟨y108, hy108⟩ : ∃ y_ : List Int, y_ = (([(a0_4) % 256, (a0_5) % 256] : List Int)) := ⟨_, rfl⟩
 replace H : (if ((((strOfNums y102) ++ t105) ++ t106) ++ t107).size + (strOfNums y108).size ≤ 9223372036854775807 then ((rillmeterref06_two.f a2).bind fun t111 => (if (((((strOfNums y102) ++ t105) ++ t106) ++ t107) ++ (strOfNums y108)).size + t111.size ≤ 9223372036854775807 then (if ((((((strOfNums y102) ++ t105) ++ t106) ++ t107) ++ (strOfNums y108)) ++ t111).size + a0_6.size ≤ 9223372036854775807 then (if (((((((strOfNums y102) ++ t105) ++ t106) ++ t107) ++ (strOfNums y108)) ++ t111) ++ a0_6).size + a0_7.size ≤ 9223372036854775807 then (if ((((((((strOfNums y102) ++ t105) ++ t106) ++ t107) ++ (strOfNums y108)) ++ t111) ++ a0_6) ++ a0_7).size + a0_8.size ≤ 9223372036854775807 then (some (((((((((strOfNums y102) ++ t105) ++ t106) ++ t107) ++ (strOfNums y108)) ++ t111) ++ a0_6) ++ a0_7) ++ a0_8)) else (none)) else (none)) else (none)) else (none))) else (none)) = some r := by first | (rw [hy108]; with_reducible exact H) | (have H2_ := (Option.bind_some _ _).symm.trans H; rw [hy108]; with_reducible exact H2_) | (have H2_ := (Option.bind_some _ _).symm.trans H; with_reducible exact H2_) | with_reducible exact H | (rw [hy108]; exact H) | exact H
 have Ny108 := Aside0.mk hy108
 clear hy108
 by_cases c10 : ((((strOfNums y102) ++ t105) ++ t106) ++ t107).size + (strOfNums y108).size ≤ 9223372036854775807
 rotate_left
 ·rw [if_neg c10] at H
  exact absurd H (by simp)
 rw [if_pos c10] at H
 have c10b0 := eq_true c10
 have c10b1 : decide (((((strOfNums y102) ++ t105) ++ t106) ++ t107).size + (strOfNums y108).size ≤ 9223372036854775807) = true := decide_eq_true c10
 try have c10b2 : (9223372036854775807 < ((((strOfNums y102) ++ t105) ++ t106) ++ t107).size + (strOfNums y108).size) = False := eq_false (Nat.not_lt.2 c10)
 try (have c10b3 := c10; simp only [ByteArray.size_append, ByteArray.size_extract, Nat.sub_zero, Nat.min_self] at c10b3; have c10b4 := eq_false (Nat.not_lt.2 c10b3))
 replace H := Option.bind_eq_some_iff.mp H
 obtain ⟨t111, A110, H⟩ := H
 replace H : (if (((((strOfNums y102) ++ t105) ++ t106) ++ t107) ++ (strOfNums y108)).size + t111.size ≤ 9223372036854775807 then (if ((((((strOfNums y102) ++ t105) ++ t106) ++ t107) ++ (strOfNums y108)) ++ t111).size + a0_6.size ≤ 9223372036854775807 then (if (((((((strOfNums y102) ++ t105) ++ t106) ++ t107) ++ (strOfNums y108)) ++ t111) ++ a0_6).size + a0_7.size ≤ 9223372036854775807 then (if ((((((((strOfNums y102) ++ t105) ++ t106) ++ t107) ++ (strOfNums y108)) ++ t111) ++ a0_6) ++ a0_7).size + a0_8.size ≤ 9223372036854775807 then (some (((((((((strOfNums y102) ++ t105) ++ t106) ++ t107) ++ (strOfNums y108)) ++ t111) ++ a0_6) ++ a0_7) ++ a0_8)) else (none)) else (none)) else (none)) else (none)) = some r := H
 have A11 := Aside0.mk A110
 clear A110
 by_cases c12 : (((((strOfNums y102) ++ t105) ++ t106) ++ t107) ++ (strOfNums y108)).size + t111.size ≤ 9223372036854775807
 rotate_left
 ·rw [if_neg c12] at H
  exact absurd H (by simp)
 rw [if_pos c12] at H
 have c12b0 := eq_true c12
 have c12b1 : decide ((((((strOfNums y102) ++ t105) ++ t106) ++ t107) ++ (strOfNums y108)).size + t111.size ≤ 9223372036854775807) = true := decide_eq_true c12
 try have c12b2 : (9223372036854775807 < (((((strOfNums y102) ++ t105) ++ t106) ++ t107) ++ (strOfNums y108)).size + t111.size) = False := eq_false (Nat.not_lt.2 c12)
 try (have c12b3 := c12; simp only [ByteArray.size_append, ByteArray.size_extract, Nat.sub_zero, Nat.min_self] at c12b3; have c12b4 := eq_false (Nat.not_lt.2 c12b3))
 by_cases c13 : ((((((strOfNums y102) ++ t105) ++ t106) ++ t107) ++ (strOfNums y108)) ++ t111).size + a0_6.size ≤ 9223372036854775807
 rotate_left
 ·rw [if_neg c13] at H
  exact absurd H (by simp)
 rw [if_pos c13] at H
 have c13b0 := eq_true c13
 have c13b1 : decide (((((((strOfNums y102) ++ t105) ++ t106) ++ t107) ++ (strOfNums y108)) ++ t111).size + a0_6.size ≤ 9223372036854775807) = true := decide_eq_true c13
 try have c13b2 : (9223372036854775807 < ((((((strOfNums y102) ++ t105) ++ t106) ++ t107) ++ (strOfNums y108)) ++ t111).size + a0_6.size) = False := eq_false (Nat.not_lt.2 c13)
 try (have c13b3 := c13; simp only [ByteArray.size_append, ByteArray.size_extract, Nat.sub_zero, Nat.min_self] at c13b3; have c13b4 := eq_false (Nat.not_lt.2 c13b3))
 by_cases c14 : (((((((strOfNums y102) ++ t105) ++ t106) ++ t107) ++ (strOfNums y108)) ++ t111) ++ a0_6).size + a0_7.size ≤ 9223372036854775807
 rotate_left
 ·rw [if_neg c14] at H
  exact absurd H (by simp)
 rw [if_pos c14] at H
 have c14b0 := eq_true c14
 have c14b1 : decide ((((((((strOfNums y102) ++ t105) ++ t106) ++ t107) ++ (strOfNums y108)) ++ t111) ++ a0_6).size + a0_7.size ≤ 9223372036854775807) = true := decide_eq_true c14
 try have c14b2 : (9223372036854775807 < (((((((strOfNums y102) ++ t105) ++ t106) ++ t107) ++ (strOfNums y108)) ++ t111) ++ a0_6).size + a0_7.size) = False := eq_false (Nat.not_lt.2 c14)
 try (have c14b3 := c14; simp only [ByteArray.size_append, ByteArray.size_extract, Nat.sub_zero, Nat.min_self] at c14b3; have c14b4 := eq_false (Nat.not_lt.2 c14b3))
 by_cases c15 : ((((((((strOfNums y102) ++ t105) ++ t106) ++ t107) ++ (strOfNums y108)) ++ t111) ++ a0_6) ++ a0_7).size + a0_8.size ≤ 9223372036854775807
 rotate_left
 ·rw [if_neg c15] at H
  exact absurd H (by simp)
 rw [if_pos c15] at H
 have c15b0 := eq_true c15
 have c15b1 : decide (((((((((strOfNums y102) ++ t105) ++ t106) ++ t107) ++ (strOfNums y108)) ++ t111) ++ a0_6) ++ a0_7).size + a0_8.size ≤ 9223372036854775807) = true := decide_eq_true c15
 try have c15b2 : (9223372036854775807 < ((((((((strOfNums y102) ++ t105) ++ t106) ++ t107) ++ (strOfNums y108)) ++ t111) ++ a0_6) ++ a0_7).size + a0_8.size) = False := eq_false (Nat.not_lt.2 c15)
 try (have c15b3 := c15; simp only [ByteArray.size_append, ByteArray.size_extract, Nat.sub_zero, Nat.min_self] at c15b3; have c15b4 := eq_false (Nat.not_lt.2 c15b3))
 obtain rfl := Option.some.inj H
 go_enter Try.func21, Try.ntmps21
 try go_wp2_with (first | ((with_reducible refine gate_dst (N := 3) rfl ?_); refine box_event ?hg (N := 3) ?hd (cs := #[.int .i64 a0_0, .int .i64 a0_1, .int .i64 a0_2, .int .i64 a0_3, .int .i64 a0_4, .int .i64 a0_5, .string a0_6, .string a0_7, .string a0_8]) (t := 33) ?hr ?_; (case hd => rfl); (case hg => rfl); (case hr => first | (go_simp; done) | (go_simp; rfl)); intro gb101 hg w16 hbox hb; have n0_ := Aside0.mk (below_step (bU_ HB.out) hb); have n1_ := Aside0.mk (hbox); have n2_ := Aside0.mk ((by rw [hg]; exact (below_size (bU_ HB.out)) : w.heap.size ≤ gb101)); have n3_ := Aside0.mk ((by rw [hg]; exact (below_size (bU_ HB.out)) : w.heap.size ≤ gb101)); clear HB; have HB := n0_; have BK101 := n1_; have GW101 := n2_; have GE101 := n3_; clear n0_ n1_ n2_ n3_; clear hb hbox hg; have hcz17_0 : w16.cell? ⟨gb101, 0, none⟩ = some (.int .i64 a0_0) := (blk_cell BK101.out 0).trans rfl; have hcz17_1 : w16.cell? ⟨gb101, 1, none⟩ = some (.int .i64 a0_1) := (blk_cell BK101.out 1).trans rfl; have hcz17_2 : w16.cell? ⟨gb101, 2, none⟩ = some (.int .i64 a0_2) := (blk_cell BK101.out 2).trans rfl; have hcz17_3 : w16.cell? ⟨gb101, 3, none⟩ = some (.int .i64 a0_3) := (blk_cell BK101.out 3).trans rfl; have hcz17_4 : w16.cell? ⟨gb101, 4, none⟩ = some (.int .i64 a0_4) := (blk_cell BK101.out 4).trans rfl; have hcz17_5 : w16.cell? ⟨gb101, 5, none⟩ = some (.int .i64 a0_5) := (blk_cell BK101.out 5).trans rfl; have hcz17_6 : w16.cell? ⟨gb101, 6, none⟩ = some (.string a0_6) := (blk_cell BK101.out 6).trans rfl; have hcz17_7 : w16.cell? ⟨gb101, 7, none⟩ = some (.string a0_7) := (blk_cell BK101.out 7).trans rfl; have hcz17_8 : w16.cell? ⟨gb101, 8, none⟩ = some (.string a0_8) := (blk_cell BK101.out 8).trans rfl; have hfz17_0 := blk_frozen BK101.out 0; have hfz17_1 := blk_frozen BK101.out 1; have hfz17_2 := blk_frozen BK101.out 2; have hfz17_3 := blk_frozen BK101.out 3; have hfz17_4 := blk_frozen BK101.out 4; have hfz17_5 := blk_frozen BK101.out 5; have hfz17_6 := blk_frozen BK101.out 6; have hfz17_7 := blk_frozen BK101.out 7; have hfz17_8 := blk_frozen BK101.out 8))
 have n0_ := Aside0.mk (blk_drew BK101.out)
 have n1_ := Aside0.mk (below_drew1 HB.out)
 clear BK101
 clear HB
 have BK101 := n0_
 have HB := n1_
 clear n0_ n1_
 refine start_ (n := 27) (S := fun w' => w'.cell? ⟨gb101, 0, none⟩ = some (.int .i64 a0_0) ∧ w'.cell? ⟨gb101, 1, none⟩ = some (.int .i64 a0_1) ∧ w'.cell? ⟨gb101, 2, none⟩ = some (.int .i64 a0_2) ∧ w'.cell? ⟨gb101, 3, none⟩ = some (.int .i64 a0_3) ∧ w'.cell? ⟨gb101, 4, none⟩ = some (.int .i64 a0_4) ∧ w'.cell? ⟨gb101, 5, none⟩ = some (.int .i64 a0_5) ∧ w'.cell? ⟨gb101, 6, none⟩ = some (.string a0_6) ∧ w'.cell? ⟨gb101, 7, none⟩ = some (.string a0_7) ∧ w'.cell? ⟨gb101, 8, none⟩ = some (.string a0_8)) (ds := []) #[false, false, false, false, false, false, false, false, false, false, false, false, false, false, false, false, false, false, false, false, false, false, false, false, false, false, false] (by kernel_rfl) rfl rfl ⟨(blk_cell BK101.out 0).trans rfl, (blk_cell BK101.out 1).trans rfl, (blk_cell BK101.out 2).trans rfl, (blk_cell BK101.out 3).trans rfl, (blk_cell BK101.out 4).trans rfl, (blk_cell BK101.out 5).trans rfl, (blk_cell BK101.out 6).trans rfl, (blk_cell BK101.out 7).trans rfl, (blk_cell BK101.out 8).trans rfl⟩ (fun hHeld => ?_); refine with_tabW rillmeterref06_head.tab2 rillmeterref06_head.bits2 (fun HT_ HW_ => ?_)
 generalize w16.drew = w18 at BK101 HB hHeld ⊢
 refine pure_ (i := 0) (N := some 13) (v := ?_) (a' := ?_) #[true, false, false, false, false, false, false, false, false, false, false, false, false, false, false, false, false, false, false, false, false, false, false, false, false, false, false] rfl rfl (any_of HT_.out (by kernel_rfl)) (fun _ _ _ h => h) (Or.inl ⟨by rfl, ?_⟩) ?_ ?_
 rotate_left
 ·intro w'
  go_simp
  with_reducible rfl
 rotate_left
 ·simp only [Act.put, List.setIfInBounds_toArray, List.set_cons_zero, List.set_cons_succ, i64_w, i32_w]
  rfl
 refine pure_ (i := 1) (N := some 14) (v := ?_) (a' := ?_) #[true, true, false, false, false, false, false, false, false, false, false, false, false, false, false, false, false, false, false, false, false, false, false, false, false, false, false] rfl rfl (any_of HT_.out (by kernel_rfl)) (fun _ _ _ h => h) (Or.inl ⟨by rfl, ?_⟩) ?_ ?_
 rotate_left
 ·intro w'
  go_simp
  with_reducible rfl
 rotate_left
 ·simp only [Act.put, List.setIfInBounds_toArray, List.set_cons_zero, List.set_cons_succ, i64_w, i32_w]
  rfl
 refine pure_ (i := 2) (N := some 15) (v := ?_) (a' := ?_) #[true, true, true, false, false, false, false, false, false, false, false, false, false, false, false, false, false, false, false, false, false, false, false, false, false, false, false] rfl rfl (any_of HT_.out (by kernel_rfl)) (fun _ _ _ h => h) (Or.inl ⟨by rfl, ?_⟩) ?_ ?_
 rotate_left
 ·intro w'
  go_simp
  with_reducible rfl
 rotate_left
 ·simp only [Act.put, List.setIfInBounds_toArray, List.set_cons_zero, List.set_cons_succ, i64_w, i32_w]
  rfl
 refine pure_ (i := 3) (N := some 16) (v := ?_) (a' := ?_) #[true, true, true, true, false, false, false, false, false, false, false, false, false, false, false, false, false, false, false, false, false, false, false, false, false, false, false] rfl rfl (any_of HT_.out (by kernel_rfl)) (fun _ _ _ h => h) (Or.inl ⟨by rfl, ?_⟩) ?_ ?_
 rotate_left
 ·intro w'
  go_simp
  with_reducible rfl
 rotate_left
 ·simp only [Act.put, List.setIfInBounds_toArray, List.set_cons_zero, List.set_cons_succ, i64_w, i32_w]
  rfl
 refine pure_ (i := 4) (N := some 17) (v := ?_) (a' := ?_) #[true, true, true, true, true, false, false, false, false, false, false, false, false, false, false, false, false, false, false, false, false, false, false, false, false, false, false] rfl rfl (any_of HT_.out (by kernel_rfl)) (fun _ _ _ h => h) (Or.inl ⟨by rfl, ?_⟩) ?_ ?_
 rotate_left
 ·intro w'
  go_simp
  with_reducible rfl
 rotate_left
 ·simp only [Act.put, List.setIfInBounds_toArray, List.set_cons_zero, List.set_cons_succ, i64_w, i32_w]
  rfl
 refine pure_ (i := 9) (N := some 22) (v := ?_) (a' := ?_) #[true, true, true, true, true, false, false, false, false, true, false, false, false, false, false, false, false, false, false, false, false, false, false, false, false, false, false] rfl rfl (any_of HT_.out (by kernel_rfl)) (fun _ _ _ h => h) (Or.inl ⟨by rfl, ?_⟩) ?_ ?_
 rotate_left
 ·intro w'
  go_simp
  with_reducible rfl
 rotate_left
 ·simp only [Act.put, List.setIfInBounds_toArray, List.set_cons_zero, List.set_cons_succ, i64_w, i32_w]
  rfl
 refine pure_ (i := 10) (N := some 23) (v := ?_) (a' := ?_) #[true, true, true, true, true, false, false, false, false, true, true, false, false, false, false, false, false, false, false, false, false, false, false, false, false, false, false] rfl rfl (any_of HT_.out (by kernel_rfl)) (fun _ _ _ h => h) (Or.inl ⟨by rfl, ?_⟩) ?_ ?_
 rotate_left
 ·intro w'
  go_simp
  with_reducible rfl
 rotate_left
 ·simp only [Act.put, List.setIfInBounds_toArray, List.set_cons_zero, List.set_cons_succ, i64_w, i32_w]
  rfl
 refine pure_ (i := 11) (N := some 24) (v := ?_) (a' := ?_) #[true, true, true, true, true, false, false, false, false, true, true, true, false, false, false, false, false, false, false, false, false, false, false, false, false, false, false] rfl rfl (any_of HT_.out (by kernel_rfl)) (fun _ _ _ h => h) (Or.inl ⟨by rfl, ?_⟩) ?_ ?_
 rotate_left
 ·intro w'
  go_simp
  with_reducible rfl
 rotate_left
 ·simp only [Act.put, List.setIfInBounds_toArray, List.set_cons_zero, List.set_cons_succ, i64_w, i32_w]
  rfl
 refine pure_ (i := 14) (N := some 27) (v := ?_) (a' := ?_) #[true, true, true, true, true, false, false, false, false, true, true, true, false, false, true, false, false, false, false, false, false, false, false, false, false, false, false] rfl rfl (any_of HT_.out (by kernel_rfl)) (fun _ _ _ h => h) (Or.inl ⟨by rfl, ?_⟩) ?_ ?_
 rotate_left
 ·intro w'
  go_simp
  with_reducible rfl
 rotate_left
 ·simp only [Act.put, List.setIfInBounds_toArray, List.set_cons_zero, List.set_cons_succ, i64_w, i32_w]
  rfl
 refine pure_ (i := 18) (N := some 31) (v := ?_) (a' := ?_) #[true, true, true, true, true, false, false, false, false, true, true, true, false, false, true, false, false, false, true, false, false, false, false, false, false, false, false] rfl rfl (any_of HT_.out (by kernel_rfl)) (fun _ _ _ h => h) (Or.inl ⟨by rfl, ?_⟩) ?_ ?_
 rotate_left
 ·intro w'
  go_simp
  with_reducible rfl
 rotate_left
 ·simp only [Act.put, List.setIfInBounds_toArray, List.set_cons_zero, List.set_cons_succ, i64_w, i32_w]
  rfl
 refine pure_ (i := 21) (N := some 34) (v := ?_) (a' := ?_) #[true, true, true, true, true, false, false, false, false, true, true, true, false, false, true, false, false, false, true, false, false, true, false, false, false, false, false] rfl rfl (any_of HT_.out (by kernel_rfl)) (fun _ _ _ h => h) (Or.inl ⟨by rfl, ?_⟩) ?_ ?_
 rotate_left
 ·intro w'
  go_simp
  with_reducible rfl
 rotate_left
 ·simp only [Act.put, List.setIfInBounds_toArray, List.set_cons_zero, List.set_cons_succ, i64_w, i32_w]
  rfl
 refine take_ (i := 5) (N := some 18) (v := ?_) (a' := ?_) #[true, true, true, true, true, true, false, false, false, true, true, true, false, false, true, false, false, false, true, false, false, true, false, false, false, false, false] rfl rfl (take_ofW HT_.out HW_.out (by kernel_rfl)) (fun _ _ _ h => h) (Or.inl ⟨by rfl, ?_⟩) hHeld ?_ ?_
 rotate_left
 ·rintro w' ⟨s0, s1, s2, s3, s4, s5, s6, s7, s8⟩
  go_simp
  with_reducible rfl
 rotate_left
 ·simp only [Act.put, List.setIfInBounds_toArray, List.set_cons_zero, List.set_cons_succ, i64_w, i32_w]
  rfl
 refine pure_ (i := 6) (N := some 19) (v := ?_) (a' := ?_) #[true, true, true, true, true, true, true, false, false, true, true, true, false, false, true, false, false, false, true, false, false, true, false, false, false, false, false] rfl rfl (any_of HT_.out (by kernel_rfl)) (fun _ _ _ h => h) (Or.inl ⟨by rfl, ?_⟩) ?_ ?_
 rotate_left
 ·intro w'
  go_simp
  with_reducible rfl
 rotate_left
 ·simp only [Act.put, List.setIfInBounds_toArray, List.set_cons_zero, List.set_cons_succ, i64_w, i32_w]
  rfl
 refine take_ (i := 15) (N := some 28) (v := ?_) (a' := ?_) #[true, true, true, true, true, true, true, false, false, true, true, true, false, false, true, true, false, false, true, false, false, true, false, false, false, false, false] rfl rfl (take_ofW HT_.out HW_.out (by kernel_rfl)) (fun _ _ _ h => h) (Or.inl ⟨by rfl, ?_⟩) hHeld ?_ ?_
 rotate_left
 ·rintro w' ⟨s0, s1, s2, s3, s4, s5, s6, s7, s8⟩
  go_simp
  with_reducible rfl
 rotate_left
 ·simp only [Act.put, List.setIfInBounds_toArray, List.set_cons_zero, List.set_cons_succ, i64_w, i32_w]
  rfl
 refine take_ (i := 19) (N := some 32) (v := ?_) (a' := ?_) #[true, true, true, true, true, true, true, false, false, true, true, true, false, false, true, true, false, false, true, true, false, true, false, false, false, false, false] rfl rfl (take_ofW HT_.out HW_.out (by kernel_rfl)) (fun _ _ _ h => h) (Or.inl ⟨by rfl, ?_⟩) hHeld ?_ ?_
 rotate_left
 ·rintro w' ⟨s0, s1, s2, s3, s4, s5, s6, s7, s8⟩
  go_simp
  with_reducible rfl
 rotate_left
 ·simp only [Act.put, List.setIfInBounds_toArray, List.set_cons_zero, List.set_cons_succ, i64_w, i32_w]
  rfl
 refine pure_ (i := 20) (N := some 33) (v := ?_) (a' := ?_) #[true, true, true, true, true, true, true, false, false, true, true, true, false, false, true, true, false, false, true, true, true, true, false, false, false, false, false] rfl rfl (any_of HT_.out (by kernel_rfl)) (fun _ _ _ h => h) (Or.inl ⟨by rfl, ?_⟩) ?_ ?_
 rotate_left
 ·intro w'
  go_simp
  with_reducible rfl
 rotate_left
 ·simp only [Act.put, List.setIfInBounds_toArray, List.set_cons_zero, List.set_cons_succ, i64_w, i32_w]
  rfl
 refine take_ (i := 22) (N := some 35) (v := ?_) (a' := ?_) #[true, true, true, true, true, true, true, false, false, true, true, true, false, false, true, true, false, false, true, true, true, true, true, false, false, false, false] rfl rfl (take_ofW HT_.out HW_.out (by kernel_rfl)) (fun _ _ _ h => h) (Or.inl ⟨by rfl, ?_⟩) hHeld ?_ ?_
 rotate_left
 ·rintro w' ⟨s0, s1, s2, s3, s4, s5, s6, s7, s8⟩
  go_simp
  with_reducible rfl
 rotate_left
 ·simp only [Act.put, List.setIfInBounds_toArray, List.set_cons_zero, List.set_cons_succ, i64_w, i32_w]
  rfl
 refine pure_ (i := 23) (N := some 36) (v := ?_) (a' := ?_) #[true, true, true, true, true, true, true, false, false, true, true, true, false, false, true, true, false, false, true, true, true, true, true, true, false, false, false] rfl rfl (any_of HT_.out (by kernel_rfl)) (fun _ _ _ h => h) (Or.inl ⟨by rfl, ?_⟩) ?_ ?_
 rotate_left
 ·intro w'
  go_simp
  with_reducible rfl
 rotate_left
 ·simp only [Act.put, List.setIfInBounds_toArray, List.set_cons_zero, List.set_cons_succ, i64_w, i32_w]
  rfl
 refine join_ (σ := Value) 2 #[true, true, true, true, true, true, true, true, true, true, true, true, true, true, true, true, true, true, true, true, true, true, true, true, true, false, false] (fun s_ => [(20, s_), (21, .string (strOfNums y102)), (25, .string t105), (29, .string t106), (37, .string t107), (26, .string ((strOfNums y102) ++ t105)), (30, .string (((strOfNums y102) ++ t105) ++ t106))]) (fun s_ w' => (w'.cell? ⟨gb101, 0, none⟩ = some (.int .i64 a0_0) ∧ w'.cell? ⟨gb101, 1, none⟩ = some (.int .i64 a0_1) ∧ w'.cell? ⟨gb101, 2, none⟩ = some (.int .i64 a0_2) ∧ w'.cell? ⟨gb101, 3, none⟩ = some (.int .i64 a0_3) ∧ w'.cell? ⟨gb101, 4, none⟩ = some (.int .i64 a0_4) ∧ w'.cell? ⟨gb101, 5, none⟩ = some (.int .i64 a0_5) ∧ w'.cell? ⟨gb101, 6, none⟩ = some (.string a0_6) ∧ w'.cell? ⟨gb101, 7, none⟩ = some (.string a0_7) ∧ w'.cell? ⟨gb101, 8, none⟩ = some (.string a0_8)) ∧ (Kd.R (Kd.int .u8) 5 w' w.heap.size (fun _ => True) s_ y102) ∧ (w'.heap[gb101]? = some (.cells #[.int .i64 a0_0, .int .i64 a0_1, .int .i64 a0_2, .int .i64 a0_3, .int .i64 a0_4, .int .i64 a0_5, .string a0_6, .string a0_7, .string a0_8] 33 (0, 0))) ∧ (Below w.heap.size w w')) ?_ ?_
 rotate_left
 ·intro hJ7_8_12_16_24
  refine join_ (σ := Value) 3 #[true, true, true, true, true, true, true, true, true, true, true, true, true, true, true, true, true, true, true, true, true, true, true, true, false, false, false] (fun s_ => [(20, s_), (21, .string (strOfNums y102)), (25, .string t105), (29, .string t106), (26, .string ((strOfNums y102) ++ t105)), (30, .string (((strOfNums y102) ++ t105) ++ t106))]) (fun s_ w' => (w'.cell? ⟨gb101, 0, none⟩ = some (.int .i64 a0_0) ∧ w'.cell? ⟨gb101, 1, none⟩ = some (.int .i64 a0_1) ∧ w'.cell? ⟨gb101, 2, none⟩ = some (.int .i64 a0_2) ∧ w'.cell? ⟨gb101, 3, none⟩ = some (.int .i64 a0_3) ∧ w'.cell? ⟨gb101, 4, none⟩ = some (.int .i64 a0_4) ∧ w'.cell? ⟨gb101, 5, none⟩ = some (.int .i64 a0_5) ∧ w'.cell? ⟨gb101, 6, none⟩ = some (.string a0_6) ∧ w'.cell? ⟨gb101, 7, none⟩ = some (.string a0_7) ∧ w'.cell? ⟨gb101, 8, none⟩ = some (.string a0_8)) ∧ (Kd.R (Kd.int .u8) 5 w' w.heap.size (fun _ => True) s_ y102) ∧ (w'.heap[gb101]? = some (.cells #[.int .i64 a0_0, .int .i64 a0_1, .int .i64 a0_2, .int .i64 a0_3, .int .i64 a0_4, .int .i64 a0_5, .string a0_6, .string a0_7, .string a0_8] 33 (0, 0))) ∧ (Below w.heap.size w w')) ?_ ?_
  rotate_left
  ·intro hJ7_8_12_16
   refine join_ (σ := Value) 5 #[true, true, true, true, true, true, true, true, false, true, true, true, true, false, true, true, true, false, true, true, true, true, true, true, true, false, false] (fun s_ => [(20, s_), (25, .string t105), (29, .string t106), (37, .string t107)]) (fun s_ w' => (w'.cell? ⟨gb101, 0, none⟩ = some (.int .i64 a0_0) ∧ w'.cell? ⟨gb101, 1, none⟩ = some (.int .i64 a0_1) ∧ w'.cell? ⟨gb101, 2, none⟩ = some (.int .i64 a0_2) ∧ w'.cell? ⟨gb101, 3, none⟩ = some (.int .i64 a0_3) ∧ w'.cell? ⟨gb101, 4, none⟩ = some (.int .i64 a0_4) ∧ w'.cell? ⟨gb101, 5, none⟩ = some (.int .i64 a0_5) ∧ w'.cell? ⟨gb101, 6, none⟩ = some (.string a0_6) ∧ w'.cell? ⟨gb101, 7, none⟩ = some (.string a0_7) ∧ w'.cell? ⟨gb101, 8, none⟩ = some (.string a0_8)) ∧ (Kd.R (Kd.int .u8) 5 w' w.heap.size (fun _ => True) s_ y102) ∧ (w'.heap[gb101]? = some (.cells #[.int .i64 a0_0, .int .i64 a0_1, .int .i64 a0_2, .int .i64 a0_3, .int .i64 a0_4, .int .i64 a0_5, .string a0_6, .string a0_7, .string a0_8] 33 (0, 0))) ∧ (Below w.heap.size w w')) ?_ ?_
   rotate_left
   ·intro hJ7_12_16_24
    refine join_ (σ := Value) 5 #[true, true, true, true, true, true, true, true, true, true, true, true, true, true, true, true, false, false, true, true, true, true, true, true, false, false, false] (fun s_ => [(20, s_), (21, .string (strOfNums y102)), (25, .string t105), (26, .string ((strOfNums y102) ++ t105))]) (fun s_ w' => (w'.cell? ⟨gb101, 0, none⟩ = some (.int .i64 a0_0) ∧ w'.cell? ⟨gb101, 1, none⟩ = some (.int .i64 a0_1) ∧ w'.cell? ⟨gb101, 2, none⟩ = some (.int .i64 a0_2) ∧ w'.cell? ⟨gb101, 3, none⟩ = some (.int .i64 a0_3) ∧ w'.cell? ⟨gb101, 4, none⟩ = some (.int .i64 a0_4) ∧ w'.cell? ⟨gb101, 5, none⟩ = some (.int .i64 a0_5) ∧ w'.cell? ⟨gb101, 6, none⟩ = some (.string a0_6) ∧ w'.cell? ⟨gb101, 7, none⟩ = some (.string a0_7) ∧ w'.cell? ⟨gb101, 8, none⟩ = some (.string a0_8)) ∧ (Kd.R (Kd.int .u8) 5 w' w.heap.size (fun _ => True) s_ y102) ∧ (w'.heap[gb101]? = some (.cells #[.int .i64 a0_0, .int .i64 a0_1, .int .i64 a0_2, .int .i64 a0_3, .int .i64 a0_4, .int .i64 a0_5, .string a0_6, .string a0_7, .string a0_8] 33 (0, 0))) ∧ (Below w.heap.size w w')) ?_ ?_
    rotate_left
    ·intro hJ7_8_12
     refine join_ (σ := Value) 6 #[true, true, true, true, true, true, true, true, false, true, true, true, true, false, true, true, true, false, true, true, true, true, true, true, false, false, false] (fun s_ => [(20, s_), (25, .string t105), (29, .string t106)]) (fun s_ w' => (w'.cell? ⟨gb101, 0, none⟩ = some (.int .i64 a0_0) ∧ w'.cell? ⟨gb101, 1, none⟩ = some (.int .i64 a0_1) ∧ w'.cell? ⟨gb101, 2, none⟩ = some (.int .i64 a0_2) ∧ w'.cell? ⟨gb101, 3, none⟩ = some (.int .i64 a0_3) ∧ w'.cell? ⟨gb101, 4, none⟩ = some (.int .i64 a0_4) ∧ w'.cell? ⟨gb101, 5, none⟩ = some (.int .i64 a0_5) ∧ w'.cell? ⟨gb101, 6, none⟩ = some (.string a0_6) ∧ w'.cell? ⟨gb101, 7, none⟩ = some (.string a0_7) ∧ w'.cell? ⟨gb101, 8, none⟩ = some (.string a0_8)) ∧ (Kd.R (Kd.int .u8) 5 w' w.heap.size (fun _ => True) s_ y102) ∧ (w'.heap[gb101]? = some (.cells #[.int .i64 a0_0, .int .i64 a0_1, .int .i64 a0_2, .int .i64 a0_3, .int .i64 a0_4, .int .i64 a0_5, .string a0_6, .string a0_7, .string a0_8] 33 (0, 0))) ∧ (Below w.heap.size w w')) ?_ ?_
     rotate_left
     ·intro hJ7_12_16
      refine join_ (σ := Unit) 6 #[true, true, true, true, true, true, true, false, false, true, true, true, true, false, true, true, true, false, true, true, true, true, true, true, true, false, false] (fun s_ => [(25, .string t105), (29, .string t106), (37, .string t107)]) (fun s_ w' => (w'.cell? ⟨gb101, 0, none⟩ = some (.int .i64 a0_0) ∧ w'.cell? ⟨gb101, 1, none⟩ = some (.int .i64 a0_1) ∧ w'.cell? ⟨gb101, 2, none⟩ = some (.int .i64 a0_2) ∧ w'.cell? ⟨gb101, 3, none⟩ = some (.int .i64 a0_3) ∧ w'.cell? ⟨gb101, 4, none⟩ = some (.int .i64 a0_4) ∧ w'.cell? ⟨gb101, 5, none⟩ = some (.int .i64 a0_5) ∧ w'.cell? ⟨gb101, 6, none⟩ = some (.string a0_6) ∧ w'.cell? ⟨gb101, 7, none⟩ = some (.string a0_7) ∧ w'.cell? ⟨gb101, 8, none⟩ = some (.string a0_8)) ∧ (w'.heap[gb101]? = some (.cells #[.int .i64 a0_0, .int .i64 a0_1, .int .i64 a0_2, .int .i64 a0_3, .int .i64 a0_4, .int .i64 a0_5, .string a0_6, .string a0_7, .string a0_8] 33 (0, 0))) ∧ (Below w.heap.size w w')) ?_ ?_
      rotate_left
      ·intro hJ12_16_24
       refine join_ (σ := Value) 7 #[true, true, true, true, true, true, true, true, true, true, true, true, false, false, true, true, false, false, true, true, true, true, true, true, false, false, false] (fun s_ => [(20, s_), (21, .string (strOfNums y102))]) (fun s_ w' => (w'.cell? ⟨gb101, 0, none⟩ = some (.int .i64 a0_0) ∧ w'.cell? ⟨gb101, 1, none⟩ = some (.int .i64 a0_1) ∧ w'.cell? ⟨gb101, 2, none⟩ = some (.int .i64 a0_2) ∧ w'.cell? ⟨gb101, 3, none⟩ = some (.int .i64 a0_3) ∧ w'.cell? ⟨gb101, 4, none⟩ = some (.int .i64 a0_4) ∧ w'.cell? ⟨gb101, 5, none⟩ = some (.int .i64 a0_5) ∧ w'.cell? ⟨gb101, 6, none⟩ = some (.string a0_6) ∧ w'.cell? ⟨gb101, 7, none⟩ = some (.string a0_7) ∧ w'.cell? ⟨gb101, 8, none⟩ = some (.string a0_8)) ∧ (Kd.R (Kd.int .u8) 5 w' w.heap.size (fun _ => True) s_ y102) ∧ (w'.heap[gb101]? = some (.cells #[.int .i64 a0_0, .int .i64 a0_1, .int .i64 a0_2, .int .i64 a0_3, .int .i64 a0_4, .int .i64 a0_5, .string a0_6, .string a0_7, .string a0_8] 33 (0, 0))) ∧ (Below w.heap.size w w')) ?_ ?_
       rotate_left
       ·intro hJ7_8
        refine join_ (σ := Value) 7 #[true, true, true, true, true, true, true, true, false, true, true, true, true, false, true, true, false, false, true, true, true, true, true, true, false, false, false] (fun s_ => [(20, s_), (25, .string t105)]) (fun s_ w' => (w'.cell? ⟨gb101, 0, none⟩ = some (.int .i64 a0_0) ∧ w'.cell? ⟨gb101, 1, none⟩ = some (.int .i64 a0_1) ∧ w'.cell? ⟨gb101, 2, none⟩ = some (.int .i64 a0_2) ∧ w'.cell? ⟨gb101, 3, none⟩ = some (.int .i64 a0_3) ∧ w'.cell? ⟨gb101, 4, none⟩ = some (.int .i64 a0_4) ∧ w'.cell? ⟨gb101, 5, none⟩ = some (.int .i64 a0_5) ∧ w'.cell? ⟨gb101, 6, none⟩ = some (.string a0_6) ∧ w'.cell? ⟨gb101, 7, none⟩ = some (.string a0_7) ∧ w'.cell? ⟨gb101, 8, none⟩ = some (.string a0_8)) ∧ (Kd.R (Kd.int .u8) 5 w' w.heap.size (fun _ => True) s_ y102) ∧ (w'.heap[gb101]? = some (.cells #[.int .i64 a0_0, .int .i64 a0_1, .int .i64 a0_2, .int .i64 a0_3, .int .i64 a0_4, .int .i64 a0_5, .string a0_6, .string a0_7, .string a0_8] 33 (0, 0))) ∧ (Below w.heap.size w w')) ?_ ?_
        rotate_left
        ·intro hJ7_12
         refine join_ (σ := Unit) 7 #[true, true, true, true, true, true, true, false, false, true, true, true, true, false, true, true, true, false, true, true, true, true, true, true, false, false, false] (fun s_ => [(25, .string t105), (29, .string t106)]) (fun s_ w' => (w'.cell? ⟨gb101, 0, none⟩ = some (.int .i64 a0_0) ∧ w'.cell? ⟨gb101, 1, none⟩ = some (.int .i64 a0_1) ∧ w'.cell? ⟨gb101, 2, none⟩ = some (.int .i64 a0_2) ∧ w'.cell? ⟨gb101, 3, none⟩ = some (.int .i64 a0_3) ∧ w'.cell? ⟨gb101, 4, none⟩ = some (.int .i64 a0_4) ∧ w'.cell? ⟨gb101, 5, none⟩ = some (.int .i64 a0_5) ∧ w'.cell? ⟨gb101, 6, none⟩ = some (.string a0_6) ∧ w'.cell? ⟨gb101, 7, none⟩ = some (.string a0_7) ∧ w'.cell? ⟨gb101, 8, none⟩ = some (.string a0_8)) ∧ (w'.heap[gb101]? = some (.cells #[.int .i64 a0_0, .int .i64 a0_1, .int .i64 a0_2, .int .i64 a0_3, .int .i64 a0_4, .int .i64 a0_5, .string a0_6, .string a0_7, .string a0_8] 33 (0, 0))) ∧ (Below w.heap.size w w')) ?_ ?_
         rotate_left
         ·intro hJ12_16
          refine join_ (σ := Value) 8 #[true, true, true, true, true, true, true, true, false, true, true, true, false, false, true, true, false, false, true, true, true, true, true, true, false, false, false] (fun s_ => [(20, s_)]) (fun s_ w' => (w'.cell? ⟨gb101, 0, none⟩ = some (.int .i64 a0_0) ∧ w'.cell? ⟨gb101, 1, none⟩ = some (.int .i64 a0_1) ∧ w'.cell? ⟨gb101, 2, none⟩ = some (.int .i64 a0_2) ∧ w'.cell? ⟨gb101, 3, none⟩ = some (.int .i64 a0_3) ∧ w'.cell? ⟨gb101, 4, none⟩ = some (.int .i64 a0_4) ∧ w'.cell? ⟨gb101, 5, none⟩ = some (.int .i64 a0_5) ∧ w'.cell? ⟨gb101, 6, none⟩ = some (.string a0_6) ∧ w'.cell? ⟨gb101, 7, none⟩ = some (.string a0_7) ∧ w'.cell? ⟨gb101, 8, none⟩ = some (.string a0_8)) ∧ (Kd.R (Kd.int .u8) 5 w' w.heap.size (fun _ => True) s_ y102) ∧ (w'.heap[gb101]? = some (.cells #[.int .i64 a0_0, .int .i64 a0_1, .int .i64 a0_2, .int .i64 a0_3, .int .i64 a0_4, .int .i64 a0_5, .string a0_6, .string a0_7, .string a0_8] 33 (0, 0))) ∧ (Below w.heap.size w w')) ?_ ?_
          rotate_left
          ·intro hJ7
           refine join_ (σ := Unit) 8 #[true, true, true, true, true, true, true, false, false, true, true, true, true, false, true, true, false, false, true, true, true, true, true, true, false, false, false] (fun s_ => [(25, .string t105)]) (fun s_ w' => (w'.cell? ⟨gb101, 0, none⟩ = some (.int .i64 a0_0) ∧ w'.cell? ⟨gb101, 1, none⟩ = some (.int .i64 a0_1) ∧ w'.cell? ⟨gb101, 2, none⟩ = some (.int .i64 a0_2) ∧ w'.cell? ⟨gb101, 3, none⟩ = some (.int .i64 a0_3) ∧ w'.cell? ⟨gb101, 4, none⟩ = some (.int .i64 a0_4) ∧ w'.cell? ⟨gb101, 5, none⟩ = some (.int .i64 a0_5) ∧ w'.cell? ⟨gb101, 6, none⟩ = some (.string a0_6) ∧ w'.cell? ⟨gb101, 7, none⟩ = some (.string a0_7) ∧ w'.cell? ⟨gb101, 8, none⟩ = some (.string a0_8)) ∧ (w'.heap[gb101]? = some (.cells #[.int .i64 a0_0, .int .i64 a0_1, .int .i64 a0_2, .int .i64 a0_3, .int .i64 a0_4, .int .i64 a0_5, .string a0_6, .string a0_7, .string a0_8] 33 (0, 0))) ∧ (Below w.heap.size w w')) ?_ ?_
           rotate_left
           ·intro hJ12
            refine two_ (i := 7) (j := 12) (Ni := some 20) (Nj := some 25) #[true, true, true, true, true, true, true, true, false, true, true, true, false, false, true, true, false, false, true, true, true, true, true, true, false, false, false] #[true, true, true, true, true, true, true, false, false, true, true, true, true, false, true, true, false, false, true, true, true, true, true, true, false, false, false] rfl rfl rfl rfl (two_of HT_.out (by kernel_rfl)) (by decide) (by decide) (fun K hK => ?_) (fun K hK => ?_)
            ·skip
             refine Kd.R_lit_step (Kd.int .u8) _ 5 ?hg (N := 20) ?hd (xs := ([(wrap64 (64 + (wrap64 (Int.tdiv (wrap64 (20 + (a0_8.size : Int))) 4)))) % 256, (a0_0) % 256] : List Int)) (inner := [.int .u8 ((wrap64 (64 + (wrap64 (Int.tdiv (wrap64 (20 + (a0_8.size : Int))) 4)))) % 256), .int .u8 ((a0_0) % 256)]) (ok := fun _ => True) (okp := fun _ => True) ?hr ?hp (fun _ hk => hk) trivial (Below.refl _ _) (Nat.le_refl _) (by simp) ?_; (case hd => rfl); (case hg => rfl); (case hr => first | (go_simp; done) | (go_simp; simp only [IntKind.wrap_u8]; done) | (go_simp; rfl)); (case hp => exact (Reps.one (show Kd.M (Kd.int .u8) _ _ _ ((wrap64 (64 + (wrap64 (Int.tdiv (wrap64 (20 + (a0_8.size : Int))) 4)))) % 256) [.int .u8 ((wrap64 (64 + (wrap64 (Int.tdiv (wrap64 (20 + (a0_8.size : Int))) 4)))) % 256)] from rfl) (Reps.one (show Kd.M (Kd.int .u8) _ _ _ ((a0_0) % 256) [.int .u8 ((a0_0) % 256)] from rfl) (Reps.none _ _))))
             intro v103 w19 ho20 hb hg_ hnew_
             clear hg_ hnew_
             (first | rw [← Ny102.out] at ho20 | (simp only [Int.reduceToNat] at ho20; rw [← Ny102.out] at ho20))
             have n0_ := Aside0.mk (Kd.R_lower ho20 (below_size (bU_ HB.out)))
             have n1_ := Aside0.mk (blk_below (g := gb101) (o := .cells #[.int .i64 a0_0, .int .i64 a0_1, .int .i64 a0_2, .int .i64 a0_3, .int .i64 a0_4, .int .i64 a0_5, .string a0_6, .string a0_7, .string a0_8] 33 (0, 0)) (by (with_reducible repeat first | apply pN_ | apply pD_ | apply pA_); exact BK101.out) hb)
             have n2_ := Aside0.mk (below_step (bU_ HB.out) hb)
             clear BK101
             clear HB
             have HO104 := n0_
             have BK101 := n1_
             have HB := n2_
             clear n0_ n1_ n2_
             clear hb ho20
             refine hK.out _ _ ⟨(blk_cell BK101.out 0).trans rfl, (blk_cell BK101.out 1).trans rfl, (blk_cell BK101.out 2).trans rfl, (blk_cell BK101.out 3).trans rfl, (blk_cell BK101.out 4).trans rfl, (blk_cell BK101.out 5).trans rfl, (blk_cell BK101.out 6).trans rfl, (blk_cell BK101.out 7).trans rfl, (blk_cell BK101.out 8).trans rfl⟩ (fun hHeld => ?_)
             clear hK K
             refine norm_ (a' := ?_) ?_ ?_
             rotate_left
             ·show Act.put _ (some 20) _ = _
              simp only [Act.put, List.setIfInBounds_toArray, List.set_cons_zero, List.set_cons_succ, i64_w, i32_w]
              rfl
             exact norm_ (by first | (simp only [putAll, Act.put, List.setIfInBounds_toArray, List.set_cons_zero, List.set_cons_succ]; done) | (simp only [putAll, Act.put, List.setIfInBounds_toArray, List.set_cons_zero, List.set_cons_succ]; rfl)) (hJ7 (v103) _ ⟨hHeld, (by (with_reducible repeat first | apply Kd.R_alloc | apply Kd.R_drewN | apply Kd.R_drew); exact HO104.out), (by (with_reducible repeat first | apply pN_ | apply pD_ | apply pA_); exact BK101.out), (bU_ HB.out)⟩)
            ·skip
             refine goes_ Try.func24 (by kernel_rfl) rfl #[.int .i64 (wrap64 ((wrap64 (20 + (a0_8.size : Int))) + a1))] (by rfl) rfl rfl (by (try simp only [List.map_toArray, List.map_cons, List.map_nil]); first | done | rfl | (simp only [List.length_drop, List.length_take]; rfl) | (simp only [ByteArray.size_append, ByteArray.size_extract, Nat.sub_zero, Int.natCast_add]; rfl) | (simp [ByteArray.size_append]; done)) ?_
             with_reducible refine (rillmeterref06_two.calls (wrap64 ((wrap64 (20 + (a0_8.size : Int))) + a1)) t105 _ A4.out).mono ?_
             rintro e w19 ⟨rfl, hb⟩
             refine ⟨_, rfl, ?_⟩
             have n0_ := Aside0.mk (blk_below (g := gb101) (o := .cells #[.int .i64 a0_0, .int .i64 a0_1, .int .i64 a0_2, .int .i64 a0_3, .int .i64 a0_4, .int .i64 a0_5, .string a0_6, .string a0_7, .string a0_8] 33 (0, 0)) (by (with_reducible repeat first | apply pN_ | apply pD_ | apply pA_); exact BK101.out) hb)
             have n1_ := Aside0.mk (below_step (bU_ HB.out) hb)
             clear BK101
             clear HB
             have BK101 := n0_
             have HB := n1_
             clear n0_ n1_
             (try clear hb)
             (try clear hb2)
             (try clear hk)
             (try clear hi)
             refine hK.out _ _ ⟨(blk_cell BK101.out 0).trans rfl, (blk_cell BK101.out 1).trans rfl, (blk_cell BK101.out 2).trans rfl, (blk_cell BK101.out 3).trans rfl, (blk_cell BK101.out 4).trans rfl, (blk_cell BK101.out 5).trans rfl, (blk_cell BK101.out 6).trans rfl, (blk_cell BK101.out 7).trans rfl, (blk_cell BK101.out 8).trans rfl⟩ (fun hHeld => ?_)
             clear hK K
             refine norm_ (a' := ?_) ?_ ?_
             rotate_left
             ·show Act.put _ (some 25) _ = _
              simp only [Act.put, List.setIfInBounds_toArray, List.set_cons_zero, List.set_cons_succ, i64_w, i32_w]
              rfl
             exact norm_ (by first | (simp only [putAll, Act.put, List.setIfInBounds_toArray, List.set_cons_zero, List.set_cons_succ]; done) | (simp only [putAll, Act.put, List.setIfInBounds_toArray, List.set_cons_zero, List.set_cons_succ]; rfl)) (hJ12 () _ ⟨hHeld, (by (with_reducible repeat first | apply pN_ | apply pD_ | apply pA_); exact BK101.out), (bU_ HB.out)⟩)
           ·skip
            rintro _ w20 ⟨hS_, h0_, h1_⟩
            have n0_ : Aside0 (w20.heap[gb101]? = some (.cells #[.int .i64 a0_0, .int .i64 a0_1, .int .i64 a0_2, .int .i64 a0_3, .int .i64 a0_4, .int .i64 a0_5, .string a0_6, .string a0_7, .string a0_8] 33 (0, 0))) := ⟨h0_⟩
            have n1_ : Aside0 (Below w.heap.size w w20) := ⟨h1_⟩
            clear BK101
            clear HB
            clear h0_ h1_
            have BK101 := n0_
            have HB := n1_
            clear n0_ n1_
            have hHeld : w20.cell? ⟨gb101, 0, none⟩ = some (.int .i64 a0_0) ∧ w20.cell? ⟨gb101, 1, none⟩ = some (.int .i64 a0_1) ∧ w20.cell? ⟨gb101, 2, none⟩ = some (.int .i64 a0_2) ∧ w20.cell? ⟨gb101, 3, none⟩ = some (.int .i64 a0_3) ∧ w20.cell? ⟨gb101, 4, none⟩ = some (.int .i64 a0_4) ∧ w20.cell? ⟨gb101, 5, none⟩ = some (.int .i64 a0_5) ∧ w20.cell? ⟨gb101, 6, none⟩ = some (.string a0_6) ∧ w20.cell? ⟨gb101, 7, none⟩ = some (.string a0_7) ∧ w20.cell? ⟨gb101, 8, none⟩ = some (.string a0_8) := hS_
            refine norm_ (a' := ?_) ?_ ?_
            rotate_left
            ·simp only [putAll, Act.put, List.setIfInBounds_toArray, List.set_cons_zero, List.set_cons_succ]
             rfl
            refine two_ (i := 7) (j := 16) (Ni := some 20) (Nj := some 29) #[true, true, true, true, true, true, true, true, false, true, true, true, true, false, true, true, false, false, true, true, true, true, true, true, false, false, false] #[true, true, true, true, true, true, true, false, false, true, true, true, true, false, true, true, true, false, true, true, true, true, true, true, false, false, false] rfl rfl rfl rfl (two_of HT_.out (by kernel_rfl)) (by decide) (by decide) (fun K hK => ?_) (fun K hK => ?_)
            ·skip
             refine Kd.R_lit_step (Kd.int .u8) _ 5 ?hg (N := 20) ?hd (xs := ([(wrap64 (64 + (wrap64 (Int.tdiv (wrap64 (20 + (a0_8.size : Int))) 4)))) % 256, (a0_0) % 256] : List Int)) (inner := [.int .u8 ((wrap64 (64 + (wrap64 (Int.tdiv (wrap64 (20 + (a0_8.size : Int))) 4)))) % 256), .int .u8 ((a0_0) % 256)]) (ok := fun _ => True) (okp := fun _ => True) ?hr ?hp (fun _ hk => hk) trivial (Below.refl _ _) (Nat.le_refl _) (by simp) ?_; (case hd => rfl); (case hg => rfl); (case hr => first | (go_simp; done) | (go_simp; simp only [IntKind.wrap_u8]; done) | (go_simp; rfl)); (case hp => exact (Reps.one (show Kd.M (Kd.int .u8) _ _ _ ((wrap64 (64 + (wrap64 (Int.tdiv (wrap64 (20 + (a0_8.size : Int))) 4)))) % 256) [.int .u8 ((wrap64 (64 + (wrap64 (Int.tdiv (wrap64 (20 + (a0_8.size : Int))) 4)))) % 256)] from rfl) (Reps.one (show Kd.M (Kd.int .u8) _ _ _ ((a0_0) % 256) [.int .u8 ((a0_0) % 256)] from rfl) (Reps.none _ _))))
             intro v103 w21 ho22 hb hg_ hnew_
             clear hg_ hnew_
             (first | rw [← Ny102.out] at ho22 | (simp only [Int.reduceToNat] at ho22; rw [← Ny102.out] at ho22))
             have n0_ := Aside0.mk (Kd.R_lower ho22 (below_size (bU_ HB.out)))
             have n1_ := Aside0.mk (blk_below (g := gb101) (o := .cells #[.int .i64 a0_0, .int .i64 a0_1, .int .i64 a0_2, .int .i64 a0_3, .int .i64 a0_4, .int .i64 a0_5, .string a0_6, .string a0_7, .string a0_8] 33 (0, 0)) (by (with_reducible repeat first | apply pN_ | apply pD_ | apply pA_); exact BK101.out) hb)
             have n2_ := Aside0.mk (below_step (bU_ HB.out) hb)
             clear BK101
             clear HB
             have HO104 := n0_
             have BK101 := n1_
             have HB := n2_
             clear n0_ n1_ n2_
             clear hb ho22
             refine hK.out _ _ ⟨(blk_cell BK101.out 0).trans rfl, (blk_cell BK101.out 1).trans rfl, (blk_cell BK101.out 2).trans rfl, (blk_cell BK101.out 3).trans rfl, (blk_cell BK101.out 4).trans rfl, (blk_cell BK101.out 5).trans rfl, (blk_cell BK101.out 6).trans rfl, (blk_cell BK101.out 7).trans rfl, (blk_cell BK101.out 8).trans rfl⟩ (fun hHeld => ?_)
             clear hK K
             refine norm_ (a' := ?_) ?_ ?_
             rotate_left
             ·show Act.put _ (some 20) _ = _
              simp only [Act.put, List.setIfInBounds_toArray, List.set_cons_zero, List.set_cons_succ, i64_w, i32_w]
              rfl
             exact norm_ (by first | (simp only [putAll, Act.put, List.setIfInBounds_toArray, List.set_cons_zero, List.set_cons_succ]; done) | (simp only [putAll, Act.put, List.setIfInBounds_toArray, List.set_cons_zero, List.set_cons_succ]; rfl)) (hJ7_12 (v103) _ ⟨hHeld, (by (with_reducible repeat first | apply Kd.R_alloc | apply Kd.R_drewN | apply Kd.R_drew); exact HO104.out), (by (with_reducible repeat first | apply pN_ | apply pD_ | apply pA_); exact BK101.out), (bU_ HB.out)⟩)
            ·skip
             refine goes_ Try.func24 (by kernel_rfl) rfl #[.int .i64 a0_1] (by rfl) rfl rfl (by (try simp only [List.map_toArray, List.map_cons, List.map_nil]); first | done | rfl | (simp only [List.length_drop, List.length_take]; rfl) | (simp only [ByteArray.size_append, ByteArray.size_extract, Nat.sub_zero, Int.natCast_add]; rfl) | (simp [ByteArray.size_append]; done)) ?_
             with_reducible refine (rillmeterref06_two.calls a0_1 t106 _ A6.out).mono ?_
             rintro e w21 ⟨rfl, hb⟩
             refine ⟨_, rfl, ?_⟩
             have n0_ := Aside0.mk (blk_below (g := gb101) (o := .cells #[.int .i64 a0_0, .int .i64 a0_1, .int .i64 a0_2, .int .i64 a0_3, .int .i64 a0_4, .int .i64 a0_5, .string a0_6, .string a0_7, .string a0_8] 33 (0, 0)) (by (with_reducible repeat first | apply pN_ | apply pD_ | apply pA_); exact BK101.out) hb)
             have n1_ := Aside0.mk (below_step (bU_ HB.out) hb)
             clear BK101
             clear HB
             have BK101 := n0_
             have HB := n1_
             clear n0_ n1_
             (try clear hb)
             (try clear hb2)
             (try clear hk)
             (try clear hi)
             refine hK.out _ _ ⟨(blk_cell BK101.out 0).trans rfl, (blk_cell BK101.out 1).trans rfl, (blk_cell BK101.out 2).trans rfl, (blk_cell BK101.out 3).trans rfl, (blk_cell BK101.out 4).trans rfl, (blk_cell BK101.out 5).trans rfl, (blk_cell BK101.out 6).trans rfl, (blk_cell BK101.out 7).trans rfl, (blk_cell BK101.out 8).trans rfl⟩ (fun hHeld => ?_)
             clear hK K
             refine norm_ (a' := ?_) ?_ ?_
             rotate_left
             ·show Act.put _ (some 29) _ = _
              simp only [Act.put, List.setIfInBounds_toArray, List.set_cons_zero, List.set_cons_succ, i64_w, i32_w]
              rfl
             exact norm_ (by first | (simp only [putAll, Act.put, List.setIfInBounds_toArray, List.set_cons_zero, List.set_cons_succ]; done) | (simp only [putAll, Act.put, List.setIfInBounds_toArray, List.set_cons_zero, List.set_cons_succ]; rfl)) (hJ12_16 () _ ⟨hHeld, (by (with_reducible repeat first | apply pN_ | apply pD_ | apply pA_); exact BK101.out), (bU_ HB.out)⟩)
          ·skip
           rintro v103 w21 ⟨hS_, h0_, h1_, h2_⟩
           have n0_ : Aside0 (Kd.R (Kd.int .u8) 5 w21 w.heap.size (fun _ => True) v103 y102) := ⟨h0_⟩
           have n1_ : Aside0 (w21.heap[gb101]? = some (.cells #[.int .i64 a0_0, .int .i64 a0_1, .int .i64 a0_2, .int .i64 a0_3, .int .i64 a0_4, .int .i64 a0_5, .string a0_6, .string a0_7, .string a0_8] 33 (0, 0))) := ⟨h1_⟩
           have n2_ : Aside0 (Below w.heap.size w w21) := ⟨h2_⟩
           clear BK101
           clear HB
           clear h0_ h1_ h2_
           have HO104 := n0_
           have BK101 := n1_
           have HB := n2_
           clear n0_ n1_ n2_
           have hHeld : w21.cell? ⟨gb101, 0, none⟩ = some (.int .i64 a0_0) ∧ w21.cell? ⟨gb101, 1, none⟩ = some (.int .i64 a0_1) ∧ w21.cell? ⟨gb101, 2, none⟩ = some (.int .i64 a0_2) ∧ w21.cell? ⟨gb101, 3, none⟩ = some (.int .i64 a0_3) ∧ w21.cell? ⟨gb101, 4, none⟩ = some (.int .i64 a0_4) ∧ w21.cell? ⟨gb101, 5, none⟩ = some (.int .i64 a0_5) ∧ w21.cell? ⟨gb101, 6, none⟩ = some (.string a0_6) ∧ w21.cell? ⟨gb101, 7, none⟩ = some (.string a0_7) ∧ w21.cell? ⟨gb101, 8, none⟩ = some (.string a0_8) := hS_
           refine norm_ (a' := ?_) ?_ ?_
           rotate_left
           ·simp only [putAll, Act.put, List.setIfInBounds_toArray, List.set_cons_zero, List.set_cons_succ]
            rfl
           refine two_ (i := 8) (j := 12) (Ni := some 21) (Nj := some 25) #[true, true, true, true, true, true, true, true, true, true, true, true, false, false, true, true, false, false, true, true, true, true, true, true, false, false, false] #[true, true, true, true, true, true, true, true, false, true, true, true, true, false, true, true, false, false, true, true, true, true, true, true, false, false, false] rfl rfl rfl rfl (two_of HT_.out (by kernel_rfl)) (by decide) (by decide) (fun K hK => ?_) (fun K hK => ?_)
           ·skip
            have hcv22 := own_string (P := Try.prog) Try.underlying28 Try.underlying5 Try.underlying9 (Kd.own_of_R HO104.out)
            refine value_ (w1 := ?_) (v := ?_) (by rfl) rfl ?_ ?_
            rotate_left 2
            ·go_simp
             constructor
             ·rfl
             ·rfl
            clear hcv22
            refine hK.out _ _ ⟨(blk_cell BK101.out 0).trans rfl, (blk_cell BK101.out 1).trans rfl, (blk_cell BK101.out 2).trans rfl, (blk_cell BK101.out 3).trans rfl, (blk_cell BK101.out 4).trans rfl, (blk_cell BK101.out 5).trans rfl, (blk_cell BK101.out 6).trans rfl, (blk_cell BK101.out 7).trans rfl, (blk_cell BK101.out 8).trans rfl⟩ (fun hHeld => ?_)
            clear hK K
            refine norm_ (a' := ?_) ?_ ?_
            rotate_left
            ·show Act.put _ (some 21) _ = _
             simp only [Act.put, List.setIfInBounds_toArray, List.set_cons_zero, List.set_cons_succ, i64_w, i32_w]
             rfl
            exact norm_ (by first | (simp only [putAll, Act.put, List.setIfInBounds_toArray, List.set_cons_zero, List.set_cons_succ]; done) | (simp only [putAll, Act.put, List.setIfInBounds_toArray, List.set_cons_zero, List.set_cons_succ]; rfl)) (hJ7_8 (v103) _ ⟨hHeld, (by (with_reducible repeat first | apply Kd.R_alloc | apply Kd.R_drewN | apply Kd.R_drew); exact HO104.out), (by (with_reducible repeat first | apply pN_ | apply pD_ | apply pA_); exact BK101.out), (bU_ HB.out)⟩)
           ·skip
            refine goes_ Try.func24 (by kernel_rfl) rfl #[.int .i64 (wrap64 ((wrap64 (20 + (a0_8.size : Int))) + a1))] (by rfl) rfl rfl (by (try simp only [List.map_toArray, List.map_cons, List.map_nil]); first | done | rfl | (simp only [List.length_drop, List.length_take]; rfl) | (simp only [ByteArray.size_append, ByteArray.size_extract, Nat.sub_zero, Int.natCast_add]; rfl) | (simp [ByteArray.size_append]; done)) ?_
            with_reducible refine (rillmeterref06_two.calls (wrap64 ((wrap64 (20 + (a0_8.size : Int))) + a1)) t105 _ A4.out).mono ?_
            rintro e w22 ⟨rfl, hb⟩
            refine ⟨_, rfl, ?_⟩
            have n0_ := Aside0.mk (Kd.R_below (by (with_reducible repeat first | apply Kd.R_alloc | apply Kd.R_drewN | apply Kd.R_drew); exact HO104.out) hb)
            have n1_ := Aside0.mk (blk_below (g := gb101) (o := .cells #[.int .i64 a0_0, .int .i64 a0_1, .int .i64 a0_2, .int .i64 a0_3, .int .i64 a0_4, .int .i64 a0_5, .string a0_6, .string a0_7, .string a0_8] 33 (0, 0)) (by (with_reducible repeat first | apply pN_ | apply pD_ | apply pA_); exact BK101.out) hb)
            have n2_ := Aside0.mk (below_step (bU_ HB.out) hb)
            clear HO104
            clear BK101
            clear HB
            have HO104 := n0_
            have BK101 := n1_
            have HB := n2_
            clear n0_ n1_ n2_
            (try clear hb)
            (try clear hb2)
            (try clear hk)
            (try clear hi)
            refine hK.out _ _ ⟨(blk_cell BK101.out 0).trans rfl, (blk_cell BK101.out 1).trans rfl, (blk_cell BK101.out 2).trans rfl, (blk_cell BK101.out 3).trans rfl, (blk_cell BK101.out 4).trans rfl, (blk_cell BK101.out 5).trans rfl, (blk_cell BK101.out 6).trans rfl, (blk_cell BK101.out 7).trans rfl, (blk_cell BK101.out 8).trans rfl⟩ (fun hHeld => ?_)
            clear hK K
            refine norm_ (a' := ?_) ?_ ?_
            rotate_left
            ·show Act.put _ (some 25) _ = _
             simp only [Act.put, List.setIfInBounds_toArray, List.set_cons_zero, List.set_cons_succ, i64_w, i32_w]
             rfl
            exact norm_ (by first | (simp only [putAll, Act.put, List.setIfInBounds_toArray, List.set_cons_zero, List.set_cons_succ]; done) | (simp only [putAll, Act.put, List.setIfInBounds_toArray, List.set_cons_zero, List.set_cons_succ]; rfl)) (hJ7_12 (v103) _ ⟨hHeld, (by (with_reducible repeat first | apply Kd.R_alloc | apply Kd.R_drewN | apply Kd.R_drew); exact HO104.out), (by (with_reducible repeat first | apply pN_ | apply pD_ | apply pA_); exact BK101.out), (bU_ HB.out)⟩)
         ·skip
          rintro _ w21 ⟨hS_, h0_, h1_⟩
          have n0_ : Aside0 (w21.heap[gb101]? = some (.cells #[.int .i64 a0_0, .int .i64 a0_1, .int .i64 a0_2, .int .i64 a0_3, .int .i64 a0_4, .int .i64 a0_5, .string a0_6, .string a0_7, .string a0_8] 33 (0, 0))) := ⟨h0_⟩
          have n1_ : Aside0 (Below w.heap.size w w21) := ⟨h1_⟩
          clear BK101
          clear HB
          clear h0_ h1_
          have BK101 := n0_
          have HB := n1_
          clear n0_ n1_
          have hHeld : w21.cell? ⟨gb101, 0, none⟩ = some (.int .i64 a0_0) ∧ w21.cell? ⟨gb101, 1, none⟩ = some (.int .i64 a0_1) ∧ w21.cell? ⟨gb101, 2, none⟩ = some (.int .i64 a0_2) ∧ w21.cell? ⟨gb101, 3, none⟩ = some (.int .i64 a0_3) ∧ w21.cell? ⟨gb101, 4, none⟩ = some (.int .i64 a0_4) ∧ w21.cell? ⟨gb101, 5, none⟩ = some (.int .i64 a0_5) ∧ w21.cell? ⟨gb101, 6, none⟩ = some (.string a0_6) ∧ w21.cell? ⟨gb101, 7, none⟩ = some (.string a0_7) ∧ w21.cell? ⟨gb101, 8, none⟩ = some (.string a0_8) := hS_
          refine norm_ (a' := ?_) ?_ ?_
          rotate_left
          ·simp only [putAll, Act.put, List.setIfInBounds_toArray, List.set_cons_zero, List.set_cons_succ]
           rfl
          refine two_ (i := 7) (j := 24) (Ni := some 20) (Nj := some 37) #[true, true, true, true, true, true, true, true, false, true, true, true, true, false, true, true, true, false, true, true, true, true, true, true, false, false, false] #[true, true, true, true, true, true, true, false, false, true, true, true, true, false, true, true, true, false, true, true, true, true, true, true, true, false, false] rfl rfl rfl rfl (two_of HT_.out (by kernel_rfl)) (by decide) (by decide) (fun K hK => ?_) (fun K hK => ?_)
          ·skip
           refine Kd.R_lit_step (Kd.int .u8) _ 5 ?hg (N := 20) ?hd (xs := ([(wrap64 (64 + (wrap64 (Int.tdiv (wrap64 (20 + (a0_8.size : Int))) 4)))) % 256, (a0_0) % 256] : List Int)) (inner := [.int .u8 ((wrap64 (64 + (wrap64 (Int.tdiv (wrap64 (20 + (a0_8.size : Int))) 4)))) % 256), .int .u8 ((a0_0) % 256)]) (ok := fun _ => True) (okp := fun _ => True) ?hr ?hp (fun _ hk => hk) trivial (Below.refl _ _) (Nat.le_refl _) (by simp) ?_; (case hd => rfl); (case hg => rfl); (case hr => first | (go_simp; done) | (go_simp; simp only [IntKind.wrap_u8]; done) | (go_simp; rfl)); (case hp => exact (Reps.one (show Kd.M (Kd.int .u8) _ _ _ ((wrap64 (64 + (wrap64 (Int.tdiv (wrap64 (20 + (a0_8.size : Int))) 4)))) % 256) [.int .u8 ((wrap64 (64 + (wrap64 (Int.tdiv (wrap64 (20 + (a0_8.size : Int))) 4)))) % 256)] from rfl) (Reps.one (show Kd.M (Kd.int .u8) _ _ _ ((a0_0) % 256) [.int .u8 ((a0_0) % 256)] from rfl) (Reps.none _ _))))
           intro v103 w22 ho23 hb hg_ hnew_
           clear hg_ hnew_
           (first | rw [← Ny102.out] at ho23 | (simp only [Int.reduceToNat] at ho23; rw [← Ny102.out] at ho23))
           have n0_ := Aside0.mk (Kd.R_lower ho23 (below_size (bU_ HB.out)))
           have n1_ := Aside0.mk (blk_below (g := gb101) (o := .cells #[.int .i64 a0_0, .int .i64 a0_1, .int .i64 a0_2, .int .i64 a0_3, .int .i64 a0_4, .int .i64 a0_5, .string a0_6, .string a0_7, .string a0_8] 33 (0, 0)) (by (with_reducible repeat first | apply pN_ | apply pD_ | apply pA_); exact BK101.out) hb)
           have n2_ := Aside0.mk (below_step (bU_ HB.out) hb)
           clear BK101
           clear HB
           have HO104 := n0_
           have BK101 := n1_
           have HB := n2_
           clear n0_ n1_ n2_
           clear hb ho23
           refine hK.out _ _ ⟨(blk_cell BK101.out 0).trans rfl, (blk_cell BK101.out 1).trans rfl, (blk_cell BK101.out 2).trans rfl, (blk_cell BK101.out 3).trans rfl, (blk_cell BK101.out 4).trans rfl, (blk_cell BK101.out 5).trans rfl, (blk_cell BK101.out 6).trans rfl, (blk_cell BK101.out 7).trans rfl, (blk_cell BK101.out 8).trans rfl⟩ (fun hHeld => ?_)
           clear hK K
           refine norm_ (a' := ?_) ?_ ?_
           rotate_left
           ·show Act.put _ (some 20) _ = _
            simp only [Act.put, List.setIfInBounds_toArray, List.set_cons_zero, List.set_cons_succ, i64_w, i32_w]
            rfl
           exact norm_ (by first | (simp only [putAll, Act.put, List.setIfInBounds_toArray, List.set_cons_zero, List.set_cons_succ]; done) | (simp only [putAll, Act.put, List.setIfInBounds_toArray, List.set_cons_zero, List.set_cons_succ]; rfl)) (hJ7_12_16 (v103) _ ⟨hHeld, (by (with_reducible repeat first | apply Kd.R_alloc | apply Kd.R_drewN | apply Kd.R_drew); exact HO104.out), (by (with_reducible repeat first | apply pN_ | apply pD_ | apply pA_); exact BK101.out), (bU_ HB.out)⟩)
          ·skip
           refine goes_ Try.func24 (by kernel_rfl) rfl #[.int .i64 (wrap64 ((wrap64 (8192 * a0_2)) + a0_3))] (by rfl) rfl rfl (by (try simp only [List.map_toArray, List.map_cons, List.map_nil]); first | done | rfl | (simp only [List.length_drop, List.length_take]; rfl) | (simp only [ByteArray.size_append, ByteArray.size_extract, Nat.sub_zero, Int.natCast_add]; rfl) | (simp [ByteArray.size_append]; done)) ?_
           with_reducible refine (rillmeterref06_two.calls (wrap64 ((wrap64 (8192 * a0_2)) + a0_3)) t107 _ A8.out).mono ?_
           rintro e w22 ⟨rfl, hb⟩
           refine ⟨_, rfl, ?_⟩
           have n0_ := Aside0.mk (blk_below (g := gb101) (o := .cells #[.int .i64 a0_0, .int .i64 a0_1, .int .i64 a0_2, .int .i64 a0_3, .int .i64 a0_4, .int .i64 a0_5, .string a0_6, .string a0_7, .string a0_8] 33 (0, 0)) (by (with_reducible repeat first | apply pN_ | apply pD_ | apply pA_); exact BK101.out) hb)
           have n1_ := Aside0.mk (below_step (bU_ HB.out) hb)
           clear BK101
           clear HB
           have BK101 := n0_
           have HB := n1_
           clear n0_ n1_
           (try clear hb)
           (try clear hb2)
           (try clear hk)
           (try clear hi)
           refine hK.out _ _ ⟨(blk_cell BK101.out 0).trans rfl, (blk_cell BK101.out 1).trans rfl, (blk_cell BK101.out 2).trans rfl, (blk_cell BK101.out 3).trans rfl, (blk_cell BK101.out 4).trans rfl, (blk_cell BK101.out 5).trans rfl, (blk_cell BK101.out 6).trans rfl, (blk_cell BK101.out 7).trans rfl, (blk_cell BK101.out 8).trans rfl⟩ (fun hHeld => ?_)
           clear hK K
           refine norm_ (a' := ?_) ?_ ?_
           rotate_left
           ·show Act.put _ (some 37) _ = _
            simp only [Act.put, List.setIfInBounds_toArray, List.set_cons_zero, List.set_cons_succ, i64_w, i32_w]
            rfl
           exact norm_ (by first | (simp only [putAll, Act.put, List.setIfInBounds_toArray, List.set_cons_zero, List.set_cons_succ]; done) | (simp only [putAll, Act.put, List.setIfInBounds_toArray, List.set_cons_zero, List.set_cons_succ]; rfl)) (hJ12_16_24 () _ ⟨hHeld, (by (with_reducible repeat first | apply pN_ | apply pD_ | apply pA_); exact BK101.out), (bU_ HB.out)⟩)
        ·skip
         rintro v103 w22 ⟨hS_, h0_, h1_, h2_⟩
         have n0_ : Aside0 (Kd.R (Kd.int .u8) 5 w22 w.heap.size (fun _ => True) v103 y102) := ⟨h0_⟩
         have n1_ : Aside0 (w22.heap[gb101]? = some (.cells #[.int .i64 a0_0, .int .i64 a0_1, .int .i64 a0_2, .int .i64 a0_3, .int .i64 a0_4, .int .i64 a0_5, .string a0_6, .string a0_7, .string a0_8] 33 (0, 0))) := ⟨h1_⟩
         have n2_ : Aside0 (Below w.heap.size w w22) := ⟨h2_⟩
         clear BK101
         clear HB
         clear h0_ h1_ h2_
         have HO104 := n0_
         have BK101 := n1_
         have HB := n2_
         clear n0_ n1_ n2_
         have hHeld : w22.cell? ⟨gb101, 0, none⟩ = some (.int .i64 a0_0) ∧ w22.cell? ⟨gb101, 1, none⟩ = some (.int .i64 a0_1) ∧ w22.cell? ⟨gb101, 2, none⟩ = some (.int .i64 a0_2) ∧ w22.cell? ⟨gb101, 3, none⟩ = some (.int .i64 a0_3) ∧ w22.cell? ⟨gb101, 4, none⟩ = some (.int .i64 a0_4) ∧ w22.cell? ⟨gb101, 5, none⟩ = some (.int .i64 a0_5) ∧ w22.cell? ⟨gb101, 6, none⟩ = some (.string a0_6) ∧ w22.cell? ⟨gb101, 7, none⟩ = some (.string a0_7) ∧ w22.cell? ⟨gb101, 8, none⟩ = some (.string a0_8) := hS_
         refine norm_ (a' := ?_) ?_ ?_
         rotate_left
         ·simp only [putAll, Act.put, List.setIfInBounds_toArray, List.set_cons_zero, List.set_cons_succ]
          rfl
         refine two_ (i := 8) (j := 16) (Ni := some 21) (Nj := some 29) #[true, true, true, true, true, true, true, true, true, true, true, true, true, false, true, true, false, false, true, true, true, true, true, true, false, false, false] #[true, true, true, true, true, true, true, true, false, true, true, true, true, false, true, true, true, false, true, true, true, true, true, true, false, false, false] rfl rfl rfl rfl (two_of HT_.out (by kernel_rfl)) (by decide) (by decide) (fun K hK => ?_) (fun K hK => ?_)
         ·skip
          have hcv23 := own_string (P := Try.prog) Try.underlying28 Try.underlying5 Try.underlying9 (Kd.own_of_R HO104.out)
          refine value_ (w1 := ?_) (v := ?_) (by rfl) rfl ?_ ?_
          rotate_left 2
          ·go_simp
           constructor
           ·rfl
           ·rfl
          clear hcv23
          refine hK.out _ _ ⟨(blk_cell BK101.out 0).trans rfl, (blk_cell BK101.out 1).trans rfl, (blk_cell BK101.out 2).trans rfl, (blk_cell BK101.out 3).trans rfl, (blk_cell BK101.out 4).trans rfl, (blk_cell BK101.out 5).trans rfl, (blk_cell BK101.out 6).trans rfl, (blk_cell BK101.out 7).trans rfl, (blk_cell BK101.out 8).trans rfl⟩ (fun hHeld => ?_)
          clear hK K
          refine norm_ (a' := ?_) ?_ ?_
          rotate_left
          ·show Act.put _ (some 21) _ = _
           simp only [Act.put, List.setIfInBounds_toArray, List.set_cons_zero, List.set_cons_succ, i64_w, i32_w]
           rfl
          refine pure_ (i := 13) (N := some 26) (v := ?_) (a' := ?_) #[true, true, true, true, true, true, true, true, true, true, true, true, true, true, true, true, false, false, true, true, true, true, true, true, false, false, false] rfl rfl (any_of HT_.out (by kernel_rfl)) (fun _ _ _ h => h) (Or.inl ⟨by rfl, ?_⟩) ?_ ?_
          rotate_left
          ·intro w'
           go_simp
           with_reducible rfl
          rotate_left
          ·simp only [Act.put, List.setIfInBounds_toArray, List.set_cons_zero, List.set_cons_succ, i64_w, i32_w]
           rfl
          exact norm_ (by first | (simp only [putAll, Act.put, List.setIfInBounds_toArray, List.set_cons_zero, List.set_cons_succ]; done) | (simp only [putAll, Act.put, List.setIfInBounds_toArray, List.set_cons_zero, List.set_cons_succ]; rfl)) (hJ7_8_12 (v103) _ ⟨hHeld, (by (with_reducible repeat first | apply Kd.R_alloc | apply Kd.R_drewN | apply Kd.R_drew); exact HO104.out), (by (with_reducible repeat first | apply pN_ | apply pD_ | apply pA_); exact BK101.out), (bU_ HB.out)⟩)
         ·skip
          refine goes_ Try.func24 (by kernel_rfl) rfl #[.int .i64 a0_1] (by rfl) rfl rfl (by (try simp only [List.map_toArray, List.map_cons, List.map_nil]); first | done | rfl | (simp only [List.length_drop, List.length_take]; rfl) | (simp only [ByteArray.size_append, ByteArray.size_extract, Nat.sub_zero, Int.natCast_add]; rfl) | (simp [ByteArray.size_append]; done)) ?_
          with_reducible refine (rillmeterref06_two.calls a0_1 t106 _ A6.out).mono ?_
          rintro e w23 ⟨rfl, hb⟩
          refine ⟨_, rfl, ?_⟩
          have n0_ := Aside0.mk (Kd.R_below (by (with_reducible repeat first | apply Kd.R_alloc | apply Kd.R_drewN | apply Kd.R_drew); exact HO104.out) hb)
          have n1_ := Aside0.mk (blk_below (g := gb101) (o := .cells #[.int .i64 a0_0, .int .i64 a0_1, .int .i64 a0_2, .int .i64 a0_3, .int .i64 a0_4, .int .i64 a0_5, .string a0_6, .string a0_7, .string a0_8] 33 (0, 0)) (by (with_reducible repeat first | apply pN_ | apply pD_ | apply pA_); exact BK101.out) hb)
          have n2_ := Aside0.mk (below_step (bU_ HB.out) hb)
          clear HO104
          clear BK101
          clear HB
          have HO104 := n0_
          have BK101 := n1_
          have HB := n2_
          clear n0_ n1_ n2_
          (try clear hb)
          (try clear hb2)
          (try clear hk)
          (try clear hi)
          refine hK.out _ _ ⟨(blk_cell BK101.out 0).trans rfl, (blk_cell BK101.out 1).trans rfl, (blk_cell BK101.out 2).trans rfl, (blk_cell BK101.out 3).trans rfl, (blk_cell BK101.out 4).trans rfl, (blk_cell BK101.out 5).trans rfl, (blk_cell BK101.out 6).trans rfl, (blk_cell BK101.out 7).trans rfl, (blk_cell BK101.out 8).trans rfl⟩ (fun hHeld => ?_)
          clear hK K
          refine norm_ (a' := ?_) ?_ ?_
          rotate_left
          ·show Act.put _ (some 29) _ = _
           simp only [Act.put, List.setIfInBounds_toArray, List.set_cons_zero, List.set_cons_succ, i64_w, i32_w]
           rfl
          exact norm_ (by first | (simp only [putAll, Act.put, List.setIfInBounds_toArray, List.set_cons_zero, List.set_cons_succ]; done) | (simp only [putAll, Act.put, List.setIfInBounds_toArray, List.set_cons_zero, List.set_cons_succ]; rfl)) (hJ7_12_16 (v103) _ ⟨hHeld, (by (with_reducible repeat first | apply Kd.R_alloc | apply Kd.R_drewN | apply Kd.R_drew); exact HO104.out), (by (with_reducible repeat first | apply pN_ | apply pD_ | apply pA_); exact BK101.out), (bU_ HB.out)⟩)
       ·skip
        rintro v103 w22 ⟨hS_, h0_, h1_, h2_⟩
        have n0_ : Aside0 (Kd.R (Kd.int .u8) 5 w22 w.heap.size (fun _ => True) v103 y102) := ⟨h0_⟩
        have n1_ : Aside0 (w22.heap[gb101]? = some (.cells #[.int .i64 a0_0, .int .i64 a0_1, .int .i64 a0_2, .int .i64 a0_3, .int .i64 a0_4, .int .i64 a0_5, .string a0_6, .string a0_7, .string a0_8] 33 (0, 0))) := ⟨h1_⟩
        have n2_ : Aside0 (Below w.heap.size w w22) := ⟨h2_⟩
        clear BK101
        clear HB
        clear h0_ h1_ h2_
        have HO104 := n0_
        have BK101 := n1_
        have HB := n2_
        clear n0_ n1_ n2_
        have hHeld : w22.cell? ⟨gb101, 0, none⟩ = some (.int .i64 a0_0) ∧ w22.cell? ⟨gb101, 1, none⟩ = some (.int .i64 a0_1) ∧ w22.cell? ⟨gb101, 2, none⟩ = some (.int .i64 a0_2) ∧ w22.cell? ⟨gb101, 3, none⟩ = some (.int .i64 a0_3) ∧ w22.cell? ⟨gb101, 4, none⟩ = some (.int .i64 a0_4) ∧ w22.cell? ⟨gb101, 5, none⟩ = some (.int .i64 a0_5) ∧ w22.cell? ⟨gb101, 6, none⟩ = some (.string a0_6) ∧ w22.cell? ⟨gb101, 7, none⟩ = some (.string a0_7) ∧ w22.cell? ⟨gb101, 8, none⟩ = some (.string a0_8) := hS_
        refine norm_ (a' := ?_) ?_ ?_
        rotate_left
        ·simp only [putAll, Act.put, List.setIfInBounds_toArray, List.set_cons_zero, List.set_cons_succ]
         rfl
        refine one_ (i := 12) (N := some 25) #[true, true, true, true, true, true, true, true, true, true, true, true, true, false, true, true, false, false, true, true, true, true, true, true, false, false, false] rfl rfl (one_of HT_.out (by kernel_rfl)) (by decide) (fun K hK => ?_)
        refine goes_ Try.func24 (by kernel_rfl) rfl #[.int .i64 (wrap64 ((wrap64 (20 + (a0_8.size : Int))) + a1))] (by rfl) rfl rfl (by (try simp only [List.map_toArray, List.map_cons, List.map_nil]); first | done | rfl | (simp only [List.length_drop, List.length_take]; rfl) | (simp only [ByteArray.size_append, ByteArray.size_extract, Nat.sub_zero, Int.natCast_add]; rfl) | (simp [ByteArray.size_append]; done)) ?_
        with_reducible refine (rillmeterref06_two.calls (wrap64 ((wrap64 (20 + (a0_8.size : Int))) + a1)) t105 _ A4.out).mono ?_
        rintro e w23 ⟨rfl, hb⟩
        refine ⟨_, rfl, ?_⟩
        have n0_ := Aside0.mk (Kd.R_below (by (with_reducible repeat first | apply Kd.R_alloc | apply Kd.R_drewN | apply Kd.R_drew); exact HO104.out) hb)
        have n1_ := Aside0.mk (blk_below (g := gb101) (o := .cells #[.int .i64 a0_0, .int .i64 a0_1, .int .i64 a0_2, .int .i64 a0_3, .int .i64 a0_4, .int .i64 a0_5, .string a0_6, .string a0_7, .string a0_8] 33 (0, 0)) (by (with_reducible repeat first | apply pN_ | apply pD_ | apply pA_); exact BK101.out) hb)
        have n2_ := Aside0.mk (below_step (bU_ HB.out) hb)
        clear HO104
        clear BK101
        clear HB
        have HO104 := n0_
        have BK101 := n1_
        have HB := n2_
        clear n0_ n1_ n2_
        (try clear hb)
        (try clear hb2)
        (try clear hk)
        (try clear hi)
        refine hK.out _ _ ⟨(blk_cell BK101.out 0).trans rfl, (blk_cell BK101.out 1).trans rfl, (blk_cell BK101.out 2).trans rfl, (blk_cell BK101.out 3).trans rfl, (blk_cell BK101.out 4).trans rfl, (blk_cell BK101.out 5).trans rfl, (blk_cell BK101.out 6).trans rfl, (blk_cell BK101.out 7).trans rfl, (blk_cell BK101.out 8).trans rfl⟩ (fun hHeld => ?_)
        clear hK K
        refine norm_ (a' := ?_) ?_ ?_
        rotate_left
        ·show Act.put _ (some 25) _ = _
         simp only [Act.put, List.setIfInBounds_toArray, List.set_cons_zero, List.set_cons_succ, i64_w, i32_w]
         rfl
        refine pure_ (i := 13) (N := some 26) (v := ?_) (a' := ?_) #[true, true, true, true, true, true, true, true, true, true, true, true, true, true, true, true, false, false, true, true, true, true, true, true, false, false, false] rfl rfl (any_of HT_.out (by kernel_rfl)) (fun _ _ _ h => h) (Or.inl ⟨by rfl, ?_⟩) ?_ ?_
        rotate_left
        ·intro w'
         go_simp
         with_reducible rfl
        rotate_left
        ·simp only [Act.put, List.setIfInBounds_toArray, List.set_cons_zero, List.set_cons_succ, i64_w, i32_w]
         rfl
        exact norm_ (by first | (simp only [putAll, Act.put, List.setIfInBounds_toArray, List.set_cons_zero, List.set_cons_succ]; done) | (simp only [putAll, Act.put, List.setIfInBounds_toArray, List.set_cons_zero, List.set_cons_succ]; rfl)) (hJ7_8_12 (v103) _ ⟨hHeld, (by (with_reducible repeat first | apply Kd.R_alloc | apply Kd.R_drewN | apply Kd.R_drew); exact HO104.out), (by (with_reducible repeat first | apply pN_ | apply pD_ | apply pA_); exact BK101.out), (bU_ HB.out)⟩)
      ·skip
       rintro _ w22 ⟨hS_, h0_, h1_⟩
       have n0_ : Aside0 (w22.heap[gb101]? = some (.cells #[.int .i64 a0_0, .int .i64 a0_1, .int .i64 a0_2, .int .i64 a0_3, .int .i64 a0_4, .int .i64 a0_5, .string a0_6, .string a0_7, .string a0_8] 33 (0, 0))) := ⟨h0_⟩
       have n1_ : Aside0 (Below w.heap.size w w22) := ⟨h1_⟩
       clear BK101
       clear HB
       clear h0_ h1_
       have BK101 := n0_
       have HB := n1_
       clear n0_ n1_
       have hHeld : w22.cell? ⟨gb101, 0, none⟩ = some (.int .i64 a0_0) ∧ w22.cell? ⟨gb101, 1, none⟩ = some (.int .i64 a0_1) ∧ w22.cell? ⟨gb101, 2, none⟩ = some (.int .i64 a0_2) ∧ w22.cell? ⟨gb101, 3, none⟩ = some (.int .i64 a0_3) ∧ w22.cell? ⟨gb101, 4, none⟩ = some (.int .i64 a0_4) ∧ w22.cell? ⟨gb101, 5, none⟩ = some (.int .i64 a0_5) ∧ w22.cell? ⟨gb101, 6, none⟩ = some (.string a0_6) ∧ w22.cell? ⟨gb101, 7, none⟩ = some (.string a0_7) ∧ w22.cell? ⟨gb101, 8, none⟩ = some (.string a0_8) := hS_
       refine norm_ (a' := ?_) ?_ ?_
       rotate_left
       ·simp only [putAll, Act.put, List.setIfInBounds_toArray, List.set_cons_zero, List.set_cons_succ]
        rfl
       refine one_ (i := 7) (N := some 20) #[true, true, true, true, true, true, true, true, false, true, true, true, true, false, true, true, true, false, true, true, true, true, true, true, true, false, false] rfl rfl (one_of HT_.out (by kernel_rfl)) (by decide) (fun K hK => ?_)
       refine Kd.R_lit_step (Kd.int .u8) _ 5 ?hg (N := 20) ?hd (xs := ([(wrap64 (64 + (wrap64 (Int.tdiv (wrap64 (20 + (a0_8.size : Int))) 4)))) % 256, (a0_0) % 256] : List Int)) (inner := [.int .u8 ((wrap64 (64 + (wrap64 (Int.tdiv (wrap64 (20 + (a0_8.size : Int))) 4)))) % 256), .int .u8 ((a0_0) % 256)]) (ok := fun _ => True) (okp := fun _ => True) ?hr ?hp (fun _ hk => hk) trivial (Below.refl _ _) (Nat.le_refl _) (by simp) ?_; (case hd => rfl); (case hg => rfl); (case hr => first | (go_simp; done) | (go_simp; simp only [IntKind.wrap_u8]; done) | (go_simp; rfl)); (case hp => exact (Reps.one (show Kd.M (Kd.int .u8) _ _ _ ((wrap64 (64 + (wrap64 (Int.tdiv (wrap64 (20 + (a0_8.size : Int))) 4)))) % 256) [.int .u8 ((wrap64 (64 + (wrap64 (Int.tdiv (wrap64 (20 + (a0_8.size : Int))) 4)))) % 256)] from rfl) (Reps.one (show Kd.M (Kd.int .u8) _ _ _ ((a0_0) % 256) [.int .u8 ((a0_0) % 256)] from rfl) (Reps.none _ _))))
       intro v103 w23 ho24 hb hg_ hnew_
       clear hg_ hnew_
       (first | rw [← Ny102.out] at ho24 | (simp only [Int.reduceToNat] at ho24; rw [← Ny102.out] at ho24))
       have n0_ := Aside0.mk (Kd.R_lower ho24 (below_size (bU_ HB.out)))
       have n1_ := Aside0.mk (blk_below (g := gb101) (o := .cells #[.int .i64 a0_0, .int .i64 a0_1, .int .i64 a0_2, .int .i64 a0_3, .int .i64 a0_4, .int .i64 a0_5, .string a0_6, .string a0_7, .string a0_8] 33 (0, 0)) (by (with_reducible repeat first | apply pN_ | apply pD_ | apply pA_); exact BK101.out) hb)
       have n2_ := Aside0.mk (below_step (bU_ HB.out) hb)
       clear BK101
       clear HB
       have HO104 := n0_
       have BK101 := n1_
       have HB := n2_
       clear n0_ n1_ n2_
       clear hb ho24
       refine hK.out _ _ ⟨(blk_cell BK101.out 0).trans rfl, (blk_cell BK101.out 1).trans rfl, (blk_cell BK101.out 2).trans rfl, (blk_cell BK101.out 3).trans rfl, (blk_cell BK101.out 4).trans rfl, (blk_cell BK101.out 5).trans rfl, (blk_cell BK101.out 6).trans rfl, (blk_cell BK101.out 7).trans rfl, (blk_cell BK101.out 8).trans rfl⟩ (fun hHeld => ?_)
       clear hK K
       refine norm_ (a' := ?_) ?_ ?_
       rotate_left
       ·show Act.put _ (some 20) _ = _
        simp only [Act.put, List.setIfInBounds_toArray, List.set_cons_zero, List.set_cons_succ, i64_w, i32_w]
        rfl
       exact norm_ (by first | (simp only [putAll, Act.put, List.setIfInBounds_toArray, List.set_cons_zero, List.set_cons_succ]; done) | (simp only [putAll, Act.put, List.setIfInBounds_toArray, List.set_cons_zero, List.set_cons_succ]; rfl)) (hJ7_12_16_24 (v103) _ ⟨hHeld, (by (with_reducible repeat first | apply Kd.R_alloc | apply Kd.R_drewN | apply Kd.R_drew); exact HO104.out), (by (with_reducible repeat first | apply pN_ | apply pD_ | apply pA_); exact BK101.out), (bU_ HB.out)⟩)
     ·skip
      rintro v103 w23 ⟨hS_, h0_, h1_, h2_⟩
      have n0_ : Aside0 (Kd.R (Kd.int .u8) 5 w23 w.heap.size (fun _ => True) v103 y102) := ⟨h0_⟩
      have n1_ : Aside0 (w23.heap[gb101]? = some (.cells #[.int .i64 a0_0, .int .i64 a0_1, .int .i64 a0_2, .int .i64 a0_3, .int .i64 a0_4, .int .i64 a0_5, .string a0_6, .string a0_7, .string a0_8] 33 (0, 0))) := ⟨h1_⟩
      have n2_ : Aside0 (Below w.heap.size w w23) := ⟨h2_⟩
      clear BK101
      clear HB
      clear h0_ h1_ h2_
      have HO104 := n0_
      have BK101 := n1_
      have HB := n2_
      clear n0_ n1_ n2_
      have hHeld : w23.cell? ⟨gb101, 0, none⟩ = some (.int .i64 a0_0) ∧ w23.cell? ⟨gb101, 1, none⟩ = some (.int .i64 a0_1) ∧ w23.cell? ⟨gb101, 2, none⟩ = some (.int .i64 a0_2) ∧ w23.cell? ⟨gb101, 3, none⟩ = some (.int .i64 a0_3) ∧ w23.cell? ⟨gb101, 4, none⟩ = some (.int .i64 a0_4) ∧ w23.cell? ⟨gb101, 5, none⟩ = some (.int .i64 a0_5) ∧ w23.cell? ⟨gb101, 6, none⟩ = some (.string a0_6) ∧ w23.cell? ⟨gb101, 7, none⟩ = some (.string a0_7) ∧ w23.cell? ⟨gb101, 8, none⟩ = some (.string a0_8) := hS_
      refine norm_ (a' := ?_) ?_ ?_
      rotate_left
      ·simp only [putAll, Act.put, List.setIfInBounds_toArray, List.set_cons_zero, List.set_cons_succ]
       rfl
      refine two_ (i := 8) (j := 24) (Ni := some 21) (Nj := some 37) #[true, true, true, true, true, true, true, true, true, true, true, true, true, false, true, true, true, false, true, true, true, true, true, true, false, false, false] #[true, true, true, true, true, true, true, true, false, true, true, true, true, false, true, true, true, false, true, true, true, true, true, true, true, false, false] rfl rfl rfl rfl (two_of HT_.out (by kernel_rfl)) (by decide) (by decide) (fun K hK => ?_) (fun K hK => ?_)
      ·skip
       have hcv24 := own_string (P := Try.prog) Try.underlying28 Try.underlying5 Try.underlying9 (Kd.own_of_R HO104.out)
       refine value_ (w1 := ?_) (v := ?_) (by rfl) rfl ?_ ?_
       rotate_left 2
       ·go_simp
        constructor
        ·rfl
        ·rfl
       clear hcv24
       refine hK.out _ _ ⟨(blk_cell BK101.out 0).trans rfl, (blk_cell BK101.out 1).trans rfl, (blk_cell BK101.out 2).trans rfl, (blk_cell BK101.out 3).trans rfl, (blk_cell BK101.out 4).trans rfl, (blk_cell BK101.out 5).trans rfl, (blk_cell BK101.out 6).trans rfl, (blk_cell BK101.out 7).trans rfl, (blk_cell BK101.out 8).trans rfl⟩ (fun hHeld => ?_)
       clear hK K
       refine norm_ (a' := ?_) ?_ ?_
       rotate_left
       ·show Act.put _ (some 21) _ = _
        simp only [Act.put, List.setIfInBounds_toArray, List.set_cons_zero, List.set_cons_succ, i64_w, i32_w]
        rfl
       refine pure_ (i := 13) (N := some 26) (v := ?_) (a' := ?_) #[true, true, true, true, true, true, true, true, true, true, true, true, true, true, true, true, true, false, true, true, true, true, true, true, false, false, false] rfl rfl (any_of HT_.out (by kernel_rfl)) (fun _ _ _ h => h) (Or.inl ⟨by rfl, ?_⟩) ?_ ?_
       rotate_left
       ·intro w'
        go_simp
        with_reducible rfl
       rotate_left
       ·simp only [Act.put, List.setIfInBounds_toArray, List.set_cons_zero, List.set_cons_succ, i64_w, i32_w]
        rfl
       refine pure_ (i := 17) (N := some 30) (v := ?_) (a' := ?_) #[true, true, true, true, true, true, true, true, true, true, true, true, true, true, true, true, true, true, true, true, true, true, true, true, false, false, false] rfl rfl (any_of HT_.out (by kernel_rfl)) (fun _ _ _ h => h) (Or.inl ⟨by rfl, ?_⟩) ?_ ?_
       rotate_left
       ·intro w'
        go_simp
        with_reducible rfl
       rotate_left
       ·simp only [Act.put, List.setIfInBounds_toArray, List.set_cons_zero, List.set_cons_succ, i64_w, i32_w]
        rfl
       exact norm_ (by first | (simp only [putAll, Act.put, List.setIfInBounds_toArray, List.set_cons_zero, List.set_cons_succ]; done) | (simp only [putAll, Act.put, List.setIfInBounds_toArray, List.set_cons_zero, List.set_cons_succ]; rfl)) (hJ7_8_12_16 (v103) _ ⟨hHeld, (by (with_reducible repeat first | apply Kd.R_alloc | apply Kd.R_drewN | apply Kd.R_drew); exact HO104.out), (by (with_reducible repeat first | apply pN_ | apply pD_ | apply pA_); exact BK101.out), (bU_ HB.out)⟩)
      ·skip
       refine goes_ Try.func24 (by kernel_rfl) rfl #[.int .i64 (wrap64 ((wrap64 (8192 * a0_2)) + a0_3))] (by rfl) rfl rfl (by (try simp only [List.map_toArray, List.map_cons, List.map_nil]); first | done | rfl | (simp only [List.length_drop, List.length_take]; rfl) | (simp only [ByteArray.size_append, ByteArray.size_extract, Nat.sub_zero, Int.natCast_add]; rfl) | (simp [ByteArray.size_append]; done)) ?_
       with_reducible refine (rillmeterref06_two.calls (wrap64 ((wrap64 (8192 * a0_2)) + a0_3)) t107 _ A8.out).mono ?_
       rintro e w24 ⟨rfl, hb⟩
       refine ⟨_, rfl, ?_⟩
       have n0_ := Aside0.mk (Kd.R_below (by (with_reducible repeat first | apply Kd.R_alloc | apply Kd.R_drewN | apply Kd.R_drew); exact HO104.out) hb)
       have n1_ := Aside0.mk (blk_below (g := gb101) (o := .cells #[.int .i64 a0_0, .int .i64 a0_1, .int .i64 a0_2, .int .i64 a0_3, .int .i64 a0_4, .int .i64 a0_5, .string a0_6, .string a0_7, .string a0_8] 33 (0, 0)) (by (with_reducible repeat first | apply pN_ | apply pD_ | apply pA_); exact BK101.out) hb)
       have n2_ := Aside0.mk (below_step (bU_ HB.out) hb)
       clear HO104
       clear BK101
       clear HB
       have HO104 := n0_
       have BK101 := n1_
       have HB := n2_
       clear n0_ n1_ n2_
       (try clear hb)
       (try clear hb2)
       (try clear hk)
       (try clear hi)
       refine hK.out _ _ ⟨(blk_cell BK101.out 0).trans rfl, (blk_cell BK101.out 1).trans rfl, (blk_cell BK101.out 2).trans rfl, (blk_cell BK101.out 3).trans rfl, (blk_cell BK101.out 4).trans rfl, (blk_cell BK101.out 5).trans rfl, (blk_cell BK101.out 6).trans rfl, (blk_cell BK101.out 7).trans rfl, (blk_cell BK101.out 8).trans rfl⟩ (fun hHeld => ?_)
       clear hK K
       refine norm_ (a' := ?_) ?_ ?_
       rotate_left
       ·show Act.put _ (some 37) _ = _
        simp only [Act.put, List.setIfInBounds_toArray, List.set_cons_zero, List.set_cons_succ, i64_w, i32_w]
        rfl
       exact norm_ (by first | (simp only [putAll, Act.put, List.setIfInBounds_toArray, List.set_cons_zero, List.set_cons_succ]; done) | (simp only [putAll, Act.put, List.setIfInBounds_toArray, List.set_cons_zero, List.set_cons_succ]; rfl)) (hJ7_12_16_24 (v103) _ ⟨hHeld, (by (with_reducible repeat first | apply Kd.R_alloc | apply Kd.R_drewN | apply Kd.R_drew); exact HO104.out), (by (with_reducible repeat first | apply pN_ | apply pD_ | apply pA_); exact BK101.out), (bU_ HB.out)⟩)
    ·skip
     rintro v103 w23 ⟨hS_, h0_, h1_, h2_⟩
     have n0_ : Aside0 (Kd.R (Kd.int .u8) 5 w23 w.heap.size (fun _ => True) v103 y102) := ⟨h0_⟩
     have n1_ : Aside0 (w23.heap[gb101]? = some (.cells #[.int .i64 a0_0, .int .i64 a0_1, .int .i64 a0_2, .int .i64 a0_3, .int .i64 a0_4, .int .i64 a0_5, .string a0_6, .string a0_7, .string a0_8] 33 (0, 0))) := ⟨h1_⟩
     have n2_ : Aside0 (Below w.heap.size w w23) := ⟨h2_⟩
     clear BK101
     clear HB
     clear h0_ h1_ h2_
     have HO104 := n0_
     have BK101 := n1_
     have HB := n2_
     clear n0_ n1_ n2_
     have hHeld : w23.cell? ⟨gb101, 0, none⟩ = some (.int .i64 a0_0) ∧ w23.cell? ⟨gb101, 1, none⟩ = some (.int .i64 a0_1) ∧ w23.cell? ⟨gb101, 2, none⟩ = some (.int .i64 a0_2) ∧ w23.cell? ⟨gb101, 3, none⟩ = some (.int .i64 a0_3) ∧ w23.cell? ⟨gb101, 4, none⟩ = some (.int .i64 a0_4) ∧ w23.cell? ⟨gb101, 5, none⟩ = some (.int .i64 a0_5) ∧ w23.cell? ⟨gb101, 6, none⟩ = some (.string a0_6) ∧ w23.cell? ⟨gb101, 7, none⟩ = some (.string a0_7) ∧ w23.cell? ⟨gb101, 8, none⟩ = some (.string a0_8) := hS_
     refine norm_ (a' := ?_) ?_ ?_
     rotate_left
     ·simp only [putAll, Act.put, List.setIfInBounds_toArray, List.set_cons_zero, List.set_cons_succ]
      rfl
     refine one_ (i := 16) (N := some 29) #[true, true, true, true, true, true, true, true, true, true, true, true, true, true, true, true, true, false, true, true, true, true, true, true, false, false, false] rfl rfl (one_of HT_.out (by kernel_rfl)) (by decide) (fun K hK => ?_)
     refine goes_ Try.func24 (by kernel_rfl) rfl #[.int .i64 a0_1] (by rfl) rfl rfl (by (try simp only [List.map_toArray, List.map_cons, List.map_nil]); first | done | rfl | (simp only [List.length_drop, List.length_take]; rfl) | (simp only [ByteArray.size_append, ByteArray.size_extract, Nat.sub_zero, Int.natCast_add]; rfl) | (simp [ByteArray.size_append]; done)) ?_
     with_reducible refine (rillmeterref06_two.calls a0_1 t106 _ A6.out).mono ?_
     rintro e w24 ⟨rfl, hb⟩
     refine ⟨_, rfl, ?_⟩
     have n0_ := Aside0.mk (Kd.R_below (by (with_reducible repeat first | apply Kd.R_alloc | apply Kd.R_drewN | apply Kd.R_drew); exact HO104.out) hb)
     have n1_ := Aside0.mk (blk_below (g := gb101) (o := .cells #[.int .i64 a0_0, .int .i64 a0_1, .int .i64 a0_2, .int .i64 a0_3, .int .i64 a0_4, .int .i64 a0_5, .string a0_6, .string a0_7, .string a0_8] 33 (0, 0)) (by (with_reducible repeat first | apply pN_ | apply pD_ | apply pA_); exact BK101.out) hb)
     have n2_ := Aside0.mk (below_step (bU_ HB.out) hb)
     clear HO104
     clear BK101
     clear HB
     have HO104 := n0_
     have BK101 := n1_
     have HB := n2_
     clear n0_ n1_ n2_
     (try clear hb)
     (try clear hb2)
     (try clear hk)
     (try clear hi)
     refine hK.out _ _ ⟨(blk_cell BK101.out 0).trans rfl, (blk_cell BK101.out 1).trans rfl, (blk_cell BK101.out 2).trans rfl, (blk_cell BK101.out 3).trans rfl, (blk_cell BK101.out 4).trans rfl, (blk_cell BK101.out 5).trans rfl, (blk_cell BK101.out 6).trans rfl, (blk_cell BK101.out 7).trans rfl, (blk_cell BK101.out 8).trans rfl⟩ (fun hHeld => ?_)
     clear hK K
     refine norm_ (a' := ?_) ?_ ?_
     rotate_left
     ·show Act.put _ (some 29) _ = _
      simp only [Act.put, List.setIfInBounds_toArray, List.set_cons_zero, List.set_cons_succ, i64_w, i32_w]
      rfl
     refine pure_ (i := 17) (N := some 30) (v := ?_) (a' := ?_) #[true, true, true, true, true, true, true, true, true, true, true, true, true, true, true, true, true, true, true, true, true, true, true, true, false, false, false] rfl rfl (any_of HT_.out (by kernel_rfl)) (fun _ _ _ h => h) (Or.inl ⟨by rfl, ?_⟩) ?_ ?_
     rotate_left
     ·intro w'
      go_simp
      with_reducible rfl
     rotate_left
     ·simp only [Act.put, List.setIfInBounds_toArray, List.set_cons_zero, List.set_cons_succ, i64_w, i32_w]
      rfl
     exact norm_ (by first | (simp only [putAll, Act.put, List.setIfInBounds_toArray, List.set_cons_zero, List.set_cons_succ]; done) | (simp only [putAll, Act.put, List.setIfInBounds_toArray, List.set_cons_zero, List.set_cons_succ]; rfl)) (hJ7_8_12_16 (v103) _ ⟨hHeld, (by (with_reducible repeat first | apply Kd.R_alloc | apply Kd.R_drewN | apply Kd.R_drew); exact HO104.out), (by (with_reducible repeat first | apply pN_ | apply pD_ | apply pA_); exact BK101.out), (bU_ HB.out)⟩)
   ·skip
    rintro v103 w24 ⟨hS_, h0_, h1_, h2_⟩
    have n0_ : Aside0 (Kd.R (Kd.int .u8) 5 w24 w.heap.size (fun _ => True) v103 y102) := ⟨h0_⟩
    have n1_ : Aside0 (w24.heap[gb101]? = some (.cells #[.int .i64 a0_0, .int .i64 a0_1, .int .i64 a0_2, .int .i64 a0_3, .int .i64 a0_4, .int .i64 a0_5, .string a0_6, .string a0_7, .string a0_8] 33 (0, 0))) := ⟨h1_⟩
    have n2_ : Aside0 (Below w.heap.size w w24) := ⟨h2_⟩
    clear BK101
    clear HB
    clear h0_ h1_ h2_
    have HO104 := n0_
    have BK101 := n1_
    have HB := n2_
    clear n0_ n1_ n2_
    have hHeld : w24.cell? ⟨gb101, 0, none⟩ = some (.int .i64 a0_0) ∧ w24.cell? ⟨gb101, 1, none⟩ = some (.int .i64 a0_1) ∧ w24.cell? ⟨gb101, 2, none⟩ = some (.int .i64 a0_2) ∧ w24.cell? ⟨gb101, 3, none⟩ = some (.int .i64 a0_3) ∧ w24.cell? ⟨gb101, 4, none⟩ = some (.int .i64 a0_4) ∧ w24.cell? ⟨gb101, 5, none⟩ = some (.int .i64 a0_5) ∧ w24.cell? ⟨gb101, 6, none⟩ = some (.string a0_6) ∧ w24.cell? ⟨gb101, 7, none⟩ = some (.string a0_7) ∧ w24.cell? ⟨gb101, 8, none⟩ = some (.string a0_8) := hS_
    refine norm_ (a' := ?_) ?_ ?_
    rotate_left
    ·simp only [putAll, Act.put, List.setIfInBounds_toArray, List.set_cons_zero, List.set_cons_succ]
     rfl
    refine one_ (i := 8) (N := some 21) #[true, true, true, true, true, true, true, true, true, true, true, true, true, false, true, true, true, false, true, true, true, true, true, true, true, false, false] rfl rfl (one_of HT_.out (by kernel_rfl)) (by decide) (fun K hK => ?_)
    have hcv25 := own_string (P := Try.prog) Try.underlying28 Try.underlying5 Try.underlying9 (Kd.own_of_R HO104.out)
    refine value_ (w1 := ?_) (v := ?_) (by rfl) rfl ?_ ?_
    rotate_left 2
    ·go_simp
     constructor
     ·rfl
     ·rfl
    clear hcv25
    refine hK.out _ _ ⟨(blk_cell BK101.out 0).trans rfl, (blk_cell BK101.out 1).trans rfl, (blk_cell BK101.out 2).trans rfl, (blk_cell BK101.out 3).trans rfl, (blk_cell BK101.out 4).trans rfl, (blk_cell BK101.out 5).trans rfl, (blk_cell BK101.out 6).trans rfl, (blk_cell BK101.out 7).trans rfl, (blk_cell BK101.out 8).trans rfl⟩ (fun hHeld => ?_)
    clear hK K
    refine norm_ (a' := ?_) ?_ ?_
    rotate_left
    ·show Act.put _ (some 21) _ = _
     simp only [Act.put, List.setIfInBounds_toArray, List.set_cons_zero, List.set_cons_succ, i64_w, i32_w]
     rfl
    refine pure_ (i := 13) (N := some 26) (v := ?_) (a' := ?_) #[true, true, true, true, true, true, true, true, true, true, true, true, true, true, true, true, true, false, true, true, true, true, true, true, true, false, false] rfl rfl (any_of HT_.out (by kernel_rfl)) (fun _ _ _ h => h) (Or.inl ⟨by rfl, ?_⟩) ?_ ?_
    rotate_left
    ·intro w'
     go_simp
     with_reducible rfl
    rotate_left
    ·simp only [Act.put, List.setIfInBounds_toArray, List.set_cons_zero, List.set_cons_succ, i64_w, i32_w]
     rfl
    refine pure_ (i := 17) (N := some 30) (v := ?_) (a' := ?_) #[true, true, true, true, true, true, true, true, true, true, true, true, true, true, true, true, true, true, true, true, true, true, true, true, true, false, false] rfl rfl (any_of HT_.out (by kernel_rfl)) (fun _ _ _ h => h) (Or.inl ⟨by rfl, ?_⟩) ?_ ?_
    rotate_left
    ·intro w'
     go_simp
     with_reducible rfl
    rotate_left
    ·simp only [Act.put, List.setIfInBounds_toArray, List.set_cons_zero, List.set_cons_succ, i64_w, i32_w]
     rfl
    exact norm_ (by first | (simp only [putAll, Act.put, List.setIfInBounds_toArray, List.set_cons_zero, List.set_cons_succ]; done) | (simp only [putAll, Act.put, List.setIfInBounds_toArray, List.set_cons_zero, List.set_cons_succ]; rfl)) (hJ7_8_12_16_24 (v103) _ ⟨hHeld, (by (with_reducible repeat first | apply Kd.R_alloc | apply Kd.R_drewN | apply Kd.R_drew); exact HO104.out), (by (with_reducible repeat first | apply pN_ | apply pD_ | apply pA_); exact BK101.out), (bU_ HB.out)⟩)
  ·skip
   rintro v103 w24 ⟨hS_, h0_, h1_, h2_⟩
   have n0_ : Aside0 (Kd.R (Kd.int .u8) 5 w24 w.heap.size (fun _ => True) v103 y102) := ⟨h0_⟩
   have n1_ : Aside0 (w24.heap[gb101]? = some (.cells #[.int .i64 a0_0, .int .i64 a0_1, .int .i64 a0_2, .int .i64 a0_3, .int .i64 a0_4, .int .i64 a0_5, .string a0_6, .string a0_7, .string a0_8] 33 (0, 0))) := ⟨h1_⟩
   have n2_ : Aside0 (Below w.heap.size w w24) := ⟨h2_⟩
   clear BK101
   clear HB
   clear h0_ h1_ h2_
   have HO104 := n0_
   have BK101 := n1_
   have HB := n2_
   clear n0_ n1_ n2_
   have hHeld : w24.cell? ⟨gb101, 0, none⟩ = some (.int .i64 a0_0) ∧ w24.cell? ⟨gb101, 1, none⟩ = some (.int .i64 a0_1) ∧ w24.cell? ⟨gb101, 2, none⟩ = some (.int .i64 a0_2) ∧ w24.cell? ⟨gb101, 3, none⟩ = some (.int .i64 a0_3) ∧ w24.cell? ⟨gb101, 4, none⟩ = some (.int .i64 a0_4) ∧ w24.cell? ⟨gb101, 5, none⟩ = some (.int .i64 a0_5) ∧ w24.cell? ⟨gb101, 6, none⟩ = some (.string a0_6) ∧ w24.cell? ⟨gb101, 7, none⟩ = some (.string a0_7) ∧ w24.cell? ⟨gb101, 8, none⟩ = some (.string a0_8) := hS_
   refine norm_ (a' := ?_) ?_ ?_
   rotate_left
   ·simp only [putAll, Act.put, List.setIfInBounds_toArray, List.set_cons_zero, List.set_cons_succ]
    rfl
   refine one_ (i := 24) (N := some 37) #[true, true, true, true, true, true, true, true, true, true, true, true, true, true, true, true, true, true, true, true, true, true, true, true, true, false, false] rfl rfl (one_of HT_.out (by kernel_rfl)) (by decide) (fun K hK => ?_)
   refine goes_ Try.func24 (by kernel_rfl) rfl #[.int .i64 (wrap64 ((wrap64 (8192 * a0_2)) + a0_3))] (by rfl) rfl rfl (by (try simp only [List.map_toArray, List.map_cons, List.map_nil]); first | done | rfl | (simp only [List.length_drop, List.length_take]; rfl) | (simp only [ByteArray.size_append, ByteArray.size_extract, Nat.sub_zero, Int.natCast_add]; rfl) | (simp [ByteArray.size_append]; done)) ?_
   with_reducible refine (rillmeterref06_two.calls (wrap64 ((wrap64 (8192 * a0_2)) + a0_3)) t107 _ A8.out).mono ?_
   rintro e w25 ⟨rfl, hb⟩
   refine ⟨_, rfl, ?_⟩
   have n0_ := Aside0.mk (Kd.R_below (by (with_reducible repeat first | apply Kd.R_alloc | apply Kd.R_drewN | apply Kd.R_drew); exact HO104.out) hb)
   have n1_ := Aside0.mk (blk_below (g := gb101) (o := .cells #[.int .i64 a0_0, .int .i64 a0_1, .int .i64 a0_2, .int .i64 a0_3, .int .i64 a0_4, .int .i64 a0_5, .string a0_6, .string a0_7, .string a0_8] 33 (0, 0)) (by (with_reducible repeat first | apply pN_ | apply pD_ | apply pA_); exact BK101.out) hb)
   have n2_ := Aside0.mk (below_step (bU_ HB.out) hb)
   clear HO104
   clear BK101
   clear HB
   have HO104 := n0_
   have BK101 := n1_
   have HB := n2_
   clear n0_ n1_ n2_
   (try clear hb)
   (try clear hb2)
   (try clear hk)
   (try clear hi)
   refine hK.out _ _ ⟨(blk_cell BK101.out 0).trans rfl, (blk_cell BK101.out 1).trans rfl, (blk_cell BK101.out 2).trans rfl, (blk_cell BK101.out 3).trans rfl, (blk_cell BK101.out 4).trans rfl, (blk_cell BK101.out 5).trans rfl, (blk_cell BK101.out 6).trans rfl, (blk_cell BK101.out 7).trans rfl, (blk_cell BK101.out 8).trans rfl⟩ (fun hHeld => ?_)
   clear hK K
   refine norm_ (a' := ?_) ?_ ?_
   rotate_left
   ·show Act.put _ (some 37) _ = _
    simp only [Act.put, List.setIfInBounds_toArray, List.set_cons_zero, List.set_cons_succ, i64_w, i32_w]
    rfl
   exact norm_ (by first | (simp only [putAll, Act.put, List.setIfInBounds_toArray, List.set_cons_zero, List.set_cons_succ]; done) | (simp only [putAll, Act.put, List.setIfInBounds_toArray, List.set_cons_zero, List.set_cons_succ]; rfl)) (hJ7_8_12_16_24 (v103) _ ⟨hHeld, (by (with_reducible repeat first | apply Kd.R_alloc | apply Kd.R_drewN | apply Kd.R_drew); exact HO104.out), (by (with_reducible repeat first | apply pN_ | apply pD_ | apply pA_); exact BK101.out), (bU_ HB.out)⟩)
 rintro v103 w25 ⟨hS_, h0_, h1_, h2_⟩
 have n0_ : Aside0 (Kd.R (Kd.int .u8) 5 w25 w.heap.size (fun _ => True) v103 y102) := ⟨h0_⟩
 have n1_ : Aside0 (w25.heap[gb101]? = some (.cells #[.int .i64 a0_0, .int .i64 a0_1, .int .i64 a0_2, .int .i64 a0_3, .int .i64 a0_4, .int .i64 a0_5, .string a0_6, .string a0_7, .string a0_8] 33 (0, 0))) := ⟨h1_⟩
 have n2_ : Aside0 (Below w.heap.size w w25) := ⟨h2_⟩
 clear BK101
 clear HB
 clear h0_ h1_ h2_
 have HO104 := n0_
 have BK101 := n1_
 have HB := n2_
 clear n0_ n1_ n2_
 have hHeld : w25.cell? ⟨gb101, 0, none⟩ = some (.int .i64 a0_0) ∧ w25.cell? ⟨gb101, 1, none⟩ = some (.int .i64 a0_1) ∧ w25.cell? ⟨gb101, 2, none⟩ = some (.int .i64 a0_2) ∧ w25.cell? ⟨gb101, 3, none⟩ = some (.int .i64 a0_3) ∧ w25.cell? ⟨gb101, 4, none⟩ = some (.int .i64 a0_4) ∧ w25.cell? ⟨gb101, 5, none⟩ = some (.int .i64 a0_5) ∧ w25.cell? ⟨gb101, 6, none⟩ = some (.string a0_6) ∧ w25.cell? ⟨gb101, 7, none⟩ = some (.string a0_7) ∧ w25.cell? ⟨gb101, 8, none⟩ = some (.string a0_8) := hS_
 refine norm_ (a' := ?_) ?_ ?_
 rotate_left
 ·simp only [putAll, Act.put, List.setIfInBounds_toArray, List.set_cons_zero, List.set_cons_succ]
  rfl
 refine pure_ (i := 25) (N := some 38) (v := ?_) (a' := ?_) #[true, true, true, true, true, true, true, true, true, true, true, true, true, true, true, true, true, true, true, true, true, true, true, true, true, true, false] rfl rfl (any_of HT_.out (by kernel_rfl)) (fun _ _ _ h => h) (Or.inl ⟨by rfl, ?_⟩) ?_ ?_
 rotate_left
 ·intro w'
  go_simp
  with_reducible rfl
 rotate_left
 ·simp only [Act.put, List.setIfInBounds_toArray, List.set_cons_zero, List.set_cons_succ, i64_w, i32_w]
  rfl
 refine pure_ (i := 26) (N := some 8) (v := ?_) (a' := ?_) #[true, true, true, true, true, true, true, true, true, true, true, true, true, true, true, true, true, true, true, true, true, true, true, true, true, true, true] rfl rfl (any_of HT_.out (by kernel_rfl)) (fun _ _ _ h => h) (Or.inl ⟨by rfl, ?_⟩) ?_ ?_
 rotate_left
 ·intro w'
  go_simp
  with_reducible rfl
 rotate_left
 ·simp only [Act.put, List.setIfInBounds_toArray, List.set_cons_zero, List.set_cons_succ, i64_w, i32_w]
  rfl
 refine done_ (done_of HT_.out (by kernel_rfl)) ?_
 try go_wp2
 have n0_ := Aside0.mk (Kd.R_drew HO104.out)
 have n1_ := Aside0.mk (blk_drew BK101.out)
 have n2_ := Aside0.mk (below_drew1 HB.out)
 clear HO104
 clear BK101
 clear HB
 have HO104 := n0_
 have BK101 := n1_
 have HB := n2_
 clear n0_ n1_ n2_
 refine start_ (n := 23) (S := fun w' => w'.cell? ⟨gb101, 0, none⟩ = some (.int .i64 a0_0) ∧ w'.cell? ⟨gb101, 1, none⟩ = some (.int .i64 a0_1) ∧ w'.cell? ⟨gb101, 2, none⟩ = some (.int .i64 a0_2) ∧ w'.cell? ⟨gb101, 3, none⟩ = some (.int .i64 a0_3) ∧ w'.cell? ⟨gb101, 4, none⟩ = some (.int .i64 a0_4) ∧ w'.cell? ⟨gb101, 5, none⟩ = some (.int .i64 a0_5) ∧ w'.cell? ⟨gb101, 6, none⟩ = some (.string a0_6) ∧ w'.cell? ⟨gb101, 7, none⟩ = some (.string a0_7) ∧ w'.cell? ⟨gb101, 8, none⟩ = some (.string a0_8)) (ds := []) #[false, false, false, false, false, false, false, false, false, false, false, false, false, false, false, false, false, false, false, false, false, false, false] (by kernel_rfl) rfl rfl ⟨(blk_cell BK101.out 0).trans rfl, (blk_cell BK101.out 1).trans rfl, (blk_cell BK101.out 2).trans rfl, (blk_cell BK101.out 3).trans rfl, (blk_cell BK101.out 4).trans rfl, (blk_cell BK101.out 5).trans rfl, (blk_cell BK101.out 6).trans rfl, (blk_cell BK101.out 7).trans rfl, (blk_cell BK101.out 8).trans rfl⟩ (fun hHeld => ?_); refine with_tabW rillmeterref06_head.tab3 rillmeterref06_head.bits3 (fun HT_ HW_ => ?_)
 generalize w25.drew = w26 at HO104 BK101 HB hHeld ⊢
 refine pure_ (i := 0) (N := some 39) (v := ?_) (a' := ?_) #[true, false, false, false, false, false, false, false, false, false, false, false, false, false, false, false, false, false, false, false, false, false, false] rfl rfl (any_of HT_.out (by kernel_rfl)) (fun _ _ _ h => h) (Or.inl ⟨by rfl, ?_⟩) ?_ ?_
 rotate_left
 ·intro w'
  go_simp
  with_reducible rfl
 rotate_left
 ·simp only [Act.put, List.setIfInBounds_toArray, List.set_cons_zero, List.set_cons_succ, i64_w, i32_w]
  rfl
 refine pure_ (i := 1) (N := some 40) (v := ?_) (a' := ?_) #[true, true, false, false, false, false, false, false, false, false, false, false, false, false, false, false, false, false, false, false, false, false, false] rfl rfl (any_of HT_.out (by kernel_rfl)) (fun _ _ _ h => h) (Or.inl ⟨by rfl, ?_⟩) ?_ ?_
 rotate_left
 ·intro w'
  go_simp
  with_reducible rfl
 rotate_left
 ·simp only [Act.put, List.setIfInBounds_toArray, List.set_cons_zero, List.set_cons_succ, i64_w, i32_w]
  rfl
 refine pure_ (i := 4) (N := some 43) (v := ?_) (a' := ?_) #[true, true, false, false, true, false, false, false, false, false, false, false, false, false, false, false, false, false, false, false, false, false, false] rfl rfl (any_of HT_.out (by kernel_rfl)) (fun _ _ _ h => h) (Or.inl ⟨by rfl, ?_⟩) ?_ ?_
 rotate_left
 ·intro w'
  go_simp
  with_reducible rfl
 rotate_left
 ·simp only [Act.put, List.setIfInBounds_toArray, List.set_cons_zero, List.set_cons_succ, i64_w, i32_w]
  rfl
 refine pure_ (i := 10) (N := some 49) (v := ?_) (a' := ?_) #[true, true, false, false, true, false, false, false, false, false, true, false, false, false, false, false, false, false, false, false, false, false, false] rfl rfl (any_of HT_.out (by kernel_rfl)) (fun _ _ _ h => h) (Or.inl ⟨by rfl, ?_⟩) ?_ ?_
 rotate_left
 ·intro w'
  go_simp
  with_reducible rfl
 rotate_left
 ·simp only [Act.put, List.setIfInBounds_toArray, List.set_cons_zero, List.set_cons_succ, i64_w, i32_w]
  rfl
 refine pure_ (i := 13) (N := some 52) (v := ?_) (a' := ?_) #[true, true, false, false, true, false, false, false, false, false, true, false, false, true, false, false, false, false, false, false, false, false, false] rfl rfl (any_of HT_.out (by kernel_rfl)) (fun _ _ _ h => h) (Or.inl ⟨by rfl, ?_⟩) ?_ ?_
 rotate_left
 ·intro w'
  go_simp
  with_reducible rfl
 rotate_left
 ·simp only [Act.put, List.setIfInBounds_toArray, List.set_cons_zero, List.set_cons_succ, i64_w, i32_w]
  rfl
 refine pure_ (i := 16) (N := some 55) (v := ?_) (a' := ?_) #[true, true, false, false, true, false, false, false, false, false, true, false, false, true, false, false, true, false, false, false, false, false, false] rfl rfl (any_of HT_.out (by kernel_rfl)) (fun _ _ _ h => h) (Or.inl ⟨by rfl, ?_⟩) ?_ ?_
 rotate_left
 ·intro w'
  go_simp
  with_reducible rfl
 rotate_left
 ·simp only [Act.put, List.setIfInBounds_toArray, List.set_cons_zero, List.set_cons_succ, i64_w, i32_w]
  rfl
 refine pure_ (i := 19) (N := some 58) (v := ?_) (a' := ?_) #[true, true, false, false, true, false, false, false, false, false, true, false, false, true, false, false, true, false, false, true, false, false, false] rfl rfl (any_of HT_.out (by kernel_rfl)) (fun _ _ _ h => h) (Or.inl ⟨by rfl, ?_⟩) ?_ ?_
 rotate_left
 ·intro w'
  go_simp
  with_reducible rfl
 rotate_left
 ·simp only [Act.put, List.setIfInBounds_toArray, List.set_cons_zero, List.set_cons_succ, i64_w, i32_w]
  rfl
 refine take_ (i := 2) (N := some 41) (v := ?_) (a' := ?_) #[true, true, true, false, true, false, false, false, false, false, true, false, false, true, false, false, true, false, false, true, false, false, false] rfl rfl (take_ofW HT_.out HW_.out (by kernel_rfl)) (fun _ _ _ h => h) (Or.inl ⟨by rfl, ?_⟩) hHeld ?_ ?_
 rotate_left
 ·rintro w' ⟨s0, s1, s2, s3, s4, s5, s6, s7, s8⟩
  go_simp
  with_reducible rfl
 rotate_left
 ·simp only [Act.put, List.setIfInBounds_toArray, List.set_cons_zero, List.set_cons_succ, i64_w, i32_w]
  rfl
 refine pure_ (i := 3) (N := some 42) (v := ?_) (a' := ?_) #[true, true, true, true, true, false, false, false, false, false, true, false, false, true, false, false, true, false, false, true, false, false, false] rfl rfl (any_of HT_.out (by kernel_rfl)) (fun _ _ _ h => h) (Or.inl ⟨by rfl, ?_⟩) ?_ ?_
 rotate_left
 ·intro w'
  go_simp
  with_reducible rfl
 rotate_left
 ·simp only [Act.put, List.setIfInBounds_toArray, List.set_cons_zero, List.set_cons_succ, i64_w, i32_w]
  rfl
 refine take_ (i := 5) (N := some 44) (v := ?_) (a' := ?_) #[true, true, true, true, true, true, false, false, false, false, true, false, false, true, false, false, true, false, false, true, false, false, false] rfl rfl (take_ofW HT_.out HW_.out (by kernel_rfl)) (fun _ _ _ h => h) (Or.inl ⟨by rfl, ?_⟩) hHeld ?_ ?_
 rotate_left
 ·rintro w' ⟨s0, s1, s2, s3, s4, s5, s6, s7, s8⟩
  go_simp
  with_reducible rfl
 rotate_left
 ·simp only [Act.put, List.setIfInBounds_toArray, List.set_cons_zero, List.set_cons_succ, i64_w, i32_w]
  rfl
 refine pure_ (i := 6) (N := some 45) (v := ?_) (a' := ?_) #[true, true, true, true, true, true, true, false, false, false, true, false, false, true, false, false, true, false, false, true, false, false, false] rfl rfl (any_of HT_.out (by kernel_rfl)) (fun _ _ _ h => h) (Or.inl ⟨by rfl, ?_⟩) ?_ ?_
 rotate_left
 ·intro w'
  go_simp
  with_reducible rfl
 rotate_left
 ·simp only [Act.put, List.setIfInBounds_toArray, List.set_cons_zero, List.set_cons_succ, i64_w, i32_w]
  rfl
 refine take_ (i := 14) (N := some 53) (v := ?_) (a' := ?_) #[true, true, true, true, true, true, true, false, false, false, true, false, false, true, true, false, true, false, false, true, false, false, false] rfl rfl (take_ofW HT_.out HW_.out (by kernel_rfl)) (fun _ _ _ h => h) (Or.inl ⟨by rfl, ?_⟩) hHeld ?_ ?_
 rotate_left
 ·rintro w' ⟨s0, s1, s2, s3, s4, s5, s6, s7, s8⟩
  go_simp
  with_reducible rfl
 rotate_left
 ·simp only [Act.put, List.setIfInBounds_toArray, List.set_cons_zero, List.set_cons_succ, i64_w, i32_w]
  rfl
 refine take_ (i := 17) (N := some 56) (v := ?_) (a' := ?_) #[true, true, true, true, true, true, true, false, false, false, true, false, false, true, true, false, true, true, false, true, false, false, false] rfl rfl (take_ofW HT_.out HW_.out (by kernel_rfl)) (fun _ _ _ h => h) (Or.inl ⟨by rfl, ?_⟩) hHeld ?_ ?_
 rotate_left
 ·rintro w' ⟨s0, s1, s2, s3, s4, s5, s6, s7, s8⟩
  go_simp
  with_reducible rfl
 rotate_left
 ·simp only [Act.put, List.setIfInBounds_toArray, List.set_cons_zero, List.set_cons_succ, i64_w, i32_w]
  rfl
 refine take_ (i := 20) (N := some 59) (v := ?_) (a' := ?_) #[true, true, true, true, true, true, true, false, false, false, true, false, false, true, true, false, true, true, false, true, true, false, false] rfl rfl (take_ofW HT_.out HW_.out (by kernel_rfl)) (fun _ _ _ h => h) (Or.inl ⟨by rfl, ?_⟩) hHeld ?_ ?_
 rotate_left
 ·rintro w' ⟨s0, s1, s2, s3, s4, s5, s6, s7, s8⟩
  go_simp
  with_reducible rfl
 rotate_left
 ·simp only [Act.put, List.setIfInBounds_toArray, List.set_cons_zero, List.set_cons_succ, i64_w, i32_w]
  rfl
 refine join_ (σ := Value) 5 #[true, true, true, true, true, true, true, true, true, true, true, true, false, true, true, false, true, true, false, true, true, false, false] (fun s_ => [(46, s_), (47, .string (strOfNums y108)), (50, .string t111), (48, .string (((((strOfNums y102) ++ t105) ++ t106) ++ t107) ++ (strOfNums y108)))]) (fun s_ w' => (w'.cell? ⟨gb101, 0, none⟩ = some (.int .i64 a0_0) ∧ w'.cell? ⟨gb101, 1, none⟩ = some (.int .i64 a0_1) ∧ w'.cell? ⟨gb101, 2, none⟩ = some (.int .i64 a0_2) ∧ w'.cell? ⟨gb101, 3, none⟩ = some (.int .i64 a0_3) ∧ w'.cell? ⟨gb101, 4, none⟩ = some (.int .i64 a0_4) ∧ w'.cell? ⟨gb101, 5, none⟩ = some (.int .i64 a0_5) ∧ w'.cell? ⟨gb101, 6, none⟩ = some (.string a0_6) ∧ w'.cell? ⟨gb101, 7, none⟩ = some (.string a0_7) ∧ w'.cell? ⟨gb101, 8, none⟩ = some (.string a0_8)) ∧ (Kd.R (Kd.int .u8) 5 w' w.heap.size (fun k_ => some k_ ≠ (s_ : Value).ownBlock) v103 y102) ∧ (Kd.R (Kd.int .u8) 5 w' w.heap.size (fun k_ => some k_ ≠ (v103 : Value).ownBlock) s_ y108) ∧ (w'.heap[gb101]? = some (.cells #[.int .i64 a0_0, .int .i64 a0_1, .int .i64 a0_2, .int .i64 a0_3, .int .i64 a0_4, .int .i64 a0_5, .string a0_6, .string a0_7, .string a0_8] 33 (0, 0))) ∧ (Below w.heap.size w w')) ?_ ?_
 rotate_left
 ·intro hCont
  refine two_ (i := 7) (j := 11) (Ni := some 46) (Nj := some 50) #[true, true, true, true, true, true, true, true, false, false, true, false, false, true, true, false, true, true, false, true, true, false, false] #[true, true, true, true, true, true, true, false, false, false, true, true, false, true, true, false, true, true, false, true, true, false, false] rfl rfl rfl rfl (two_of HT_.out (by kernel_rfl)) (by decide) (by decide) (fun K hK => ?_) (fun K hK => ?_)
  ·skip
   refine Kd.R_lit_step (Kd.int .u8) _ 5 ?hg (N := 46) ?hd (xs := ([(a0_4) % 256, (a0_5) % 256] : List Int)) (inner := [.int .u8 ((a0_4) % 256), .int .u8 ((a0_5) % 256)]) (ok := fun _ => True) (okp := fun _ => True) ?hr ?hp (fun _ hk => hk) trivial (Below.refl _ _) (Nat.le_refl _) (by simp) ?_; (case hd => rfl); (case hg => rfl); (case hr => first | (go_simp; done) | (go_simp; simp only [IntKind.wrap_u8]; done) | (go_simp; rfl)); (case hp => exact (Reps.one (show Kd.M (Kd.int .u8) _ _ _ ((a0_4) % 256) [.int .u8 ((a0_4) % 256)] from rfl) (Reps.one (show Kd.M (Kd.int .u8) _ _ _ ((a0_5) % 256) [.int .u8 ((a0_5) % 256)] from rfl) (Reps.none _ _))))
   intro v109 w27 ho28 hb hg_ hnew_
   clear hg_ hnew_
   (first | rw [← Ny108.out] at ho28 | (simp only [Int.reduceToNat] at ho28; rw [← Ny108.out] at ho28))
   have n0_ := Aside0.mk (Kd.R_elder' (by (with_reducible repeat first | apply Kd.R_alloc | apply Kd.R_drewN | apply Kd.R_drew); exact HO104.out) (Kd.R_base ho28) hb)
   have n1_ := Aside0.mk (Kd.R_lower (Kd.R_new' ho28 (Kd.R_lt (by (with_reducible repeat first | apply Kd.R_alloc | apply Kd.R_drewN | apply Kd.R_drew); exact HO104.out))) (below_size (bU_ HB.out)))
   have n2_ := Aside0.mk (blk_below (g := gb101) (o := .cells #[.int .i64 a0_0, .int .i64 a0_1, .int .i64 a0_2, .int .i64 a0_3, .int .i64 a0_4, .int .i64 a0_5, .string a0_6, .string a0_7, .string a0_8] 33 (0, 0)) (by (with_reducible repeat first | apply pN_ | apply pD_ | apply pA_); exact BK101.out) hb)
   have n3_ := Aside0.mk (below_step (bU_ HB.out) hb)
   clear HO104
   clear BK101
   clear HB
   have HO104 := n0_
   have HO110 := n1_
   have BK101 := n2_
   have HB := n3_
   clear n0_ n1_ n2_ n3_
   clear hb ho28
   refine hK.out _ _ ⟨(blk_cell BK101.out 0).trans rfl, (blk_cell BK101.out 1).trans rfl, (blk_cell BK101.out 2).trans rfl, (blk_cell BK101.out 3).trans rfl, (blk_cell BK101.out 4).trans rfl, (blk_cell BK101.out 5).trans rfl, (blk_cell BK101.out 6).trans rfl, (blk_cell BK101.out 7).trans rfl, (blk_cell BK101.out 8).trans rfl⟩ (fun hHeld => ?_)
   clear hK K
   refine norm_ (a' := ?_) ?_ ?_
   rotate_left
   ·show Act.put _ (some 46) _ = _
    simp only [Act.put, List.setIfInBounds_toArray, List.set_cons_zero, List.set_cons_succ, i64_w, i32_w]
    rfl
   refine two_ (i := 8) (j := 11) (Ni := some 47) (Nj := some 50) #[true, true, true, true, true, true, true, true, true, false, true, false, false, true, true, false, true, true, false, true, true, false, false] #[true, true, true, true, true, true, true, true, false, false, true, true, false, true, true, false, true, true, false, true, true, false, false] rfl rfl rfl rfl (two_of HT_.out (by kernel_rfl)) (by decide) (by decide) (fun K hK => ?_) (fun K hK => ?_)
   ·skip
    have hcv29 := own_string (P := Try.prog) Try.underlying28 Try.underlying5 Try.underlying9 (Kd.own_of_R HO110.out)
    refine value_ (w1 := ?_) (v := ?_) (by rfl) rfl ?_ ?_
    rotate_left 2
    ·go_simp
     constructor
     ·rfl
     ·rfl
    clear hcv29
    refine hK.out _ _ ⟨(blk_cell BK101.out 0).trans rfl, (blk_cell BK101.out 1).trans rfl, (blk_cell BK101.out 2).trans rfl, (blk_cell BK101.out 3).trans rfl, (blk_cell BK101.out 4).trans rfl, (blk_cell BK101.out 5).trans rfl, (blk_cell BK101.out 6).trans rfl, (blk_cell BK101.out 7).trans rfl, (blk_cell BK101.out 8).trans rfl⟩ (fun hHeld => ?_)
    clear hK K
    refine norm_ (a' := ?_) ?_ ?_
    rotate_left
    ·show Act.put _ (some 47) _ = _
     simp only [Act.put, List.setIfInBounds_toArray, List.set_cons_zero, List.set_cons_succ, i64_w, i32_w]
     rfl
    refine pure_ (i := 9) (N := some 48) (v := ?_) (a' := ?_) #[true, true, true, true, true, true, true, true, true, true, true, false, false, true, true, false, true, true, false, true, true, false, false] rfl rfl (any_of HT_.out (by kernel_rfl)) (fun _ _ _ h => h) (Or.inl ⟨by rfl, ?_⟩) ?_ ?_
    rotate_left
    ·intro w'
     go_simp
     with_reducible rfl
    rotate_left
    ·simp only [Act.put, List.setIfInBounds_toArray, List.set_cons_zero, List.set_cons_succ, i64_w, i32_w]
     rfl
    refine one_ (i := 11) (N := some 50) #[true, true, true, true, true, true, true, true, true, true, true, true, false, true, true, false, true, true, false, true, true, false, false] rfl rfl (one_of HT_.out (by kernel_rfl)) (by decide) (fun K hK => ?_)
    refine goes_ Try.func24 (by kernel_rfl) rfl #[.int .i64 a2] (by rfl) rfl rfl (by (try simp only [List.map_toArray, List.map_cons, List.map_nil]); first | done | rfl | (simp only [List.length_drop, List.length_take]; rfl) | (simp only [ByteArray.size_append, ByteArray.size_extract, Nat.sub_zero, Int.natCast_add]; rfl) | (simp [ByteArray.size_append]; done)) ?_
    with_reducible refine (rillmeterref06_two.calls a2 t111 _ A11.out).mono ?_
    rintro e w30 ⟨rfl, hb⟩
    refine ⟨_, rfl, ?_⟩
    have n0_ := Aside0.mk (Kd.R_below (by (with_reducible repeat first | apply Kd.R_alloc | apply Kd.R_drewN | apply Kd.R_drew); exact HO104.out) hb)
    have n1_ := Aside0.mk (Kd.R_below (by (with_reducible repeat first | apply Kd.R_alloc | apply Kd.R_drewN | apply Kd.R_drew); exact HO110.out) hb)
    have n2_ := Aside0.mk (blk_below (g := gb101) (o := .cells #[.int .i64 a0_0, .int .i64 a0_1, .int .i64 a0_2, .int .i64 a0_3, .int .i64 a0_4, .int .i64 a0_5, .string a0_6, .string a0_7, .string a0_8] 33 (0, 0)) (by (with_reducible repeat first | apply pN_ | apply pD_ | apply pA_); exact BK101.out) hb)
    have n3_ := Aside0.mk (below_step (bU_ HB.out) hb)
    clear HO104
    clear HO110
    clear BK101
    clear HB
    have HO104 := n0_
    have HO110 := n1_
    have BK101 := n2_
    have HB := n3_
    clear n0_ n1_ n2_ n3_
    (try clear hb)
    (try clear hb2)
    (try clear hk)
    (try clear hi)
    refine hK.out _ _ ⟨(blk_cell BK101.out 0).trans rfl, (blk_cell BK101.out 1).trans rfl, (blk_cell BK101.out 2).trans rfl, (blk_cell BK101.out 3).trans rfl, (blk_cell BK101.out 4).trans rfl, (blk_cell BK101.out 5).trans rfl, (blk_cell BK101.out 6).trans rfl, (blk_cell BK101.out 7).trans rfl, (blk_cell BK101.out 8).trans rfl⟩ (fun hHeld => ?_)
    clear hK K
    refine norm_ (a' := ?_) ?_ ?_
    rotate_left
    ·show Act.put _ (some 50) _ = _
     simp only [Act.put, List.setIfInBounds_toArray, List.set_cons_zero, List.set_cons_succ, i64_w, i32_w]
     rfl
    exact norm_ (by simp only [putAll, Act.put, List.setIfInBounds_toArray, List.set_cons_zero, List.set_cons_succ]) (hCont (v109) _ ⟨hHeld, (by (with_reducible repeat first | apply Kd.R_alloc | apply Kd.R_drewN | apply Kd.R_drew); exact Kd.R_mono HO104.out (fun _ hk => hk.2)), (by (with_reducible repeat first | apply Kd.R_alloc | apply Kd.R_drewN | apply Kd.R_drew); exact Kd.R_mono HO110.out (fun _ hk => hk.2)), (by (with_reducible repeat first | apply pN_ | apply pD_ | apply pA_); exact BK101.out), (bU_ HB.out)⟩)
   ·skip
    refine goes_ Try.func24 (by kernel_rfl) rfl #[.int .i64 a2] (by rfl) rfl rfl (by (try simp only [List.map_toArray, List.map_cons, List.map_nil]); first | done | rfl | (simp only [List.length_drop, List.length_take]; rfl) | (simp only [ByteArray.size_append, ByteArray.size_extract, Nat.sub_zero, Int.natCast_add]; rfl) | (simp [ByteArray.size_append]; done)) ?_
    with_reducible refine (rillmeterref06_two.calls a2 t111 _ A11.out).mono ?_
    rintro e w29 ⟨rfl, hb⟩
    refine ⟨_, rfl, ?_⟩
    have n0_ := Aside0.mk (Kd.R_below (by (with_reducible repeat first | apply Kd.R_alloc | apply Kd.R_drewN | apply Kd.R_drew); exact HO104.out) hb)
    have n1_ := Aside0.mk (Kd.R_below (by (with_reducible repeat first | apply Kd.R_alloc | apply Kd.R_drewN | apply Kd.R_drew); exact HO110.out) hb)
    have n2_ := Aside0.mk (blk_below (g := gb101) (o := .cells #[.int .i64 a0_0, .int .i64 a0_1, .int .i64 a0_2, .int .i64 a0_3, .int .i64 a0_4, .int .i64 a0_5, .string a0_6, .string a0_7, .string a0_8] 33 (0, 0)) (by (with_reducible repeat first | apply pN_ | apply pD_ | apply pA_); exact BK101.out) hb)
    have n3_ := Aside0.mk (below_step (bU_ HB.out) hb)
    clear HO104
    clear HO110
    clear BK101
    clear HB
    have HO104 := n0_
    have HO110 := n1_
    have BK101 := n2_
    have HB := n3_
    clear n0_ n1_ n2_ n3_
    (try clear hb)
    (try clear hb2)
    (try clear hk)
    (try clear hi)
    refine hK.out _ _ ⟨(blk_cell BK101.out 0).trans rfl, (blk_cell BK101.out 1).trans rfl, (blk_cell BK101.out 2).trans rfl, (blk_cell BK101.out 3).trans rfl, (blk_cell BK101.out 4).trans rfl, (blk_cell BK101.out 5).trans rfl, (blk_cell BK101.out 6).trans rfl, (blk_cell BK101.out 7).trans rfl, (blk_cell BK101.out 8).trans rfl⟩ (fun hHeld => ?_)
    clear hK K
    refine norm_ (a' := ?_) ?_ ?_
    rotate_left
    ·show Act.put _ (some 50) _ = _
     simp only [Act.put, List.setIfInBounds_toArray, List.set_cons_zero, List.set_cons_succ, i64_w, i32_w]
     rfl
    refine one_ (i := 8) (N := some 47) #[true, true, true, true, true, true, true, true, true, false, true, true, false, true, true, false, true, true, false, true, true, false, false] rfl rfl (one_of HT_.out (by kernel_rfl)) (by decide) (fun K hK => ?_)
    have hcv30 := own_string (P := Try.prog) Try.underlying28 Try.underlying5 Try.underlying9 (Kd.own_of_R HO110.out)
    refine value_ (w1 := ?_) (v := ?_) (by rfl) rfl ?_ ?_
    rotate_left 2
    ·go_simp
     constructor
     ·rfl
     ·rfl
    clear hcv30
    refine hK.out _ _ ⟨(blk_cell BK101.out 0).trans rfl, (blk_cell BK101.out 1).trans rfl, (blk_cell BK101.out 2).trans rfl, (blk_cell BK101.out 3).trans rfl, (blk_cell BK101.out 4).trans rfl, (blk_cell BK101.out 5).trans rfl, (blk_cell BK101.out 6).trans rfl, (blk_cell BK101.out 7).trans rfl, (blk_cell BK101.out 8).trans rfl⟩ (fun hHeld => ?_)
    clear hK K
    refine norm_ (a' := ?_) ?_ ?_
    rotate_left
    ·show Act.put _ (some 47) _ = _
     simp only [Act.put, List.setIfInBounds_toArray, List.set_cons_zero, List.set_cons_succ, i64_w, i32_w]
     rfl
    refine pure_ (i := 9) (N := some 48) (v := ?_) (a' := ?_) #[true, true, true, true, true, true, true, true, true, true, true, true, false, true, true, false, true, true, false, true, true, false, false] rfl rfl (any_of HT_.out (by kernel_rfl)) (fun _ _ _ h => h) (Or.inl ⟨by rfl, ?_⟩) ?_ ?_
    rotate_left
    ·intro w'
     go_simp
     with_reducible rfl
    rotate_left
    ·simp only [Act.put, List.setIfInBounds_toArray, List.set_cons_zero, List.set_cons_succ, i64_w, i32_w]
     rfl
    exact norm_ (by simp only [putAll, Act.put, List.setIfInBounds_toArray, List.set_cons_zero, List.set_cons_succ]) (hCont (v109) _ ⟨hHeld, (by (with_reducible repeat first | apply Kd.R_alloc | apply Kd.R_drewN | apply Kd.R_drew); exact Kd.R_mono HO104.out (fun _ hk => hk.2)), (by (with_reducible repeat first | apply Kd.R_alloc | apply Kd.R_drewN | apply Kd.R_drew); exact Kd.R_mono HO110.out (fun _ hk => hk.2)), (by (with_reducible repeat first | apply pN_ | apply pD_ | apply pA_); exact BK101.out), (bU_ HB.out)⟩)
  ·skip
   refine goes_ Try.func24 (by kernel_rfl) rfl #[.int .i64 a2] (by rfl) rfl rfl (by (try simp only [List.map_toArray, List.map_cons, List.map_nil]); first | done | rfl | (simp only [List.length_drop, List.length_take]; rfl) | (simp only [ByteArray.size_append, ByteArray.size_extract, Nat.sub_zero, Int.natCast_add]; rfl) | (simp [ByteArray.size_append]; done)) ?_
   with_reducible refine (rillmeterref06_two.calls a2 t111 _ A11.out).mono ?_
   rintro e w27 ⟨rfl, hb⟩
   refine ⟨_, rfl, ?_⟩
   have n0_ := Aside0.mk (Kd.R_below (by (with_reducible repeat first | apply Kd.R_alloc | apply Kd.R_drewN | apply Kd.R_drew); exact HO104.out) hb)
   have n1_ := Aside0.mk (blk_below (g := gb101) (o := .cells #[.int .i64 a0_0, .int .i64 a0_1, .int .i64 a0_2, .int .i64 a0_3, .int .i64 a0_4, .int .i64 a0_5, .string a0_6, .string a0_7, .string a0_8] 33 (0, 0)) (by (with_reducible repeat first | apply pN_ | apply pD_ | apply pA_); exact BK101.out) hb)
   have n2_ := Aside0.mk (below_step (bU_ HB.out) hb)
   clear HO104
   clear BK101
   clear HB
   have HO104 := n0_
   have BK101 := n1_
   have HB := n2_
   clear n0_ n1_ n2_
   (try clear hb)
   (try clear hb2)
   (try clear hk)
   (try clear hi)
   refine hK.out _ _ ⟨(blk_cell BK101.out 0).trans rfl, (blk_cell BK101.out 1).trans rfl, (blk_cell BK101.out 2).trans rfl, (blk_cell BK101.out 3).trans rfl, (blk_cell BK101.out 4).trans rfl, (blk_cell BK101.out 5).trans rfl, (blk_cell BK101.out 6).trans rfl, (blk_cell BK101.out 7).trans rfl, (blk_cell BK101.out 8).trans rfl⟩ (fun hHeld => ?_)
   clear hK K
   refine norm_ (a' := ?_) ?_ ?_
   rotate_left
   ·show Act.put _ (some 50) _ = _
    simp only [Act.put, List.setIfInBounds_toArray, List.set_cons_zero, List.set_cons_succ, i64_w, i32_w]
    rfl
   refine one_ (i := 7) (N := some 46) #[true, true, true, true, true, true, true, true, false, false, true, true, false, true, true, false, true, true, false, true, true, false, false] rfl rfl (one_of HT_.out (by kernel_rfl)) (by decide) (fun K hK => ?_)
   refine Kd.R_lit_step (Kd.int .u8) _ 5 ?hg (N := 46) ?hd (xs := ([(a0_4) % 256, (a0_5) % 256] : List Int)) (inner := [.int .u8 ((a0_4) % 256), .int .u8 ((a0_5) % 256)]) (ok := fun _ => True) (okp := fun _ => True) ?hr ?hp (fun _ hk => hk) trivial (Below.refl _ _) (Nat.le_refl _) (by simp) ?_; (case hd => rfl); (case hg => rfl); (case hr => first | (go_simp; done) | (go_simp; simp only [IntKind.wrap_u8]; done) | (go_simp; rfl)); (case hp => exact (Reps.one (show Kd.M (Kd.int .u8) _ _ _ ((a0_4) % 256) [.int .u8 ((a0_4) % 256)] from rfl) (Reps.one (show Kd.M (Kd.int .u8) _ _ _ ((a0_5) % 256) [.int .u8 ((a0_5) % 256)] from rfl) (Reps.none _ _))))
   intro v109 w28 ho29 hb hg_ hnew_
   clear hg_ hnew_
   (first | rw [← Ny108.out] at ho29 | (simp only [Int.reduceToNat] at ho29; rw [← Ny108.out] at ho29))
   have n0_ := Aside0.mk (Kd.R_elder' (by (with_reducible repeat first | apply Kd.R_alloc | apply Kd.R_drewN | apply Kd.R_drew); exact HO104.out) (Kd.R_base ho29) hb)
   have n1_ := Aside0.mk (Kd.R_lower (Kd.R_new' ho29 (Kd.R_lt (by (with_reducible repeat first | apply Kd.R_alloc | apply Kd.R_drewN | apply Kd.R_drew); exact HO104.out))) (below_size (bU_ HB.out)))
   have n2_ := Aside0.mk (blk_below (g := gb101) (o := .cells #[.int .i64 a0_0, .int .i64 a0_1, .int .i64 a0_2, .int .i64 a0_3, .int .i64 a0_4, .int .i64 a0_5, .string a0_6, .string a0_7, .string a0_8] 33 (0, 0)) (by (with_reducible repeat first | apply pN_ | apply pD_ | apply pA_); exact BK101.out) hb)
   have n3_ := Aside0.mk (below_step (bU_ HB.out) hb)
   clear HO104
   clear BK101
   clear HB
   have HO104 := n0_
   have HO110 := n1_
   have BK101 := n2_
   have HB := n3_
   clear n0_ n1_ n2_ n3_
   clear hb ho29
   refine hK.out _ _ ⟨(blk_cell BK101.out 0).trans rfl, (blk_cell BK101.out 1).trans rfl, (blk_cell BK101.out 2).trans rfl, (blk_cell BK101.out 3).trans rfl, (blk_cell BK101.out 4).trans rfl, (blk_cell BK101.out 5).trans rfl, (blk_cell BK101.out 6).trans rfl, (blk_cell BK101.out 7).trans rfl, (blk_cell BK101.out 8).trans rfl⟩ (fun hHeld => ?_)
   clear hK K
   refine norm_ (a' := ?_) ?_ ?_
   rotate_left
   ·show Act.put _ (some 46) _ = _
    simp only [Act.put, List.setIfInBounds_toArray, List.set_cons_zero, List.set_cons_succ, i64_w, i32_w]
    rfl
   refine one_ (i := 8) (N := some 47) #[true, true, true, true, true, true, true, true, true, false, true, true, false, true, true, false, true, true, false, true, true, false, false] rfl rfl (one_of HT_.out (by kernel_rfl)) (by decide) (fun K hK => ?_)
   have hcv30 := own_string (P := Try.prog) Try.underlying28 Try.underlying5 Try.underlying9 (Kd.own_of_R HO110.out)
   refine value_ (w1 := ?_) (v := ?_) (by rfl) rfl ?_ ?_
   rotate_left 2
   ·go_simp
    constructor
    ·rfl
    ·rfl
   clear hcv30
   refine hK.out _ _ ⟨(blk_cell BK101.out 0).trans rfl, (blk_cell BK101.out 1).trans rfl, (blk_cell BK101.out 2).trans rfl, (blk_cell BK101.out 3).trans rfl, (blk_cell BK101.out 4).trans rfl, (blk_cell BK101.out 5).trans rfl, (blk_cell BK101.out 6).trans rfl, (blk_cell BK101.out 7).trans rfl, (blk_cell BK101.out 8).trans rfl⟩ (fun hHeld => ?_)
   clear hK K
   refine norm_ (a' := ?_) ?_ ?_
   rotate_left
   ·show Act.put _ (some 47) _ = _
    simp only [Act.put, List.setIfInBounds_toArray, List.set_cons_zero, List.set_cons_succ, i64_w, i32_w]
    rfl
   refine pure_ (i := 9) (N := some 48) (v := ?_) (a' := ?_) #[true, true, true, true, true, true, true, true, true, true, true, true, false, true, true, false, true, true, false, true, true, false, false] rfl rfl (any_of HT_.out (by kernel_rfl)) (fun _ _ _ h => h) (Or.inl ⟨by rfl, ?_⟩) ?_ ?_
   rotate_left
   ·intro w'
    go_simp
    with_reducible rfl
   rotate_left
   ·simp only [Act.put, List.setIfInBounds_toArray, List.set_cons_zero, List.set_cons_succ, i64_w, i32_w]
    rfl
   exact norm_ (by simp only [putAll, Act.put, List.setIfInBounds_toArray, List.set_cons_zero, List.set_cons_succ]) (hCont (v109) _ ⟨hHeld, (by (with_reducible repeat first | apply Kd.R_alloc | apply Kd.R_drewN | apply Kd.R_drew); exact Kd.R_mono HO104.out (fun _ hk => hk.2)), (by (with_reducible repeat first | apply Kd.R_alloc | apply Kd.R_drewN | apply Kd.R_drew); exact Kd.R_mono HO110.out (fun _ hk => hk.2)), (by (with_reducible repeat first | apply pN_ | apply pD_ | apply pA_); exact BK101.out), (bU_ HB.out)⟩)
 rintro v109 w31 ⟨hS_, h0_, h1_, h2_, h3_⟩
 have n0_ : Aside0 (Kd.R (Kd.int .u8) 5 w31 w.heap.size (fun k_ => some k_ ≠ (v109 : Value).ownBlock) v103 y102) := ⟨h0_⟩
 have n1_ : Aside0 (Kd.R (Kd.int .u8) 5 w31 w.heap.size (fun k_ => some k_ ≠ (v103 : Value).ownBlock) v109 y108) := ⟨h1_⟩
 have n2_ : Aside0 (w31.heap[gb101]? = some (.cells #[.int .i64 a0_0, .int .i64 a0_1, .int .i64 a0_2, .int .i64 a0_3, .int .i64 a0_4, .int .i64 a0_5, .string a0_6, .string a0_7, .string a0_8] 33 (0, 0))) := ⟨h2_⟩
 have n3_ : Aside0 (Below w.heap.size w w31) := ⟨h3_⟩
 clear HO104
 clear BK101
 clear HB
 clear h0_ h1_ h2_ h3_
 have HO104 := n0_
 have HO110 := n1_
 have BK101 := n2_
 have HB := n3_
 clear n0_ n1_ n2_ n3_
 have hHeld : w31.cell? ⟨gb101, 0, none⟩ = some (.int .i64 a0_0) ∧ w31.cell? ⟨gb101, 1, none⟩ = some (.int .i64 a0_1) ∧ w31.cell? ⟨gb101, 2, none⟩ = some (.int .i64 a0_2) ∧ w31.cell? ⟨gb101, 3, none⟩ = some (.int .i64 a0_3) ∧ w31.cell? ⟨gb101, 4, none⟩ = some (.int .i64 a0_4) ∧ w31.cell? ⟨gb101, 5, none⟩ = some (.int .i64 a0_5) ∧ w31.cell? ⟨gb101, 6, none⟩ = some (.string a0_6) ∧ w31.cell? ⟨gb101, 7, none⟩ = some (.string a0_7) ∧ w31.cell? ⟨gb101, 8, none⟩ = some (.string a0_8) := hS_
 refine norm_ (a' := ?_) ?_ ?_
 rotate_left
 ·simp only [putAll, Act.put, List.setIfInBounds_toArray, List.set_cons_zero, List.set_cons_succ]
  rfl
 refine pure_ (i := 12) (N := some 51) (v := ?_) (a' := ?_) #[true, true, true, true, true, true, true, true, true, true, true, true, true, true, true, false, true, true, false, true, true, false, false] rfl rfl (any_of HT_.out (by kernel_rfl)) (fun _ _ _ h => h) (Or.inl ⟨by rfl, ?_⟩) ?_ ?_
 rotate_left
 ·intro w'
  go_simp
  with_reducible rfl
 rotate_left
 ·simp only [Act.put, List.setIfInBounds_toArray, List.set_cons_zero, List.set_cons_succ, i64_w, i32_w]
  rfl
 refine pure_ (i := 15) (N := some 54) (v := ?_) (a' := ?_) #[true, true, true, true, true, true, true, true, true, true, true, true, true, true, true, true, true, true, false, true, true, false, false] rfl rfl (any_of HT_.out (by kernel_rfl)) (fun _ _ _ h => h) (Or.inl ⟨by rfl, ?_⟩) ?_ ?_
 rotate_left
 ·intro w'
  go_simp
  with_reducible rfl
 rotate_left
 ·simp only [Act.put, List.setIfInBounds_toArray, List.set_cons_zero, List.set_cons_succ, i64_w, i32_w]
  rfl
 refine pure_ (i := 18) (N := some 57) (v := ?_) (a' := ?_) #[true, true, true, true, true, true, true, true, true, true, true, true, true, true, true, true, true, true, true, true, true, false, false] rfl rfl (any_of HT_.out (by kernel_rfl)) (fun _ _ _ h => h) (Or.inl ⟨by rfl, ?_⟩) ?_ ?_
 rotate_left
 ·intro w'
  go_simp
  with_reducible rfl
 rotate_left
 ·simp only [Act.put, List.setIfInBounds_toArray, List.set_cons_zero, List.set_cons_succ, i64_w, i32_w]
  rfl
 refine pure_ (i := 21) (N := some 60) (v := ?_) (a' := ?_) #[true, true, true, true, true, true, true, true, true, true, true, true, true, true, true, true, true, true, true, true, true, true, false] rfl rfl (any_of HT_.out (by kernel_rfl)) (fun _ _ _ h => h) (Or.inl ⟨by rfl, ?_⟩) ?_ ?_
 rotate_left
 ·intro w'
  go_simp
  with_reducible rfl
 rotate_left
 ·simp only [Act.put, List.setIfInBounds_toArray, List.set_cons_zero, List.set_cons_succ, i64_w, i32_w]
  rfl
 refine pure_ (i := 22) (N := some 6) (v := ?_) (a' := ?_) #[true, true, true, true, true, true, true, true, true, true, true, true, true, true, true, true, true, true, true, true, true, true, true] rfl rfl (any_of HT_.out (by kernel_rfl)) (fun _ _ _ h => h) (Or.inl ⟨by rfl, ?_⟩) ?_ ?_
 rotate_left
 ·intro w'
  go_simp
  with_reducible rfl
 rotate_left
 ·simp only [Act.put, List.setIfInBounds_toArray, List.set_cons_zero, List.set_cons_succ, i64_w, i32_w]
  rfl
 refine done_ (done_of HT_.out (by kernel_rfl)) ?_
 try go_wp2
 go_ret
 exact ⟨by first | rfl | (simp [errW_none, errW_some] <;> rfl) | (simp [*, errW_none, errW_some] <;> rfl), bU_ HB.out⟩
end Go.Proofs.Ytdmofjhncdkofaa.Q
