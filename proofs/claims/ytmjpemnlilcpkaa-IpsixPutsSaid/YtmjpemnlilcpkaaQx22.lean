-- made by a program of this session (wip/print-patch.py, over the kit's print)
import Derived.Test.YtmjpemnlilcpkaaQx0
import Derived.Test.YtmjpemnlilcpkaaQx21
namespace Go.Proofs.Ytmjpemnlilcpkaa.Q
open Go.RowKit Go.Proofs.YtmjpemnlilcpkaaW.PrintWords Go.Proofs.YtmjpemnlilcpkaaW.PrintLast Go.Proofs.YtmjpemnlilcpkaaW.PrintMore
attribute [local go_sem] max2_int min2_int max_two min_two max_three min_three max_four min_four   -- for this text's walks alone
set_option linter.unusedVariables false
set_option linter.unusedSimpArgs false

attribute [local go_sem] cell_twice_ cell_twiceN_
/-! ### rillmeterref07_Put: function 19 -/
def rillmeterref07_Put.l0 : Nat → Int → ByteArray → Int → Int → Int → Int → Int → ByteArray → ByteArray → List (S57) → Option (ByteArray × Bool)
 | 0, _, _, _, _, _, _, _, _, _, _ => none
 | k + 1, x6, x7, x8, x102000, x102001, x102002, x102003, x102004, x102005, x102006 => if x8 ≥ 0 then (if 0 ≤ x8 then (if x8 < (x102006.length : Int) then (if ((rd_T57 x102006 x8).f0) = 44 then ((rillmeterref07_one.f x6).bind fun t104 => (if t104.size + ((rd_T57 x102006 x8).f1).size ≤ 9223372036854775807 then (if (t104 ++ ((rd_T57 x102006 x8).f1)).size + x7.size ≤ 9223372036854775807 then (rillmeterref07_Put.l0 k ((rd_T57 x102006 x8).f0) ((t104 ++ ((rd_T57 x102006 x8).f1)) ++ x7) (wrap64 (x8 - 1)) x102000 x102001 x102002 x102003 x102004 x102005 x102006) else (none)) else (none))) else ((rillmeterref07_one.f x6).bind fun t105 => ((rillmeterref07_one.f (wrap64 ((((rd_T57 x102006 x8).f1).size : Int) / 8))).bind fun t106 => (if t105.size + t106.size ≤ 9223372036854775807 then (if (t105 ++ t106).size + ((rd_T57 x102006 x8).f1).size ≤ 9223372036854775807 then (if ((t105 ++ t106) ++ ((rd_T57 x102006 x8).f1)).size + x7.size ≤ 9223372036854775807 then (rillmeterref07_Put.l0 k ((rd_T57 x102006 x8).f0) (((t105 ++ t106) ++ ((rd_T57 x102006 x8).f1)) ++ x7) (wrap64 (x8 - 1)) x102000 x102001 x102002 x102003 x102004 x102005 x102006) else (none)) else (none)) else (none))))) else (none)) else (none)) else ((rillmeterref07_two.f (wrap64 (Int.tdiv (wrap64 ((wrap64 (1610612736 + (wrap64 (1048576 * x102000)))) + x102001)) 65536))).bind fun t107 => ((rillmeterref07_two.f (Int.tmod (wrap64 ((wrap64 (1610612736 + (wrap64 (1048576 * x102000)))) + x102001)) 65536)).bind fun t108 => (if t107.size + t108.size ≤ 9223372036854775807 then ((rillmeterref07_two.f ((x7.size : Int) % 65536)).bind fun t109 => (if (t107 ++ t108).size + t109.size ≤ 9223372036854775807 then ((rillmeterref07_one.f x6).bind fun t110 => (if ((t107 ++ t108) ++ t109).size + t110.size ≤ 9223372036854775807 then ((rillmeterref07_one.f x102002).bind fun t111 => (if (((t107 ++ t108) ++ t109) ++ t110).size + t111.size ≤ 9223372036854775807 then (if ((((t107 ++ t108) ++ t109) ++ t110) ++ t111).size + x102004.size ≤ 9223372036854775807 then (if (((((t107 ++ t108) ++ t109) ++ t110) ++ t111) ++ x102004).size + x102005.size ≤ 9223372036854775807 then (if ((((((t107 ++ t108) ++ t109) ++ t110) ++ t111) ++ x102004) ++ x102005).size + x7.size ≤ 9223372036854775807 then (some (((((((t107 ++ t108) ++ t109) ++ t110) ++ t111) ++ x102004) ++ x102005) ++ x7, decide ((x7.size : Int) < 65536))) else (none)) else (none)) else (none)) else (none))) else (none))) else (none))) else (none))))
def rillmeterref07_Put.f (k : Nat) (a0_0 : Int) (a0_1 : Int) (a0_2 : Int) (a0_3 : Int) (a0_4 : ByteArray) (a0_5 : ByteArray) (l0_6 : List (S57)) (a1 : ByteArray) : Option (ByteArray × Bool) := rillmeterref07_Put.l0 k a0_3 a1 (wrap64 ((l0_6.length : Int) - 1)) a0_0 a0_1 a0_2 a0_3 a0_4 a0_5 l0_6
theorem rillmeterref07_Put.mono_l : ∀ k, (∀ y0 y1 y2 y3 y4 y5 y6 y7 y8 y9, LeO (rillmeterref07_Put.l0 k y0 y1 y2 y3 y4 y5 y6 y7 y8 y9) (rillmeterref07_Put.l0 (k + 1) y0 y1 y2 y3 y4 y5 y6 y7 y8 y9))
 | 0 => fun _ _ _ _ _ _ _ _ _ _ r h => by simp [rillmeterref07_Put.l0] at h
 | k + 1 => by
  have ih0 := rillmeterref07_Put.mono_l k
  ·intro y0 y1 y2 y3 y4 y5 y6 y7 y8 y9
   unfold rillmeterref07_Put.l0
   repeat' first
   | (with_reducible exact ih0 _ _ _ _ _ _ _ _ _ _)
   | (with_reducible exact LeO.refl _)
   | (with_reducible exact LeO.none _)
   | (with_reducible refine LeO.ite ?_ ?_)
   | (with_reducible refine LeO.bind ?_ (fun _ => ?_))
   | exact ih0 _ _ _ _ _ _ _ _ _ _
   | exact LeO.none _
   | refine LeO.ite ?_ ?_
   | refine LeO.bind ?_ (fun _ => ?_)
theorem rillmeterref07_Put.mono : ∀ a0 a1 a2 a3 a4 a5 a6 a7 k, LeO (rillmeterref07_Put.f k a0 a1 a2 a3 a4 a5 a6 a7) (rillmeterref07_Put.f (k + 1) a0 a1 a2 a3 a4 a5 a6 a7) := by
 intro a0 a1 a2 a3 a4 a5 a6 a7 k
 have ih0 := rillmeterref07_Put.mono_l k
 unfold rillmeterref07_Put.f
 repeat' first
   | (with_reducible exact ih0 _ _ _ _ _ _ _ _ _ _)
   | (with_reducible exact LeO.refl _)
   | (with_reducible exact LeO.none _)
   | (with_reducible refine LeO.ite ?_ ?_)
   | (with_reducible refine LeO.bind ?_ (fun _ => ?_))
   | exact ih0 _ _ _ _ _ _ _ _ _ _
   | exact LeO.none _
   | refine LeO.ite ?_ ?_
   | refine LeO.bind ?_ (fun _ => ?_)
def rillmeterref07_Put.T8 : Bool × List (List Nat × List Nat) := (true, [([], []), ([0], [0]), ([], []), ([2], [2]), ([1, 3], [1, 3]), ([], []), ([4, 5], [4, 5]), ([6, 1, 0, 1, 2, 3, 4, 5, 6], [5, 6])])
def rillmeterref07_Put.B8 : List Nat := [0, 1, 0, 4, 15, 0, 63, 127]
theorem rillmeterref07_Put.tab8 : rtab .any (opsOf Try.f19 8) = rillmeterref07_Put.T8 := by kernel_rfl
theorem rillmeterref07_Put.bits8 : waitsOk rillmeterref07_Put.T8.2 rillmeterref07_Put.B8 = true := by kernel_rfl
def rillmeterref07_Put.T9 : Bool × List (List Nat × List Nat) := (true, [([], []), ([0], [0]), ([], []), ([2], [2]), ([3], [3]), ([4], [4]), ([5, 1], [5]), ([1, 6], [1, 6]), ([], []), ([8], [8]), ([7, 9], [7, 9]), ([], []), ([10, 11], [10, 11]), ([12, 6, 0, 1, 2, 3, 4, 5, 6, 7, 8, 9, 10, 11, 12], [11, 12])])
def rillmeterref07_Put.B9 : List Nat := [0, 1, 0, 4, 12, 28, 63, 127, 0, 256, 1023, 0, 4095, 8191]
theorem rillmeterref07_Put.tab9 : rtab .any (opsOf Try.f19 9) = rillmeterref07_Put.T9 := by kernel_rfl
theorem rillmeterref07_Put.bits9 : waitsOk rillmeterref07_Put.T9.2 rillmeterref07_Put.B9 = true := by kernel_rfl
def rillmeterref07_Put.T12 : Bool × List (List Nat × List Nat) := (true, [([], []), ([0], [0]), ([1], [1]), ([], []), ([3], [3]), ([4, 2], [4]), ([2, 5], [2, 5]), ([], []), ([7], [7]), ([8], [8]), ([9, 5], [9]), ([6, 10], [6, 10]), ([], []), ([12, 10], [12]), ([11, 13], [11, 13]), ([], []), ([15], [15]), ([16, 13], [16]), ([14, 17], [14, 17]), ([], []), ([19], [19]), ([18, 20], [18, 20]), ([], []), ([22], [22]), ([21, 23], [21, 23]), ([], []), ([24, 25], [24, 25]), ([], []), ([27], [27]), ([28], [28]), ([26, 17, 0, 1, 2, 3, 4, 5, 6, 7, 8, 9, 10, 11, 12, 13, 14, 15, 16, 17, 18, 19, 20, 21, 22, 23, 24, 25, 26], [26]), ([29, 30, 0, 1, 2, 3, 4, 5, 6, 7, 8, 9, 10, 11, 12, 13, 14, 15, 16, 17, 18, 19, 20, 21, 22, 23, 24, 25, 26, 27, 28, 29, 30], [29])])
def rillmeterref07_Put.B12 : List Nat := [0, 1, 3, 0, 8, 31, 63, 0, 128, 384, 959, 2047, 0, 6079, 16383, 0, 32768, 112575, 262143, 0, 524288, 2097151, 0, 4194304, 16777215, 0, 67108863, 0, 134217728, 402653184, 134217727, 2147483647]
theorem rillmeterref07_Put.tab12 : rtab .any (opsOf Try.f19 12) = rillmeterref07_Put.T12 := by kernel_rfl
theorem rillmeterref07_Put.bits12 : waitsOk rillmeterref07_Put.T12.2 rillmeterref07_Put.B12 = true := by kernel_rfl
set_option maxHeartbeats 8000000 in
set_option maxRecDepth 100000 in
theorem rillmeterref07_Put.calls (k : Nat) (a0_0 : Int) (a0_1 : Int) (a0_2 : Int) (a0_3 : Int) (a0_4 : ByteArray) (a0_5 : ByteArray) (A0_6 : Option Addr) (c0_6 : Nat) (l0_6 : List (S57)) (a1 : ByteArray) (r1 : ByteArray) (r2 : Bool) (w : World) (hr0_6 : Kd.C k57 w A0_6 l0_6.length l0_6) (hc0_6 : l0_6.length ≤ c0_6) (h : rillmeterref07_Put.f k a0_0 a0_1 a0_2 a0_3 a0_4 a0_5 l0_6 a1 = some (r1, r2)) :
  Calls Try.prog 19 #[.agg #[.int .i64 a0_0, .int .i64 a0_1, .int .i64 a0_2, .int .i64 a0_3, .string a0_4, .string a0_5, .slice A0_6 l0_6.length c0_6], .string a1] w fun e w' => e = .returned (.tuple #[.string r1, .bool r2]) ∧ Below w.heap.size w w' := by
 have hu31 := Try.underlying31
 have hu57 := Try.underlying57
 have HR0_6 := Aside0.mk hr0_6
 have HC0_6 := Aside0.mk hc0_6
 clear hr0_6 hc0_6
 have HB := Aside0.mk (Below.refl w.heap.size w)
 have H : (rillmeterref07_Put.l0 k a0_3 a1 (wrap64 ((l0_6.length : Int) - 1)) a0_0 a0_1 a0_2 a0_3 a0_4 a0_5 l0_6) = some (r1, r2) := h
 clear h
 have H' := Aside0.mk H
 clear H
 go_enter Try.func19, Try.ntmps19
 go_wp2_with (first | ((with_reducible refine gate_dst (N := 2) rfl ?_); refine box_event ?hg (N := 2) ?hd (cs := #[.int .i64 a0_0, .int .i64 a0_1, .int .i64 a0_2, .int .i64 a0_3, .string a0_4, .string a0_5, .slice A0_6 l0_6.length c0_6]) (t := 31) ?hr ?_; (case hd => rfl); (case hg => rfl); (case hr => first | (go_simp; done) | (go_simp; rfl)); intro gb101 hg w3 hbox hb; have n0_ := Aside0.mk (below_step (bU_ HB.out) hb); have n1_ := Aside0.mk (hbox); have n2_ := Aside0.mk ((by rw [hg]; exact (below_size (bU_ HB.out)) : w.heap.size ≤ gb101)); have n3_ := Aside0.mk ((by rw [hg]; exact (below_size (bU_ HB.out)) : w.heap.size ≤ gb101)); clear HB; have HB := n0_; have BK101 := n1_; have GW101 := n2_; have GE101 := n3_; clear n0_ n1_ n2_ n3_; clear hb hbox hg; have hcz4_0 : w3.cell? ⟨gb101, 0, none⟩ = some (.int .i64 a0_0) := (blk_cell BK101.out 0).trans rfl; have hcz4_1 : w3.cell? ⟨gb101, 1, none⟩ = some (.int .i64 a0_1) := (blk_cell BK101.out 1).trans rfl; have hcz4_2 : w3.cell? ⟨gb101, 2, none⟩ = some (.int .i64 a0_2) := (blk_cell BK101.out 2).trans rfl; have hcz4_3 : w3.cell? ⟨gb101, 3, none⟩ = some (.int .i64 a0_3) := (blk_cell BK101.out 3).trans rfl; have hcz4_4 : w3.cell? ⟨gb101, 4, none⟩ = some (.string a0_4) := (blk_cell BK101.out 4).trans rfl; have hcz4_5 : w3.cell? ⟨gb101, 5, none⟩ = some (.string a0_5) := (blk_cell BK101.out 5).trans rfl; have hcz4_6 : w3.cell? ⟨gb101, 6, none⟩ = some (.slice A0_6 l0_6.length c0_6) := (blk_cell BK101.out 6).trans rfl; have hfz4_0 := blk_frozen BK101.out 0; have hfz4_1 := blk_frozen BK101.out 1; have hfz4_2 := blk_frozen BK101.out 2; have hfz4_3 := blk_frozen BK101.out 3; have hfz4_4 := blk_frozen BK101.out 4; have hfz4_5 := blk_frozen BK101.out 5; have hfz4_6 := blk_frozen BK101.out 6))
 go_loopg [6, 7, 8] k (fun kq v6 v7 v8 w' => ∃ (x6_1 : Int) (x7_1 : ByteArray) (x8_1 : Int), v6 = .int .i64 x6_1 ∧ v7 = .string x7_1 ∧ v8 = .int .i64 x8_1 ∧ Aside0 (rillmeterref07_Put.l0 kq x6_1 x7_1 x8_1 a0_0 a0_1 a0_2 a0_3 a0_4 a0_5 l0_6 = some (r1, r2)) ∧ Aside0 (kq ≤ k) ∧ Aside0 (w'.heap[gb101]? = some (.cells #[.int .i64 a0_0, .int .i64 a0_1, .int .i64 a0_2, .int .i64 a0_3, .string a0_4, .string a0_5, (.slice A0_6 l0_6.length c0_6)] 31 (0, 0))) ∧ Aside0 (Below w.heap.size w w'))
 case atStart => exact ⟨(a0_3), (a1), (wrap64 ((l0_6.length : Int) - 1)), (by first | rfl | (simp; done) | (simp [*]; done)), (by first | rfl | (simp; done) | (simp [*]; done)), (by first | rfl | (simp; done) | (simp [*]; done)), H', ⟨Nat.le_refl _⟩, ⟨by (with_reducible repeat first | apply pN_ | apply pD_ | apply pA_); exact BK101.out⟩, ⟨bU_ HB.out⟩⟩
 case round =>
  clear H'
  try clear c1
  try clear p2
  try clear hcz4_0
  try clear hcz4_1
  try clear hcz4_2
  try clear hcz4_3
  try clear hcz4_4
  try clear hcz4_5
  try clear hcz4_6
  try clear hfz4_0
  try clear hfz4_1
  try clear hfz4_2
  try clear hfz4_3
  try clear hfz4_4
  try clear hfz4_5
  try clear hfz4_6
  obtain ⟨x6_1, x7_1, x8_1, rfl, rfl, rfl, HA, HK1, BK101, HB⟩ := hrel
  cases gk with
  | zero => exact absurd HA.out (by simp [rillmeterref07_Put.l0])
  | succ k1 =>
   have H := HA.out
   clear HA
   simp only [rillmeterref07_Put.l0] at H
   by_cases c5 : x8_1 ≥ 0
   ·rw [if_pos c5] at H
    have c5b0 : decide (0 ≤ x8_1) = true := decide_eq_true c5
    clear c5
    by_cases c6 : 0 ≤ x8_1
    ·rw [if_pos c6] at H
     have c6b0 : decide (0 ≤ x8_1) = true := decide_eq_true c6
     clear c6
     by_cases c7 : x8_1 < (l0_6.length : Int)
     ·rw [if_pos c7] at H
      have c7b0 : decide (x8_1 < (l0_6.length : Int)) = true := decide_eq_true c7
      clear c7
      by_cases c8 : ((rd_T57 l0_6 x8_1).f0) = 44
      ·rw [if_pos c8] at H
       have c8b0 : (((rd_T57 l0_6 x8_1).f0) == 44) = true := beq_iff_eq.mpr c8
       have c8b1 : (((rd_T57 l0_6 x8_1).f0) != 44) = false := bne_eq_false_iff_eq.mpr c8
       clear c8
       replace H := Option.bind_eq_some_iff.mp H
       obtain ⟨t104, A90, H⟩ := H
       replace H : (if t104.size + ((rd_T57 l0_6 x8_1).f1).size ≤ 9223372036854775807 then (if (t104 ++ ((rd_T57 l0_6 x8_1).f1)).size + x7_1.size ≤ 9223372036854775807 then (rillmeterref07_Put.l0 k1 ((rd_T57 l0_6 x8_1).f0) ((t104 ++ ((rd_T57 l0_6 x8_1).f1)) ++ x7_1) (wrap64 (x8_1 - 1)) a0_0 a0_1 a0_2 a0_3 a0_4 a0_5 l0_6) else (none)) else (none)) = some (r1, r2) := H
       have A9 := Aside0.mk A90
       clear A90
       by_cases c10 : t104.size + ((rd_T57 l0_6 x8_1).f1).size ≤ 9223372036854775807
       ·rw [if_pos c10] at H
        have c10b0 := eq_true c10
        have c10b1 : decide (t104.size + ((rd_T57 l0_6 x8_1).f1).size ≤ 9223372036854775807) = true := decide_eq_true c10
        try have c10b2 : (9223372036854775807 < t104.size + ((rd_T57 l0_6 x8_1).f1).size) = False := eq_false (Nat.not_lt.2 c10)
        try (have c10b3 := c10; simp only [ByteArray.size_append, ByteArray.size_extract, Nat.sub_zero] at c10b3; have c10b4 := eq_false (Nat.not_lt.2 c10b3))
        by_cases c11 : (t104 ++ ((rd_T57 l0_6 x8_1).f1)).size + x7_1.size ≤ 9223372036854775807
        ·rw [if_pos c11] at H
         have c11b0 := eq_true c11
         have c11b1 : decide ((t104 ++ ((rd_T57 l0_6 x8_1).f1)).size + x7_1.size ≤ 9223372036854775807) = true := decide_eq_true c11
         try have c11b2 : (9223372036854775807 < (t104 ++ ((rd_T57 l0_6 x8_1).f1)).size + x7_1.size) = False := eq_false (Nat.not_lt.2 c11)
         try (have c11b3 := c11; simp only [ByteArray.size_append, ByteArray.size_extract, Nat.sub_zero] at c11b3; have c11b4 := eq_false (Nat.not_lt.2 c11b3))
         have H' := Aside0.mk H
         clear H
         have hcz12_0 : wr.cell? ⟨gb101, 0, none⟩ = some (.int .i64 a0_0) := (blk_cell BK101.out 0).trans rfl
         have hcz12_1 : wr.cell? ⟨gb101, 1, none⟩ = some (.int .i64 a0_1) := (blk_cell BK101.out 1).trans rfl
         have hcz12_2 : wr.cell? ⟨gb101, 2, none⟩ = some (.int .i64 a0_2) := (blk_cell BK101.out 2).trans rfl
         have hcz12_3 : wr.cell? ⟨gb101, 3, none⟩ = some (.int .i64 a0_3) := (blk_cell BK101.out 3).trans rfl
         have hcz12_4 : wr.cell? ⟨gb101, 4, none⟩ = some (.string a0_4) := (blk_cell BK101.out 4).trans rfl
         have hcz12_5 : wr.cell? ⟨gb101, 5, none⟩ = some (.string a0_5) := (blk_cell BK101.out 5).trans rfl
         have hcz12_6 : wr.cell? ⟨gb101, 6, none⟩ = some (.slice A0_6 l0_6.length c0_6) := (blk_cell BK101.out 6).trans rfl
         have hfz12_0 := blk_frozen BK101.out 0
         have hfz12_1 := blk_frozen BK101.out 1
         have hfz12_2 := blk_frozen BK101.out 2
         have hfz12_3 := blk_frozen BK101.out 3
         have hfz12_4 := blk_frozen BK101.out 4
         have hfz12_5 := blk_frozen BK101.out 5
         have hfz12_6 := blk_frozen BK101.out 6
         have p102 : 0 ≤ (x8_1 : Int) := of_decide_eq_true (by first | (with_reducible assumption) | assumption)
         have q102 : x8_1 < (l0_6.length : Int) := of_decide_eq_true (by first | (with_reducible assumption) | assumption)
         obtain ⟨ad102, e102, hx102_0, hx102_1⟩ := at_T57 HR0_6.out x8_1 p102 q102
         cases e102
         replace hx102_0 := (HB.out.cell (World.block_lt_of_cell? w _ hx102_0)).trans hx102_0
         replace hx102_1 := (HB.out.cell (World.block_lt_of_cell? w _ hx102_1)).trans hx102_1
         replace p102 := eq_true p102
         replace q102 := eq_true q102
         try go_wp2_with (first | ((with_reducible refine gate_dst (N := 9) rfl ?_); refine box_event ?hg (N := 9) ?hd (cs := #[.int .i64 0, .string (⟨#[]⟩ : ByteArray)]) (t := 57) ?hr ?_; (case hd => rfl); (case hg => rfl); (case hr => first | (go_simp; done) | (go_simp; rfl)); intro gb103 hg w13 hbox hb; have n0_ := Aside0.mk (blk_below (g := gb101) (o := .cells #[.int .i64 a0_0, .int .i64 a0_1, .int .i64 a0_2, .int .i64 a0_3, .string a0_4, .string a0_5, .slice (some ad102) l0_6.length c0_6] 31 (0, 0)) (by (with_reducible repeat first | apply pN_ | apply pD_ | apply pA_); exact BK101.out) hb); have n1_ := Aside0.mk (below_step (bU_ HB.out) hb); have n2_ := Aside0.mk (hbox); have n3_ := Aside0.mk ((by rw [hg]; exact (below_size (bU_ HB.out)) : w.heap.size ≤ gb103)); have n4_ := Aside0.mk ((by rw [hg]; exact (below_size (bU_ HB.out)) : w.heap.size ≤ gb103)); have n5_ := Aside0.mk ((by rw [hg]; exact Nat.ne_of_lt (blk_lt (g := gb101) (o := .cells #[.int .i64 a0_0, .int .i64 a0_1, .int .i64 a0_2, .int .i64 a0_3, .string a0_4, .string a0_5, .slice (some ad102) l0_6.length c0_6] 31 (0, 0)) (by (with_reducible repeat first | apply pN_ | apply pD_ | apply pA_); exact BK101.out)) : gb101 ≠ gb103)); have n6_ := Aside0.mk ((by rw [hg]; exact Nat.ne_of_gt (blk_lt (g := gb101) (o := .cells #[.int .i64 a0_0, .int .i64 a0_1, .int .i64 a0_2, .int .i64 a0_3, .string a0_4, .string a0_5, .slice (some ad102) l0_6.length c0_6] 31 (0, 0)) (by (with_reducible repeat first | apply pN_ | apply pD_ | apply pA_); exact BK101.out)) : gb103 ≠ gb101)); clear BK101; clear HB; have BK101 := n0_; have HB := n1_; have BK103 := n2_; have GW103 := n3_; have GE103 := n4_; have NB101_103 := n5_; have NB103_101 := n6_; clear n0_ n1_ n2_ n3_ n4_ n5_ n6_; clear hb hbox hg; have hnb14 := NB103_101.out; have hnc14 := NB101_103.out; have hcz15_0 : w13.cell? ⟨gb103, 0, none⟩ = some (.int .i64 0) := (blk_cell BK103.out 0).trans rfl; have hcz15_1 : w13.cell? ⟨gb103, 1, none⟩ = some (.string (⟨#[]⟩ : ByteArray)) := (blk_cell BK103.out 1).trans rfl; have hfz15_0 := blk_frozen BK103.out 0; have hfz15_1 := blk_frozen BK103.out 1))
         have n0_ : Aside0 (((w13.setCell ⟨gb103, 0, none⟩ (.int .i64 ((rd_T57 l0_6 x8_1).f0))).setCell ⟨gb103, 1, none⟩ (.string ((rd_T57 l0_6 x8_1).f1))).heap[gb101]? = some (.cells #[.int .i64 a0_0, .int .i64 a0_1, .int .i64 a0_2, .int .i64 a0_3, .string a0_4, .string a0_5, .slice (some ad102) l0_6.length c0_6] 31 (0, 0))) := ⟨by (with_reducible repeat first | apply pN_ | apply pD_ | apply pA_); refine blk_far ?_ NB101_103.out _; (with_reducible repeat first | apply pN_ | apply pD_ | apply pA_); refine blk_far ?_ NB101_103.out _; (with_reducible repeat first | apply pN_ | apply pD_ | apply pA_); exact BK101.out⟩
         have n1_ : Aside0 (((w13.setCell ⟨gb103, 0, none⟩ (.int .i64 ((rd_T57 l0_6 x8_1).f0))).setCell ⟨gb103, 1, none⟩ (.string ((rd_T57 l0_6 x8_1).f1))).heap[gb103]? = some (.cells #[.int .i64 ((rd_T57 l0_6 x8_1).f0), .string ((rd_T57 l0_6 x8_1).f1)] 57 (0, 0))) := ⟨by (with_reducible repeat first | apply pN_ | apply pD_ | apply pA_); refine blk_put (cs := #[.int .i64 ((rd_T57 l0_6 x8_1).f0), .string (⟨#[]⟩ : ByteArray)]) ?_ 1 _ rfl; (with_reducible repeat first | apply pN_ | apply pD_ | apply pA_); refine blk_put (cs := #[.int .i64 0, .string (⟨#[]⟩ : ByteArray)]) ?_ 0 _ rfl; (with_reducible repeat first | apply pN_ | apply pD_ | apply pA_); exact BK103.out⟩
         have n2_ : Aside0 (Below w.heap.size w ((w13.setCell ⟨gb103, 0, none⟩ (.int .i64 ((rd_T57 l0_6 x8_1).f0))).setCell ⟨gb103, 1, none⟩ (.string ((rd_T57 l0_6 x8_1).f1)))) := ⟨bU_ HB.out⟩
         (try clear BK101)
         (try clear BK103)
         (try clear HB)
         generalize ((w13.setCell ⟨gb103, 0, none⟩ (.int .i64 ((rd_T57 l0_6 x8_1).f0))).setCell ⟨gb103, 1, none⟩ (.string ((rd_T57 l0_6 x8_1).f1))) = w16 at n0_ n1_ n2_ ⊢
         have BK101 := n0_
         have BK103 := n1_
         have HB := n2_
         clear n0_ n1_ n2_
         have n0_ := Aside0.mk (blk_drew BK101.out)
         have n1_ := Aside0.mk (blk_drew BK103.out)
         have n2_ := Aside0.mk (below_drew1 HB.out)
         clear BK101
         clear BK103
         clear HB
         have BK101 := n0_
         have BK103 := n1_
         have HB := n2_
         clear n0_ n1_ n2_
         refine start_ (n := 8) (S := fun w' => w'.cell? ⟨gb103, 0, none⟩ = some (.int .i64 ((rd_T57 l0_6 x8_1).f0)) ∧ w'.cell? ⟨gb103, 1, none⟩ = some (.string ((rd_T57 l0_6 x8_1).f1))) (ds := []) #[false, false, false, false, false, false, false, false] (by kernel_rfl) rfl rfl ⟨(blk_cell BK103.out 0).trans rfl, (blk_cell BK103.out 1).trans rfl⟩ (fun hHeld => ?_); refine with_tabW rillmeterref07_Put.tab8 rillmeterref07_Put.bits8 (fun HT_ HW_ => ?_)
         generalize w16.drew = w17 at BK101 BK103 HB hHeld ⊢
         refine pure_ (i := 0) (N := some 30) (v := ?_) (a' := ?_) #[true, false, false, false, false, false, false, false] rfl rfl (any_of HT_.out (by kernel_rfl)) (fun _ _ _ h => h) (Or.inl ⟨by rfl, ?_⟩) ?_ ?_
         rotate_left
         ·intro w'
          go_simp
          with_reducible rfl
         rotate_left
         ·simp only [Act.put, List.setIfInBounds_toArray, List.set_cons_zero, List.set_cons_succ, i64_w, i32_w]
          rfl
         refine pure_ (i := 2) (N := some 32) (v := ?_) (a' := ?_) #[true, false, true, false, false, false, false, false] rfl rfl (any_of HT_.out (by kernel_rfl)) (fun _ _ _ h => h) (Or.inl ⟨by rfl, ?_⟩) ?_ ?_
         rotate_left
         ·intro w'
          go_simp
          with_reducible rfl
         rotate_left
         ·simp only [Act.put, List.setIfInBounds_toArray, List.set_cons_zero, List.set_cons_succ, i64_w, i32_w]
          rfl
         refine pure_ (i := 5) (N := some 35) (v := ?_) (a' := ?_) #[true, false, true, false, false, true, false, false] rfl rfl (any_of HT_.out (by kernel_rfl)) (fun _ _ _ h => h) (Or.inl ⟨by rfl, ?_⟩) ?_ ?_
         rotate_left
         ·intro w'
          go_simp
          with_reducible rfl
         rotate_left
         ·simp only [Act.put, List.setIfInBounds_toArray, List.set_cons_zero, List.set_cons_succ, i64_w, i32_w]
          rfl
         refine take_ (i := 3) (N := some 33) (v := ?_) (a' := ?_) #[true, false, true, true, false, true, false, false] rfl rfl (take_ofW HT_.out HW_.out (by kernel_rfl)) (fun _ _ _ h => h) (Or.inl ⟨by rfl, ?_⟩) hHeld ?_ ?_
         rotate_left
         ·rintro w' ⟨s0, s1⟩
          go_simp
          with_reducible rfl
         rotate_left
         ·simp only [Act.put, List.setIfInBounds_toArray, List.set_cons_zero, List.set_cons_succ, i64_w, i32_w]
          rfl
         refine one_ (i := 1) (N := some 31) #[true, true, true, true, false, true, false, false] rfl rfl (one_of HT_.out (by kernel_rfl)) (by decide) (fun K hK => ?_)
         refine goes_ Try.func31 (by kernel_rfl) rfl #[.int .i64 x6_1] (by rfl) rfl rfl (by (try simp only [List.map_toArray, List.map_cons, List.map_nil]); first | done | rfl | (simp only [List.length_drop, List.length_take]; rfl) | (simp only [ByteArray.size_append, ByteArray.size_extract, Nat.sub_zero, Int.natCast_add]; rfl) | (simp [ByteArray.size_append]; done)) ?_
         with_reducible refine (rillmeterref07_one.calls x6_1 t104 _ A9.out).mono ?_
         rintro e w18 ⟨rfl, hb⟩
         refine ⟨_, rfl, ?_⟩
         have n0_ := Aside0.mk (blk_below (g := gb101) (o := .cells #[.int .i64 a0_0, .int .i64 a0_1, .int .i64 a0_2, .int .i64 a0_3, .string a0_4, .string a0_5, .slice (some ad102) l0_6.length c0_6] 31 (0, 0)) (by (with_reducible repeat first | apply pN_ | apply pD_ | apply pA_); exact BK101.out) hb)
         have n1_ := Aside0.mk (blk_below (g := gb103) (o := .cells #[.int .i64 ((rd_T57 l0_6 x8_1).f0), .string ((rd_T57 l0_6 x8_1).f1)] 57 (0, 0)) (by (with_reducible repeat first | apply pN_ | apply pD_ | apply pA_); exact BK103.out) hb)
         have n2_ := Aside0.mk (below_step (bU_ HB.out) hb)
         clear BK101
         clear BK103
         clear HB
         have BK101 := n0_
         have BK103 := n1_
         have HB := n2_
         clear n0_ n1_ n2_
         (try clear hb)
         (try clear hb2)
         (try clear hk)
         (try clear hi)
         refine hK.out _ _ ⟨(blk_cell BK103.out 0).trans rfl, (blk_cell BK103.out 1).trans rfl⟩ (fun hHeld => ?_)
         clear hK K
         refine norm_ (a' := ?_) ?_ ?_
         rotate_left
         ·show Act.put _ (some 31) _ = _
          simp only [Act.put, List.setIfInBounds_toArray, List.set_cons_zero, List.set_cons_succ, i64_w, i32_w]
          rfl
         refine pure_ (i := 4) (N := some 34) (v := ?_) (a' := ?_) #[true, true, true, true, true, true, false, false] rfl rfl (any_of HT_.out (by kernel_rfl)) (fun _ _ _ h => h) (Or.inl ⟨by rfl, ?_⟩) ?_ ?_
         rotate_left
         ·intro w'
          go_simp
          with_reducible rfl
         rotate_left
         ·simp only [Act.put, List.setIfInBounds_toArray, List.set_cons_zero, List.set_cons_succ, i64_w, i32_w]
          rfl
         refine pure_ (i := 6) (N := some 36) (v := ?_) (a' := ?_) #[true, true, true, true, true, true, true, false] rfl rfl (any_of HT_.out (by kernel_rfl)) (fun _ _ _ h => h) (Or.inl ⟨by rfl, ?_⟩) ?_ ?_
         rotate_left
         ·intro w'
          go_simp
          with_reducible rfl
         rotate_left
         ·simp only [Act.put, List.setIfInBounds_toArray, List.set_cons_zero, List.set_cons_succ, i64_w, i32_w]
          rfl
         refine pure_ (i := 7) (N := some 7) (v := ?_) (a' := ?_) #[true, true, true, true, true, true, true, true] rfl rfl (any_of HT_.out (by kernel_rfl)) (fun _ _ _ h => h) (Or.inl ⟨by rfl, ?_⟩) ?_ ?_
         rotate_left
         ·intro w'
          go_simp
          with_reducible rfl
         rotate_left
         ·simp only [Act.put, List.setIfInBounds_toArray, List.set_cons_zero, List.set_cons_succ, i64_w, i32_w]
          rfl
         refine done_ (done_of HT_.out (by kernel_rfl)) ?_
         have hcz19_0 : w18.cell? ⟨gb103, 0, none⟩ = some (.int .i64 ((rd_T57 l0_6 x8_1).f0)) := (blk_cell BK103.out 0).trans rfl
         have hcz19_1 : w18.cell? ⟨gb103, 1, none⟩ = some (.string ((rd_T57 l0_6 x8_1).f1)) := (blk_cell BK103.out 1).trans rfl
         have hfz19_0 := blk_frozen BK103.out 0
         have hfz19_1 := blk_frozen BK103.out 1
         try go_wp2
         go_roundg k1
         case measure => have := HK1.out; omega
         case rel => exact ⟨((rd_T57 l0_6 x8_1).f0), ((t104 ++ ((rd_T57 l0_6 x8_1).f1)) ++ x7_1), (wrap64 (x8_1 - 1)), (by first | rfl | (simp; done) | (simp [*]; done)), (by first | rfl | (simp; done) | (simp [*]; done)), (by first | rfl | (simp; done) | (simp [*]; done)), H', ⟨by have := HK1.out; omega⟩, ⟨by (with_reducible repeat first | apply pN_ | apply pD_ | apply pA_); exact BK101.out⟩, ⟨bU_ HB.out⟩⟩
        ·rw [if_neg c11] at H
         exact absurd H (by simp)
       ·rw [if_neg c10] at H
        exact absurd H (by simp)
      ·rw [if_neg c8] at H
       have c8b0 : (((rd_T57 l0_6 x8_1).f0) == 44) = false := beq_eq_false_iff_ne.mpr c8
       have c8b1 : (((rd_T57 l0_6 x8_1).f0) != 44) = true := bne_iff_ne.mpr c8
       replace H := Option.bind_eq_some_iff.mp H
       obtain ⟨t105, A200, H⟩ := H
       replace H : ((rillmeterref07_one.f (wrap64 ((((rd_T57 l0_6 x8_1).f1).size : Int) / 8))).bind fun t106 => (if t105.size + t106.size ≤ 9223372036854775807 then (if (t105 ++ t106).size + ((rd_T57 l0_6 x8_1).f1).size ≤ 9223372036854775807 then (if ((t105 ++ t106) ++ ((rd_T57 l0_6 x8_1).f1)).size + x7_1.size ≤ 9223372036854775807 then (rillmeterref07_Put.l0 k1 ((rd_T57 l0_6 x8_1).f0) (((t105 ++ t106) ++ ((rd_T57 l0_6 x8_1).f1)) ++ x7_1) (wrap64 (x8_1 - 1)) a0_0 a0_1 a0_2 a0_3 a0_4 a0_5 l0_6) else (none)) else (none)) else (none))) = some (r1, r2) := H
       have A20 := Aside0.mk A200
       clear A200
       replace H := Option.bind_eq_some_iff.mp H
       obtain ⟨t106, A210, H⟩ := H
       replace H : (if t105.size + t106.size ≤ 9223372036854775807 then (if (t105 ++ t106).size + ((rd_T57 l0_6 x8_1).f1).size ≤ 9223372036854775807 then (if ((t105 ++ t106) ++ ((rd_T57 l0_6 x8_1).f1)).size + x7_1.size ≤ 9223372036854775807 then (rillmeterref07_Put.l0 k1 ((rd_T57 l0_6 x8_1).f0) (((t105 ++ t106) ++ ((rd_T57 l0_6 x8_1).f1)) ++ x7_1) (wrap64 (x8_1 - 1)) a0_0 a0_1 a0_2 a0_3 a0_4 a0_5 l0_6) else (none)) else (none)) else (none)) = some (r1, r2) := H
       have A21 := Aside0.mk A210
       clear A210
       by_cases c22 : t105.size + t106.size ≤ 9223372036854775807
       ·rw [if_pos c22] at H
        have c22b0 := eq_true c22
        have c22b1 : decide (t105.size + t106.size ≤ 9223372036854775807) = true := decide_eq_true c22
        try have c22b2 : (9223372036854775807 < t105.size + t106.size) = False := eq_false (Nat.not_lt.2 c22)
        try (have c22b3 := c22; simp only [ByteArray.size_append, ByteArray.size_extract, Nat.sub_zero] at c22b3; have c22b4 := eq_false (Nat.not_lt.2 c22b3))
        by_cases c23 : (t105 ++ t106).size + ((rd_T57 l0_6 x8_1).f1).size ≤ 9223372036854775807
        ·rw [if_pos c23] at H
         have c23b0 := eq_true c23
         have c23b1 : decide ((t105 ++ t106).size + ((rd_T57 l0_6 x8_1).f1).size ≤ 9223372036854775807) = true := decide_eq_true c23
         try have c23b2 : (9223372036854775807 < (t105 ++ t106).size + ((rd_T57 l0_6 x8_1).f1).size) = False := eq_false (Nat.not_lt.2 c23)
         try (have c23b3 := c23; simp only [ByteArray.size_append, ByteArray.size_extract, Nat.sub_zero] at c23b3; have c23b4 := eq_false (Nat.not_lt.2 c23b3))
         by_cases c24 : ((t105 ++ t106) ++ ((rd_T57 l0_6 x8_1).f1)).size + x7_1.size ≤ 9223372036854775807
         ·rw [if_pos c24] at H
          have c24b0 := eq_true c24
          have c24b1 : decide (((t105 ++ t106) ++ ((rd_T57 l0_6 x8_1).f1)).size + x7_1.size ≤ 9223372036854775807) = true := decide_eq_true c24
          try have c24b2 : (9223372036854775807 < ((t105 ++ t106) ++ ((rd_T57 l0_6 x8_1).f1)).size + x7_1.size) = False := eq_false (Nat.not_lt.2 c24)
          try (have c24b3 := c24; simp only [ByteArray.size_append, ByteArray.size_extract, Nat.sub_zero] at c24b3; have c24b4 := eq_false (Nat.not_lt.2 c24b3))
          have H' := Aside0.mk H
          clear H
          have hcz25_0 : wr.cell? ⟨gb101, 0, none⟩ = some (.int .i64 a0_0) := (blk_cell BK101.out 0).trans rfl
          have hcz25_1 : wr.cell? ⟨gb101, 1, none⟩ = some (.int .i64 a0_1) := (blk_cell BK101.out 1).trans rfl
          have hcz25_2 : wr.cell? ⟨gb101, 2, none⟩ = some (.int .i64 a0_2) := (blk_cell BK101.out 2).trans rfl
          have hcz25_3 : wr.cell? ⟨gb101, 3, none⟩ = some (.int .i64 a0_3) := (blk_cell BK101.out 3).trans rfl
          have hcz25_4 : wr.cell? ⟨gb101, 4, none⟩ = some (.string a0_4) := (blk_cell BK101.out 4).trans rfl
          have hcz25_5 : wr.cell? ⟨gb101, 5, none⟩ = some (.string a0_5) := (blk_cell BK101.out 5).trans rfl
          have hcz25_6 : wr.cell? ⟨gb101, 6, none⟩ = some (.slice A0_6 l0_6.length c0_6) := (blk_cell BK101.out 6).trans rfl
          have hfz25_0 := blk_frozen BK101.out 0
          have hfz25_1 := blk_frozen BK101.out 1
          have hfz25_2 := blk_frozen BK101.out 2
          have hfz25_3 := blk_frozen BK101.out 3
          have hfz25_4 := blk_frozen BK101.out 4
          have hfz25_5 := blk_frozen BK101.out 5
          have hfz25_6 := blk_frozen BK101.out 6
          have p102 : 0 ≤ (x8_1 : Int) := of_decide_eq_true (by first | (with_reducible assumption) | assumption)
          have q102 : x8_1 < (l0_6.length : Int) := of_decide_eq_true (by first | (with_reducible assumption) | assumption)
          obtain ⟨ad102, e102, hx102_0, hx102_1⟩ := at_T57 HR0_6.out x8_1 p102 q102
          cases e102
          replace hx102_0 := (HB.out.cell (World.block_lt_of_cell? w _ hx102_0)).trans hx102_0
          replace hx102_1 := (HB.out.cell (World.block_lt_of_cell? w _ hx102_1)).trans hx102_1
          replace p102 := eq_true p102
          replace q102 := eq_true q102
          try go_wp2_with (first | ((with_reducible refine gate_dst (N := 9) rfl ?_); refine box_event ?hg (N := 9) ?hd (cs := #[.int .i64 0, .string (⟨#[]⟩ : ByteArray)]) (t := 57) ?hr ?_; (case hd => rfl); (case hg => rfl); (case hr => first | (go_simp; done) | (go_simp; rfl)); intro gb103 hg w26 hbox hb; have n0_ := Aside0.mk (blk_below (g := gb101) (o := .cells #[.int .i64 a0_0, .int .i64 a0_1, .int .i64 a0_2, .int .i64 a0_3, .string a0_4, .string a0_5, .slice (some ad102) l0_6.length c0_6] 31 (0, 0)) (by (with_reducible repeat first | apply pN_ | apply pD_ | apply pA_); exact BK101.out) hb); have n1_ := Aside0.mk (below_step (bU_ HB.out) hb); have n2_ := Aside0.mk (hbox); have n3_ := Aside0.mk ((by rw [hg]; exact (below_size (bU_ HB.out)) : w.heap.size ≤ gb103)); have n4_ := Aside0.mk ((by rw [hg]; exact (below_size (bU_ HB.out)) : w.heap.size ≤ gb103)); have n5_ := Aside0.mk ((by rw [hg]; exact Nat.ne_of_lt (blk_lt (g := gb101) (o := .cells #[.int .i64 a0_0, .int .i64 a0_1, .int .i64 a0_2, .int .i64 a0_3, .string a0_4, .string a0_5, .slice (some ad102) l0_6.length c0_6] 31 (0, 0)) (by (with_reducible repeat first | apply pN_ | apply pD_ | apply pA_); exact BK101.out)) : gb101 ≠ gb103)); have n6_ := Aside0.mk ((by rw [hg]; exact Nat.ne_of_gt (blk_lt (g := gb101) (o := .cells #[.int .i64 a0_0, .int .i64 a0_1, .int .i64 a0_2, .int .i64 a0_3, .string a0_4, .string a0_5, .slice (some ad102) l0_6.length c0_6] 31 (0, 0)) (by (with_reducible repeat first | apply pN_ | apply pD_ | apply pA_); exact BK101.out)) : gb103 ≠ gb101)); clear BK101; clear HB; have BK101 := n0_; have HB := n1_; have BK103 := n2_; have GW103 := n3_; have GE103 := n4_; have NB101_103 := n5_; have NB103_101 := n6_; clear n0_ n1_ n2_ n3_ n4_ n5_ n6_; clear hb hbox hg; have hnb27 := NB103_101.out; have hnc27 := NB101_103.out; have hcz28_0 : w26.cell? ⟨gb103, 0, none⟩ = some (.int .i64 0) := (blk_cell BK103.out 0).trans rfl; have hcz28_1 : w26.cell? ⟨gb103, 1, none⟩ = some (.string (⟨#[]⟩ : ByteArray)) := (blk_cell BK103.out 1).trans rfl; have hfz28_0 := blk_frozen BK103.out 0; have hfz28_1 := blk_frozen BK103.out 1))
          have n0_ : Aside0 (((w26.setCell ⟨gb103, 0, none⟩ (.int .i64 ((rd_T57 l0_6 x8_1).f0))).setCell ⟨gb103, 1, none⟩ (.string ((rd_T57 l0_6 x8_1).f1))).heap[gb101]? = some (.cells #[.int .i64 a0_0, .int .i64 a0_1, .int .i64 a0_2, .int .i64 a0_3, .string a0_4, .string a0_5, .slice (some ad102) l0_6.length c0_6] 31 (0, 0))) := ⟨by (with_reducible repeat first | apply pN_ | apply pD_ | apply pA_); refine blk_far ?_ NB101_103.out _; (with_reducible repeat first | apply pN_ | apply pD_ | apply pA_); refine blk_far ?_ NB101_103.out _; (with_reducible repeat first | apply pN_ | apply pD_ | apply pA_); exact BK101.out⟩
          have n1_ : Aside0 (((w26.setCell ⟨gb103, 0, none⟩ (.int .i64 ((rd_T57 l0_6 x8_1).f0))).setCell ⟨gb103, 1, none⟩ (.string ((rd_T57 l0_6 x8_1).f1))).heap[gb103]? = some (.cells #[.int .i64 ((rd_T57 l0_6 x8_1).f0), .string ((rd_T57 l0_6 x8_1).f1)] 57 (0, 0))) := ⟨by (with_reducible repeat first | apply pN_ | apply pD_ | apply pA_); refine blk_put (cs := #[.int .i64 ((rd_T57 l0_6 x8_1).f0), .string (⟨#[]⟩ : ByteArray)]) ?_ 1 _ rfl; (with_reducible repeat first | apply pN_ | apply pD_ | apply pA_); refine blk_put (cs := #[.int .i64 0, .string (⟨#[]⟩ : ByteArray)]) ?_ 0 _ rfl; (with_reducible repeat first | apply pN_ | apply pD_ | apply pA_); exact BK103.out⟩
          have n2_ : Aside0 (Below w.heap.size w ((w26.setCell ⟨gb103, 0, none⟩ (.int .i64 ((rd_T57 l0_6 x8_1).f0))).setCell ⟨gb103, 1, none⟩ (.string ((rd_T57 l0_6 x8_1).f1)))) := ⟨bU_ HB.out⟩
          (try clear BK101)
          (try clear BK103)
          (try clear HB)
          generalize ((w26.setCell ⟨gb103, 0, none⟩ (.int .i64 ((rd_T57 l0_6 x8_1).f0))).setCell ⟨gb103, 1, none⟩ (.string ((rd_T57 l0_6 x8_1).f1))) = w29 at n0_ n1_ n2_ ⊢
          have BK101 := n0_
          have BK103 := n1_
          have HB := n2_
          clear n0_ n1_ n2_
          have n0_ := Aside0.mk (blk_drew BK101.out)
          have n1_ := Aside0.mk (blk_drew BK103.out)
          have n2_ := Aside0.mk (below_drew1 HB.out)
          clear BK101
          clear BK103
          clear HB
          have BK101 := n0_
          have BK103 := n1_
          have HB := n2_
          clear n0_ n1_ n2_
          refine start_ (n := 14) (S := fun w' => w'.cell? ⟨gb103, 0, none⟩ = some (.int .i64 ((rd_T57 l0_6 x8_1).f0)) ∧ w'.cell? ⟨gb103, 1, none⟩ = some (.string ((rd_T57 l0_6 x8_1).f1))) (ds := []) #[false, false, false, false, false, false, false, false, false, false, false, false, false, false] (by kernel_rfl) rfl rfl ⟨(blk_cell BK103.out 0).trans rfl, (blk_cell BK103.out 1).trans rfl⟩ (fun hHeld => ?_); refine with_tabW rillmeterref07_Put.tab9 rillmeterref07_Put.bits9 (fun HT_ HW_ => ?_)
          generalize w29.drew = w30 at BK101 BK103 HB hHeld ⊢
          refine pure_ (i := 0) (N := some 37) (v := ?_) (a' := ?_) #[true, false, false, false, false, false, false, false, false, false, false, false, false, false] rfl rfl (any_of HT_.out (by kernel_rfl)) (fun _ _ _ h => h) (Or.inl ⟨by rfl, ?_⟩) ?_ ?_
          rotate_left
          ·intro w'
           go_simp
           with_reducible rfl
          rotate_left
          ·simp only [Act.put, List.setIfInBounds_toArray, List.set_cons_zero, List.set_cons_succ, i64_w, i32_w]
           rfl
          refine pure_ (i := 2) (N := some 39) (v := ?_) (a' := ?_) #[true, false, true, false, false, false, false, false, false, false, false, false, false, false] rfl rfl (any_of HT_.out (by kernel_rfl)) (fun _ _ _ h => h) (Or.inl ⟨by rfl, ?_⟩) ?_ ?_
          rotate_left
          ·intro w'
           go_simp
           with_reducible rfl
          rotate_left
          ·simp only [Act.put, List.setIfInBounds_toArray, List.set_cons_zero, List.set_cons_succ, i64_w, i32_w]
           rfl
          refine pure_ (i := 8) (N := some 45) (v := ?_) (a' := ?_) #[true, false, true, false, false, false, false, false, true, false, false, false, false, false] rfl rfl (any_of HT_.out (by kernel_rfl)) (fun _ _ _ h => h) (Or.inl ⟨by rfl, ?_⟩) ?_ ?_
          rotate_left
          ·intro w'
           go_simp
           with_reducible rfl
          rotate_left
          ·simp only [Act.put, List.setIfInBounds_toArray, List.set_cons_zero, List.set_cons_succ, i64_w, i32_w]
           rfl
          refine pure_ (i := 11) (N := some 48) (v := ?_) (a' := ?_) #[true, false, true, false, false, false, false, false, true, false, false, true, false, false] rfl rfl (any_of HT_.out (by kernel_rfl)) (fun _ _ _ h => h) (Or.inl ⟨by rfl, ?_⟩) ?_ ?_
          rotate_left
          ·intro w'
           go_simp
           with_reducible rfl
          rotate_left
          ·simp only [Act.put, List.setIfInBounds_toArray, List.set_cons_zero, List.set_cons_succ, i64_w, i32_w]
           rfl
          refine take_ (i := 3) (N := some 40) (v := ?_) (a' := ?_) #[true, false, true, true, false, false, false, false, true, false, false, true, false, false] rfl rfl (take_ofW HT_.out HW_.out (by kernel_rfl)) (fun _ _ _ h => h) (Or.inl ⟨by rfl, ?_⟩) hHeld ?_ ?_
          rotate_left
          ·rintro w' ⟨s0, s1⟩
           go_simp
           with_reducible rfl
          rotate_left
          ·simp only [Act.put, List.setIfInBounds_toArray, List.set_cons_zero, List.set_cons_succ, i64_w, i32_w]
           rfl
          refine pure_ (i := 4) (N := some 41) (v := ?_) (a' := ?_) #[true, false, true, true, true, false, false, false, true, false, false, true, false, false] rfl rfl (any_of HT_.out (by kernel_rfl)) (fun _ _ _ h => h) (Or.inl ⟨by rfl, ?_⟩) ?_ ?_
          rotate_left
          ·intro w'
           go_simp
           with_reducible rfl
          rotate_left
          ·simp only [Act.put, List.setIfInBounds_toArray, List.set_cons_zero, List.set_cons_succ, i64_w, i32_w]
           rfl
          refine pure_ (i := 5) (N := some 42) (v := ?_) (a' := ?_) #[true, false, true, true, true, true, false, false, true, false, false, true, false, false] rfl rfl (any_of HT_.out (by kernel_rfl)) (fun _ _ _ h => h) (Or.inl ⟨by rfl, ?_⟩) ?_ ?_
          rotate_left
          ·intro w'
           go_simp
           with_reducible rfl
          rotate_left
          ·simp only [Act.put, List.setIfInBounds_toArray, List.set_cons_zero, List.set_cons_succ, i64_w, i32_w]
           rfl
          refine take_ (i := 9) (N := some 46) (v := ?_) (a' := ?_) #[true, false, true, true, true, true, false, false, true, true, false, true, false, false] rfl rfl (take_ofW HT_.out HW_.out (by kernel_rfl)) (fun _ _ _ h => h) (Or.inl ⟨by rfl, ?_⟩) hHeld ?_ ?_
          rotate_left
          ·rintro w' ⟨s0, s1⟩
           go_simp
           with_reducible rfl
          rotate_left
          ·simp only [Act.put, List.setIfInBounds_toArray, List.set_cons_zero, List.set_cons_succ, i64_w, i32_w]
           rfl
          refine one_ (i := 1) (N := some 38) #[true, true, true, true, true, true, false, false, true, true, false, true, false, false] rfl rfl (one_of HT_.out (by kernel_rfl)) (by decide) (fun K hK => ?_)
          refine goes_ Try.func31 (by kernel_rfl) rfl #[.int .i64 x6_1] (by rfl) rfl rfl (by (try simp only [List.map_toArray, List.map_cons, List.map_nil]); first | done | rfl | (simp only [List.length_drop, List.length_take]; rfl) | (simp only [ByteArray.size_append, ByteArray.size_extract, Nat.sub_zero, Int.natCast_add]; rfl) | (simp [ByteArray.size_append]; done)) ?_
          with_reducible refine (rillmeterref07_one.calls x6_1 t105 _ A20.out).mono ?_
          rintro e w31 ⟨rfl, hb⟩
          refine ⟨_, rfl, ?_⟩
          have n0_ := Aside0.mk (blk_below (g := gb101) (o := .cells #[.int .i64 a0_0, .int .i64 a0_1, .int .i64 a0_2, .int .i64 a0_3, .string a0_4, .string a0_5, .slice (some ad102) l0_6.length c0_6] 31 (0, 0)) (by (with_reducible repeat first | apply pN_ | apply pD_ | apply pA_); exact BK101.out) hb)
          have n1_ := Aside0.mk (blk_below (g := gb103) (o := .cells #[.int .i64 ((rd_T57 l0_6 x8_1).f0), .string ((rd_T57 l0_6 x8_1).f1)] 57 (0, 0)) (by (with_reducible repeat first | apply pN_ | apply pD_ | apply pA_); exact BK103.out) hb)
          have n2_ := Aside0.mk (below_step (bU_ HB.out) hb)
          clear BK101
          clear BK103
          clear HB
          have BK101 := n0_
          have BK103 := n1_
          have HB := n2_
          clear n0_ n1_ n2_
          (try clear hb)
          (try clear hb2)
          (try clear hk)
          (try clear hi)
          refine hK.out _ _ ⟨(blk_cell BK103.out 0).trans rfl, (blk_cell BK103.out 1).trans rfl⟩ (fun hHeld => ?_)
          clear hK K
          refine norm_ (a' := ?_) ?_ ?_
          rotate_left
          ·show Act.put _ (some 38) _ = _
           simp only [Act.put, List.setIfInBounds_toArray, List.set_cons_zero, List.set_cons_succ, i64_w, i32_w]
           rfl
          refine one_ (i := 6) (N := some 43) #[true, true, true, true, true, true, true, false, true, true, false, true, false, false] rfl rfl (one_of HT_.out (by kernel_rfl)) (by decide) (fun K hK => ?_)
          refine goes_ Try.func31 (by kernel_rfl) rfl #[.int .i64 (wrap64 ((((rd_T57 l0_6 x8_1).f1).size : Int) / 8))] (by rfl) rfl rfl (by (try simp only [List.map_toArray, List.map_cons, List.map_nil]); first | done | rfl | (simp only [List.length_drop, List.length_take]; rfl) | (simp only [ByteArray.size_append, ByteArray.size_extract, Nat.sub_zero, Int.natCast_add]; rfl) | (simp [ByteArray.size_append]; done)) ?_
          with_reducible refine (rillmeterref07_one.calls (wrap64 ((((rd_T57 l0_6 x8_1).f1).size : Int) / 8)) t106 _ A21.out).mono ?_
          rintro e w32 ⟨rfl, hb⟩
          refine ⟨_, rfl, ?_⟩
          have n0_ := Aside0.mk (blk_below (g := gb101) (o := .cells #[.int .i64 a0_0, .int .i64 a0_1, .int .i64 a0_2, .int .i64 a0_3, .string a0_4, .string a0_5, .slice (some ad102) l0_6.length c0_6] 31 (0, 0)) (by (with_reducible repeat first | apply pN_ | apply pD_ | apply pA_); exact BK101.out) hb)
          have n1_ := Aside0.mk (blk_below (g := gb103) (o := .cells #[.int .i64 ((rd_T57 l0_6 x8_1).f0), .string ((rd_T57 l0_6 x8_1).f1)] 57 (0, 0)) (by (with_reducible repeat first | apply pN_ | apply pD_ | apply pA_); exact BK103.out) hb)
          have n2_ := Aside0.mk (below_step (bU_ HB.out) hb)
          clear BK101
          clear BK103
          clear HB
          have BK101 := n0_
          have BK103 := n1_
          have HB := n2_
          clear n0_ n1_ n2_
          (try clear hb)
          (try clear hb2)
          (try clear hk)
          (try clear hi)
          refine hK.out _ _ ⟨(blk_cell BK103.out 0).trans rfl, (blk_cell BK103.out 1).trans rfl⟩ (fun hHeld => ?_)
          clear hK K
          refine norm_ (a' := ?_) ?_ ?_
          rotate_left
          ·show Act.put _ (some 43) _ = _
           simp only [Act.put, List.setIfInBounds_toArray, List.set_cons_zero, List.set_cons_succ, i64_w, i32_w]
           rfl
          refine pure_ (i := 7) (N := some 44) (v := ?_) (a' := ?_) #[true, true, true, true, true, true, true, true, true, true, false, true, false, false] rfl rfl (any_of HT_.out (by kernel_rfl)) (fun _ _ _ h => h) (Or.inl ⟨by rfl, ?_⟩) ?_ ?_
          rotate_left
          ·intro w'
           go_simp
           with_reducible rfl
          rotate_left
          ·simp only [Act.put, List.setIfInBounds_toArray, List.set_cons_zero, List.set_cons_succ, i64_w, i32_w]
           rfl
          refine pure_ (i := 10) (N := some 47) (v := ?_) (a' := ?_) #[true, true, true, true, true, true, true, true, true, true, true, true, false, false] rfl rfl (any_of HT_.out (by kernel_rfl)) (fun _ _ _ h => h) (Or.inl ⟨by rfl, ?_⟩) ?_ ?_
          rotate_left
          ·intro w'
           go_simp
           with_reducible rfl
          rotate_left
          ·simp only [Act.put, List.setIfInBounds_toArray, List.set_cons_zero, List.set_cons_succ, i64_w, i32_w]
           rfl
          refine pure_ (i := 12) (N := some 49) (v := ?_) (a' := ?_) #[true, true, true, true, true, true, true, true, true, true, true, true, true, false] rfl rfl (any_of HT_.out (by kernel_rfl)) (fun _ _ _ h => h) (Or.inl ⟨by rfl, ?_⟩) ?_ ?_
          rotate_left
          ·intro w'
           go_simp
           with_reducible rfl
          rotate_left
          ·simp only [Act.put, List.setIfInBounds_toArray, List.set_cons_zero, List.set_cons_succ, i64_w, i32_w]
           rfl
          refine pure_ (i := 13) (N := some 7) (v := ?_) (a' := ?_) #[true, true, true, true, true, true, true, true, true, true, true, true, true, true] rfl rfl (any_of HT_.out (by kernel_rfl)) (fun _ _ _ h => h) (Or.inl ⟨by rfl, ?_⟩) ?_ ?_
          rotate_left
          ·intro w'
           go_simp
           with_reducible rfl
          rotate_left
          ·simp only [Act.put, List.setIfInBounds_toArray, List.set_cons_zero, List.set_cons_succ, i64_w, i32_w]
           rfl
          refine done_ (done_of HT_.out (by kernel_rfl)) ?_
          have hcz33_0 : w32.cell? ⟨gb103, 0, none⟩ = some (.int .i64 ((rd_T57 l0_6 x8_1).f0)) := (blk_cell BK103.out 0).trans rfl
          have hcz33_1 : w32.cell? ⟨gb103, 1, none⟩ = some (.string ((rd_T57 l0_6 x8_1).f1)) := (blk_cell BK103.out 1).trans rfl
          have hfz33_0 := blk_frozen BK103.out 0
          have hfz33_1 := blk_frozen BK103.out 1
          try go_wp2
          go_roundg k1
          case measure => have := HK1.out; omega
          case rel => exact ⟨((rd_T57 l0_6 x8_1).f0), (((t105 ++ t106) ++ ((rd_T57 l0_6 x8_1).f1)) ++ x7_1), (wrap64 (x8_1 - 1)), (by first | rfl | (simp; done) | (simp [*]; done)), (by first | rfl | (simp; done) | (simp [*]; done)), (by first | rfl | (simp; done) | (simp [*]; done)), H', ⟨by have := HK1.out; omega⟩, ⟨by (with_reducible repeat first | apply pN_ | apply pD_ | apply pA_); exact BK101.out⟩, ⟨bU_ HB.out⟩⟩
         ·rw [if_neg c24] at H
          exact absurd H (by simp)
        ·rw [if_neg c23] at H
         exact absurd H (by simp)
       ·rw [if_neg c22] at H
        exact absurd H (by simp)
     ·rw [if_neg c7] at H
      exact absurd H (by simp)
    ·rw [if_neg c6] at H
     exact absurd H (by simp)
   ·rw [if_neg c5] at H
    have c5b0 : decide (0 ≤ x8_1) = false := decide_eq_false c5
    clear c5
    replace H := Option.bind_eq_some_iff.mp H
    obtain ⟨t107, A340, H⟩ := H
    replace H : ((rillmeterref07_two.f (Int.tmod (wrap64 ((wrap64 (1610612736 + (wrap64 (1048576 * a0_0)))) + a0_1)) 65536)).bind fun t108 => (if t107.size + t108.size ≤ 9223372036854775807 then ((rillmeterref07_two.f ((x7_1.size : Int) % 65536)).bind fun t109 => (if (t107 ++ t108).size + t109.size ≤ 9223372036854775807 then ((rillmeterref07_one.f x6_1).bind fun t110 => (if ((t107 ++ t108) ++ t109).size + t110.size ≤ 9223372036854775807 then ((rillmeterref07_one.f a0_2).bind fun t111 => (if (((t107 ++ t108) ++ t109) ++ t110).size + t111.size ≤ 9223372036854775807 then (if ((((t107 ++ t108) ++ t109) ++ t110) ++ t111).size + a0_4.size ≤ 9223372036854775807 then (if (((((t107 ++ t108) ++ t109) ++ t110) ++ t111) ++ a0_4).size + a0_5.size ≤ 9223372036854775807 then (if ((((((t107 ++ t108) ++ t109) ++ t110) ++ t111) ++ a0_4) ++ a0_5).size + x7_1.size ≤ 9223372036854775807 then (some (((((((t107 ++ t108) ++ t109) ++ t110) ++ t111) ++ a0_4) ++ a0_5) ++ x7_1, decide ((x7_1.size : Int) < 65536))) else (none)) else (none)) else (none)) else (none))) else (none))) else (none))) else (none))) = some (r1, r2) := H
    have A34 := Aside0.mk A340
    clear A340
    replace H := Option.bind_eq_some_iff.mp H
    obtain ⟨t108, A350, H⟩ := H
    replace H : (if t107.size + t108.size ≤ 9223372036854775807 then ((rillmeterref07_two.f ((x7_1.size : Int) % 65536)).bind fun t109 => (if (t107 ++ t108).size + t109.size ≤ 9223372036854775807 then ((rillmeterref07_one.f x6_1).bind fun t110 => (if ((t107 ++ t108) ++ t109).size + t110.size ≤ 9223372036854775807 then ((rillmeterref07_one.f a0_2).bind fun t111 => (if (((t107 ++ t108) ++ t109) ++ t110).size + t111.size ≤ 9223372036854775807 then (if ((((t107 ++ t108) ++ t109) ++ t110) ++ t111).size + a0_4.size ≤ 9223372036854775807 then (if (((((t107 ++ t108) ++ t109) ++ t110) ++ t111) ++ a0_4).size + a0_5.size ≤ 9223372036854775807 then (if ((((((t107 ++ t108) ++ t109) ++ t110) ++ t111) ++ a0_4) ++ a0_5).size + x7_1.size ≤ 9223372036854775807 then (some (((((((t107 ++ t108) ++ t109) ++ t110) ++ t111) ++ a0_4) ++ a0_5) ++ x7_1, decide ((x7_1.size : Int) < 65536))) else (none)) else (none)) else (none)) else (none))) else (none))) else (none))) else (none)) = some (r1, r2) := H
    have A35 := Aside0.mk A350
    clear A350
    by_cases c36 : t107.size + t108.size ≤ 9223372036854775807
    ·rw [if_pos c36] at H
     have c36b0 := eq_true c36
     have c36b1 : decide (t107.size + t108.size ≤ 9223372036854775807) = true := decide_eq_true c36
     try have c36b2 : (9223372036854775807 < t107.size + t108.size) = False := eq_false (Nat.not_lt.2 c36)
     try (have c36b3 := c36; simp only [ByteArray.size_append, ByteArray.size_extract, Nat.sub_zero] at c36b3; have c36b4 := eq_false (Nat.not_lt.2 c36b3))
     replace H := Option.bind_eq_some_iff.mp H
     obtain ⟨t109, A370, H⟩ := H
     replace H : (if (t107 ++ t108).size + t109.size ≤ 9223372036854775807 then ((rillmeterref07_one.f x6_1).bind fun t110 => (if ((t107 ++ t108) ++ t109).size + t110.size ≤ 9223372036854775807 then ((rillmeterref07_one.f a0_2).bind fun t111 => (if (((t107 ++ t108) ++ t109) ++ t110).size + t111.size ≤ 9223372036854775807 then (if ((((t107 ++ t108) ++ t109) ++ t110) ++ t111).size + a0_4.size ≤ 9223372036854775807 then (if (((((t107 ++ t108) ++ t109) ++ t110) ++ t111) ++ a0_4).size + a0_5.size ≤ 9223372036854775807 then (if ((((((t107 ++ t108) ++ t109) ++ t110) ++ t111) ++ a0_4) ++ a0_5).size + x7_1.size ≤ 9223372036854775807 then (some (((((((t107 ++ t108) ++ t109) ++ t110) ++ t111) ++ a0_4) ++ a0_5) ++ x7_1, decide ((x7_1.size : Int) < 65536))) else (none)) else (none)) else (none)) else (none))) else (none))) else (none)) = some (r1, r2) := H
     have A37 := Aside0.mk A370
     clear A370
     by_cases c38 : (t107 ++ t108).size + t109.size ≤ 9223372036854775807
     ·rw [if_pos c38] at H
      have c38b0 := eq_true c38
      have c38b1 : decide ((t107 ++ t108).size + t109.size ≤ 9223372036854775807) = true := decide_eq_true c38
      try have c38b2 : (9223372036854775807 < (t107 ++ t108).size + t109.size) = False := eq_false (Nat.not_lt.2 c38)
      try (have c38b3 := c38; simp only [ByteArray.size_append, ByteArray.size_extract, Nat.sub_zero] at c38b3; have c38b4 := eq_false (Nat.not_lt.2 c38b3))
      replace H := Option.bind_eq_some_iff.mp H
      obtain ⟨t110, A390, H⟩ := H
      replace H : (if ((t107 ++ t108) ++ t109).size + t110.size ≤ 9223372036854775807 then ((rillmeterref07_one.f a0_2).bind fun t111 => (if (((t107 ++ t108) ++ t109) ++ t110).size + t111.size ≤ 9223372036854775807 then (if ((((t107 ++ t108) ++ t109) ++ t110) ++ t111).size + a0_4.size ≤ 9223372036854775807 then (if (((((t107 ++ t108) ++ t109) ++ t110) ++ t111) ++ a0_4).size + a0_5.size ≤ 9223372036854775807 then (if ((((((t107 ++ t108) ++ t109) ++ t110) ++ t111) ++ a0_4) ++ a0_5).size + x7_1.size ≤ 9223372036854775807 then (some (((((((t107 ++ t108) ++ t109) ++ t110) ++ t111) ++ a0_4) ++ a0_5) ++ x7_1, decide ((x7_1.size : Int) < 65536))) else (none)) else (none)) else (none)) else (none))) else (none)) = some (r1, r2) := H
      have A39 := Aside0.mk A390
      clear A390
      by_cases c40 : ((t107 ++ t108) ++ t109).size + t110.size ≤ 9223372036854775807
      ·rw [if_pos c40] at H
       have c40b0 := eq_true c40
       have c40b1 : decide (((t107 ++ t108) ++ t109).size + t110.size ≤ 9223372036854775807) = true := decide_eq_true c40
       try have c40b2 : (9223372036854775807 < ((t107 ++ t108) ++ t109).size + t110.size) = False := eq_false (Nat.not_lt.2 c40)
       try (have c40b3 := c40; simp only [ByteArray.size_append, ByteArray.size_extract, Nat.sub_zero] at c40b3; have c40b4 := eq_false (Nat.not_lt.2 c40b3))
       replace H := Option.bind_eq_some_iff.mp H
       obtain ⟨t111, A410, H⟩ := H
       replace H : (if (((t107 ++ t108) ++ t109) ++ t110).size + t111.size ≤ 9223372036854775807 then (if ((((t107 ++ t108) ++ t109) ++ t110) ++ t111).size + a0_4.size ≤ 9223372036854775807 then (if (((((t107 ++ t108) ++ t109) ++ t110) ++ t111) ++ a0_4).size + a0_5.size ≤ 9223372036854775807 then (if ((((((t107 ++ t108) ++ t109) ++ t110) ++ t111) ++ a0_4) ++ a0_5).size + x7_1.size ≤ 9223372036854775807 then (some (((((((t107 ++ t108) ++ t109) ++ t110) ++ t111) ++ a0_4) ++ a0_5) ++ x7_1, decide ((x7_1.size : Int) < 65536))) else (none)) else (none)) else (none)) else (none)) = some (r1, r2) := H
       have A41 := Aside0.mk A410
       clear A410
       by_cases c42 : (((t107 ++ t108) ++ t109) ++ t110).size + t111.size ≤ 9223372036854775807
       ·rw [if_pos c42] at H
        have c42b0 := eq_true c42
        have c42b1 : decide ((((t107 ++ t108) ++ t109) ++ t110).size + t111.size ≤ 9223372036854775807) = true := decide_eq_true c42
        try have c42b2 : (9223372036854775807 < (((t107 ++ t108) ++ t109) ++ t110).size + t111.size) = False := eq_false (Nat.not_lt.2 c42)
        try (have c42b3 := c42; simp only [ByteArray.size_append, ByteArray.size_extract, Nat.sub_zero] at c42b3; have c42b4 := eq_false (Nat.not_lt.2 c42b3))
        by_cases c43 : ((((t107 ++ t108) ++ t109) ++ t110) ++ t111).size + a0_4.size ≤ 9223372036854775807
        ·rw [if_pos c43] at H
         have c43b0 := eq_true c43
         have c43b1 : decide (((((t107 ++ t108) ++ t109) ++ t110) ++ t111).size + a0_4.size ≤ 9223372036854775807) = true := decide_eq_true c43
         try have c43b2 : (9223372036854775807 < ((((t107 ++ t108) ++ t109) ++ t110) ++ t111).size + a0_4.size) = False := eq_false (Nat.not_lt.2 c43)
         try (have c43b3 := c43; simp only [ByteArray.size_append, ByteArray.size_extract, Nat.sub_zero] at c43b3; have c43b4 := eq_false (Nat.not_lt.2 c43b3))
         by_cases c44 : (((((t107 ++ t108) ++ t109) ++ t110) ++ t111) ++ a0_4).size + a0_5.size ≤ 9223372036854775807
         ·rw [if_pos c44] at H
          have c44b0 := eq_true c44
          have c44b1 : decide ((((((t107 ++ t108) ++ t109) ++ t110) ++ t111) ++ a0_4).size + a0_5.size ≤ 9223372036854775807) = true := decide_eq_true c44
          try have c44b2 : (9223372036854775807 < (((((t107 ++ t108) ++ t109) ++ t110) ++ t111) ++ a0_4).size + a0_5.size) = False := eq_false (Nat.not_lt.2 c44)
          try (have c44b3 := c44; simp only [ByteArray.size_append, ByteArray.size_extract, Nat.sub_zero] at c44b3; have c44b4 := eq_false (Nat.not_lt.2 c44b3))
          by_cases c45 : ((((((t107 ++ t108) ++ t109) ++ t110) ++ t111) ++ a0_4) ++ a0_5).size + x7_1.size ≤ 9223372036854775807
          ·rw [if_pos c45] at H
           have c45b0 := eq_true c45
           have c45b1 : decide (((((((t107 ++ t108) ++ t109) ++ t110) ++ t111) ++ a0_4) ++ a0_5).size + x7_1.size ≤ 9223372036854775807) = true := decide_eq_true c45
           try have c45b2 : (9223372036854775807 < ((((((t107 ++ t108) ++ t109) ++ t110) ++ t111) ++ a0_4) ++ a0_5).size + x7_1.size) = False := eq_false (Nat.not_lt.2 c45)
           try (have c45b3 := c45; simp only [ByteArray.size_append, ByteArray.size_extract, Nat.sub_zero] at c45b3; have c45b4 := eq_false (Nat.not_lt.2 c45b3))
           simp only [Option.some.injEq, Prod.mk.injEq] at H
           obtain ⟨rfl, rfl⟩ := H
           have hcz46_0 : wr.cell? ⟨gb101, 0, none⟩ = some (.int .i64 a0_0) := (blk_cell BK101.out 0).trans rfl
           have hcz46_1 : wr.cell? ⟨gb101, 1, none⟩ = some (.int .i64 a0_1) := (blk_cell BK101.out 1).trans rfl
           have hcz46_2 : wr.cell? ⟨gb101, 2, none⟩ = some (.int .i64 a0_2) := (blk_cell BK101.out 2).trans rfl
           have hcz46_3 : wr.cell? ⟨gb101, 3, none⟩ = some (.int .i64 a0_3) := (blk_cell BK101.out 3).trans rfl
           have hcz46_4 : wr.cell? ⟨gb101, 4, none⟩ = some (.string a0_4) := (blk_cell BK101.out 4).trans rfl
           have hcz46_5 : wr.cell? ⟨gb101, 5, none⟩ = some (.string a0_5) := (blk_cell BK101.out 5).trans rfl
           have hcz46_6 : wr.cell? ⟨gb101, 6, none⟩ = some (.slice A0_6 l0_6.length c0_6) := (blk_cell BK101.out 6).trans rfl
           have hfz46_0 := blk_frozen BK101.out 0
           have hfz46_1 := blk_frozen BK101.out 1
           have hfz46_2 := blk_frozen BK101.out 2
           have hfz46_3 := blk_frozen BK101.out 3
           have hfz46_4 := blk_frozen BK101.out 4
           have hfz46_5 := blk_frozen BK101.out 5
           have hfz46_6 := blk_frozen BK101.out 6
           try go_wp2
           have n0_ := Aside0.mk (blk_drew BK101.out)
           have n1_ := Aside0.mk (below_drew1 HB.out)
           clear BK101
           clear HB
           have BK101 := n0_
           have HB := n1_
           clear n0_ n1_
           refine start_ (n := 32) (S := fun w' => w'.cell? ⟨gb101, 0, none⟩ = some (.int .i64 a0_0) ∧ w'.cell? ⟨gb101, 1, none⟩ = some (.int .i64 a0_1) ∧ w'.cell? ⟨gb101, 2, none⟩ = some (.int .i64 a0_2) ∧ w'.cell? ⟨gb101, 3, none⟩ = some (.int .i64 a0_3) ∧ w'.cell? ⟨gb101, 4, none⟩ = some (.string a0_4) ∧ w'.cell? ⟨gb101, 5, none⟩ = some (.string a0_5) ∧ w'.cell? ⟨gb101, 6, none⟩ = some (.slice A0_6 l0_6.length c0_6)) (ds := []) #[false, false, false, false, false, false, false, false, false, false, false, false, false, false, false, false, false, false, false, false, false, false, false, false, false, false, false, false, false, false, false, false] (by kernel_rfl) rfl rfl ⟨(blk_cell BK101.out 0).trans rfl, (blk_cell BK101.out 1).trans rfl, (blk_cell BK101.out 2).trans rfl, (blk_cell BK101.out 3).trans rfl, (blk_cell BK101.out 4).trans rfl, (blk_cell BK101.out 5).trans rfl, (blk_cell BK101.out 6).trans rfl⟩ (fun hHeld => ?_); refine with_tabW rillmeterref07_Put.tab12 rillmeterref07_Put.bits12 (fun HT_ HW_ => ?_)
           generalize wr.drew = w47 at BK101 HB hHeld ⊢
           refine pure_ (i := 0) (N := some 59) (v := ?_) (a' := ?_) #[true, false, false, false, false, false, false, false, false, false, false, false, false, false, false, false, false, false, false, false, false, false, false, false, false, false, false, false, false, false, false, false] rfl rfl (any_of HT_.out (by kernel_rfl)) (fun _ _ _ h => h) (Or.inl ⟨by rfl, ?_⟩) ?_ ?_
           rotate_left
           ·intro w'
            go_simp
            with_reducible rfl
           rotate_left
           ·simp only [Act.put, List.setIfInBounds_toArray, List.set_cons_zero, List.set_cons_succ, i64_w, i32_w]
            rfl
           refine pure_ (i := 1) (N := some 60) (v := ?_) (a' := ?_) #[true, true, false, false, false, false, false, false, false, false, false, false, false, false, false, false, false, false, false, false, false, false, false, false, false, false, false, false, false, false, false, false] rfl rfl (any_of HT_.out (by kernel_rfl)) (fun _ _ _ h => h) (Or.inl ⟨by rfl, ?_⟩) ?_ ?_
           rotate_left
           ·intro w'
            go_simp
            with_reducible rfl
           rotate_left
           ·simp only [Act.put, List.setIfInBounds_toArray, List.set_cons_zero, List.set_cons_succ, i64_w, i32_w]
            rfl
           refine pure_ (i := 3) (N := some 62) (v := ?_) (a' := ?_) #[true, true, false, true, false, false, false, false, false, false, false, false, false, false, false, false, false, false, false, false, false, false, false, false, false, false, false, false, false, false, false, false] rfl rfl (any_of HT_.out (by kernel_rfl)) (fun _ _ _ h => h) (Or.inl ⟨by rfl, ?_⟩) ?_ ?_
           rotate_left
           ·intro w'
            go_simp
            with_reducible rfl
           rotate_left
           ·simp only [Act.put, List.setIfInBounds_toArray, List.set_cons_zero, List.set_cons_succ, i64_w, i32_w]
            rfl
           refine pure_ (i := 4) (N := some 63) (v := ?_) (a' := ?_) #[true, true, false, true, true, false, false, false, false, false, false, false, false, false, false, false, false, false, false, false, false, false, false, false, false, false, false, false, false, false, false, false] rfl rfl (any_of HT_.out (by kernel_rfl)) (fun _ _ _ h => h) (Or.inl ⟨by rfl, ?_⟩) ?_ ?_
           rotate_left
           ·intro w'
            go_simp
            with_reducible rfl
           rotate_left
           ·simp only [Act.put, List.setIfInBounds_toArray, List.set_cons_zero, List.set_cons_succ, i64_w, i32_w]
            rfl
           refine pure_ (i := 7) (N := some 66) (v := ?_) (a' := ?_) #[true, true, false, true, true, false, false, true, false, false, false, false, false, false, false, false, false, false, false, false, false, false, false, false, false, false, false, false, false, false, false, false] rfl rfl (any_of HT_.out (by kernel_rfl)) (fun _ _ _ h => h) (Or.inl ⟨by rfl, ?_⟩) ?_ ?_
           rotate_left
           ·intro w'
            go_simp
            with_reducible rfl
           rotate_left
           ·simp only [Act.put, List.setIfInBounds_toArray, List.set_cons_zero, List.set_cons_succ, i64_w, i32_w]
            rfl
           refine pure_ (i := 8) (N := some 67) (v := ?_) (a' := ?_) #[true, true, false, true, true, false, false, true, true, false, false, false, false, false, false, false, false, false, false, false, false, false, false, false, false, false, false, false, false, false, false, false] rfl rfl (any_of HT_.out (by kernel_rfl)) (fun _ _ _ h => h) (Or.inl ⟨by rfl, ?_⟩) ?_ ?_
           rotate_left
           ·intro w'
            go_simp
            with_reducible rfl
           rotate_left
           ·simp only [Act.put, List.setIfInBounds_toArray, List.set_cons_zero, List.set_cons_succ, i64_w, i32_w]
            rfl
           refine pure_ (i := 9) (N := some 68) (v := ?_) (a' := ?_) #[true, true, false, true, true, false, false, true, true, true, false, false, false, false, false, false, false, false, false, false, false, false, false, false, false, false, false, false, false, false, false, false] rfl rfl (any_of HT_.out (by kernel_rfl)) (fun _ _ _ h => h) (Or.inl ⟨by rfl, ?_⟩) ?_ ?_
           rotate_left
           ·intro w'
            go_simp
            with_reducible rfl
           rotate_left
           ·simp only [Act.put, List.setIfInBounds_toArray, List.set_cons_zero, List.set_cons_succ, i64_w, i32_w]
            rfl
           refine pure_ (i := 12) (N := some 71) (v := ?_) (a' := ?_) #[true, true, false, true, true, false, false, true, true, true, false, false, true, false, false, false, false, false, false, false, false, false, false, false, false, false, false, false, false, false, false, false] rfl rfl (any_of HT_.out (by kernel_rfl)) (fun _ _ _ h => h) (Or.inl ⟨by rfl, ?_⟩) ?_ ?_
           rotate_left
           ·intro w'
            go_simp
            with_reducible rfl
           rotate_left
           ·simp only [Act.put, List.setIfInBounds_toArray, List.set_cons_zero, List.set_cons_succ, i64_w, i32_w]
            rfl
           refine pure_ (i := 15) (N := some 74) (v := ?_) (a' := ?_) #[true, true, false, true, true, false, false, true, true, true, false, false, true, false, false, true, false, false, false, false, false, false, false, false, false, false, false, false, false, false, false, false] rfl rfl (any_of HT_.out (by kernel_rfl)) (fun _ _ _ h => h) (Or.inl ⟨by rfl, ?_⟩) ?_ ?_
           rotate_left
           ·intro w'
            go_simp
            with_reducible rfl
           rotate_left
           ·simp only [Act.put, List.setIfInBounds_toArray, List.set_cons_zero, List.set_cons_succ, i64_w, i32_w]
            rfl
           refine pure_ (i := 19) (N := some 78) (v := ?_) (a' := ?_) #[true, true, false, true, true, false, false, true, true, true, false, false, true, false, false, true, false, false, false, true, false, false, false, false, false, false, false, false, false, false, false, false] rfl rfl (any_of HT_.out (by kernel_rfl)) (fun _ _ _ h => h) (Or.inl ⟨by rfl, ?_⟩) ?_ ?_
           rotate_left
           ·intro w'
            go_simp
            with_reducible rfl
           rotate_left
           ·simp only [Act.put, List.setIfInBounds_toArray, List.set_cons_zero, List.set_cons_succ, i64_w, i32_w]
            rfl
           refine pure_ (i := 22) (N := some 81) (v := ?_) (a' := ?_) #[true, true, false, true, true, false, false, true, true, true, false, false, true, false, false, true, false, false, false, true, false, false, true, false, false, false, false, false, false, false, false, false] rfl rfl (any_of HT_.out (by kernel_rfl)) (fun _ _ _ h => h) (Or.inl ⟨by rfl, ?_⟩) ?_ ?_
           rotate_left
           ·intro w'
            go_simp
            with_reducible rfl
           rotate_left
           ·simp only [Act.put, List.setIfInBounds_toArray, List.set_cons_zero, List.set_cons_succ, i64_w, i32_w]
            rfl
           refine pure_ (i := 25) (N := some 84) (v := ?_) (a' := ?_) #[true, true, false, true, true, false, false, true, true, true, false, false, true, false, false, true, false, false, false, true, false, false, true, false, false, true, false, false, false, false, false, false] rfl rfl (any_of HT_.out (by kernel_rfl)) (fun _ _ _ h => h) (Or.inl ⟨by rfl, ?_⟩) ?_ ?_
           rotate_left
           ·intro w'
            go_simp
            with_reducible rfl
           rotate_left
           ·simp only [Act.put, List.setIfInBounds_toArray, List.set_cons_zero, List.set_cons_succ, i64_w, i32_w]
            rfl
           refine pure_ (i := 27) (N := some 86) (v := ?_) (a' := ?_) #[true, true, false, true, true, false, false, true, true, true, false, false, true, false, false, true, false, false, false, true, false, false, true, false, false, true, false, true, false, false, false, false] rfl rfl (any_of HT_.out (by kernel_rfl)) (fun _ _ _ h => h) (Or.inl ⟨by rfl, ?_⟩) ?_ ?_
           rotate_left
           ·intro w'
            go_simp
            with_reducible rfl
           rotate_left
           ·simp only [Act.put, List.setIfInBounds_toArray, List.set_cons_zero, List.set_cons_succ, i64_w, i32_w]
            rfl
           refine pure_ (i := 28) (N := some 87) (v := ?_) (a' := ?_) #[true, true, false, true, true, false, false, true, true, true, false, false, true, false, false, true, false, false, false, true, false, false, true, false, false, true, false, true, true, false, false, false] rfl rfl (any_of HT_.out (by kernel_rfl)) (fun _ _ _ h => h) (Or.inl ⟨by rfl, ?_⟩) ?_ ?_
           rotate_left
           ·intro w'
            go_simp
            with_reducible rfl
           rotate_left
           ·simp only [Act.put, List.setIfInBounds_toArray, List.set_cons_zero, List.set_cons_succ, i64_w, i32_w]
            rfl
           refine pure_ (i := 29) (N := some 88) (v := ?_) (a' := ?_) #[true, true, false, true, true, false, false, true, true, true, false, false, true, false, false, true, false, false, false, true, false, false, true, false, false, true, false, true, true, true, false, false] rfl rfl (any_of HT_.out (by kernel_rfl)) (fun _ _ _ h => h) (Or.inl ⟨by rfl, ?_⟩) ?_ ?_
           rotate_left
           ·intro w'
            go_simp
            with_reducible rfl
           rotate_left
           ·simp only [Act.put, List.setIfInBounds_toArray, List.set_cons_zero, List.set_cons_succ, i64_w, i32_w]
            rfl
           refine take_ (i := 16) (N := some 75) (v := ?_) (a' := ?_) #[true, true, false, true, true, false, false, true, true, true, false, false, true, false, false, true, true, false, false, true, false, false, true, false, false, true, false, true, true, true, false, false] rfl rfl (take_ofW HT_.out HW_.out (by kernel_rfl)) (fun _ _ _ h => h) (Or.inl ⟨by rfl, ?_⟩) hHeld ?_ ?_
           rotate_left
           ·rintro w' ⟨s0, s1, s2, s3, s4, s5, s6⟩
            go_simp
            with_reducible rfl
           rotate_left
           ·simp only [Act.put, List.setIfInBounds_toArray, List.set_cons_zero, List.set_cons_succ, i64_w, i32_w]
            rfl
           refine take_ (i := 20) (N := some 79) (v := ?_) (a' := ?_) #[true, true, false, true, true, false, false, true, true, true, false, false, true, false, false, true, true, false, false, true, true, false, true, false, false, true, false, true, true, true, false, false] rfl rfl (take_ofW HT_.out HW_.out (by kernel_rfl)) (fun _ _ _ h => h) (Or.inl ⟨by rfl, ?_⟩) hHeld ?_ ?_
           rotate_left
           ·rintro w' ⟨s0, s1, s2, s3, s4, s5, s6⟩
            go_simp
            with_reducible rfl
           rotate_left
           ·simp only [Act.put, List.setIfInBounds_toArray, List.set_cons_zero, List.set_cons_succ, i64_w, i32_w]
            rfl
           refine take_ (i := 23) (N := some 82) (v := ?_) (a' := ?_) #[true, true, false, true, true, false, false, true, true, true, false, false, true, false, false, true, true, false, false, true, true, false, true, true, false, true, false, true, true, true, false, false] rfl rfl (take_ofW HT_.out HW_.out (by kernel_rfl)) (fun _ _ _ h => h) (Or.inl ⟨by rfl, ?_⟩) hHeld ?_ ?_
           rotate_left
           ·rintro w' ⟨s0, s1, s2, s3, s4, s5, s6⟩
            go_simp
            with_reducible rfl
           rotate_left
           ·simp only [Act.put, List.setIfInBounds_toArray, List.set_cons_zero, List.set_cons_succ, i64_w, i32_w]
            rfl
           refine one_ (i := 2) (N := some 61) #[true, true, true, true, true, false, false, true, true, true, false, false, true, false, false, true, true, false, false, true, true, false, true, true, false, true, false, true, true, true, false, false] rfl rfl (one_of HT_.out (by kernel_rfl)) (by decide) (fun K hK => ?_)
           refine goes_ Try.func32 (by kernel_rfl) rfl #[.int .i64 (wrap64 (Int.tdiv (wrap64 ((wrap64 (1610612736 + (wrap64 (1048576 * a0_0)))) + a0_1)) 65536))] (by rfl) rfl rfl (by (try simp only [List.map_toArray, List.map_cons, List.map_nil]); first | done | rfl | (simp only [List.length_drop, List.length_take]; rfl) | (simp only [ByteArray.size_append, ByteArray.size_extract, Nat.sub_zero, Int.natCast_add]; rfl) | (simp [ByteArray.size_append]; done)) ?_
           with_reducible refine (rillmeterref07_two.calls (wrap64 (Int.tdiv (wrap64 ((wrap64 (1610612736 + (wrap64 (1048576 * a0_0)))) + a0_1)) 65536)) t107 _ A34.out).mono ?_
           rintro e w48 ⟨rfl, hb⟩
           refine ⟨_, rfl, ?_⟩
           have n0_ := Aside0.mk (blk_below (g := gb101) (o := .cells #[.int .i64 a0_0, .int .i64 a0_1, .int .i64 a0_2, .int .i64 a0_3, .string a0_4, .string a0_5, .slice A0_6 l0_6.length c0_6] 31 (0, 0)) (by (with_reducible repeat first | apply pN_ | apply pD_ | apply pA_); exact BK101.out) hb)
           have n1_ := Aside0.mk (below_step (bU_ HB.out) hb)
           clear BK101
           clear HB
           have BK101 := n0_
           have HB := n1_
           clear n0_ n1_
           (try clear hb)
           (try clear hb2)
           (try clear hk)
           (try clear hi)
           refine hK.out _ _ ⟨(blk_cell BK101.out 0).trans rfl, (blk_cell BK101.out 1).trans rfl, (blk_cell BK101.out 2).trans rfl, (blk_cell BK101.out 3).trans rfl, (blk_cell BK101.out 4).trans rfl, (blk_cell BK101.out 5).trans rfl, (blk_cell BK101.out 6).trans rfl⟩ (fun hHeld => ?_)
           clear hK K
           refine norm_ (a' := ?_) ?_ ?_
           rotate_left
           ·show Act.put _ (some 61) _ = _
            simp only [Act.put, List.setIfInBounds_toArray, List.set_cons_zero, List.set_cons_succ, i64_w, i32_w]
            rfl
           refine one_ (i := 5) (N := some 64) #[true, true, true, true, true, true, false, true, true, true, false, false, true, false, false, true, true, false, false, true, true, false, true, true, false, true, false, true, true, true, false, false] rfl rfl (one_of HT_.out (by kernel_rfl)) (by decide) (fun K hK => ?_)
           refine goes_ Try.func32 (by kernel_rfl) rfl #[.int .i64 (Int.tmod (wrap64 ((wrap64 (1610612736 + (wrap64 (1048576 * a0_0)))) + a0_1)) 65536)] (by rfl) rfl rfl (by (try simp only [List.map_toArray, List.map_cons, List.map_nil]); first | done | rfl | (simp only [List.length_drop, List.length_take]; rfl) | (simp only [ByteArray.size_append, ByteArray.size_extract, Nat.sub_zero, Int.natCast_add]; rfl) | (simp [ByteArray.size_append]; done)) ?_
           with_reducible refine (rillmeterref07_two.calls (Int.tmod (wrap64 ((wrap64 (1610612736 + (wrap64 (1048576 * a0_0)))) + a0_1)) 65536) t108 _ A35.out).mono ?_
           rintro e w49 ⟨rfl, hb⟩
           refine ⟨_, rfl, ?_⟩
           have n0_ := Aside0.mk (blk_below (g := gb101) (o := .cells #[.int .i64 a0_0, .int .i64 a0_1, .int .i64 a0_2, .int .i64 a0_3, .string a0_4, .string a0_5, .slice A0_6 l0_6.length c0_6] 31 (0, 0)) (by (with_reducible repeat first | apply pN_ | apply pD_ | apply pA_); exact BK101.out) hb)
           have n1_ := Aside0.mk (below_step (bU_ HB.out) hb)
           clear BK101
           clear HB
           have BK101 := n0_
           have HB := n1_
           clear n0_ n1_
           (try clear hb)
           (try clear hb2)
           (try clear hk)
           (try clear hi)
           refine hK.out _ _ ⟨(blk_cell BK101.out 0).trans rfl, (blk_cell BK101.out 1).trans rfl, (blk_cell BK101.out 2).trans rfl, (blk_cell BK101.out 3).trans rfl, (blk_cell BK101.out 4).trans rfl, (blk_cell BK101.out 5).trans rfl, (blk_cell BK101.out 6).trans rfl⟩ (fun hHeld => ?_)
           clear hK K
           refine norm_ (a' := ?_) ?_ ?_
           rotate_left
           ·show Act.put _ (some 64) _ = _
            simp only [Act.put, List.setIfInBounds_toArray, List.set_cons_zero, List.set_cons_succ, i64_w, i32_w]
            rfl
           refine pure_ (i := 6) (N := some 65) (v := ?_) (a' := ?_) #[true, true, true, true, true, true, true, true, true, true, false, false, true, false, false, true, true, false, false, true, true, false, true, true, false, true, false, true, true, true, false, false] rfl rfl (any_of HT_.out (by kernel_rfl)) (fun _ _ _ h => h) (Or.inl ⟨by rfl, ?_⟩) ?_ ?_
           rotate_left
           ·intro w'
            go_simp
            with_reducible rfl
           rotate_left
           ·simp only [Act.put, List.setIfInBounds_toArray, List.set_cons_zero, List.set_cons_succ, i64_w, i32_w]
            rfl
           refine one_ (i := 10) (N := some 69) #[true, true, true, true, true, true, true, true, true, true, true, false, true, false, false, true, true, false, false, true, true, false, true, true, false, true, false, true, true, true, false, false] rfl rfl (one_of HT_.out (by kernel_rfl)) (by decide) (fun K hK => ?_)
           refine goes_ Try.func32 (by kernel_rfl) rfl #[.int .i64 ((x7_1.size : Int) % 65536)] (by rfl) rfl rfl (by (try simp only [List.map_toArray, List.map_cons, List.map_nil]); first | done | rfl | (simp only [List.length_drop, List.length_take]; rfl) | (simp only [ByteArray.size_append, ByteArray.size_extract, Nat.sub_zero, Int.natCast_add]; rfl) | (simp [ByteArray.size_append]; done)) ?_
           with_reducible refine (rillmeterref07_two.calls ((x7_1.size : Int) % 65536) t109 _ A37.out).mono ?_
           rintro e w50 ⟨rfl, hb⟩
           refine ⟨_, rfl, ?_⟩
           have n0_ := Aside0.mk (blk_below (g := gb101) (o := .cells #[.int .i64 a0_0, .int .i64 a0_1, .int .i64 a0_2, .int .i64 a0_3, .string a0_4, .string a0_5, .slice A0_6 l0_6.length c0_6] 31 (0, 0)) (by (with_reducible repeat first | apply pN_ | apply pD_ | apply pA_); exact BK101.out) hb)
           have n1_ := Aside0.mk (below_step (bU_ HB.out) hb)
           clear BK101
           clear HB
           have BK101 := n0_
           have HB := n1_
           clear n0_ n1_
           (try clear hb)
           (try clear hb2)
           (try clear hk)
           (try clear hi)
           refine hK.out _ _ ⟨(blk_cell BK101.out 0).trans rfl, (blk_cell BK101.out 1).trans rfl, (blk_cell BK101.out 2).trans rfl, (blk_cell BK101.out 3).trans rfl, (blk_cell BK101.out 4).trans rfl, (blk_cell BK101.out 5).trans rfl, (blk_cell BK101.out 6).trans rfl⟩ (fun hHeld => ?_)
           clear hK K
           refine norm_ (a' := ?_) ?_ ?_
           rotate_left
           ·show Act.put _ (some 69) _ = _
            simp only [Act.put, List.setIfInBounds_toArray, List.set_cons_zero, List.set_cons_succ, i64_w, i32_w]
            rfl
           refine pure_ (i := 11) (N := some 70) (v := ?_) (a' := ?_) #[true, true, true, true, true, true, true, true, true, true, true, true, true, false, false, true, true, false, false, true, true, false, true, true, false, true, false, true, true, true, false, false] rfl rfl (any_of HT_.out (by kernel_rfl)) (fun _ _ _ h => h) (Or.inl ⟨by rfl, ?_⟩) ?_ ?_
           rotate_left
           ·intro w'
            go_simp
            with_reducible rfl
           rotate_left
           ·simp only [Act.put, List.setIfInBounds_toArray, List.set_cons_zero, List.set_cons_succ, i64_w, i32_w]
            rfl
           refine one_ (i := 13) (N := some 72) #[true, true, true, true, true, true, true, true, true, true, true, true, true, true, false, true, true, false, false, true, true, false, true, true, false, true, false, true, true, true, false, false] rfl rfl (one_of HT_.out (by kernel_rfl)) (by decide) (fun K hK => ?_)
           refine goes_ Try.func31 (by kernel_rfl) rfl #[.int .i64 x6_1] (by rfl) rfl rfl (by (try simp only [List.map_toArray, List.map_cons, List.map_nil]); first | done | rfl | (simp only [List.length_drop, List.length_take]; rfl) | (simp only [ByteArray.size_append, ByteArray.size_extract, Nat.sub_zero, Int.natCast_add]; rfl) | (simp [ByteArray.size_append]; done)) ?_
           with_reducible refine (rillmeterref07_one.calls x6_1 t110 _ A39.out).mono ?_
           rintro e w51 ⟨rfl, hb⟩
           refine ⟨_, rfl, ?_⟩
           have n0_ := Aside0.mk (blk_below (g := gb101) (o := .cells #[.int .i64 a0_0, .int .i64 a0_1, .int .i64 a0_2, .int .i64 a0_3, .string a0_4, .string a0_5, .slice A0_6 l0_6.length c0_6] 31 (0, 0)) (by (with_reducible repeat first | apply pN_ | apply pD_ | apply pA_); exact BK101.out) hb)
           have n1_ := Aside0.mk (below_step (bU_ HB.out) hb)
           clear BK101
           clear HB
           have BK101 := n0_
           have HB := n1_
           clear n0_ n1_
           (try clear hb)
           (try clear hb2)
           (try clear hk)
           (try clear hi)
           refine hK.out _ _ ⟨(blk_cell BK101.out 0).trans rfl, (blk_cell BK101.out 1).trans rfl, (blk_cell BK101.out 2).trans rfl, (blk_cell BK101.out 3).trans rfl, (blk_cell BK101.out 4).trans rfl, (blk_cell BK101.out 5).trans rfl, (blk_cell BK101.out 6).trans rfl⟩ (fun hHeld => ?_)
           clear hK K
           refine norm_ (a' := ?_) ?_ ?_
           rotate_left
           ·show Act.put _ (some 72) _ = _
            simp only [Act.put, List.setIfInBounds_toArray, List.set_cons_zero, List.set_cons_succ, i64_w, i32_w]
            rfl
           refine pure_ (i := 14) (N := some 73) (v := ?_) (a' := ?_) #[true, true, true, true, true, true, true, true, true, true, true, true, true, true, true, true, true, false, false, true, true, false, true, true, false, true, false, true, true, true, false, false] rfl rfl (any_of HT_.out (by kernel_rfl)) (fun _ _ _ h => h) (Or.inl ⟨by rfl, ?_⟩) ?_ ?_
           rotate_left
           ·intro w'
            go_simp
            with_reducible rfl
           rotate_left
           ·simp only [Act.put, List.setIfInBounds_toArray, List.set_cons_zero, List.set_cons_succ, i64_w, i32_w]
            rfl
           refine one_ (i := 17) (N := some 76) #[true, true, true, true, true, true, true, true, true, true, true, true, true, true, true, true, true, true, false, true, true, false, true, true, false, true, false, true, true, true, false, false] rfl rfl (one_of HT_.out (by kernel_rfl)) (by decide) (fun K hK => ?_)
           refine goes_ Try.func31 (by kernel_rfl) rfl #[.int .i64 a0_2] (by rfl) rfl rfl (by (try simp only [List.map_toArray, List.map_cons, List.map_nil]); first | done | rfl | (simp only [List.length_drop, List.length_take]; rfl) | (simp only [ByteArray.size_append, ByteArray.size_extract, Nat.sub_zero, Int.natCast_add]; rfl) | (simp [ByteArray.size_append]; done)) ?_
           with_reducible refine (rillmeterref07_one.calls a0_2 t111 _ A41.out).mono ?_
           rintro e w52 ⟨rfl, hb⟩
           refine ⟨_, rfl, ?_⟩
           have n0_ := Aside0.mk (blk_below (g := gb101) (o := .cells #[.int .i64 a0_0, .int .i64 a0_1, .int .i64 a0_2, .int .i64 a0_3, .string a0_4, .string a0_5, .slice A0_6 l0_6.length c0_6] 31 (0, 0)) (by (with_reducible repeat first | apply pN_ | apply pD_ | apply pA_); exact BK101.out) hb)
           have n1_ := Aside0.mk (below_step (bU_ HB.out) hb)
           clear BK101
           clear HB
           have BK101 := n0_
           have HB := n1_
           clear n0_ n1_
           (try clear hb)
           (try clear hb2)
           (try clear hk)
           (try clear hi)
           refine hK.out _ _ ⟨(blk_cell BK101.out 0).trans rfl, (blk_cell BK101.out 1).trans rfl, (blk_cell BK101.out 2).trans rfl, (blk_cell BK101.out 3).trans rfl, (blk_cell BK101.out 4).trans rfl, (blk_cell BK101.out 5).trans rfl, (blk_cell BK101.out 6).trans rfl⟩ (fun hHeld => ?_)
           clear hK K
           refine norm_ (a' := ?_) ?_ ?_
           rotate_left
           ·show Act.put _ (some 76) _ = _
            simp only [Act.put, List.setIfInBounds_toArray, List.set_cons_zero, List.set_cons_succ, i64_w, i32_w]
            rfl
           refine pure_ (i := 18) (N := some 77) (v := ?_) (a' := ?_) #[true, true, true, true, true, true, true, true, true, true, true, true, true, true, true, true, true, true, true, true, true, false, true, true, false, true, false, true, true, true, false, false] rfl rfl (any_of HT_.out (by kernel_rfl)) (fun _ _ _ h => h) (Or.inl ⟨by rfl, ?_⟩) ?_ ?_
           rotate_left
           ·intro w'
            go_simp
            with_reducible rfl
           rotate_left
           ·simp only [Act.put, List.setIfInBounds_toArray, List.set_cons_zero, List.set_cons_succ, i64_w, i32_w]
            rfl
           refine pure_ (i := 21) (N := some 80) (v := ?_) (a' := ?_) #[true, true, true, true, true, true, true, true, true, true, true, true, true, true, true, true, true, true, true, true, true, true, true, true, false, true, false, true, true, true, false, false] rfl rfl (any_of HT_.out (by kernel_rfl)) (fun _ _ _ h => h) (Or.inl ⟨by rfl, ?_⟩) ?_ ?_
           rotate_left
           ·intro w'
            go_simp
            with_reducible rfl
           rotate_left
           ·simp only [Act.put, List.setIfInBounds_toArray, List.set_cons_zero, List.set_cons_succ, i64_w, i32_w]
            rfl
           refine pure_ (i := 24) (N := some 83) (v := ?_) (a' := ?_) #[true, true, true, true, true, true, true, true, true, true, true, true, true, true, true, true, true, true, true, true, true, true, true, true, true, true, false, true, true, true, false, false] rfl rfl (any_of HT_.out (by kernel_rfl)) (fun _ _ _ h => h) (Or.inl ⟨by rfl, ?_⟩) ?_ ?_
           rotate_left
           ·intro w'
            go_simp
            with_reducible rfl
           rotate_left
           ·simp only [Act.put, List.setIfInBounds_toArray, List.set_cons_zero, List.set_cons_succ, i64_w, i32_w]
            rfl
           refine pure_ (i := 26) (N := some 85) (v := ?_) (a' := ?_) #[true, true, true, true, true, true, true, true, true, true, true, true, true, true, true, true, true, true, true, true, true, true, true, true, true, true, true, true, true, true, false, false] rfl rfl (any_of HT_.out (by kernel_rfl)) (fun _ _ _ h => h) (Or.inl ⟨by rfl, ?_⟩) ?_ ?_
           rotate_left
           ·intro w'
            go_simp
            with_reducible rfl
           rotate_left
           ·simp only [Act.put, List.setIfInBounds_toArray, List.set_cons_zero, List.set_cons_succ, i64_w, i32_w]
            rfl
           refine pure_ (i := 30) (N := some 4) (v := ?_) (a' := ?_) #[true, true, true, true, true, true, true, true, true, true, true, true, true, true, true, true, true, true, true, true, true, true, true, true, true, true, true, true, true, true, true, false] rfl rfl (any_of HT_.out (by kernel_rfl)) (fun _ _ _ h => h) (Or.inl ⟨by rfl, ?_⟩) ?_ ?_
           rotate_left
           ·intro w'
            go_simp
            with_reducible rfl
           rotate_left
           ·simp only [Act.put, List.setIfInBounds_toArray, List.set_cons_zero, List.set_cons_succ, i64_w, i32_w]
            rfl
           refine pure_ (i := 31) (N := some 5) (v := ?_) (a' := ?_) #[true, true, true, true, true, true, true, true, true, true, true, true, true, true, true, true, true, true, true, true, true, true, true, true, true, true, true, true, true, true, true, true] rfl rfl (any_of HT_.out (by kernel_rfl)) (fun _ _ _ h => h) (Or.inl ⟨by rfl, ?_⟩) ?_ ?_
           rotate_left
           ·intro w'
            go_simp
            with_reducible rfl
           rotate_left
           ·simp only [Act.put, List.setIfInBounds_toArray, List.set_cons_zero, List.set_cons_succ, i64_w, i32_w]
            rfl
           refine done_ (done_of HT_.out (by kernel_rfl)) ?_
           try go_wp2
           go_ret2
           exact ⟨by first | rfl | (simp [errW_none, errW_some] <;> rfl) | (simp [*, errW_none, errW_some] <;> rfl), bU_ HB.out⟩
          ·rw [if_neg c45] at H
           exact absurd H (by simp)
         ·rw [if_neg c44] at H
          exact absurd H (by simp)
        ·rw [if_neg c43] at H
         exact absurd H (by simp)
       ·rw [if_neg c42] at H
        exact absurd H (by simp)
      ·rw [if_neg c40] at H
       exact absurd H (by simp)
     ·rw [if_neg c38] at H
      exact absurd H (by simp)
    ·rw [if_neg c36] at H
     exact absurd H (by simp)

end Go.Proofs.Ytmjpemnlilcpkaa.Q
