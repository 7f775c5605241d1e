-- made by a program of this session (wip/print-patch.py, over the kit's print)
import Derived.Test.YtdmofjhncdkofaaQx0
import Derived.Test.YtdmofjhncdkofaaQx1
import Derived.Test.YtdmofjhncdkofaaQx3
namespace Go.Proofs.Ytdmofjhncdkofaa.Q
open Go.RowKit Go.Proofs.YtdmofjhncdkofaaW.PrintWords Go.Proofs.YtdmofjhncdkofaaW.PrintLast Go.Proofs.YtdmofjhncdkofaaW.PrintMore
attribute [local go_sem] max2_int min2_int max_two min_two max_three min_three max_four min_four   -- for this text's walks alone
set_option linter.unusedVariables false
set_option linter.unusedSimpArgs false

attribute [local go_sem] cell_twice_ cell_twiceN_
/-! ### ipfour_Put: function 8 -/
def ipfour_Put.j0 : Nat → ByteArray → Int → Bool → Int → Int → Int → Int → Int → Int → ByteArray → ByteArray → ByteArray → Option (ByteArray × Int)
 | 0, _, _, _, _, _, _, _, _, _, _, _, _ => none
 | k + 1, x1, x6, x22, x102000, x102001, x102002, x102003, x102004, x102005, x102006, x102007, x102008 => if x22 = true then (some ((⟨#[]⟩ : ByteArray), 1)) else ((ipfour_put.f k (wrap64 (64 + (wrap64 (Int.tdiv x6 4)))) 1).bind fun t103 => ((ipfour_put.f k x102000 1).bind fun t104 => (if t103.size + t104.size ≤ 9223372036854775807 then ((ipfour_put.f k (wrap64 (x6 + (x1.size : Int))) 2).bind fun t105 => (if (t103 ++ t104).size + t105.size ≤ 9223372036854775807 then ((ipfour_put.f k x102001 2).bind fun t106 => (if ((t103 ++ t104) ++ t105).size + t106.size ≤ 9223372036854775807 then ((ipfour_put.f k (wrap64 ((wrap64 (x102002 * 8192)) + x102003)) 2).bind fun t107 => (if (((t103 ++ t104) ++ t105) ++ t106).size + t107.size ≤ 9223372036854775807 then ((ipfour_put.f k x102004 1).bind fun t108 => (if ((((t103 ++ t104) ++ t105) ++ t106) ++ t107).size + t108.size ≤ 9223372036854775807 then ((ipfour_put.f k x102005 1).bind fun t109 => (if (((((t103 ++ t104) ++ t105) ++ t106) ++ t107) ++ t108).size + t109.size ≤ 9223372036854775807 then (if x102006.size + x102007.size ≤ 9223372036854775807 then (if (x102006 ++ x102007).size + x102008.size ≤ 9223372036854775807 then (if ((((((t103 ++ t104) ++ t105) ++ t106) ++ t107) ++ t108) ++ t109).size + 2 ≤ 9223372036854775807 then (if (((((((t103 ++ t104) ++ t105) ++ t106) ++ t107) ++ t108) ++ t109) ++ (⟨#[0, 0]⟩ : ByteArray)).size + ((x102006 ++ x102007) ++ x102008).size ≤ 9223372036854775807 then ((octet_Sum.f k ((((((((t103 ++ t104) ++ t105) ++ t106) ++ t107) ++ t108) ++ t109) ++ (⟨#[0, 0]⟩ : ByteArray)) ++ ((x102006 ++ x102007) ++ x102008))).bind fun t110 => ((ipfour_put.f k t110 2).bind fun t111 => (if ((((((t103 ++ t104) ++ t105) ++ t106) ++ t107) ++ t108) ++ t109).size + t111.size ≤ 9223372036854775807 then (if (((((((t103 ++ t104) ++ t105) ++ t106) ++ t107) ++ t108) ++ t109) ++ t111).size + ((x102006 ++ x102007) ++ x102008).size ≤ 9223372036854775807 then (if ((((((((t103 ++ t104) ++ t105) ++ t106) ++ t107) ++ t108) ++ t109) ++ t111) ++ ((x102006 ++ x102007) ++ x102008)).size + x1.size ≤ 9223372036854775807 then (some (((((((((t103 ++ t104) ++ t105) ++ t106) ++ t107) ++ t108) ++ t109) ++ t111) ++ ((x102006 ++ x102007) ++ x102008)) ++ x1, 0)) else (none)) else (none)) else (none)))) else (none)) else (none)) else (none)) else (none)) else (none))) else (none))) else (none))) else (none))) else (none))) else (none))))
def ipfour_Put.f (k : Nat) (a0_0 : Int) (a0_1 : Int) (a0_2 : Int) (a0_3 : Int) (a0_4 : Int) (a0_5 : Int) (a0_6 : ByteArray) (a0_7 : ByteArray) (a0_8 : ByteArray) (a1 : ByteArray) : Option (ByteArray × Int) := (ipfour_Right.f a0_0 a0_1 a0_2 a0_3 a0_4 a0_5 a0_6 a0_7 a0_8).bind fun t102 => (if t102 = true then (ipfour_Put.j0 k a1 (wrap64 (20 + (a0_8.size : Int))) (decide ((wrap64 ((wrap64 (20 + (a0_8.size : Int))) + (a1.size : Int))) > 65535)) a0_0 a0_1 a0_2 a0_3 a0_4 a0_5 a0_6 a0_7 a0_8) else (ipfour_Put.j0 k a1 (wrap64 (20 + (a0_8.size : Int))) true a0_0 a0_1 a0_2 a0_3 a0_4 a0_5 a0_6 a0_7 a0_8))
theorem ipfour_Put.mono_l : ∀ k, (∀ y0 y1 y2 y3 y4 y5 y6 y7 y8 y9 y10 y11, LeO (ipfour_Put.j0 k y0 y1 y2 y3 y4 y5 y6 y7 y8 y9 y10 y11) (ipfour_Put.j0 (k + 1) y0 y1 y2 y3 y4 y5 y6 y7 y8 y9 y10 y11))
 | 0 => fun _ _ _ _ _ _ _ _ _ _ _ _ r h => by simp [ipfour_Put.j0] at h
 | k + 1 => by
  have ih0 := ipfour_Put.mono_l k
  ·intro y0 y1 y2 y3 y4 y5 y6 y7 y8 y9 y10 y11
   unfold ipfour_Put.j0
   repeat' first
   | (with_reducible exact ih0 _ _ _ _ _ _ _ _ _ _ _ _)
   | (with_reducible exact ipfour_put.mono _ _ _)
   | (with_reducible exact octet_Sum.mono _ _)
   | (with_reducible exact LeO.refl _)
   | (with_reducible exact LeO.none _)
   | (with_reducible refine LeO.ite ?_ ?_)
   | (with_reducible refine LeO.bind ?_ (fun _ => ?_))
   | exact ih0 _ _ _ _ _ _ _ _ _ _ _ _
   | exact ipfour_put.mono _ _ _
   | exact octet_Sum.mono _ _
   | exact LeO.none _
   | refine LeO.ite ?_ ?_
   | refine LeO.bind ?_ (fun _ => ?_)
theorem ipfour_Put.mono : ∀ a0 a1 a2 a3 a4 a5 a6 a7 a8 a9 k, LeO (ipfour_Put.f k a0 a1 a2 a3 a4 a5 a6 a7 a8 a9) (ipfour_Put.f (k + 1) a0 a1 a2 a3 a4 a5 a6 a7 a8 a9) := by
 intro a0 a1 a2 a3 a4 a5 a6 a7 a8 a9 k
 have ih0 := ipfour_Put.mono_l k
 unfold ipfour_Put.f
 repeat' first
   | (with_reducible exact ih0 _ _ _ _ _ _ _ _ _ _ _ _)
   | (with_reducible exact ipfour_put.mono _ _ _)
   | (with_reducible exact octet_Sum.mono _ _)
   | (with_reducible exact LeO.refl _)
   | (with_reducible exact LeO.none _)
   | (with_reducible refine LeO.ite ?_ ?_)
   | (with_reducible refine LeO.bind ?_ (fun _ => ?_))
   | exact ih0 _ _ _ _ _ _ _ _ _ _ _ _
   | exact ipfour_put.mono _ _ _
   | exact octet_Sum.mono _ _
   | exact LeO.none _
   | refine LeO.ite ?_ ?_
   | refine LeO.bind ?_ (fun _ => ?_)
def ipfour_Put.T4 : Bool × List (List Nat × List Nat) := (true, [([], []), ([0], [0]), ([1], [1]), ([2], [2]), ([], []), ([4], [4]), ([5, 3], [5]), ([3, 6], [3, 6]), ([], []), ([], []), ([9], [9]), ([8, 10], [8, 10]), ([11, 6], [11]), ([7, 12], [7, 12]), ([], []), ([14], [14]), ([15, 12], [15]), ([13, 16], [13, 16]), ([], []), ([18], [18]), ([19], [19]), ([], []), ([21], [21]), ([20, 22], [20, 22]), ([23, 16], [23]), ([17, 24], [17, 24]), ([], []), ([26], [26]), ([27, 24], [27]), ([25, 28], [25, 28]), ([], []), ([30], [30]), ([31, 28], [31]), ([29, 32], [29, 32]), ([33, 32, 0, 1, 2, 3, 4, 5, 6, 7, 8, 9, 10, 11, 12, 13, 14, 15, 16, 17, 18, 19, 20, 21, 22, 23, 24, 25, 26, 27, 28, 29, 30, 31, 32, 33], [33])])
def ipfour_Put.B4 : List Nat := [0, 1, 3, 7, 0, 16, 63, 127, 0, 0, 512, 1792, 3967, 8191, 0, 16384, 57215, 131071, 0, 262144, 786432, 0, 2097152, 8126464, 16637823, 33554431, 0, 67108864, 234741631, 536870911, 0, 1073741824, 3724402559, 8589934591, 17179869183]
theorem ipfour_Put.tab4 : rtab .any (opsOf Try.f8 4) = ipfour_Put.T4 := by kernel_rfl
theorem ipfour_Put.bits4 : waitsOk ipfour_Put.T4.2 ipfour_Put.B4 = true := by kernel_rfl
set_option maxHeartbeats 8000000 in
set_option maxRecDepth 100000 in
theorem ipfour_Put.calls (k : Nat) (a0_0 : Int) (a0_1 : Int) (a0_2 : Int) (a0_3 : Int) (a0_4 : Int) (a0_5 : Int) (a0_6 : ByteArray) (a0_7 : ByteArray) (a0_8 : ByteArray) (a1 : ByteArray) (r1 : ByteArray) (r2 : Int) (w : World) (h : ipfour_Put.f k a0_0 a0_1 a0_2 a0_3 a0_4 a0_5 a0_6 a0_7 a0_8 a1 = some (r1, r2)) :
  Calls Try.prog 8 #[.agg #[.int .i64 a0_0, .int .i64 a0_1, .int .i64 a0_2, .int .i64 a0_3, .int .i64 a0_4, .int .i64 a0_5, .string a0_6, .string a0_7, .string a0_8], .string a1] w fun e w' => e = .returned (.tuple #[.string r1, .int .i64 r2]) ∧ Below w.heap.size w w' := by
 have hu27 := Try.underlying27
 have HB := Aside0.mk (Below.refl w.heap.size w)
 have H : ((ipfour_Right.f a0_0 a0_1 a0_2 a0_3 a0_4 a0_5 a0_6 a0_7 a0_8).bind fun t102 => (if t102 = true then (ipfour_Put.j0 k a1 (wrap64 (20 + (a0_8.size : Int))) (decide ((wrap64 ((wrap64 (20 + (a0_8.size : Int))) + (a1.size : Int))) > 65535)) a0_0 a0_1 a0_2 a0_3 a0_4 a0_5 a0_6 a0_7 a0_8) else (ipfour_Put.j0 k a1 (wrap64 (20 + (a0_8.size : Int))) true a0_0 a0_1 a0_2 a0_3 a0_4 a0_5 a0_6 a0_7 a0_8))) = some (r1, r2) := h
 clear h
 have HC3 := Aside0.mk H
 clear H
 go_enter Try.func8, Try.ntmps8
 go_upto_region 2 with (first | ((with_reducible refine gate_dst (N := 2) rfl ?_); (try (refine gate_guard (by rfl) ?_; dsimp only)); refine box_event ?hg (N := 2) ?hd (cs := #[.int .i64 a0_0, .int .i64 a0_1, .int .i64 a0_2, .int .i64 a0_3, .int .i64 a0_4, .int .i64 a0_5, .string a0_6, .string a0_7, .string a0_8]) (t := 27) ?hr ?_; (case hd => rfl); (case hg => rfl); (case hr => first | (go_simp; done) | (go_simp; rfl)); intro gb101 hg w4 hbox hb; have n0_ := Aside0.mk (below_step (bU_ HB.out) hb); have n1_ := Aside0.mk (hbox); have n2_ := Aside0.mk (bZ_ hg (bU_ HB.out) : w.heap.size ≤ gb101); have n3_ := n2_; clear HB; have HB := n0_; have BK101 := n1_; have GW101 := n2_; have GE101 := n3_; clear n0_ n1_ n2_ n3_; clear hb hbox hg; have hcz5_0 : w4.cell? ⟨gb101, 0, none⟩ = some (.int .i64 a0_0) := (blk_cell BK101.out 0).trans rfl; have hcz5_1 : w4.cell? ⟨gb101, 1, none⟩ = some (.int .i64 a0_1) := (blk_cell BK101.out 1).trans rfl; have hcz5_2 : w4.cell? ⟨gb101, 2, none⟩ = some (.int .i64 a0_2) := (blk_cell BK101.out 2).trans rfl; have hcz5_3 : w4.cell? ⟨gb101, 3, none⟩ = some (.int .i64 a0_3) := (blk_cell BK101.out 3).trans rfl; have hcz5_4 : w4.cell? ⟨gb101, 4, none⟩ = some (.int .i64 a0_4) := (blk_cell BK101.out 4).trans rfl; have hcz5_5 : w4.cell? ⟨gb101, 5, none⟩ = some (.int .i64 a0_5) := (blk_cell BK101.out 5).trans rfl; have hcz5_6 : w4.cell? ⟨gb101, 6, none⟩ = some (.string a0_6) := (blk_cell BK101.out 6).trans rfl; have hcz5_7 : w4.cell? ⟨gb101, 7, none⟩ = some (.string a0_7) := (blk_cell BK101.out 7).trans rfl; have hcz5_8 : w4.cell? ⟨gb101, 8, none⟩ = some (.string a0_8) := (blk_cell BK101.out 8).trans rfl; have hfz5_0 := blk_frozen BK101.out 0; have hfz5_1 := blk_frozen BK101.out 1; have hfz5_2 := blk_frozen BK101.out 2; have hfz5_3 := blk_frozen BK101.out 3; have hfz5_4 := blk_frozen BK101.out 4; have hfz5_5 := blk_frozen BK101.out 5; have hfz5_6 := blk_frozen BK101.out 6; have hfz5_7 := blk_frozen BK101.out 7; have hfz5_8 := blk_frozen BK101.out 8))
 (try simp only [Act.put, s1_, s2_, s3_])
 go_cut [22] (fun v22 wc => ∃ (kq : Nat) (x22_2 : Bool), v22 = .bool x22_2 ∧ Aside0 (ipfour_Put.j0 kq a1 (wrap64 (20 + (a0_8.size : Int))) x22_2 a0_0 a0_1 a0_2 a0_3 a0_4 a0_5 a0_6 a0_7 a0_8 = some (r1, r2)) ∧ Aside0 (kq ≤ k) ∧ Aside0 (wc.heap[gb101]? = some (.cells #[.int .i64 a0_0, .int .i64 a0_1, .int .i64 a0_2, .int .i64 a0_3, .int .i64 a0_4, .int .i64 a0_5, .string a0_6, .string a0_7, .string a0_8] 27 (0, 0))) ∧ Aside0 (Below w.heap.size w wc))
 case first =>
  have H := HC3.out
  clear HC3
  replace H := Option.bind_eq_some_iff.mp H
  obtain ⟨t102, A60, H⟩ := H
  replace H : (if t102 = true then (ipfour_Put.j0 k a1 (wrap64 (20 + (a0_8.size : Int))) (decide ((wrap64 ((wrap64 (20 + (a0_8.size : Int))) + (a1.size : Int))) > 65535)) a0_0 a0_1 a0_2 a0_3 a0_4 a0_5 a0_6 a0_7 a0_8) else (ipfour_Put.j0 k a1 (wrap64 (20 + (a0_8.size : Int))) true a0_0 a0_1 a0_2 a0_3 a0_4 a0_5 a0_6 a0_7 a0_8)) = some (r1, r2) := H
  have A6 := Aside0.mk A60
  clear A60
  by_cases c7 : t102 = true
  ·subst c7
   have H1 : (ipfour_Put.j0 k a1 (wrap64 (20 + (a0_8.size : Int))) (decide ((wrap64 ((wrap64 (20 + (a0_8.size : Int))) + (a1.size : Int))) > 65535)) a0_0 a0_1 a0_2 a0_3 a0_4 a0_5 a0_6 a0_7 a0_8) = some (r1, r2) := by rw [if_pos rfl] at H; exact H
   clear H
   have H := H1
   clear H1
   have H' := Aside0.mk H
   clear H
   have hcz8_0 : w4.cell? ⟨gb101, 0, none⟩ = some (.int .i64 a0_0) := (blk_cell BK101.out 0).trans rfl
   have hcz8_1 : w4.cell? ⟨gb101, 1, none⟩ = some (.int .i64 a0_1) := (blk_cell BK101.out 1).trans rfl
   have hcz8_2 : w4.cell? ⟨gb101, 2, none⟩ = some (.int .i64 a0_2) := (blk_cell BK101.out 2).trans rfl
   have hcz8_3 : w4.cell? ⟨gb101, 3, none⟩ = some (.int .i64 a0_3) := (blk_cell BK101.out 3).trans rfl
   have hcz8_4 : w4.cell? ⟨gb101, 4, none⟩ = some (.int .i64 a0_4) := (blk_cell BK101.out 4).trans rfl
   have hcz8_5 : w4.cell? ⟨gb101, 5, none⟩ = some (.int .i64 a0_5) := (blk_cell BK101.out 5).trans rfl
   have hcz8_6 : w4.cell? ⟨gb101, 6, none⟩ = some (.string a0_6) := (blk_cell BK101.out 6).trans rfl
   have hcz8_7 : w4.cell? ⟨gb101, 7, none⟩ = some (.string a0_7) := (blk_cell BK101.out 7).trans rfl
   have hcz8_8 : w4.cell? ⟨gb101, 8, none⟩ = some (.string a0_8) := (blk_cell BK101.out 8).trans rfl
   have hfz8_0 := blk_frozen BK101.out 0
   have hfz8_1 := blk_frozen BK101.out 1
   have hfz8_2 := blk_frozen BK101.out 2
   have hfz8_3 := blk_frozen BK101.out 3
   have hfz8_4 := blk_frozen BK101.out 4
   have hfz8_5 := blk_frozen BK101.out 5
   have hfz8_6 := blk_frozen BK101.out 6
   have hfz8_7 := blk_frozen BK101.out 7
   have hfz8_8 := blk_frozen BK101.out 8
   go_wp2_with (first | ((with_reducible refine gate_callee (f := 13) rfl ?_); refine gL_ (some 14) rfl rfl Try.func13 (by kernel_rfl) rfl #[.agg #[.int .i64 a0_0, .int .i64 a0_1, .int .i64 a0_2, .int .i64 a0_3, .int .i64 a0_4, .int .i64 a0_5, .string a0_6, .string a0_7, .string a0_8]] rfl ?_; (with_reducible refine (ipfour_Right.calls a0_0 a0_1 a0_2 a0_3 a0_4 a0_5 a0_6 a0_7 a0_8 true _ A6.out).mono ?_); rintro e w9 ⟨rfl, hb⟩; refine ⟨_, rfl, ?_⟩; have n0_ := Aside0.mk (bB_ BK101.out hb); have n1_ := Aside0.mk (below_step (bU_ HB.out) hb); clear BK101 HB; have BK101 := n0_; have HB := n1_; clear n0_ n1_; (try clear hb); (try clear hb2); (try clear hk); (try clear hi)))
   go_meet
   case rel => exact ⟨_, (decide ((wrap64 ((wrap64 (20 + (a0_8.size : Int))) + (a1.size : Int))) > 65535)), (by first | rfl | (simp; done) | (simp [*]; done)), H', ⟨by first | omega | exact Nat.le_refl _⟩, ⟨by (with_reducible repeat first | apply pN_ | apply pD_ | apply pA_); exact BK101.out⟩, ⟨bU_ HB.out⟩⟩
  ·replace c7 := Bool.eq_false_iff.mpr c7
   subst c7
   have H1 : (ipfour_Put.j0 k a1 (wrap64 (20 + (a0_8.size : Int))) true a0_0 a0_1 a0_2 a0_3 a0_4 a0_5 a0_6 a0_7 a0_8) = some (r1, r2) := by rw [if_neg (show ¬ (false = true) by decide)] at H; exact H
   clear H
   have H := H1
   clear H1
   have H' := Aside0.mk H
   clear H
   have hcz10_0 : w4.cell? ⟨gb101, 0, none⟩ = some (.int .i64 a0_0) := (blk_cell BK101.out 0).trans rfl
   have hcz10_1 : w4.cell? ⟨gb101, 1, none⟩ = some (.int .i64 a0_1) := (blk_cell BK101.out 1).trans rfl
   have hcz10_2 : w4.cell? ⟨gb101, 2, none⟩ = some (.int .i64 a0_2) := (blk_cell BK101.out 2).trans rfl
   have hcz10_3 : w4.cell? ⟨gb101, 3, none⟩ = some (.int .i64 a0_3) := (blk_cell BK101.out 3).trans rfl
   have hcz10_4 : w4.cell? ⟨gb101, 4, none⟩ = some (.int .i64 a0_4) := (blk_cell BK101.out 4).trans rfl
   have hcz10_5 : w4.cell? ⟨gb101, 5, none⟩ = some (.int .i64 a0_5) := (blk_cell BK101.out 5).trans rfl
   have hcz10_6 : w4.cell? ⟨gb101, 6, none⟩ = some (.string a0_6) := (blk_cell BK101.out 6).trans rfl
   have hcz10_7 : w4.cell? ⟨gb101, 7, none⟩ = some (.string a0_7) := (blk_cell BK101.out 7).trans rfl
   have hcz10_8 : w4.cell? ⟨gb101, 8, none⟩ = some (.string a0_8) := (blk_cell BK101.out 8).trans rfl
   have hfz10_0 := blk_frozen BK101.out 0
   have hfz10_1 := blk_frozen BK101.out 1
   have hfz10_2 := blk_frozen BK101.out 2
   have hfz10_3 := blk_frozen BK101.out 3
   have hfz10_4 := blk_frozen BK101.out 4
   have hfz10_5 := blk_frozen BK101.out 5
   have hfz10_6 := blk_frozen BK101.out 6
   have hfz10_7 := blk_frozen BK101.out 7
   have hfz10_8 := blk_frozen BK101.out 8
   go_wp2_with (first | ((with_reducible refine gate_callee (f := 13) rfl ?_); refine gL_ (some 14) rfl rfl Try.func13 (by kernel_rfl) rfl #[.agg #[.int .i64 a0_0, .int .i64 a0_1, .int .i64 a0_2, .int .i64 a0_3, .int .i64 a0_4, .int .i64 a0_5, .string a0_6, .string a0_7, .string a0_8]] rfl ?_; (with_reducible refine (ipfour_Right.calls a0_0 a0_1 a0_2 a0_3 a0_4 a0_5 a0_6 a0_7 a0_8 false _ A6.out).mono ?_); rintro e w11 ⟨rfl, hb⟩; refine ⟨_, rfl, ?_⟩; have n0_ := Aside0.mk (bB_ BK101.out hb); have n1_ := Aside0.mk (below_step (bU_ HB.out) hb); clear BK101 HB; have BK101 := n0_; have HB := n1_; clear n0_ n1_; (try clear hb); (try clear hb2); (try clear hk); (try clear hi)))
   go_meet
   case rel => exact ⟨_, (true), (by first | rfl | (simp; done) | (simp [*]; done)), H', ⟨by first | omega | exact Nat.le_refl _⟩, ⟨by (with_reducible repeat first | apply pN_ | apply pD_ | apply pA_); exact BK101.out⟩, ⟨bU_ HB.out⟩⟩
 case rest =>
  clear HC3
  try clear c1
  try clear p2
  try clear p6
  try clear c7
  try clear c8
  try clear hcz10_0
  try clear hcz10_1
  try clear hcz10_2
  try clear hcz10_3
  try clear hcz10_4
  try clear hcz10_5
  try clear hcz10_6
  try clear hcz10_7
  try clear hcz10_8
  try clear hcz5_0
  try clear hcz5_1
  try clear hcz5_2
  try clear hcz5_3
  try clear hcz5_4
  try clear hcz5_5
  try clear hcz5_6
  try clear hcz5_7
  try clear hcz5_8
  try clear hcz8_0
  try clear hcz8_1
  try clear hcz8_2
  try clear hcz8_3
  try clear hcz8_4
  try clear hcz8_5
  try clear hcz8_6
  try clear hcz8_7
  try clear hcz8_8
  try clear hfz10_0
  try clear hfz10_1
  try clear hfz10_2
  try clear hfz10_3
  try clear hfz10_4
  try clear hfz10_5
  try clear hfz10_6
  try clear hfz10_7
  try clear hfz10_8
  try clear hfz5_0
  try clear hfz5_1
  try clear hfz5_2
  try clear hfz5_3
  try clear hfz5_4
  try clear hfz5_5
  try clear hfz5_6
  try clear hfz5_7
  try clear hfz5_8
  try clear hfz8_0
  try clear hfz8_1
  try clear hfz8_2
  try clear hfz8_3
  try clear hfz8_4
  try clear hfz8_5
  try clear hfz8_6
  try clear hfz8_7
  try clear hfz8_8
  obtain ⟨kq, x22_2, rfl, HA, HJ2, BK101, HB⟩ := hcut
  cases kq with
  | zero => exact absurd HA.out (by simp [ipfour_Put.j0])
  | succ kj2 =>
   have H := HA.out
   clear HA
   simp only [ipfour_Put.j0] at H
   by_cases c12 : x22_2 = true
   ·subst c12
    have H1 : (some ((⟨#[]⟩ : ByteArray), 1)) = some (r1, r2) := by rw [if_pos rfl] at H; exact H
    clear H
    have H := H1
    clear H1
    simp only [Option.some.injEq, Prod.mk.injEq] at H
    obtain ⟨rfl, rfl⟩ := H
    go_wp2
    go_ret2
    exact rE_ (bU_ HB.out)
   ·replace c12 := Bool.eq_false_iff.mpr c12
    subst c12
    have H1 : ((ipfour_put.f kj2 (wrap64 (64 + (wrap64 (Int.tdiv (wrap64 (20 + (a0_8.size : Int))) 4)))) 1).bind fun t103 => ((ipfour_put.f kj2 a0_0 1).bind fun t104 => (if t103.size + t104.size ≤ 9223372036854775807 then ((ipfour_put.f kj2 (wrap64 ((wrap64 (20 + (a0_8.size : Int))) + (a1.size : Int))) 2).bind fun t105 => (if (t103 ++ t104).size + t105.size ≤ 9223372036854775807 then ((ipfour_put.f kj2 a0_1 2).bind fun t106 => (if ((t103 ++ t104) ++ t105).size + t106.size ≤ 9223372036854775807 then ((ipfour_put.f kj2 (wrap64 ((wrap64 (a0_2 * 8192)) + a0_3)) 2).bind fun t107 => (if (((t103 ++ t104) ++ t105) ++ t106).size + t107.size ≤ 9223372036854775807 then ((ipfour_put.f kj2 a0_4 1).bind fun t108 => (if ((((t103 ++ t104) ++ t105) ++ t106) ++ t107).size + t108.size ≤ 9223372036854775807 then ((ipfour_put.f kj2 a0_5 1).bind fun t109 => (if (((((t103 ++ t104) ++ t105) ++ t106) ++ t107) ++ t108).size + t109.size ≤ 9223372036854775807 then (if a0_6.size + a0_7.size ≤ 9223372036854775807 then (if (a0_6 ++ a0_7).size + a0_8.size ≤ 9223372036854775807 then (if ((((((t103 ++ t104) ++ t105) ++ t106) ++ t107) ++ t108) ++ t109).size + 2 ≤ 9223372036854775807 then (if (((((((t103 ++ t104) ++ t105) ++ t106) ++ t107) ++ t108) ++ t109) ++ (⟨#[0, 0]⟩ : ByteArray)).size + ((a0_6 ++ a0_7) ++ a0_8).size ≤ 9223372036854775807 then ((octet_Sum.f kj2 ((((((((t103 ++ t104) ++ t105) ++ t106) ++ t107) ++ t108) ++ t109) ++ (⟨#[0, 0]⟩ : ByteArray)) ++ ((a0_6 ++ a0_7) ++ a0_8))).bind fun t110 => ((ipfour_put.f kj2 t110 2).bind fun t111 => (if ((((((t103 ++ t104) ++ t105) ++ t106) ++ t107) ++ t108) ++ t109).size + t111.size ≤ 9223372036854775807 then (if (((((((t103 ++ t104) ++ t105) ++ t106) ++ t107) ++ t108) ++ t109) ++ t111).size + ((a0_6 ++ a0_7) ++ a0_8).size ≤ 9223372036854775807 then (if ((((((((t103 ++ t104) ++ t105) ++ t106) ++ t107) ++ t108) ++ t109) ++ t111) ++ ((a0_6 ++ a0_7) ++ a0_8)).size + a1.size ≤ 9223372036854775807 then (some (((((((((t103 ++ t104) ++ t105) ++ t106) ++ t107) ++ t108) ++ t109) ++ t111) ++ ((a0_6 ++ a0_7) ++ a0_8)) ++ a1, 0)) else (none)) else (none)) else (none)))) else (none)) else (none)) else (none)) else (none)) else (none))) else (none))) else (none))) else (none))) else (none))) else (none)))) = some (r1, r2) := by rw [if_neg (show ¬ (false = true) by decide)] at H; exact H
    clear H
    have H := H1
    clear H1
    replace H := Option.bind_eq_some_iff.mp H
    obtain ⟨t103, A130, H⟩ := H
    replace H : ((ipfour_put.f kj2 a0_0 1).bind fun t104 => (if t103.size + t104.size ≤ 9223372036854775807 then ((ipfour_put.f kj2 (wrap64 ((wrap64 (20 + (a0_8.size : Int))) + (a1.size : Int))) 2).bind fun t105 => (if (t103 ++ t104).size + t105.size ≤ 9223372036854775807 then ((ipfour_put.f kj2 a0_1 2).bind fun t106 => (if ((t103 ++ t104) ++ t105).size + t106.size ≤ 9223372036854775807 then ((ipfour_put.f kj2 (wrap64 ((wrap64 (a0_2 * 8192)) + a0_3)) 2).bind fun t107 => (if (((t103 ++ t104) ++ t105) ++ t106).size + t107.size ≤ 9223372036854775807 then ((ipfour_put.f kj2 a0_4 1).bind fun t108 => (if ((((t103 ++ t104) ++ t105) ++ t106) ++ t107).size + t108.size ≤ 9223372036854775807 then ((ipfour_put.f kj2 a0_5 1).bind fun t109 => (if (((((t103 ++ t104) ++ t105) ++ t106) ++ t107) ++ t108).size + t109.size ≤ 9223372036854775807 then (if a0_6.size + a0_7.size ≤ 9223372036854775807 then (if (a0_6 ++ a0_7).size + a0_8.size ≤ 9223372036854775807 then (if ((((((t103 ++ t104) ++ t105) ++ t106) ++ t107) ++ t108) ++ t109).size + 2 ≤ 9223372036854775807 then (if (((((((t103 ++ t104) ++ t105) ++ t106) ++ t107) ++ t108) ++ t109) ++ (⟨#[0, 0]⟩ : ByteArray)).size + ((a0_6 ++ a0_7) ++ a0_8).size ≤ 9223372036854775807 then ((octet_Sum.f kj2 ((((((((t103 ++ t104) ++ t105) ++ t106) ++ t107) ++ t108) ++ t109) ++ (⟨#[0, 0]⟩ : ByteArray)) ++ ((a0_6 ++ a0_7) ++ a0_8))).bind fun t110 => ((ipfour_put.f kj2 t110 2).bind fun t111 => (if ((((((t103 ++ t104) ++ t105) ++ t106) ++ t107) ++ t108) ++ t109).size + t111.size ≤ 9223372036854775807 then (if (((((((t103 ++ t104) ++ t105) ++ t106) ++ t107) ++ t108) ++ t109) ++ t111).size + ((a0_6 ++ a0_7) ++ a0_8).size ≤ 9223372036854775807 then (if ((((((((t103 ++ t104) ++ t105) ++ t106) ++ t107) ++ t108) ++ t109) ++ t111) ++ ((a0_6 ++ a0_7) ++ a0_8)).size + a1.size ≤ 9223372036854775807 then (some (((((((((t103 ++ t104) ++ t105) ++ t106) ++ t107) ++ t108) ++ t109) ++ t111) ++ ((a0_6 ++ a0_7) ++ a0_8)) ++ a1, 0)) else (none)) else (none)) else (none)))) else (none)) else (none)) else (none)) else (none)) else (none))) else (none))) else (none))) else (none))) else (none))) else (none))) = some (r1, r2) := H
    have A13 := Aside0.mk A130
    clear A130
    replace H := Option.bind_eq_some_iff.mp H
    obtain ⟨t104, A140, H⟩ := H
    replace H : (if t103.size + t104.size ≤ 9223372036854775807 then ((ipfour_put.f kj2 (wrap64 ((wrap64 (20 + (a0_8.size : Int))) + (a1.size : Int))) 2).bind fun t105 => (if (t103 ++ t104).size + t105.size ≤ 9223372036854775807 then ((ipfour_put.f kj2 a0_1 2).bind fun t106 => (if ((t103 ++ t104) ++ t105).size + t106.size ≤ 9223372036854775807 then ((ipfour_put.f kj2 (wrap64 ((wrap64 (a0_2 * 8192)) + a0_3)) 2).bind fun t107 => (if (((t103 ++ t104) ++ t105) ++ t106).size + t107.size ≤ 9223372036854775807 then ((ipfour_put.f kj2 a0_4 1).bind fun t108 => (if ((((t103 ++ t104) ++ t105) ++ t106) ++ t107).size + t108.size ≤ 9223372036854775807 then ((ipfour_put.f kj2 a0_5 1).bind fun t109 => (if (((((t103 ++ t104) ++ t105) ++ t106) ++ t107) ++ t108).size + t109.size ≤ 9223372036854775807 then (if a0_6.size + a0_7.size ≤ 9223372036854775807 then (if (a0_6 ++ a0_7).size + a0_8.size ≤ 9223372036854775807 then (if ((((((t103 ++ t104) ++ t105) ++ t106) ++ t107) ++ t108) ++ t109).size + 2 ≤ 9223372036854775807 then (if (((((((t103 ++ t104) ++ t105) ++ t106) ++ t107) ++ t108) ++ t109) ++ (⟨#[0, 0]⟩ : ByteArray)).size + ((a0_6 ++ a0_7) ++ a0_8).size ≤ 9223372036854775807 then ((octet_Sum.f kj2 ((((((((t103 ++ t104) ++ t105) ++ t106) ++ t107) ++ t108) ++ t109) ++ (⟨#[0, 0]⟩ : ByteArray)) ++ ((a0_6 ++ a0_7) ++ a0_8))).bind fun t110 => ((ipfour_put.f kj2 t110 2).bind fun t111 => (if ((((((t103 ++ t104) ++ t105) ++ t106) ++ t107) ++ t108) ++ t109).size + t111.size ≤ 9223372036854775807 then (if (((((((t103 ++ t104) ++ t105) ++ t106) ++ t107) ++ t108) ++ t109) ++ t111).size + ((a0_6 ++ a0_7) ++ a0_8).size ≤ 9223372036854775807 then (if ((((((((t103 ++ t104) ++ t105) ++ t106) ++ t107) ++ t108) ++ t109) ++ t111) ++ ((a0_6 ++ a0_7) ++ a0_8)).size + a1.size ≤ 9223372036854775807 then (some (((((((((t103 ++ t104) ++ t105) ++ t106) ++ t107) ++ t108) ++ t109) ++ t111) ++ ((a0_6 ++ a0_7) ++ a0_8)) ++ a1, 0)) else (none)) else (none)) else (none)))) else (none)) else (none)) else (none)) else (none)) else (none))) else (none))) else (none))) else (none))) else (none))) else (none)) = some (r1, r2) := H
    have A14 := Aside0.mk A140
    clear A140
    by_cases c15 : t103.size + t104.size ≤ 9223372036854775807
    rotate_left
    ·rw [if_neg c15] at H
     exact absurd H (by simp)
    rw [if_pos c15] at H
    have c15b0 := eq_true c15
    have c15b1 : decide (t103.size + t104.size ≤ 9223372036854775807) = true := decide_eq_true c15
    try have c15b2 : (9223372036854775807 < t103.size + t104.size) = False := eq_false (Nat.not_lt.2 c15)
    try (have c15b3 := c15; simp only [ByteArray.size_append, ByteArray.size_extract, Nat.sub_zero, Nat.min_self] at c15b3; have c15b4 := eq_false (Nat.not_lt.2 c15b3))
    replace H := Option.bind_eq_some_iff.mp H
    obtain ⟨t105, A160, H⟩ := H
    replace H : (if (t103 ++ t104).size + t105.size ≤ 9223372036854775807 then ((ipfour_put.f kj2 a0_1 2).bind fun t106 => (if ((t103 ++ t104) ++ t105).size + t106.size ≤ 9223372036854775807 then ((ipfour_put.f kj2 (wrap64 ((wrap64 (a0_2 * 8192)) + a0_3)) 2).bind fun t107 => (if (((t103 ++ t104) ++ t105) ++ t106).size + t107.size ≤ 9223372036854775807 then ((ipfour_put.f kj2 a0_4 1).bind fun t108 => (if ((((t103 ++ t104) ++ t105) ++ t106) ++ t107).size + t108.size ≤ 9223372036854775807 then ((ipfour_put.f kj2 a0_5 1).bind fun t109 => (if (((((t103 ++ t104) ++ t105) ++ t106) ++ t107) ++ t108).size + t109.size ≤ 9223372036854775807 then (if a0_6.size + a0_7.size ≤ 9223372036854775807 then (if (a0_6 ++ a0_7).size + a0_8.size ≤ 9223372036854775807 then (if ((((((t103 ++ t104) ++ t105) ++ t106) ++ t107) ++ t108) ++ t109).size + 2 ≤ 9223372036854775807 then (if (((((((t103 ++ t104) ++ t105) ++ t106) ++ t107) ++ t108) ++ t109) ++ (⟨#[0, 0]⟩ : ByteArray)).size + ((a0_6 ++ a0_7) ++ a0_8).size ≤ 9223372036854775807 then ((octet_Sum.f kj2 ((((((((t103 ++ t104) ++ t105) ++ t106) ++ t107) ++ t108) ++ t109) ++ (⟨#[0, 0]⟩ : ByteArray)) ++ ((a0_6 ++ a0_7) ++ a0_8))).bind fun t110 => ((ipfour_put.f kj2 t110 2).bind fun t111 => (if ((((((t103 ++ t104) ++ t105) ++ t106) ++ t107) ++ t108) ++ t109).size + t111.size ≤ 9223372036854775807 then (if (((((((t103 ++ t104) ++ t105) ++ t106) ++ t107) ++ t108) ++ t109) ++ t111).size + ((a0_6 ++ a0_7) ++ a0_8).size ≤ 9223372036854775807 then (if ((((((((t103 ++ t104) ++ t105) ++ t106) ++ t107) ++ t108) ++ t109) ++ t111) ++ ((a0_6 ++ a0_7) ++ a0_8)).size + a1.size ≤ 9223372036854775807 then (some (((((((((t103 ++ t104) ++ t105) ++ t106) ++ t107) ++ t108) ++ t109) ++ t111) ++ ((a0_6 ++ a0_7) ++ a0_8)) ++ a1, 0)) else (none)) else (none)) else (none)))) else (none)) else (none)) else (none)) else (none)) else (none))) else (none))) else (none))) else (none))) else (none)) = some (r1, r2) := H
    have A16 := Aside0.mk A160
    clear A160
    by_cases c17 : (t103 ++ t104).size + t105.size ≤ 9223372036854775807
    rotate_left
    ·rw [if_neg c17] at H
     exact absurd H (by simp)
    rw [if_pos c17] at H
    have c17b0 := eq_true c17
    have c17b1 : decide ((t103 ++ t104).size + t105.size ≤ 9223372036854775807) = true := decide_eq_true c17
    try have c17b2 : (9223372036854775807 < (t103 ++ t104).size + t105.size) = False := eq_false (Nat.not_lt.2 c17)
    try (have c17b3 := c17; simp only [ByteArray.size_append, ByteArray.size_extract, Nat.sub_zero, Nat.min_self] at c17b3; have c17b4 := eq_false (Nat.not_lt.2 c17b3))
    replace H := Option.bind_eq_some_iff.mp H
    obtain ⟨t106, A180, H⟩ := H
    replace H : (if ((t103 ++ t104) ++ t105).size + t106.size ≤ 9223372036854775807 then ((ipfour_put.f kj2 (wrap64 ((wrap64 (a0_2 * 8192)) + a0_3)) 2).bind fun t107 => (if (((t103 ++ t104) ++ t105) ++ t106).size + t107.size ≤ 9223372036854775807 then ((ipfour_put.f kj2 a0_4 1).bind fun t108 => (if ((((t103 ++ t104) ++ t105) ++ t106) ++ t107).size + t108.size ≤ 9223372036854775807 then ((ipfour_put.f kj2 a0_5 1).bind fun t109 => (if (((((t103 ++ t104) ++ t105) ++ t106) ++ t107) ++ t108).size + t109.size ≤ 9223372036854775807 then (if a0_6.size + a0_7.size ≤ 9223372036854775807 then (if (a0_6 ++ a0_7).size + a0_8.size ≤ 9223372036854775807 then (if ((((((t103 ++ t104) ++ t105) ++ t106) ++ t107) ++ t108) ++ t109).size + 2 ≤ 9223372036854775807 then (if (((((((t103 ++ t104) ++ t105) ++ t106) ++ t107) ++ t108) ++ t109) ++ (⟨#[0, 0]⟩ : ByteArray)).size + ((a0_6 ++ a0_7) ++ a0_8).size ≤ 9223372036854775807 then ((octet_Sum.f kj2 ((((((((t103 ++ t104) ++ t105) ++ t106) ++ t107) ++ t108) ++ t109) ++ (⟨#[0, 0]⟩ : ByteArray)) ++ ((a0_6 ++ a0_7) ++ a0_8))).bind fun t110 => ((ipfour_put.f kj2 t110 2).bind fun t111 => (if ((((((t103 ++ t104) ++ t105) ++ t106) ++ t107) ++ t108) ++ t109).size + t111.size ≤ 9223372036854775807 then (if (((((((t103 ++ t104) ++ t105) ++ t106) ++ t107) ++ t108) ++ t109) ++ t111).size + ((a0_6 ++ a0_7) ++ a0_8).size ≤ 9223372036854775807 then (if ((((((((t103 ++ t104) ++ t105) ++ t106) ++ t107) ++ t108) ++ t109) ++ t111) ++ ((a0_6 ++ a0_7) ++ a0_8)).size + a1.size ≤ 9223372036854775807 then (some (((((((((t103 ++ t104) ++ t105) ++ t106) ++ t107) ++ t108) ++ t109) ++ t111) ++ ((a0_6 ++ a0_7) ++ a0_8)) ++ a1, 0)) else (none)) else (none)) else (none)))) else (none)) else (none)) else (none)) else (none)) else (none))) else (none))) else (none))) else (none)) = some (r1, r2) := H
    have A18 := Aside0.mk A180
    clear A180
    by_cases c19 : ((t103 ++ t104) ++ t105).size + t106.size ≤ 9223372036854775807
    rotate_left
    ·rw [if_neg c19] at H
     exact absurd H (by simp)
    rw [if_pos c19] at H
    have c19b0 := eq_true c19
    have c19b1 : decide (((t103 ++ t104) ++ t105).size + t106.size ≤ 9223372036854775807) = true := decide_eq_true c19
    try have c19b2 : (9223372036854775807 < ((t103 ++ t104) ++ t105).size + t106.size) = False := eq_false (Nat.not_lt.2 c19)
    try (have c19b3 := c19; simp only [ByteArray.size_append, ByteArray.size_extract, Nat.sub_zero, Nat.min_self] at c19b3; have c19b4 := eq_false (Nat.not_lt.2 c19b3))
    replace H := Option.bind_eq_some_iff.mp H
    obtain ⟨t107, A200, H⟩ := H
    replace H : (if (((t103 ++ t104) ++ t105) ++ t106).size + t107.size ≤ 9223372036854775807 then ((ipfour_put.f kj2 a0_4 1).bind fun t108 => (if ((((t103 ++ t104) ++ t105) ++ t106) ++ t107).size + t108.size ≤ 9223372036854775807 then ((ipfour_put.f kj2 a0_5 1).bind fun t109 => (if (((((t103 ++ t104) ++ t105) ++ t106) ++ t107) ++ t108).size + t109.size ≤ 9223372036854775807 then (if a0_6.size + a0_7.size ≤ 9223372036854775807 then (if (a0_6 ++ a0_7).size + a0_8.size ≤ 9223372036854775807 then (if ((((((t103 ++ t104) ++ t105) ++ t106) ++ t107) ++ t108) ++ t109).size + 2 ≤ 9223372036854775807 then (if (((((((t103 ++ t104) ++ t105) ++ t106) ++ t107) ++ t108) ++ t109) ++ (⟨#[0, 0]⟩ : ByteArray)).size + ((a0_6 ++ a0_7) ++ a0_8).size ≤ 9223372036854775807 then ((octet_Sum.f kj2 ((((((((t103 ++ t104) ++ t105) ++ t106) ++ t107) ++ t108) ++ t109) ++ (⟨#[0, 0]⟩ : ByteArray)) ++ ((a0_6 ++ a0_7) ++ a0_8))).bind fun t110 => ((ipfour_put.f kj2 t110 2).bind fun t111 => (if ((((((t103 ++ t104) ++ t105) ++ t106) ++ t107) ++ t108) ++ t109).size + t111.size ≤ 9223372036854775807 then (if (((((((t103 ++ t104) ++ t105) ++ t106) ++ t107) ++ t108) ++ t109) ++ t111).size + ((a0_6 ++ a0_7) ++ a0_8).size ≤ 9223372036854775807 then (if ((((((((t103 ++ t104) ++ t105) ++ t106) ++ t107) ++ t108) ++ t109) ++ t111) ++ ((a0_6 ++ a0_7) ++ a0_8)).size + a1.size ≤ 9223372036854775807 then (some (((((((((t103 ++ t104) ++ t105) ++ t106) ++ t107) ++ t108) ++ t109) ++ t111) ++ ((a0_6 ++ a0_7) ++ a0_8)) ++ a1, 0)) else (none)) else (none)) else (none)))) else (none)) else (none)) else (none)) else (none)) else (none))) else (none))) else (none)) = some (r1, r2) := H
    have A20 := Aside0.mk A200
    clear A200
    by_cases c21 : (((t103 ++ t104) ++ t105) ++ t106).size + t107.size ≤ 9223372036854775807
    rotate_left
    ·rw [if_neg c21] at H
     exact absurd H (by simp)
    rw [if_pos c21] at H
    have c21b0 := eq_true c21
    have c21b1 : decide ((((t103 ++ t104) ++ t105) ++ t106).size + t107.size ≤ 9223372036854775807) = true := decide_eq_true c21
    try have c21b2 : (9223372036854775807 < (((t103 ++ t104) ++ t105) ++ t106).size + t107.size) = False := eq_false (Nat.not_lt.2 c21)
    try (have c21b3 := c21; simp only [ByteArray.size_append, ByteArray.size_extract, Nat.sub_zero, Nat.min_self] at c21b3; have c21b4 := eq_false (Nat.not_lt.2 c21b3))
    replace H := Option.bind_eq_some_iff.mp H
    obtain ⟨t108, A220, H⟩ := H
    replace H : (if ((((t103 ++ t104) ++ t105) ++ t106) ++ t107).size + t108.size ≤ 9223372036854775807 then ((ipfour_put.f kj2 a0_5 1).bind fun t109 => (if (((((t103 ++ t104) ++ t105) ++ t106) ++ t107) ++ t108).size + t109.size ≤ 9223372036854775807 then (if a0_6.size + a0_7.size ≤ 9223372036854775807 then (if (a0_6 ++ a0_7).size + a0_8.size ≤ 9223372036854775807 then (if ((((((t103 ++ t104) ++ t105) ++ t106) ++ t107) ++ t108) ++ t109).size + 2 ≤ 9223372036854775807 then (if (((((((t103 ++ t104) ++ t105) ++ t106) ++ t107) ++ t108) ++ t109) ++ (⟨#[0, 0]⟩ : ByteArray)).size + ((a0_6 ++ a0_7) ++ a0_8).size ≤ 9223372036854775807 then ((octet_Sum.f kj2 ((((((((t103 ++ t104) ++ t105) ++ t106) ++ t107) ++ t108) ++ t109) ++ (⟨#[0, 0]⟩ : ByteArray)) ++ ((a0_6 ++ a0_7) ++ a0_8))).bind fun t110 => ((ipfour_put.f kj2 t110 2).bind fun t111 => (if ((((((t103 ++ t104) ++ t105) ++ t106) ++ t107) ++ t108) ++ t109).size + t111.size ≤ 9223372036854775807 then (if (((((((t103 ++ t104) ++ t105) ++ t106) ++ t107) ++ t108) ++ t109) ++ t111).size + ((a0_6 ++ a0_7) ++ a0_8).size ≤ 9223372036854775807 then (if ((((((((t103 ++ t104) ++ t105) ++ t106) ++ t107) ++ t108) ++ t109) ++ t111) ++ ((a0_6 ++ a0_7) ++ a0_8)).size + a1.size ≤ 9223372036854775807 then (some (((((((((t103 ++ t104) ++ t105) ++ t106) ++ t107) ++ t108) ++ t109) ++ t111) ++ ((a0_6 ++ a0_7) ++ a0_8)) ++ a1, 0)) else (none)) else (none)) else (none)))) else (none)) else (none)) else (none)) else (none)) else (none))) else (none)) = some (r1, r2) := H
    have A22 := Aside0.mk A220
    clear A220
    by_cases c23 : ((((t103 ++ t104) ++ t105) ++ t106) ++ t107).size + t108.size ≤ 9223372036854775807
    rotate_left
    ·rw [if_neg c23] at H
     exact absurd H (by simp)
    rw [if_pos c23] at H
    have c23b0 := eq_true c23
    have c23b1 : decide (((((t103 ++ t104) ++ t105) ++ t106) ++ t107).size + t108.size ≤ 9223372036854775807) = true := decide_eq_true c23
    try have c23b2 : (9223372036854775807 < ((((t103 ++ t104) ++ t105) ++ t106) ++ t107).size + t108.size) = False := eq_false (Nat.not_lt.2 c23)
    try (have c23b3 := c23; simp only [ByteArray.size_append, ByteArray.size_extract, Nat.sub_zero, Nat.min_self] at c23b3; have c23b4 := eq_false (Nat.not_lt.2 c23b3))
    replace H := Option.bind_eq_some_iff.mp H
    obtain ⟨t109, A240, H⟩ := H
    replace H : (if (((((t103 ++ t104) ++ t105) ++ t106) ++ t107) ++ t108).size + t109.size ≤ 9223372036854775807 then (if a0_6.size + a0_7.size ≤ 9223372036854775807 then (if (a0_6 ++ a0_7).size + a0_8.size ≤ 9223372036854775807 then (if ((((((t103 ++ t104) ++ t105) ++ t106) ++ t107) ++ t108) ++ t109).size + 2 ≤ 9223372036854775807 then (if (((((((t103 ++ t104) ++ t105) ++ t106) ++ t107) ++ t108) ++ t109) ++ (⟨#[0, 0]⟩ : ByteArray)).size + ((a0_6 ++ a0_7) ++ a0_8).size ≤ 9223372036854775807 then ((octet_Sum.f kj2 ((((((((t103 ++ t104) ++ t105) ++ t106) ++ t107) ++ t108) ++ t109) ++ (⟨#[0, 0]⟩ : ByteArray)) ++ ((a0_6 ++ a0_7) ++ a0_8))).bind fun t110 => ((ipfour_put.f kj2 t110 2).bind fun t111 => (if ((((((t103 ++ t104) ++ t105) ++ t106) ++ t107) ++ t108) ++ t109).size + t111.size ≤ 9223372036854775807 then (if (((((((t103 ++ t104) ++ t105) ++ t106) ++ t107) ++ t108) ++ t109) ++ t111).size + ((a0_6 ++ a0_7) ++ a0_8).size ≤ 9223372036854775807 then (if ((((((((t103 ++ t104) ++ t105) ++ t106) ++ t107) ++ t108) ++ t109) ++ t111) ++ ((a0_6 ++ a0_7) ++ a0_8)).size + a1.size ≤ 9223372036854775807 then (some (((((((((t103 ++ t104) ++ t105) ++ t106) ++ t107) ++ t108) ++ t109) ++ t111) ++ ((a0_6 ++ a0_7) ++ a0_8)) ++ a1, 0)) else (none)) else (none)) else (none)))) else (none)) else (none)) else (none)) else (none)) else (none)) = some (r1, r2) := H
    have A24 := Aside0.mk A240
    clear A240
    by_cases c25 : (((((t103 ++ t104) ++ t105) ++ t106) ++ t107) ++ t108).size + t109.size ≤ 9223372036854775807
    rotate_left
    ·rw [if_neg c25] at H
     exact absurd H (by simp)
    rw [if_pos c25] at H
    have c25b0 := eq_true c25
    have c25b1 : decide ((((((t103 ++ t104) ++ t105) ++ t106) ++ t107) ++ t108).size + t109.size ≤ 9223372036854775807) = true := decide_eq_true c25
    try have c25b2 : (9223372036854775807 < (((((t103 ++ t104) ++ t105) ++ t106) ++ t107) ++ t108).size + t109.size) = False := eq_false (Nat.not_lt.2 c25)
    try (have c25b3 := c25; simp only [ByteArray.size_append, ByteArray.size_extract, Nat.sub_zero, Nat.min_self] at c25b3; have c25b4 := eq_false (Nat.not_lt.2 c25b3))
    by_cases c26 : a0_6.size + a0_7.size ≤ 9223372036854775807
    rotate_left
    ·rw [if_neg c26] at H
     exact absurd H (by simp)
    rw [if_pos c26] at H
    have c26b0 := eq_true c26
    have c26b1 : decide (a0_6.size + a0_7.size ≤ 9223372036854775807) = true := decide_eq_true c26
    try have c26b2 : (9223372036854775807 < a0_6.size + a0_7.size) = False := eq_false (Nat.not_lt.2 c26)
    try (have c26b3 := c26; simp only [ByteArray.size_append, ByteArray.size_extract, Nat.sub_zero, Nat.min_self] at c26b3; have c26b4 := eq_false (Nat.not_lt.2 c26b3))
    by_cases c27 : (a0_6 ++ a0_7).size + a0_8.size ≤ 9223372036854775807
    rotate_left
    ·rw [if_neg c27] at H
     exact absurd H (by simp)
    rw [if_pos c27] at H
    have c27b0 := eq_true c27
    have c27b1 : decide ((a0_6 ++ a0_7).size + a0_8.size ≤ 9223372036854775807) = true := decide_eq_true c27
    try have c27b2 : (9223372036854775807 < (a0_6 ++ a0_7).size + a0_8.size) = False := eq_false (Nat.not_lt.2 c27)
    try (have c27b3 := c27; simp only [ByteArray.size_append, ByteArray.size_extract, Nat.sub_zero, Nat.min_self] at c27b3; have c27b4 := eq_false (Nat.not_lt.2 c27b3))
    by_cases c28 : ((((((t103 ++ t104) ++ t105) ++ t106) ++ t107) ++ t108) ++ t109).size + 2 ≤ 9223372036854775807
    rotate_left
    ·rw [if_neg c28] at H
     exact absurd H (by simp)
    rw [if_pos c28] at H
    have c28b0 := eq_true c28
    have c28b1 : decide (((((((t103 ++ t104) ++ t105) ++ t106) ++ t107) ++ t108) ++ t109).size + 2 ≤ 9223372036854775807) = true := decide_eq_true c28
    try have c28b2 : (9223372036854775807 < ((((((t103 ++ t104) ++ t105) ++ t106) ++ t107) ++ t108) ++ t109).size + 2) = False := eq_false (Nat.not_lt.2 c28)
    try (have c28b3 := c28; simp only [ByteArray.size_append, ByteArray.size_extract, Nat.sub_zero, Nat.min_self] at c28b3; have c28b4 := eq_false (Nat.not_lt.2 c28b3))
    by_cases c29 : (((((((t103 ++ t104) ++ t105) ++ t106) ++ t107) ++ t108) ++ t109) ++ (⟨#[0, 0]⟩ : ByteArray)).size + ((a0_6 ++ a0_7) ++ a0_8).size ≤ 9223372036854775807
    rotate_left
    ·rw [if_neg c29] at H
     exact absurd H (by simp)
    rw [if_pos c29] at H
    have c29b0 := eq_true c29
    have c29b1 : decide ((((((((t103 ++ t104) ++ t105) ++ t106) ++ t107) ++ t108) ++ t109) ++ (⟨#[0, 0]⟩ : ByteArray)).size + ((a0_6 ++ a0_7) ++ a0_8).size ≤ 9223372036854775807) = true := decide_eq_true c29
    try have c29b2 : (9223372036854775807 < (((((((t103 ++ t104) ++ t105) ++ t106) ++ t107) ++ t108) ++ t109) ++ (⟨#[0, 0]⟩ : ByteArray)).size + ((a0_6 ++ a0_7) ++ a0_8).size) = False := eq_false (Nat.not_lt.2 c29)
    try (have c29b3 := c29; simp only [ByteArray.size_append, ByteArray.size_extract, Nat.sub_zero, Nat.min_self, show (⟨#[0, 0]⟩ : ByteArray).size = 2 from rfl] at c29b3; have c29b4 := eq_false (Nat.not_lt.2 c29b3))
    replace H := Option.bind_eq_some_iff.mp H
    obtain ⟨t110, A300, H⟩ := H
    replace H : ((ipfour_put.f kj2 t110 2).bind fun t111 => (if ((((((t103 ++ t104) ++ t105) ++ t106) ++ t107) ++ t108) ++ t109).size + t111.size ≤ 9223372036854775807 then (if (((((((t103 ++ t104) ++ t105) ++ t106) ++ t107) ++ t108) ++ t109) ++ t111).size + ((a0_6 ++ a0_7) ++ a0_8).size ≤ 9223372036854775807 then (if ((((((((t103 ++ t104) ++ t105) ++ t106) ++ t107) ++ t108) ++ t109) ++ t111) ++ ((a0_6 ++ a0_7) ++ a0_8)).size + a1.size ≤ 9223372036854775807 then (some (((((((((t103 ++ t104) ++ t105) ++ t106) ++ t107) ++ t108) ++ t109) ++ t111) ++ ((a0_6 ++ a0_7) ++ a0_8)) ++ a1, 0)) else (none)) else (none)) else (none))) = some (r1, r2) := H
    have A30 := Aside0.mk A300
    clear A300
    replace H := Option.bind_eq_some_iff.mp H
    obtain ⟨t111, A310, H⟩ := H
    replace H : (if ((((((t103 ++ t104) ++ t105) ++ t106) ++ t107) ++ t108) ++ t109).size + t111.size ≤ 9223372036854775807 then (if (((((((t103 ++ t104) ++ t105) ++ t106) ++ t107) ++ t108) ++ t109) ++ t111).size + ((a0_6 ++ a0_7) ++ a0_8).size ≤ 9223372036854775807 then (if ((((((((t103 ++ t104) ++ t105) ++ t106) ++ t107) ++ t108) ++ t109) ++ t111) ++ ((a0_6 ++ a0_7) ++ a0_8)).size + a1.size ≤ 9223372036854775807 then (some (((((((((t103 ++ t104) ++ t105) ++ t106) ++ t107) ++ t108) ++ t109) ++ t111) ++ ((a0_6 ++ a0_7) ++ a0_8)) ++ a1, 0)) else (none)) else (none)) else (none)) = some (r1, r2) := H
    have A31 := Aside0.mk A310
    clear A310
    by_cases c32 : ((((((t103 ++ t104) ++ t105) ++ t106) ++ t107) ++ t108) ++ t109).size + t111.size ≤ 9223372036854775807
    rotate_left
    ·rw [if_neg c32] at H
     exact absurd H (by simp)
    rw [if_pos c32] at H
    have c32b0 := eq_true c32
    have c32b1 : decide (((((((t103 ++ t104) ++ t105) ++ t106) ++ t107) ++ t108) ++ t109).size + t111.size ≤ 9223372036854775807) = true := decide_eq_true c32
    try have c32b2 : (9223372036854775807 < ((((((t103 ++ t104) ++ t105) ++ t106) ++ t107) ++ t108) ++ t109).size + t111.size) = False := eq_false (Nat.not_lt.2 c32)
    try (have c32b3 := c32; simp only [ByteArray.size_append, ByteArray.size_extract, Nat.sub_zero, Nat.min_self] at c32b3; have c32b4 := eq_false (Nat.not_lt.2 c32b3))
    by_cases c33 : (((((((t103 ++ t104) ++ t105) ++ t106) ++ t107) ++ t108) ++ t109) ++ t111).size + ((a0_6 ++ a0_7) ++ a0_8).size ≤ 9223372036854775807
    rotate_left
    ·rw [if_neg c33] at H
     exact absurd H (by simp)
    rw [if_pos c33] at H
    have c33b0 := eq_true c33
    have c33b1 : decide ((((((((t103 ++ t104) ++ t105) ++ t106) ++ t107) ++ t108) ++ t109) ++ t111).size + ((a0_6 ++ a0_7) ++ a0_8).size ≤ 9223372036854775807) = true := decide_eq_true c33
    try have c33b2 : (9223372036854775807 < (((((((t103 ++ t104) ++ t105) ++ t106) ++ t107) ++ t108) ++ t109) ++ t111).size + ((a0_6 ++ a0_7) ++ a0_8).size) = False := eq_false (Nat.not_lt.2 c33)
    try (have c33b3 := c33; simp only [ByteArray.size_append, ByteArray.size_extract, Nat.sub_zero, Nat.min_self] at c33b3; have c33b4 := eq_false (Nat.not_lt.2 c33b3))
    by_cases c34 : ((((((((t103 ++ t104) ++ t105) ++ t106) ++ t107) ++ t108) ++ t109) ++ t111) ++ ((a0_6 ++ a0_7) ++ a0_8)).size + a1.size ≤ 9223372036854775807
    rotate_left
    ·rw [if_neg c34] at H
     exact absurd H (by simp)
    rw [if_pos c34] at H
    have c34b0 := eq_true c34
    have c34b1 : decide (((((((((t103 ++ t104) ++ t105) ++ t106) ++ t107) ++ t108) ++ t109) ++ t111) ++ ((a0_6 ++ a0_7) ++ a0_8)).size + a1.size ≤ 9223372036854775807) = true := decide_eq_true c34
    try have c34b2 : (9223372036854775807 < ((((((((t103 ++ t104) ++ t105) ++ t106) ++ t107) ++ t108) ++ t109) ++ t111) ++ ((a0_6 ++ a0_7) ++ a0_8)).size + a1.size) = False := eq_false (Nat.not_lt.2 c34)
    try (have c34b3 := c34; simp only [ByteArray.size_append, ByteArray.size_extract, Nat.sub_zero, Nat.min_self] at c34b3; have c34b4 := eq_false (Nat.not_lt.2 c34b3))
    simp only [Option.some.injEq, Prod.mk.injEq] at H
    obtain ⟨rfl, rfl⟩ := H
    try go_wp2
    have n0_ := Aside0.mk (blk_drew BK101.out)
    have n1_ := Aside0.mk (below_drew1 HB.out)
    clear BK101
    clear HB
    have BK101 := n0_
    have HB := n1_
    clear n0_ n1_
    refine start_ (n := 35) (S := fun w' => w'.cell? ⟨gb101, 0, none⟩ = some (.int .i64 a0_0) ∧ w'.cell? ⟨gb101, 1, none⟩ = some (.int .i64 a0_1) ∧ w'.cell? ⟨gb101, 2, none⟩ = some (.int .i64 a0_2) ∧ w'.cell? ⟨gb101, 3, none⟩ = some (.int .i64 a0_3) ∧ w'.cell? ⟨gb101, 4, none⟩ = some (.int .i64 a0_4) ∧ w'.cell? ⟨gb101, 5, none⟩ = some (.int .i64 a0_5) ∧ w'.cell? ⟨gb101, 6, none⟩ = some (.string a0_6) ∧ w'.cell? ⟨gb101, 7, none⟩ = some (.string a0_7) ∧ w'.cell? ⟨gb101, 8, none⟩ = some (.string a0_8)) (ds := []) #[false, false, false, false, false, false, false, false, false, false, false, false, false, false, false, false, false, false, false, false, false, false, false, false, false, false, false, false, false, false, false, false, false, false, false] (by kernel_rfl) rfl rfl ⟨(blk_cell BK101.out 0).trans rfl, (blk_cell BK101.out 1).trans rfl, (blk_cell BK101.out 2).trans rfl, (blk_cell BK101.out 3).trans rfl, (blk_cell BK101.out 4).trans rfl, (blk_cell BK101.out 5).trans rfl, (blk_cell BK101.out 6).trans rfl, (blk_cell BK101.out 7).trans rfl, (blk_cell BK101.out 8).trans rfl⟩ (fun hHeld => ?_); refine with_tabW ipfour_Put.tab4 ipfour_Put.bits4 (fun HT_ HW_ => ?_)
    generalize wc.drew = w35 at BK101 HB hHeld ⊢
    refine pure_ (i := 0) (N := some 23) (v := ?_) (a' := ?_) #[true, false, false, false, false, false, false, false, false, false, false, false, false, false, false, false, false, false, false, false, false, false, false, false, false, false, false, false, false, false, false, false, false, false, false] rfl rfl (any_of HT_.out (by kernel_rfl)) (fun _ _ _ h => h) (Or.inl ⟨by rfl, ?_⟩) ?_ ?_
    rotate_left
    ·intro w'
     go_simp
     with_reducible rfl
    rotate_left
    ·simp only [Act.put, s1_, s2_, s3_, i64_w, i32_w]
     rfl
    refine pure_ (i := 1) (N := some 24) (v := ?_) (a' := ?_) #[true, true, false, false, false, false, false, false, false, false, false, false, false, false, false, false, false, false, false, false, false, false, false, false, false, false, false, false, false, false, false, false, false, false, false] rfl rfl (any_of HT_.out (by kernel_rfl)) (fun _ _ _ h => h) (Or.inl ⟨by rfl, ?_⟩) ?_ ?_
    rotate_left
    ·intro w'
     go_simp
     with_reducible rfl
    rotate_left
    ·simp only [Act.put, s1_, s2_, s3_, i64_w, i32_w]
     rfl
    refine pure_ (i := 2) (N := some 25) (v := ?_) (a' := ?_) #[true, true, true, false, false, false, false, false, false, false, false, false, false, false, false, false, false, false, false, false, false, false, false, false, false, false, false, false, false, false, false, false, false, false, false] rfl rfl (any_of HT_.out (by kernel_rfl)) (fun _ _ _ h => h) (Or.inl ⟨by rfl, ?_⟩) ?_ ?_
    rotate_left
    ·intro w'
     go_simp
     with_reducible rfl
    rotate_left
    ·simp only [Act.put, s1_, s2_, s3_, i64_w, i32_w]
     rfl
    refine pure_ (i := 4) (N := some 27) (v := ?_) (a' := ?_) #[true, true, true, false, true, false, false, false, false, false, false, false, false, false, false, false, false, false, false, false, false, false, false, false, false, false, false, false, false, false, false, false, false, false, false] rfl rfl (any_of HT_.out (by kernel_rfl)) (fun _ _ _ h => h) (Or.inl ⟨by rfl, ?_⟩) ?_ ?_
    rotate_left
    ·intro w'
     go_simp
     with_reducible rfl
    rotate_left
    ·simp only [Act.put, s1_, s2_, s3_, i64_w, i32_w]
     rfl
    refine pure_ (i := 8) (N := some 31) (v := ?_) (a' := ?_) #[true, true, true, false, true, false, false, false, true, false, false, false, false, false, false, false, false, false, false, false, false, false, false, false, false, false, false, false, false, false, false, false, false, false, false] rfl rfl (any_of HT_.out (by kernel_rfl)) (fun _ _ _ h => h) (Or.inl ⟨by rfl, ?_⟩) ?_ ?_
    rotate_left
    ·intro w'
     go_simp
     with_reducible rfl
    rotate_left
    ·simp only [Act.put, s1_, s2_, s3_, i64_w, i32_w]
     rfl
    refine pure_ (i := 9) (N := some 32) (v := ?_) (a' := ?_) #[true, true, true, false, true, false, false, false, true, true, false, false, false, false, false, false, false, false, false, false, false, false, false, false, false, false, false, false, false, false, false, false, false, false, false] rfl rfl (any_of HT_.out (by kernel_rfl)) (fun _ _ _ h => h) (Or.inl ⟨by rfl, ?_⟩) ?_ ?_
    rotate_left
    ·intro w'
     go_simp
     with_reducible rfl
    rotate_left
    ·simp only [Act.put, s1_, s2_, s3_, i64_w, i32_w]
     rfl
    refine pure_ (i := 10) (N := some 33) (v := ?_) (a' := ?_) #[true, true, true, false, true, false, false, false, true, true, true, false, false, false, false, false, false, false, false, false, false, false, false, false, false, false, false, false, false, false, false, false, false, false, false] rfl rfl (any_of HT_.out (by kernel_rfl)) (fun _ _ _ h => h) (Or.inl ⟨by rfl, ?_⟩) ?_ ?_
    rotate_left
    ·intro w'
     go_simp
     with_reducible rfl
    rotate_left
    ·simp only [Act.put, s1_, s2_, s3_, i64_w, i32_w]
     rfl
    refine pure_ (i := 11) (N := some 34) (v := ?_) (a' := ?_) #[true, true, true, false, true, false, false, false, true, true, true, true, false, false, false, false, false, false, false, false, false, false, false, false, false, false, false, false, false, false, false, false, false, false, false] rfl rfl (any_of HT_.out (by kernel_rfl)) (fun _ _ _ h => h) (Or.inl ⟨by rfl, ?_⟩) ?_ ?_
    rotate_left
    ·intro w'
     go_simp
     with_reducible rfl
    rotate_left
    ·simp only [Act.put, s1_, s2_, s3_, i64_w, i32_w]
     rfl
    refine pure_ (i := 14) (N := some 37) (v := ?_) (a' := ?_) #[true, true, true, false, true, false, false, false, true, true, true, true, false, false, true, false, false, false, false, false, false, false, false, false, false, false, false, false, false, false, false, false, false, false, false] rfl rfl (any_of HT_.out (by kernel_rfl)) (fun _ _ _ h => h) (Or.inl ⟨by rfl, ?_⟩) ?_ ?_
    rotate_left
    ·intro w'
     go_simp
     with_reducible rfl
    rotate_left
    ·simp only [Act.put, s1_, s2_, s3_, i64_w, i32_w]
     rfl
    refine pure_ (i := 18) (N := some 41) (v := ?_) (a' := ?_) #[true, true, true, false, true, false, false, false, true, true, true, true, false, false, true, false, false, false, true, false, false, false, false, false, false, false, false, false, false, false, false, false, false, false, false] rfl rfl (any_of HT_.out (by kernel_rfl)) (fun _ _ _ h => h) (Or.inl ⟨by rfl, ?_⟩) ?_ ?_
    rotate_left
    ·intro w'
     go_simp
     with_reducible rfl
    rotate_left
    ·simp only [Act.put, s1_, s2_, s3_, i64_w, i32_w]
     rfl
    refine pure_ (i := 21) (N := some 44) (v := ?_) (a' := ?_) #[true, true, true, false, true, false, false, false, true, true, true, true, false, false, true, false, false, false, true, false, false, true, false, false, false, false, false, false, false, false, false, false, false, false, false] rfl rfl (any_of HT_.out (by kernel_rfl)) (fun _ _ _ h => h) (Or.inl ⟨by rfl, ?_⟩) ?_ ?_
    rotate_left
    ·intro w'
     go_simp
     with_reducible rfl
    rotate_left
    ·simp only [Act.put, s1_, s2_, s3_, i64_w, i32_w]
     rfl
    refine pure_ (i := 26) (N := some 49) (v := ?_) (a' := ?_) #[true, true, true, false, true, false, false, false, true, true, true, true, false, false, true, false, false, false, true, false, false, true, false, false, false, false, true, false, false, false, false, false, false, false, false] rfl rfl (any_of HT_.out (by kernel_rfl)) (fun _ _ _ h => h) (Or.inl ⟨by rfl, ?_⟩) ?_ ?_
    rotate_left
    ·intro w'
     go_simp
     with_reducible rfl
    rotate_left
    ·simp only [Act.put, s1_, s2_, s3_, i64_w, i32_w]
     rfl
    refine pure_ (i := 30) (N := some 53) (v := ?_) (a' := ?_) #[true, true, true, false, true, false, false, false, true, true, true, true, false, false, true, false, false, false, true, false, false, true, false, false, false, false, true, false, false, false, true, false, false, false, false] rfl rfl (any_of HT_.out (by kernel_rfl)) (fun _ _ _ h => h) (Or.inl ⟨by rfl, ?_⟩) ?_ ?_
    rotate_left
    ·intro w'
     go_simp
     with_reducible rfl
    rotate_left
    ·simp only [Act.put, s1_, s2_, s3_, i64_w, i32_w]
     rfl
    refine take_ (i := 5) (N := some 28) (v := ?_) (a' := ?_) #[true, true, true, false, true, true, false, false, true, true, true, true, false, false, true, false, false, false, true, false, false, true, false, false, false, false, true, false, false, false, true, false, false, false, false] rfl rfl (take_ofW HT_.out HW_.out (by kernel_rfl)) (fun _ _ _ h => h) (Or.inl ⟨by rfl, ?_⟩) hHeld ?_ ?_
    rotate_left
    ·rintro w' ⟨s0, s1, s2, s3, s4, s5, s6, s7, s8⟩
     go_simp
     with_reducible rfl
    rotate_left
    ·simp only [Act.put, s1_, s2_, s3_, i64_w, i32_w]
     rfl
    refine take_ (i := 15) (N := some 38) (v := ?_) (a' := ?_) #[true, true, true, false, true, true, false, false, true, true, true, true, false, false, true, true, false, false, true, false, false, true, false, false, false, false, true, false, false, false, true, false, false, false, false] rfl rfl (take_ofW HT_.out HW_.out (by kernel_rfl)) (fun _ _ _ h => h) (Or.inl ⟨by rfl, ?_⟩) hHeld ?_ ?_
    rotate_left
    ·rintro w' ⟨s0, s1, s2, s3, s4, s5, s6, s7, s8⟩
     go_simp
     with_reducible rfl
    rotate_left
    ·simp only [Act.put, s1_, s2_, s3_, i64_w, i32_w]
     rfl
    refine take_ (i := 19) (N := some 42) (v := ?_) (a' := ?_) #[true, true, true, false, true, true, false, false, true, true, true, true, false, false, true, true, false, false, true, true, false, true, false, false, false, false, true, false, false, false, true, false, false, false, false] rfl rfl (take_ofW HT_.out HW_.out (by kernel_rfl)) (fun _ _ _ h => h) (Or.inl ⟨by rfl, ?_⟩) hHeld ?_ ?_
    rotate_left
    ·rintro w' ⟨s0, s1, s2, s3, s4, s5, s6, s7, s8⟩
     go_simp
     with_reducible rfl
    rotate_left
    ·simp only [Act.put, s1_, s2_, s3_, i64_w, i32_w]
     rfl
    refine pure_ (i := 20) (N := some 43) (v := ?_) (a' := ?_) #[true, true, true, false, true, true, false, false, true, true, true, true, false, false, true, true, false, false, true, true, true, true, false, false, false, false, true, false, false, false, true, false, false, false, false] rfl rfl (any_of HT_.out (by kernel_rfl)) (fun _ _ _ h => h) (Or.inl ⟨by rfl, ?_⟩) ?_ ?_
    rotate_left
    ·intro w'
     go_simp
     with_reducible rfl
    rotate_left
    ·simp only [Act.put, s1_, s2_, s3_, i64_w, i32_w]
     rfl
    refine take_ (i := 22) (N := some 45) (v := ?_) (a' := ?_) #[true, true, true, false, true, true, false, false, true, true, true, true, false, false, true, true, false, false, true, true, true, true, true, false, false, false, true, false, false, false, true, false, false, false, false] rfl rfl (take_ofW HT_.out HW_.out (by kernel_rfl)) (fun _ _ _ h => h) (Or.inl ⟨by rfl, ?_⟩) hHeld ?_ ?_
    rotate_left
    ·rintro w' ⟨s0, s1, s2, s3, s4, s5, s6, s7, s8⟩
     go_simp
     with_reducible rfl
    rotate_left
    ·simp only [Act.put, s1_, s2_, s3_, i64_w, i32_w]
     rfl
    refine pure_ (i := 23) (N := some 46) (v := ?_) (a' := ?_) #[true, true, true, false, true, true, false, false, true, true, true, true, false, false, true, true, false, false, true, true, true, true, true, true, false, false, true, false, false, false, true, false, false, false, false] rfl rfl (any_of HT_.out (by kernel_rfl)) (fun _ _ _ h => h) (Or.inl ⟨by rfl, ?_⟩) ?_ ?_
    rotate_left
    ·intro w'
     go_simp
     with_reducible rfl
    rotate_left
    ·simp only [Act.put, s1_, s2_, s3_, i64_w, i32_w]
     rfl
    refine take_ (i := 27) (N := some 50) (v := ?_) (a' := ?_) #[true, true, true, false, true, true, false, false, true, true, true, true, false, false, true, true, false, false, true, true, true, true, true, true, false, false, true, true, false, false, true, false, false, false, false] rfl rfl (take_ofW HT_.out HW_.out (by kernel_rfl)) (fun _ _ _ h => h) (Or.inl ⟨by rfl, ?_⟩) hHeld ?_ ?_
    rotate_left
    ·rintro w' ⟨s0, s1, s2, s3, s4, s5, s6, s7, s8⟩
     go_simp
     with_reducible rfl
    rotate_left
    ·simp only [Act.put, s1_, s2_, s3_, i64_w, i32_w]
     rfl
    refine take_ (i := 31) (N := some 54) (v := ?_) (a' := ?_) #[true, true, true, false, true, true, false, false, true, true, true, true, false, false, true, true, false, false, true, true, true, true, true, true, false, false, true, true, false, false, true, true, false, false, false] rfl rfl (take_ofW HT_.out HW_.out (by kernel_rfl)) (fun _ _ _ h => h) (Or.inl ⟨by rfl, ?_⟩) hHeld ?_ ?_
    rotate_left
    ·rintro w' ⟨s0, s1, s2, s3, s4, s5, s6, s7, s8⟩
     go_simp
     with_reducible rfl
    rotate_left
    ·simp only [Act.put, s1_, s2_, s3_, i64_w, i32_w]
     rfl
    refine one_ (i := 3) (N := some 26) #[true, true, true, true, true, true, false, false, true, true, true, true, false, false, true, true, false, false, true, true, true, true, true, true, false, false, true, true, false, false, true, true, false, false, false] rfl rfl (one_of HT_.out (by kernel_rfl)) (by decide) (fun K hK => ?_)
    refine goes_ Try.func15 (by kernel_rfl) rfl #[.int .i64 (wrap64 (64 + (wrap64 (Int.tdiv (wrap64 (20 + (a0_8.size : Int))) 4)))), .int .i64 1] (by rfl) rfl rfl (by (try simp only [List.map_toArray, List.map_cons, List.map_nil]); first | done | rfl | (simp only [List.length_drop, List.length_take]; rfl) | (simp only [ByteArray.size_append, ByteArray.size_extract, Nat.sub_zero, Int.natCast_add]; rfl) | (simp [ByteArray.size_append]; done)) ?_
    with_reducible refine (ipfour_put.calls kj2 (wrap64 (64 + (wrap64 (Int.tdiv (wrap64 (20 + (a0_8.size : Int))) 4)))) 1 t103 _ A13.out).mono ?_
    rintro e w36 ⟨rfl, hb⟩
    refine ⟨_, rfl, ?_⟩
    have n0_ := Aside0.mk (bB_ BK101.out hb)
    have n1_ := Aside0.mk (below_step (bU_ HB.out) hb)
    clear BK101
    clear HB
    have BK101 := n0_
    have HB := n1_
    clear n0_ n1_
    (try clear hb)
    (try clear hb2)
    (try clear hk)
    (try clear hi)
    refine hK.out _ _ ⟨(blk_cell BK101.out 0).trans rfl, (blk_cell BK101.out 1).trans rfl, (blk_cell BK101.out 2).trans rfl, (blk_cell BK101.out 3).trans rfl, (blk_cell BK101.out 4).trans rfl, (blk_cell BK101.out 5).trans rfl, (blk_cell BK101.out 6).trans rfl, (blk_cell BK101.out 7).trans rfl, (blk_cell BK101.out 8).trans rfl⟩ (fun hHeld => ?_)
    clear hK K
    refine norm_ (a' := ?_) ?_ ?_
    rotate_left
    ·show Act.put _ (some 26) _ = _
     simp only [Act.put, s1_, s2_, s3_, i64_w, i32_w]
     rfl
    refine one_ (i := 6) (N := some 29) #[true, true, true, true, true, true, true, false, true, true, true, true, false, false, true, true, false, false, true, true, true, true, true, true, false, false, true, true, false, false, true, true, false, false, false] rfl rfl (one_of HT_.out (by kernel_rfl)) (by decide) (fun K hK => ?_)
    refine goes_ Try.func15 (by kernel_rfl) rfl #[.int .i64 a0_0, .int .i64 1] (by rfl) rfl rfl (by (try simp only [List.map_toArray, List.map_cons, List.map_nil]); first | done | rfl | (simp only [List.length_drop, List.length_take]; rfl) | (simp only [ByteArray.size_append, ByteArray.size_extract, Nat.sub_zero, Int.natCast_add]; rfl) | (simp [ByteArray.size_append]; done)) ?_
    with_reducible refine (ipfour_put.calls kj2 a0_0 1 t104 _ A14.out).mono ?_
    rintro e w37 ⟨rfl, hb⟩
    refine ⟨_, rfl, ?_⟩
    have n0_ := Aside0.mk (bB_ BK101.out hb)
    have n1_ := Aside0.mk (below_step (bU_ HB.out) hb)
    clear BK101
    clear HB
    have BK101 := n0_
    have HB := n1_
    clear n0_ n1_
    (try clear hb)
    (try clear hb2)
    (try clear hk)
    (try clear hi)
    refine hK.out _ _ ⟨(blk_cell BK101.out 0).trans rfl, (blk_cell BK101.out 1).trans rfl, (blk_cell BK101.out 2).trans rfl, (blk_cell BK101.out 3).trans rfl, (blk_cell BK101.out 4).trans rfl, (blk_cell BK101.out 5).trans rfl, (blk_cell BK101.out 6).trans rfl, (blk_cell BK101.out 7).trans rfl, (blk_cell BK101.out 8).trans rfl⟩ (fun hHeld => ?_)
    clear hK K
    refine norm_ (a' := ?_) ?_ ?_
    rotate_left
    ·show Act.put _ (some 29) _ = _
     simp only [Act.put, s1_, s2_, s3_, i64_w, i32_w]
     rfl
    refine pure_ (i := 7) (N := some 30) (v := ?_) (a' := ?_) #[true, true, true, true, true, true, true, true, true, true, true, true, false, false, true, true, false, false, true, true, true, true, true, true, false, false, true, true, false, false, true, true, false, false, false] rfl rfl (any_of HT_.out (by kernel_rfl)) (fun _ _ _ h => h) (Or.inl ⟨by rfl, ?_⟩) ?_ ?_
    rotate_left
    ·intro w'
     go_simp
     with_reducible rfl
    rotate_left
    ·simp only [Act.put, s1_, s2_, s3_, i64_w, i32_w]
     rfl
    refine one_ (i := 12) (N := some 35) #[true, true, true, true, true, true, true, true, true, true, true, true, true, false, true, true, false, false, true, true, true, true, true, true, false, false, true, true, false, false, true, true, false, false, false] rfl rfl (one_of HT_.out (by kernel_rfl)) (by decide) (fun K hK => ?_)
    refine goes_ Try.func15 (by kernel_rfl) rfl #[.int .i64 (wrap64 ((wrap64 (20 + (a0_8.size : Int))) + (a1.size : Int))), .int .i64 2] (by rfl) rfl rfl (by (try simp only [List.map_toArray, List.map_cons, List.map_nil]); first | done | rfl | (simp only [List.length_drop, List.length_take]; rfl) | (simp only [ByteArray.size_append, ByteArray.size_extract, Nat.sub_zero, Int.natCast_add]; rfl) | (simp [ByteArray.size_append]; done)) ?_
    with_reducible refine (ipfour_put.calls kj2 (wrap64 ((wrap64 (20 + (a0_8.size : Int))) + (a1.size : Int))) 2 t105 _ A16.out).mono ?_
    rintro e w38 ⟨rfl, hb⟩
    refine ⟨_, rfl, ?_⟩
    have n0_ := Aside0.mk (bB_ BK101.out hb)
    have n1_ := Aside0.mk (below_step (bU_ HB.out) hb)
    clear BK101
    clear HB
    have BK101 := n0_
    have HB := n1_
    clear n0_ n1_
    (try clear hb)
    (try clear hb2)
    (try clear hk)
    (try clear hi)
    refine hK.out _ _ ⟨(blk_cell BK101.out 0).trans rfl, (blk_cell BK101.out 1).trans rfl, (blk_cell BK101.out 2).trans rfl, (blk_cell BK101.out 3).trans rfl, (blk_cell BK101.out 4).trans rfl, (blk_cell BK101.out 5).trans rfl, (blk_cell BK101.out 6).trans rfl, (blk_cell BK101.out 7).trans rfl, (blk_cell BK101.out 8).trans rfl⟩ (fun hHeld => ?_)
    clear hK K
    refine norm_ (a' := ?_) ?_ ?_
    rotate_left
    ·show Act.put _ (some 35) _ = _
     simp only [Act.put, s1_, s2_, s3_, i64_w, i32_w]
     rfl
    refine pure_ (i := 13) (N := some 36) (v := ?_) (a' := ?_) #[true, true, true, true, true, true, true, true, true, true, true, true, true, true, true, true, false, false, true, true, true, true, true, true, false, false, true, true, false, false, true, true, false, false, false] rfl rfl (any_of HT_.out (by kernel_rfl)) (fun _ _ _ h => h) (Or.inl ⟨by rfl, ?_⟩) ?_ ?_
    rotate_left
    ·intro w'
     go_simp
     with_reducible rfl
    rotate_left
    ·simp only [Act.put, s1_, s2_, s3_, i64_w, i32_w]
     rfl
    refine one_ (i := 16) (N := some 39) #[true, true, true, true, true, true, true, true, true, true, true, true, true, true, true, true, true, false, true, true, true, true, true, true, false, false, true, true, false, false, true, true, false, false, false] rfl rfl (one_of HT_.out (by kernel_rfl)) (by decide) (fun K hK => ?_)
    refine goes_ Try.func15 (by kernel_rfl) rfl #[.int .i64 a0_1, .int .i64 2] (by rfl) rfl rfl (by (try simp only [List.map_toArray, List.map_cons, List.map_nil]); first | done | rfl | (simp only [List.length_drop, List.length_take]; rfl) | (simp only [ByteArray.size_append, ByteArray.size_extract, Nat.sub_zero, Int.natCast_add]; rfl) | (simp [ByteArray.size_append]; done)) ?_
    with_reducible refine (ipfour_put.calls kj2 a0_1 2 t106 _ A18.out).mono ?_
    rintro e w39 ⟨rfl, hb⟩
    refine ⟨_, rfl, ?_⟩
    have n0_ := Aside0.mk (bB_ BK101.out hb)
    have n1_ := Aside0.mk (below_step (bU_ HB.out) hb)
    clear BK101
    clear HB
    have BK101 := n0_
    have HB := n1_
    clear n0_ n1_
    (try clear hb)
    (try clear hb2)
    (try clear hk)
    (try clear hi)
    refine hK.out _ _ ⟨(blk_cell BK101.out 0).trans rfl, (blk_cell BK101.out 1).trans rfl, (blk_cell BK101.out 2).trans rfl, (blk_cell BK101.out 3).trans rfl, (blk_cell BK101.out 4).trans rfl, (blk_cell BK101.out 5).trans rfl, (blk_cell BK101.out 6).trans rfl, (blk_cell BK101.out 7).trans rfl, (blk_cell BK101.out 8).trans rfl⟩ (fun hHeld => ?_)
    clear hK K
    refine norm_ (a' := ?_) ?_ ?_
    rotate_left
    ·show Act.put _ (some 39) _ = _
     simp only [Act.put, s1_, s2_, s3_, i64_w, i32_w]
     rfl
    refine pure_ (i := 17) (N := some 40) (v := ?_) (a' := ?_) #[true, true, true, true, true, true, true, true, true, true, true, true, true, true, true, true, true, true, true, true, true, true, true, true, false, false, true, true, false, false, true, true, false, false, false] rfl rfl (any_of HT_.out (by kernel_rfl)) (fun _ _ _ h => h) (Or.inl ⟨by rfl, ?_⟩) ?_ ?_
    rotate_left
    ·intro w'
     go_simp
     with_reducible rfl
    rotate_left
    ·simp only [Act.put, s1_, s2_, s3_, i64_w, i32_w]
     rfl
    refine one_ (i := 24) (N := some 47) #[true, true, true, true, true, true, true, true, true, true, true, true, true, true, true, true, true, true, true, true, true, true, true, true, true, false, true, true, false, false, true, true, false, false, false] rfl rfl (one_of HT_.out (by kernel_rfl)) (by decide) (fun K hK => ?_)
    refine goes_ Try.func15 (by kernel_rfl) rfl #[.int .i64 (wrap64 ((wrap64 (a0_2 * 8192)) + a0_3)), .int .i64 2] (by rfl) rfl rfl (by (try simp only [List.map_toArray, List.map_cons, List.map_nil]); first | done | rfl | (simp only [List.length_drop, List.length_take]; rfl) | (simp only [ByteArray.size_append, ByteArray.size_extract, Nat.sub_zero, Int.natCast_add]; rfl) | (simp [ByteArray.size_append]; done)) ?_
    with_reducible refine (ipfour_put.calls kj2 (wrap64 ((wrap64 (a0_2 * 8192)) + a0_3)) 2 t107 _ A20.out).mono ?_
    rintro e w40 ⟨rfl, hb⟩
    refine ⟨_, rfl, ?_⟩
    have n0_ := Aside0.mk (bB_ BK101.out hb)
    have n1_ := Aside0.mk (below_step (bU_ HB.out) hb)
    clear BK101
    clear HB
    have BK101 := n0_
    have HB := n1_
    clear n0_ n1_
    (try clear hb)
    (try clear hb2)
    (try clear hk)
    (try clear hi)
    refine hK.out _ _ ⟨(blk_cell BK101.out 0).trans rfl, (blk_cell BK101.out 1).trans rfl, (blk_cell BK101.out 2).trans rfl, (blk_cell BK101.out 3).trans rfl, (blk_cell BK101.out 4).trans rfl, (blk_cell BK101.out 5).trans rfl, (blk_cell BK101.out 6).trans rfl, (blk_cell BK101.out 7).trans rfl, (blk_cell BK101.out 8).trans rfl⟩ (fun hHeld => ?_)
    clear hK K
    refine norm_ (a' := ?_) ?_ ?_
    rotate_left
    ·show Act.put _ (some 47) _ = _
     simp only [Act.put, s1_, s2_, s3_, i64_w, i32_w]
     rfl
    refine pure_ (i := 25) (N := some 48) (v := ?_) (a' := ?_) #[true, true, true, true, true, true, true, true, true, true, true, true, true, true, true, true, true, true, true, true, true, true, true, true, true, true, true, true, false, false, true, true, false, false, false] rfl rfl (any_of HT_.out (by kernel_rfl)) (fun _ _ _ h => h) (Or.inl ⟨by rfl, ?_⟩) ?_ ?_
    rotate_left
    ·intro w'
     go_simp
     with_reducible rfl
    rotate_left
    ·simp only [Act.put, s1_, s2_, s3_, i64_w, i32_w]
     rfl
    refine one_ (i := 28) (N := some 51) #[true, true, true, true, true, true, true, true, true, true, true, true, true, true, true, true, true, true, true, true, true, true, true, true, true, true, true, true, true, false, true, true, false, false, false] rfl rfl (one_of HT_.out (by kernel_rfl)) (by decide) (fun K hK => ?_)
    refine goes_ Try.func15 (by kernel_rfl) rfl #[.int .i64 a0_4, .int .i64 1] (by rfl) rfl rfl (by (try simp only [List.map_toArray, List.map_cons, List.map_nil]); first | done | rfl | (simp only [List.length_drop, List.length_take]; rfl) | (simp only [ByteArray.size_append, ByteArray.size_extract, Nat.sub_zero, Int.natCast_add]; rfl) | (simp [ByteArray.size_append]; done)) ?_
    with_reducible refine (ipfour_put.calls kj2 a0_4 1 t108 _ A22.out).mono ?_
    rintro e w41 ⟨rfl, hb⟩
    refine ⟨_, rfl, ?_⟩
    have n0_ := Aside0.mk (bB_ BK101.out hb)
    have n1_ := Aside0.mk (below_step (bU_ HB.out) hb)
    clear BK101
    clear HB
    have BK101 := n0_
    have HB := n1_
    clear n0_ n1_
    (try clear hb)
    (try clear hb2)
    (try clear hk)
    (try clear hi)
    refine hK.out _ _ ⟨(blk_cell BK101.out 0).trans rfl, (blk_cell BK101.out 1).trans rfl, (blk_cell BK101.out 2).trans rfl, (blk_cell BK101.out 3).trans rfl, (blk_cell BK101.out 4).trans rfl, (blk_cell BK101.out 5).trans rfl, (blk_cell BK101.out 6).trans rfl, (blk_cell BK101.out 7).trans rfl, (blk_cell BK101.out 8).trans rfl⟩ (fun hHeld => ?_)
    clear hK K
    refine norm_ (a' := ?_) ?_ ?_
    rotate_left
    ·show Act.put _ (some 51) _ = _
     simp only [Act.put, s1_, s2_, s3_, i64_w, i32_w]
     rfl
    refine pure_ (i := 29) (N := some 52) (v := ?_) (a' := ?_) #[true, true, true, true, true, true, true, true, true, true, true, true, true, true, true, true, true, true, true, true, true, true, true, true, true, true, true, true, true, true, true, true, false, false, false] rfl rfl (any_of HT_.out (by kernel_rfl)) (fun _ _ _ h => h) (Or.inl ⟨by rfl, ?_⟩) ?_ ?_
    rotate_left
    ·intro w'
     go_simp
     with_reducible rfl
    rotate_left
    ·simp only [Act.put, s1_, s2_, s3_, i64_w, i32_w]
     rfl
    refine one_ (i := 32) (N := some 55) #[true, true, true, true, true, true, true, true, true, true, true, true, true, true, true, true, true, true, true, true, true, true, true, true, true, true, true, true, true, true, true, true, true, false, false] rfl rfl (one_of HT_.out (by kernel_rfl)) (by decide) (fun K hK => ?_)
    refine goes_ Try.func15 (by kernel_rfl) rfl #[.int .i64 a0_5, .int .i64 1] (by rfl) rfl rfl (by (try simp only [List.map_toArray, List.map_cons, List.map_nil]); first | done | rfl | (simp only [List.length_drop, List.length_take]; rfl) | (simp only [ByteArray.size_append, ByteArray.size_extract, Nat.sub_zero, Int.natCast_add]; rfl) | (simp [ByteArray.size_append]; done)) ?_
    with_reducible refine (ipfour_put.calls kj2 a0_5 1 t109 _ A24.out).mono ?_
    rintro e w42 ⟨rfl, hb⟩
    refine ⟨_, rfl, ?_⟩
    have n0_ := Aside0.mk (bB_ BK101.out hb)
    have n1_ := Aside0.mk (below_step (bU_ HB.out) hb)
    clear BK101
    clear HB
    have BK101 := n0_
    have HB := n1_
    clear n0_ n1_
    (try clear hb)
    (try clear hb2)
    (try clear hk)
    (try clear hi)
    refine hK.out _ _ ⟨(blk_cell BK101.out 0).trans rfl, (blk_cell BK101.out 1).trans rfl, (blk_cell BK101.out 2).trans rfl, (blk_cell BK101.out 3).trans rfl, (blk_cell BK101.out 4).trans rfl, (blk_cell BK101.out 5).trans rfl, (blk_cell BK101.out 6).trans rfl, (blk_cell BK101.out 7).trans rfl, (blk_cell BK101.out 8).trans rfl⟩ (fun hHeld => ?_)
    clear hK K
    refine norm_ (a' := ?_) ?_ ?_
    rotate_left
    ·show Act.put _ (some 55) _ = _
     simp only [Act.put, s1_, s2_, s3_, i64_w, i32_w]
     rfl
    refine pure_ (i := 33) (N := some 56) (v := ?_) (a' := ?_) #[true, true, true, true, true, true, true, true, true, true, true, true, true, true, true, true, true, true, true, true, true, true, true, true, true, true, true, true, true, true, true, true, true, true, false] rfl rfl (any_of HT_.out (by kernel_rfl)) (fun _ _ _ h => h) (Or.inl ⟨by rfl, ?_⟩) ?_ ?_
    rotate_left
    ·intro w'
     go_simp
     with_reducible rfl
    rotate_left
    ·simp only [Act.put, s1_, s2_, s3_, i64_w, i32_w]
     rfl
    refine pure_ (i := 34) (N := some 7) (v := ?_) (a' := ?_) #[true, true, true, true, true, true, true, true, true, true, true, true, true, true, true, true, true, true, true, true, true, true, true, true, true, true, true, true, true, true, true, true, true, true, true] rfl rfl (any_of HT_.out (by kernel_rfl)) (fun _ _ _ h => h) (Or.inl ⟨by rfl, ?_⟩) ?_ ?_
    rotate_left
    ·intro w'
     go_simp
     with_reducible rfl
    rotate_left
    ·simp only [Act.put, s1_, s2_, s3_, i64_w, i32_w]
     rfl
    refine done_ (done_of HT_.out (by kernel_rfl)) ?_
    have hcz43_0 : w42.cell? ⟨gb101, 0, none⟩ = some (.int .i64 a0_0) := (blk_cell BK101.out 0).trans rfl
    have hcz43_1 : w42.cell? ⟨gb101, 1, none⟩ = some (.int .i64 a0_1) := (blk_cell BK101.out 1).trans rfl
    have hcz43_2 : w42.cell? ⟨gb101, 2, none⟩ = some (.int .i64 a0_2) := (blk_cell BK101.out 2).trans rfl
    have hcz43_3 : w42.cell? ⟨gb101, 3, none⟩ = some (.int .i64 a0_3) := (blk_cell BK101.out 3).trans rfl
    have hcz43_4 : w42.cell? ⟨gb101, 4, none⟩ = some (.int .i64 a0_4) := (blk_cell BK101.out 4).trans rfl
    have hcz43_5 : w42.cell? ⟨gb101, 5, none⟩ = some (.int .i64 a0_5) := (blk_cell BK101.out 5).trans rfl
    have hcz43_6 : w42.cell? ⟨gb101, 6, none⟩ = some (.string a0_6) := (blk_cell BK101.out 6).trans rfl
    have hcz43_7 : w42.cell? ⟨gb101, 7, none⟩ = some (.string a0_7) := (blk_cell BK101.out 7).trans rfl
    have hcz43_8 : w42.cell? ⟨gb101, 8, none⟩ = some (.string a0_8) := (blk_cell BK101.out 8).trans rfl
    have hfz43_0 := blk_frozen BK101.out 0
    have hfz43_1 := blk_frozen BK101.out 1
    have hfz43_2 := blk_frozen BK101.out 2
    have hfz43_3 := blk_frozen BK101.out 3
    have hfz43_4 := blk_frozen BK101.out 4
    have hfz43_5 := blk_frozen BK101.out 5
    have hfz43_6 := blk_frozen BK101.out 6
    have hfz43_7 := blk_frozen BK101.out 7
    have hfz43_8 := blk_frozen BK101.out 8
    try go_wp2_with (first | ((with_reducible refine gate_callee (f := 16) rfl ?_); refine gL_ (some 70) rfl rfl Try.func16 (by kernel_rfl) rfl #[.string ((((((((t103 ++ t104) ++ t105) ++ t106) ++ t107) ++ t108) ++ t109) ++ (⟨#[0, 0]⟩ : ByteArray)) ++ ((a0_6 ++ a0_7) ++ a0_8))] rfl ?_; (with_reducible refine (octet_Sum.calls kj2 ((((((((t103 ++ t104) ++ t105) ++ t106) ++ t107) ++ t108) ++ t109) ++ (⟨#[0, 0]⟩ : ByteArray)) ++ ((a0_6 ++ a0_7) ++ a0_8)) t110 _ A30.out).mono ?_); rintro e w' ⟨rfl, ⟨nd, rfl⟩⟩; refine ⟨_, rfl, ?_⟩) | ((with_reducible refine gate_callee (f := 15) rfl ?_); refine gL_ (some 71) rfl rfl Try.func15 (by kernel_rfl) rfl #[.int .i64 t110, .int .i64 2] rfl ?_; (with_reducible refine (ipfour_put.calls kj2 t110 2 t111 _ A31.out).mono ?_); rintro e w44 ⟨rfl, hb⟩; refine ⟨_, rfl, ?_⟩; have n0_ := Aside0.mk (bB_ BK101.out hb); have n1_ := Aside0.mk (below_step (bU_ HB.out) hb); clear BK101 HB; have BK101 := n0_; have HB := n1_; clear n0_ n1_; (try clear hb); (try clear hb2); (try clear hk); (try clear hi)))
    go_ret2
    exact rE_ (bU_ HB.out)
end Go.Proofs.Ytdmofjhncdkofaa.Q
