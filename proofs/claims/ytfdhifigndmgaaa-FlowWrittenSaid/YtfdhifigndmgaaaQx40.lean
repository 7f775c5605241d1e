-- made by a program of this session (wip/print-patch.py, over the kit's print)
import Derived.Test.YtfdhifigndmgaaaQx0
import Derived.Test.YtfdhifigndmgaaaQx2
import Derived.Test.YtfdhifigndmgaaaQx39
namespace Go.Proofs.Ytfdhifigndmgaaa.Q
open Go.RowKit Go.Proofs.YtfdhifigndmgaaaW.PrintWords Go.Proofs.YtfdhifigndmgaaaW.PrintLast Go.Proofs.YtfdhifigndmgaaaW.PrintMore
attribute [local go_sem] max2_int min2_int max_two min_two max_three min_three max_four min_four   -- for this text's walks alone
set_option linter.unusedVariables false
set_option linter.unusedSimpArgs false

attribute [local go_sem] cell_twice_ cell_twiceN_
/-! ### ether_Put: function 23 -/
def ether_Put.l0 : Nat → ByteArray → ByteArray → List (S81) → Int → Int → ByteArray → ByteArray → List (S81) → Int → Option (ByteArray × Int)
 | 0, _, _, _, _, _, _, _, _, _ => none
 | k + 1, x1, x6, x24, x25, x26, x102000, x102001, x102002, x102003 => if x26 < x25 then (if 0 ≤ x26 then (if x26 < (x24.length : Int) then ((octet_Put.f k ((rd_T81 x24 x26).f0) 2).bind fun bt105 => ((octet_Put.f k ((rd_T81 x24 x26).f1) 2).bind fun bt107 => (if bt105.1.size + bt107.1.size ≤ 9223372036854775807 then (if x6.size + (bt105.1 ++ bt107.1).size ≤ 9223372036854775807 then (ether_Put.l0 k x1 (x6 ++ (bt105.1 ++ bt107.1)) x24 x25 (wrap64 (x26 + 1)) x102000 x102001 x102002 x102003) else (none)) else (none)))) else (none)) else (none)) else ((octet_Put.f k x102003 2).bind fun bt109 => (if x6.size + bt109.1.size ≤ 9223372036854775807 then (if (x6 ++ bt109.1).size + x1.size ≤ 9223372036854775807 then (some ((x6 ++ bt109.1) ++ x1, 0)) else (none)) else (none)))
def ether_Put.f (k : Nat) (a0_0 : ByteArray) (a0_1 : ByteArray) (l0_2 : List (S81)) (a0_3 : Int) (a1 : ByteArray) : Option (ByteArray × Int) := (ether_Right.f k a0_0 a0_1 l0_2 a0_3).bind fun t102 => (if t102 = true then (if a0_0.size + a0_1.size ≤ 9223372036854775807 then (ether_Put.l0 k a1 (a0_0 ++ a0_1) l0_2 (l0_2.length : Int) 0 a0_0 a0_1 l0_2 a0_3) else (none)) else (some ((⟨#[]⟩ : ByteArray), 1)))
theorem ether_Put.mono_l : ∀ k, (∀ y0 y1 y2 y3 y4 y5 y6 y7 y8, LeO (ether_Put.l0 k y0 y1 y2 y3 y4 y5 y6 y7 y8) (ether_Put.l0 (k + 1) y0 y1 y2 y3 y4 y5 y6 y7 y8))
 | 0 => fun _ _ _ _ _ _ _ _ _ r h => by simp [ether_Put.l0] at h
 | k + 1 => by
  have ih0 := ether_Put.mono_l k
  ·intro y0 y1 y2 y3 y4 y5 y6 y7 y8
   unfold ether_Put.l0
   repeat' first
   | (with_reducible exact ih0 _ _ _ _ _ _ _ _ _)
   | (with_reducible exact ether_Right.mono _ _ _ _ _)
   | (with_reducible exact octet_Put.mono _ _ _)
   | (with_reducible exact LeO.refl _)
   | (with_reducible exact LeO.none _)
   | (with_reducible refine LeO.ite ?_ ?_)
   | (with_reducible refine LeO.bind ?_ (fun _ => ?_))
   | exact ih0 _ _ _ _ _ _ _ _ _
   | exact ether_Right.mono _ _ _ _ _
   | exact octet_Put.mono _ _ _
   | exact LeO.none _
   | refine LeO.ite ?_ ?_
   | refine LeO.bind ?_ (fun _ => ?_)
theorem ether_Put.mono : ∀ a0 a1 a2 a3 a4 k, LeO (ether_Put.f k a0 a1 a2 a3 a4) (ether_Put.f (k + 1) a0 a1 a2 a3 a4) := by
 intro a0 a1 a2 a3 a4 k
 have ih0 := ether_Put.mono_l k
 unfold ether_Put.f
 repeat' first
   | (with_reducible exact ih0 _ _ _ _ _ _ _ _ _)
   | (with_reducible exact ether_Right.mono _ _ _ _ _)
   | (with_reducible exact octet_Put.mono _ _ _)
   | (with_reducible exact LeO.refl _)
   | (with_reducible exact LeO.none _)
   | (with_reducible refine LeO.ite ?_ ?_)
   | (with_reducible refine LeO.bind ?_ (fun _ => ?_))
   | exact ih0 _ _ _ _ _ _ _ _ _
   | exact ether_Right.mono _ _ _ _ _
   | exact octet_Put.mono _ _ _
   | exact LeO.none _
   | refine LeO.ite ?_ ?_
   | refine LeO.bind ?_ (fun _ => ?_)
set_option maxHeartbeats 8000000 in
set_option maxRecDepth 100000 in
theorem ether_Put.calls (k : Nat) (a0_0 : ByteArray) (a0_1 : ByteArray) (A0_2 : Option Addr) (c0_2 : Nat) (l0_2 : List (S81)) (a0_3 : Int) (a1 : ByteArray) (r1 : ByteArray) (r2 : Int) (w : World) (hr0_2 : Kd.C k81 w A0_2 l0_2.length l0_2) (hc0_2 : l0_2.length ≤ c0_2) (h : ether_Put.f k a0_0 a0_1 l0_2 a0_3 a1 = some (r1, r2)) :
  Calls Try.prog 23 #[.agg #[.string a0_0, .string a0_1, .slice A0_2 l0_2.length c0_2, .int .i64 a0_3], .string a1] w fun e w' => e = .returned (.tuple #[.string r1, .int .i64 r2]) ∧ Below w.heap.size w w' := by
 have hu41 := Try.underlying41
 have hu81 := Try.underlying81
 have HR0_2 := Aside0.mk hr0_2
 have HC0_2 := Aside0.mk hc0_2
 clear hr0_2 hc0_2
 have HB := Aside0.mk (Below.refl w.heap.size w)
 have H : ((ether_Right.f k a0_0 a0_1 l0_2 a0_3).bind fun t102 => (if t102 = true then (if a0_0.size + a0_1.size ≤ 9223372036854775807 then (ether_Put.l0 k a1 (a0_0 ++ a0_1) l0_2 (l0_2.length : Int) 0 a0_0 a0_1 l0_2 a0_3) else (none)) else (some ((⟨#[]⟩ : ByteArray), 1)))) = some (r1, r2) := h
 clear h
 replace H := Option.bind_eq_some_iff.mp H
 obtain ⟨t102, A30, H⟩ := H
 replace H : (if t102 = true then (if a0_0.size + a0_1.size ≤ 9223372036854775807 then (ether_Put.l0 k a1 (a0_0 ++ a0_1) l0_2 (l0_2.length : Int) 0 a0_0 a0_1 l0_2 a0_3) else (none)) else (some ((⟨#[]⟩ : ByteArray), 1))) = some (r1, r2) := H
 have A3 := Aside0.mk A30
 clear A30
 by_cases c4 : t102 = true
 ·subst c4
  have H1 : (if a0_0.size + a0_1.size ≤ 9223372036854775807 then (ether_Put.l0 k a1 (a0_0 ++ a0_1) l0_2 (l0_2.length : Int) 0 a0_0 a0_1 l0_2 a0_3) else (none)) = some (r1, r2) := by rw [if_pos rfl] at H; exact H
  clear H
  have H := H1
  clear H1
  by_cases c5 : a0_0.size + a0_1.size ≤ 9223372036854775807
  rotate_left
  ·rw [if_neg c5] at H
   exact absurd H (by simp)
  rw [if_pos c5] at H
  have c5b0 := eq_true c5
  have c5b1 : decide (a0_0.size + a0_1.size ≤ 9223372036854775807) = true := decide_eq_true c5
  try have c5b2 : (9223372036854775807 < a0_0.size + a0_1.size) = False := eq_false (Nat.not_lt.2 c5)
  try (have c5b3 := c5; simp only [ByteArray.size_append, ByteArray.size_extract, Nat.sub_zero, Nat.min_self] at c5b3; have c5b4 := eq_false (Nat.not_lt.2 c5b3))
  have H' := Aside0.mk H
  clear H
  go_enter Try.func23, Try.ntmps23
  go_wp2_with (first | ((with_reducible refine gate_dst (N := 2) rfl ?_); refine box_event ?hg (N := 2) ?hd (cs := #[.string a0_0, .string a0_1, .slice A0_2 l0_2.length c0_2, .int .i64 a0_3]) (t := 41) ?hr ?_; (case hd => rfl); (case hg => rfl); (case hr => first | (go_simp; done) | (go_simp; rfl)); intro gb101 hg w6 hbox hb; have n0_ := Aside0.mk (below_step (bU_ HB.out) hb); have n1_ := Aside0.mk (hbox); have n2_ := Aside0.mk ((by rw [hg]; exact (below_size (bU_ HB.out)) : w.heap.size ≤ gb101)); have n3_ := Aside0.mk ((by rw [hg]; exact (below_size (bU_ HB.out)) : w.heap.size ≤ gb101)); clear HB; have HB := n0_; have BK101 := n1_; have GW101 := n2_; have GE101 := n3_; clear n0_ n1_ n2_ n3_; clear hb hbox hg; have hcz7_0 : w6.cell? ⟨gb101, 0, none⟩ = some (.string a0_0) := (blk_cell BK101.out 0).trans rfl; have hcz7_1 : w6.cell? ⟨gb101, 1, none⟩ = some (.string a0_1) := (blk_cell BK101.out 1).trans rfl; have hcz7_2 : w6.cell? ⟨gb101, 2, none⟩ = some (.slice A0_2 l0_2.length c0_2) := (blk_cell BK101.out 2).trans rfl; have hcz7_3 : w6.cell? ⟨gb101, 3, none⟩ = some (.int .i64 a0_3) := (blk_cell BK101.out 3).trans rfl; have hfz7_0 := blk_frozen BK101.out 0; have hfz7_1 := blk_frozen BK101.out 1; have hfz7_2 := blk_frozen BK101.out 2; have hfz7_3 := blk_frozen BK101.out 3) | ((with_reducible refine gate_callee (f := 39) rfl ?_); refine gL_ (some 16) rfl rfl Try.func39 (by kernel_rfl) rfl #[.agg #[.string a0_0, .string a0_1, .slice A0_2 l0_2.length c0_2, .int .i64 a0_3]] rfl ?_; (with_reducible refine (ether_Right.calls k a0_0 a0_1 _ _ l0_2 a0_3 true _ ?side1 ?side2 A3.out).mono ?_); (case side1 => repeat (first | exact (Kd.C_below HR0_2.out HB.out) | (with_reducible refine Kd.C_alloc ?_ _) | (with_reducible refine Kd.C_drewN ?_ _) | (with_reducible refine Kd.C_drew ?_))); (case side2 => exact HC0_2.out); rintro e w8 ⟨rfl, hb⟩; refine ⟨_, rfl, ?_⟩; have n0_ := Aside0.mk (blk_below (g := gb101) (o := .cells #[.string a0_0, .string a0_1, .slice A0_2 l0_2.length c0_2, .int .i64 a0_3] 41 (0, 0)) (by (with_reducible repeat first | apply pN_ | apply pD_ | apply pA_); exact BK101.out) hb); have n1_ := Aside0.mk (below_step (bU_ HB.out) hb); clear BK101 HB; have BK101 := n0_; have HB := n1_; clear n0_ n1_; (try clear hb); (try clear hb2); (try clear hk); (try clear hi); have hcz9_0 : w8.cell? ⟨gb101, 0, none⟩ = some (.string a0_0) := (blk_cell BK101.out 0).trans rfl; have hcz9_1 : w8.cell? ⟨gb101, 1, none⟩ = some (.string a0_1) := (blk_cell BK101.out 1).trans rfl; have hcz9_2 : w8.cell? ⟨gb101, 2, none⟩ = some (.slice A0_2 l0_2.length c0_2) := (blk_cell BK101.out 2).trans rfl; have hcz9_3 : w8.cell? ⟨gb101, 3, none⟩ = some (.int .i64 a0_3) := (blk_cell BK101.out 3).trans rfl; have hfz9_0 := blk_frozen BK101.out 0; have hfz9_1 := blk_frozen BK101.out 1; have hfz9_2 := blk_frozen BK101.out 2; have hfz9_3 := blk_frozen BK101.out 3))
  go_loopg [6, 26] k (fun kq v6 v26 w' => ∃ (x6_1 : ByteArray) (x26_1 : Int), v6 = .string x6_1 ∧ v26 = .int .i64 x26_1 ∧ Aside0 (ether_Put.l0 kq a1 x6_1 l0_2 (l0_2.length : Int) x26_1 a0_0 a0_1 l0_2 a0_3 = some (r1, r2)) ∧ Aside0 (kq ≤ k) ∧ Aside0 (w'.heap[gb101]? = some (.cells #[.string a0_0, .string a0_1, (.slice A0_2 l0_2.length c0_2), .int .i64 a0_3] 41 (0, 0))) ∧ Aside0 (Below w.heap.size w w'))
  case atStart => exact ⟨(a0_0 ++ a0_1), (0), (by first | rfl | (simp; done) | (simp [*]; done)), (by first | rfl | (simp; done) | (simp [*]; done)), H', ⟨Nat.le_refl _⟩, ⟨by (with_reducible repeat first | apply pN_ | apply pD_ | apply pA_); exact BK101.out⟩, ⟨bU_ HB.out⟩⟩
  case round =>
   clear H'
   try clear c2
   try clear p2
   try clear c3
   try clear c4
   try clear c5
   try clear c5b0
   try clear c5b1
   try clear c5b2
   try clear hcz7_0
   try clear hcz7_1
   try clear hcz7_2
   try clear hcz7_3
   try clear hcz9_0
   try clear hcz9_1
   try clear hcz9_2
   try clear hcz9_3
   try clear hfz7_0
   try clear hfz7_1
   try clear hfz7_2
   try clear hfz7_3
   try clear hfz9_0
   try clear hfz9_1
   try clear hfz9_2
   try clear hfz9_3
   obtain ⟨x6_1, x26_1, rfl, rfl, HA, HK1, BK101, HB⟩ := hrel
   cases gk with
   | zero => exact absurd HA.out (by simp [ether_Put.l0])
   | succ k1 =>
    have H := HA.out
    clear HA
    simp only [ether_Put.l0] at H
    by_cases c10 : x26_1 < (l0_2.length : Int)
    ·rw [if_pos c10] at H
     have c10b0 : decide (x26_1 < (l0_2.length : Int)) = true := decide_eq_true c10
     clear c10
     by_cases c11 : 0 ≤ x26_1
     rotate_left
     ·rw [if_neg c11] at H
      exact absurd H (by simp)
     rw [if_pos c11] at H
     have c11b0 : decide (0 ≤ x26_1) = true := decide_eq_true c11
     clear c11
     by_cases c12 : x26_1 < (l0_2.length : Int)
     rotate_left
     ·rw [if_neg c12] at H
      exact absurd H (by simp)
     rw [if_pos c12] at H
     have c12b0 : decide (x26_1 < (l0_2.length : Int)) = true := decide_eq_true c12
     clear c12
     replace H := Option.bind_eq_some_iff.mp H
     obtain ⟨⟨t105, t106⟩, A130, H⟩ := H
     replace H : ((octet_Put.f k1 ((rd_T81 l0_2 x26_1).f1) 2).bind fun bt107 => (if t105.size + bt107.1.size ≤ 9223372036854775807 then (if x6_1.size + (t105 ++ bt107.1).size ≤ 9223372036854775807 then (ether_Put.l0 k1 a1 (x6_1 ++ (t105 ++ bt107.1)) l0_2 (l0_2.length : Int) (wrap64 (x26_1 + 1)) a0_0 a0_1 l0_2 a0_3) else (none)) else (none))) = some (r1, r2) := H
     have A13 := Aside0.mk A130
     clear A130
     replace H := Option.bind_eq_some_iff.mp H
     obtain ⟨⟨t107, t108⟩, A140, H⟩ := H
     replace H : (if t105.size + t107.size ≤ 9223372036854775807 then (if x6_1.size + (t105 ++ t107).size ≤ 9223372036854775807 then (ether_Put.l0 k1 a1 (x6_1 ++ (t105 ++ t107)) l0_2 (l0_2.length : Int) (wrap64 (x26_1 + 1)) a0_0 a0_1 l0_2 a0_3) else (none)) else (none)) = some (r1, r2) := H
     have A14 := Aside0.mk A140
     clear A140
     by_cases c15 : t105.size + t107.size ≤ 9223372036854775807
     rotate_left
     ·rw [if_neg c15] at H
      exact absurd H (by simp)
     rw [if_pos c15] at H
     have c15b0 := eq_true c15
     have c15b1 : decide (t105.size + t107.size ≤ 9223372036854775807) = true := decide_eq_true c15
     try have c15b2 : (9223372036854775807 < t105.size + t107.size) = False := eq_false (Nat.not_lt.2 c15)
     try (have c15b3 := c15; simp only [ByteArray.size_append, ByteArray.size_extract, Nat.sub_zero, Nat.min_self] at c15b3; have c15b4 := eq_false (Nat.not_lt.2 c15b3))
     by_cases c16 : x6_1.size + (t105 ++ t107).size ≤ 9223372036854775807
     rotate_left
     ·rw [if_neg c16] at H
      exact absurd H (by simp)
     rw [if_pos c16] at H
     have c16b0 := eq_true c16
     have c16b1 : decide (x6_1.size + (t105 ++ t107).size ≤ 9223372036854775807) = true := decide_eq_true c16
     try have c16b2 : (9223372036854775807 < x6_1.size + (t105 ++ t107).size) = False := eq_false (Nat.not_lt.2 c16)
     try (have c16b3 := c16; simp only [ByteArray.size_append, ByteArray.size_extract, Nat.sub_zero, Nat.min_self] at c16b3; have c16b4 := eq_false (Nat.not_lt.2 c16b3))
     have H' := Aside0.mk H
     clear H
     have p103 : 0 ≤ (x26_1 : Int) := of_decide_eq_true (by first | (with_reducible assumption) | assumption)
     have q103 : x26_1 < (l0_2.length : Int) := of_decide_eq_true (by first | (with_reducible assumption) | assumption)
     obtain ⟨ad103, e103, hx103_0, hx103_1⟩ := at_T81 HR0_2.out x26_1 p103 q103
     cases e103
     replace hx103_0 := (HB.out.cell (World.block_lt_of_cell? w _ hx103_0)).trans hx103_0
     replace hx103_1 := (HB.out.cell (World.block_lt_of_cell? w _ hx103_1)).trans hx103_1
     replace p103 := eq_true p103
     replace q103 := eq_true q103
     go_wp2_with (first | ((with_reducible refine gate_dst (N := 8) rfl ?_); refine box_event ?hg (N := 8) ?hd (cs := #[.int .i64 0, .int .i64 0]) (t := 81) ?hr ?_; (case hd => rfl); (case hg => rfl); (case hr => first | (go_simp; done) | (go_simp; rfl)); intro gb104 hg w17 hbox hb; have n0_ := Aside0.mk (blk_below (g := gb101) (o := .cells #[.string a0_0, .string a0_1, .slice (some ad103) l0_2.length c0_2, .int .i64 a0_3] 41 (0, 0)) (by (with_reducible repeat first | apply pN_ | apply pD_ | apply pA_); exact BK101.out) hb); have n1_ := Aside0.mk (below_step (bU_ HB.out) hb); have n2_ := Aside0.mk (hbox); have n3_ := Aside0.mk ((by rw [hg]; exact (below_size (bU_ HB.out)) : w.heap.size ≤ gb104)); have n4_ := Aside0.mk ((by rw [hg]; exact (below_size (bU_ HB.out)) : w.heap.size ≤ gb104)); have n5_ := Aside0.mk ((by rw [hg]; exact Nat.ne_of_lt (blk_lt (g := gb101) (o := .cells #[.string a0_0, .string a0_1, .slice (some ad103) l0_2.length c0_2, .int .i64 a0_3] 41 (0, 0)) (by (with_reducible repeat first | apply pN_ | apply pD_ | apply pA_); exact BK101.out)) : gb101 ≠ gb104)); have n6_ := Aside0.mk (Ne.symm n5_.out); clear BK101 HB; have BK101 := n0_; have HB := n1_; have BK104 := n2_; have GW104 := n3_; have GE104 := n4_; have NB101_104 := n5_; have NB104_101 := n6_; clear n0_ n1_ n2_ n3_ n4_ n5_ n6_; clear hb hbox hg; have hnb18 := NB104_101.out; have hnc18 := NB101_104.out; have hcz19_0 : w17.cell? ⟨gb104, 0, none⟩ = some (.int .i64 0) := (blk_cell BK104.out 0).trans rfl; have hcz19_1 : w17.cell? ⟨gb104, 1, none⟩ = some (.int .i64 0) := (blk_cell BK104.out 1).trans rfl; have hfz19_0 := blk_frozen BK104.out 0; have hfz19_1 := blk_frozen BK104.out 1) | ((with_reducible refine gate_callee (f := 24) rfl ?_); refine gL_ (some 33) rfl rfl Try.func24 (by kernel_rfl) rfl #[.int .i64 ((rd_T81 l0_2 x26_1).f0), .int .i64 2] rfl ?_; (with_reducible refine (octet_Put.calls k1 ((rd_T81 l0_2 x26_1).f0) 2 t105 t106 _ A13.out).mono ?_); rintro e w20 ⟨rfl, hb⟩; refine ⟨_, rfl, ?_⟩; have n0_ := Aside0.mk (blk_below (g := gb101) (o := .cells #[.string a0_0, .string a0_1, .slice (some ad103) l0_2.length c0_2, .int .i64 a0_3] 41 (0, 0)) (by (iterate 2 ((with_reducible repeat first | apply pN_ | apply pD_ | apply pA_); refine blk_far ?_ NB101_104.out _)); (with_reducible repeat first | apply pN_ | apply pD_ | apply pA_); exact BK101.out) hb); have n1_ := Aside0.mk (blk_below (g := gb104) (o := .cells #[.int .i64 ((rd_T81 l0_2 x26_1).f0), .int .i64 ((rd_T81 l0_2 x26_1).f1)] 81 (0, 0)) (by (with_reducible repeat first | apply pN_ | apply pD_ | apply pA_); refine blk_put (cs := #[.int .i64 ((rd_T81 l0_2 x26_1).f0), .int .i64 0]) ?_ 1 _ rfl; (with_reducible repeat first | apply pN_ | apply pD_ | apply pA_); refine blk_put (cs := #[.int .i64 0, .int .i64 0]) ?_ 0 _ rfl; (with_reducible repeat first | apply pN_ | apply pD_ | apply pA_); exact BK104.out) hb); have n2_ := Aside0.mk (below_step (bU_ HB.out) hb); clear BK101 BK104 HB; have BK101 := n0_; have BK104 := n1_; have HB := n2_; clear n0_ n1_ n2_; (try clear hb); (try clear hb2); (try clear hk); (try clear hi); have hcz21_0 : w20.cell? ⟨gb104, 0, none⟩ = some (.int .i64 ((rd_T81 l0_2 x26_1).f0)) := (blk_cell BK104.out 0).trans rfl; have hcz21_1 : w20.cell? ⟨gb104, 1, none⟩ = some (.int .i64 ((rd_T81 l0_2 x26_1).f1)) := (blk_cell BK104.out 1).trans rfl; have hfz21_0 := blk_frozen BK104.out 0; have hfz21_1 := blk_frozen BK104.out 1) | ((with_reducible refine gate_callee (f := 24) rfl ?_); refine gL_ (some 39) rfl rfl Try.func24 (by kernel_rfl) rfl #[.int .i64 ((rd_T81 l0_2 x26_1).f1), .int .i64 2] rfl ?_; (with_reducible refine (octet_Put.calls k1 ((rd_T81 l0_2 x26_1).f1) 2 t107 t108 _ A14.out).mono ?_); rintro e w22 ⟨rfl, hb⟩; refine ⟨_, rfl, ?_⟩; have n0_ := Aside0.mk (blk_below (g := gb101) (o := .cells #[.string a0_0, .string a0_1, .slice (some ad103) l0_2.length c0_2, .int .i64 a0_3] 41 (0, 0)) (by (with_reducible repeat first | apply pN_ | apply pD_ | apply pA_); exact BK101.out) hb); have n1_ := Aside0.mk (blk_below (g := gb104) (o := .cells #[.int .i64 ((rd_T81 l0_2 x26_1).f0), .int .i64 ((rd_T81 l0_2 x26_1).f1)] 81 (0, 0)) (by (with_reducible repeat first | apply pN_ | apply pD_ | apply pA_); exact BK104.out) hb); have n2_ := Aside0.mk (below_step (bU_ HB.out) hb); clear BK101 BK104 HB; have BK101 := n0_; have BK104 := n1_; have HB := n2_; clear n0_ n1_ n2_; (try clear hb); (try clear hb2); (try clear hk); (try clear hi)))
     go_roundg k1
     case measure => have := HK1.out; omega
     case rel => exact ⟨(x6_1 ++ (t105 ++ t107)), (wrap64 (x26_1 + 1)), (by first | rfl | (simp; done) | (simp [*]; done)), (by first | rfl | (simp; done) | (simp [*]; done)), H', ⟨by have := HK1.out; omega⟩, ⟨by (with_reducible repeat first | apply pN_ | apply pD_ | apply pA_); exact BK101.out⟩, ⟨bU_ HB.out⟩⟩
    ·rw [if_neg c10] at H
     have c10b0 : decide (x26_1 < (l0_2.length : Int)) = false := decide_eq_false c10
     clear c10
     replace H := Option.bind_eq_some_iff.mp H
     obtain ⟨⟨t109, t110⟩, A230, H⟩ := H
     replace H : (if x6_1.size + t109.size ≤ 9223372036854775807 then (if (x6_1 ++ t109).size + a1.size ≤ 9223372036854775807 then (some ((x6_1 ++ t109) ++ a1, 0)) else (none)) else (none)) = some (r1, r2) := H
     have A23 := Aside0.mk A230
     clear A230
     by_cases c24 : x6_1.size + t109.size ≤ 9223372036854775807
     rotate_left
     ·rw [if_neg c24] at H
      exact absurd H (by simp)
     rw [if_pos c24] at H
     have c24b0 := eq_true c24
     have c24b1 : decide (x6_1.size + t109.size ≤ 9223372036854775807) = true := decide_eq_true c24
     try have c24b2 : (9223372036854775807 < x6_1.size + t109.size) = False := eq_false (Nat.not_lt.2 c24)
     try (have c24b3 := c24; simp only [ByteArray.size_append, ByteArray.size_extract, Nat.sub_zero, Nat.min_self] at c24b3; have c24b4 := eq_false (Nat.not_lt.2 c24b3))
     by_cases c25 : (x6_1 ++ t109).size + a1.size ≤ 9223372036854775807
     rotate_left
     ·rw [if_neg c25] at H
      exact absurd H (by simp)
     rw [if_pos c25] at H
     have c25b0 := eq_true c25
     have c25b1 : decide ((x6_1 ++ t109).size + a1.size ≤ 9223372036854775807) = true := decide_eq_true c25
     try have c25b2 : (9223372036854775807 < (x6_1 ++ t109).size + a1.size) = False := eq_false (Nat.not_lt.2 c25)
     try (have c25b3 := c25; simp only [ByteArray.size_append, ByteArray.size_extract, Nat.sub_zero, Nat.min_self] at c25b3; have c25b4 := eq_false (Nat.not_lt.2 c25b3))
     simp only [Option.some.injEq, Prod.mk.injEq] at H
     obtain ⟨rfl, rfl⟩ := H
     have hcz26_0 : wr.cell? ⟨gb101, 0, none⟩ = some (.string a0_0) := (blk_cell BK101.out 0).trans rfl
     have hcz26_1 : wr.cell? ⟨gb101, 1, none⟩ = some (.string a0_1) := (blk_cell BK101.out 1).trans rfl
     have hcz26_2 : wr.cell? ⟨gb101, 2, none⟩ = some (.slice A0_2 l0_2.length c0_2) := (blk_cell BK101.out 2).trans rfl
     have hcz26_3 : wr.cell? ⟨gb101, 3, none⟩ = some (.int .i64 a0_3) := (blk_cell BK101.out 3).trans rfl
     have hfz26_0 := blk_frozen BK101.out 0
     have hfz26_1 := blk_frozen BK101.out 1
     have hfz26_2 := blk_frozen BK101.out 2
     have hfz26_3 := blk_frozen BK101.out 3
     go_wp2_with (first | ((with_reducible refine gate_callee (f := 24) rfl ?_); refine gL_ (some 51) rfl rfl Try.func24 (by kernel_rfl) rfl #[.int .i64 a0_3, .int .i64 2] rfl ?_; (with_reducible refine (octet_Put.calls k1 a0_3 2 t109 t110 _ A23.out).mono ?_); rintro e w27 ⟨rfl, hb⟩; refine ⟨_, rfl, ?_⟩; have n0_ := Aside0.mk (blk_below (g := gb101) (o := .cells #[.string a0_0, .string a0_1, .slice A0_2 l0_2.length c0_2, .int .i64 a0_3] 41 (0, 0)) (by (with_reducible repeat first | apply pN_ | apply pD_ | apply pA_); exact BK101.out) hb); have n1_ := Aside0.mk (below_step (bU_ HB.out) hb); clear BK101 HB; have BK101 := n0_; have HB := n1_; clear n0_ n1_; (try clear hb); (try clear hb2); (try clear hk); (try clear hi)))
     go_ret2
     exact ⟨by first | rfl | (simp [errW_none, errW_some] <;> rfl) | (simp [*, errW_none, errW_some] <;> rfl), bU_ HB.out⟩
 ·replace c4 := Bool.eq_false_iff.mpr c4
  subst c4
  have H1 : (some ((⟨#[]⟩ : ByteArray), 1)) = some (r1, r2) := by rw [if_neg (show ¬ (false = true) by decide)] at H; exact H
  clear H
  have H := H1
  clear H1
  simp only [Option.some.injEq, Prod.mk.injEq] at H
  obtain ⟨rfl, rfl⟩ := H
  go_enter Try.func23, Try.ntmps23
  go_wp2_with (first | ((with_reducible refine gate_dst (N := 2) rfl ?_); refine box_event ?hg (N := 2) ?hd (cs := #[.string a0_0, .string a0_1, .slice A0_2 l0_2.length c0_2, .int .i64 a0_3]) (t := 41) ?hr ?_; (case hd => rfl); (case hg => rfl); (case hr => first | (go_simp; done) | (go_simp; rfl)); intro gb101 hg w28 hbox hb; have n0_ := Aside0.mk (below_step (bU_ HB.out) hb); have n1_ := Aside0.mk (hbox); have n2_ := Aside0.mk ((by rw [hg]; exact (below_size (bU_ HB.out)) : w.heap.size ≤ gb101)); have n3_ := Aside0.mk ((by rw [hg]; exact (below_size (bU_ HB.out)) : w.heap.size ≤ gb101)); clear HB; have HB := n0_; have BK101 := n1_; have GW101 := n2_; have GE101 := n3_; clear n0_ n1_ n2_ n3_; clear hb hbox hg; have hcz29_0 : w28.cell? ⟨gb101, 0, none⟩ = some (.string a0_0) := (blk_cell BK101.out 0).trans rfl; have hcz29_1 : w28.cell? ⟨gb101, 1, none⟩ = some (.string a0_1) := (blk_cell BK101.out 1).trans rfl; have hcz29_2 : w28.cell? ⟨gb101, 2, none⟩ = some (.slice A0_2 l0_2.length c0_2) := (blk_cell BK101.out 2).trans rfl; have hcz29_3 : w28.cell? ⟨gb101, 3, none⟩ = some (.int .i64 a0_3) := (blk_cell BK101.out 3).trans rfl; have hfz29_0 := blk_frozen BK101.out 0; have hfz29_1 := blk_frozen BK101.out 1; have hfz29_2 := blk_frozen BK101.out 2; have hfz29_3 := blk_frozen BK101.out 3) | ((with_reducible refine gate_callee (f := 39) rfl ?_); refine gL_ (some 16) rfl rfl Try.func39 (by kernel_rfl) rfl #[.agg #[.string a0_0, .string a0_1, .slice A0_2 l0_2.length c0_2, .int .i64 a0_3]] rfl ?_; (with_reducible refine (ether_Right.calls k a0_0 a0_1 _ _ l0_2 a0_3 false _ ?side1 ?side2 A3.out).mono ?_); (case side1 => repeat (first | exact (Kd.C_below HR0_2.out HB.out) | (with_reducible refine Kd.C_alloc ?_ _) | (with_reducible refine Kd.C_drewN ?_ _) | (with_reducible refine Kd.C_drew ?_))); (case side2 => exact HC0_2.out); rintro e w30 ⟨rfl, hb⟩; refine ⟨_, rfl, ?_⟩; have n0_ := Aside0.mk (blk_below (g := gb101) (o := .cells #[.string a0_0, .string a0_1, .slice A0_2 l0_2.length c0_2, .int .i64 a0_3] 41 (0, 0)) (by (with_reducible repeat first | apply pN_ | apply pD_ | apply pA_); exact BK101.out) hb); have n1_ := Aside0.mk (below_step (bU_ HB.out) hb); clear BK101 HB; have BK101 := n0_; have HB := n1_; clear n0_ n1_; (try clear hb); (try clear hb2); (try clear hk); (try clear hi)))
  go_ret2
  exact ⟨by first | rfl | (simp [errW_none, errW_some] <;> rfl) | (simp [*, errW_none, errW_some] <;> rfl), bU_ HB.out⟩
end Go.Proofs.Ytfdhifigndmgaaa.Q
