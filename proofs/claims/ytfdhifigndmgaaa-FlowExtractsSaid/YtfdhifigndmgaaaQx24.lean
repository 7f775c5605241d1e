-- made by a program of this session (wip/print-patch.py, over the kit's print)
import Derived.Test.YtfdhifigndmgaaaQx0
namespace Go.Proofs.Ytfdhifigndmgaaa.Q
open Go.RowKit Go.Proofs.YtfdhifigndmgaaaW.PrintWords Go.Proofs.YtfdhifigndmgaaaW.PrintLast Go.Proofs.YtfdhifigndmgaaaW.PrintMore
attribute [local go_sem] max2_int min2_int max_two min_two max_three min_three max_four min_four   -- for this text's walks alone
set_option linter.unusedVariables false
set_option linter.unusedSimpArgs false

attribute [local go_sem] cell_twice_ cell_twiceN_
/-! ### rillmeterref07_Piece: function 31 -/
def rillmeterref07_Piece.l0 : Nat → Int → Int → Int → Int → Int → ByteArray → ByteArray → List (S97) → Option (Bool)
 | 0, _, _, _, _, _, _, _, _ => none
 | k + 1, x3, x102000, x102001, x102002, x102003, x102004, x102005, x102006 => if x3 < (x102006.length : Int) then (if 0 ≤ x3 then (if ((rd_T97 x102006 x3).f0) = 44 then (if (((rd_T97 x102006 x3).f1).size : Int) > 2 then (if 1 < (((rd_T97 x102006 x3).f1).size : Int) then (if (bt ((rd_T97 x102006 x3).f1) 1) > 0 then (some true) else (if 2 < (((rd_T97 x102006 x3).f1).size : Int) then (if (bt ((rd_T97 x102006 x3).f1) 2) > 7 then (some true) else (rillmeterref07_Piece.l0 k (wrap64 (x3 + 1)) x102000 x102001 x102002 x102003 x102004 x102005 x102006)) else (none))) else (none)) else (rillmeterref07_Piece.l0 k (wrap64 (x3 + 1)) x102000 x102001 x102002 x102003 x102004 x102005 x102006)) else (rillmeterref07_Piece.l0 k (wrap64 (x3 + 1)) x102000 x102001 x102002 x102003 x102004 x102005 x102006)) else (none)) else (some false)
def rillmeterref07_Piece.f (k : Nat) (a0_0 : Int) (a0_1 : Int) (a0_2 : Int) (a0_3 : Int) (a0_4 : ByteArray) (a0_5 : ByteArray) (l0_6 : List (S97)) : Option (Bool) := rillmeterref07_Piece.l0 k 0 a0_0 a0_1 a0_2 a0_3 a0_4 a0_5 l0_6
theorem rillmeterref07_Piece.mono_l : ∀ k, (∀ y0 y1 y2 y3 y4 y5 y6 y7, LeO (rillmeterref07_Piece.l0 k y0 y1 y2 y3 y4 y5 y6 y7) (rillmeterref07_Piece.l0 (k + 1) y0 y1 y2 y3 y4 y5 y6 y7))
 | 0 => fun _ _ _ _ _ _ _ _ r h => by simp [rillmeterref07_Piece.l0] at h
 | k + 1 => by
  have ih0 := rillmeterref07_Piece.mono_l k
  ·intro y0 y1 y2 y3 y4 y5 y6 y7
   unfold rillmeterref07_Piece.l0
   repeat' first
   | (with_reducible exact ih0 _ _ _ _ _ _ _ _)
   | (with_reducible exact LeO.refl _)
   | (with_reducible exact LeO.none _)
   | (with_reducible refine LeO.ite ?_ ?_)
   | (with_reducible refine LeO.bind ?_ (fun _ => ?_))
   | exact ih0 _ _ _ _ _ _ _ _
   | exact LeO.none _
   | refine LeO.ite ?_ ?_
   | refine LeO.bind ?_ (fun _ => ?_)
theorem rillmeterref07_Piece.mono : ∀ a0 a1 a2 a3 a4 a5 a6 k, LeO (rillmeterref07_Piece.f k a0 a1 a2 a3 a4 a5 a6) (rillmeterref07_Piece.f (k + 1) a0 a1 a2 a3 a4 a5 a6) := by
 intro a0 a1 a2 a3 a4 a5 a6 k
 have ih0 := rillmeterref07_Piece.mono_l k
 unfold rillmeterref07_Piece.f
 repeat' first
   | (with_reducible exact ih0 _ _ _ _ _ _ _ _)
   | (with_reducible exact LeO.refl _)
   | (with_reducible exact LeO.none _)
   | (with_reducible refine LeO.ite ?_ ?_)
   | (with_reducible refine LeO.bind ?_ (fun _ => ?_))
   | exact ih0 _ _ _ _ _ _ _ _
   | exact LeO.none _
   | refine LeO.ite ?_ ?_
   | refine LeO.bind ?_ (fun _ => ?_)
set_option maxHeartbeats 8000000 in
set_option maxRecDepth 100000 in
theorem rillmeterref07_Piece.calls (k : Nat) (a0_0 : Int) (a0_1 : Int) (a0_2 : Int) (a0_3 : Int) (a0_4 : ByteArray) (a0_5 : ByteArray) (A0_6 : Option Addr) (c0_6 : Nat) (l0_6 : List (S97)) (r : Bool) (w : World) (hr0_6 : Kd.C k97 w A0_6 l0_6.length l0_6) (hc0_6 : l0_6.length ≤ c0_6) (h : rillmeterref07_Piece.f k a0_0 a0_1 a0_2 a0_3 a0_4 a0_5 l0_6 = some r) :
  Calls Try.prog 31 #[.agg #[.int .i64 a0_0, .int .i64 a0_1, .int .i64 a0_2, .int .i64 a0_3, .string a0_4, .string a0_5, .slice A0_6 l0_6.length c0_6]] w fun e w' => e = .returned (.bool r) ∧ Below w.heap.size w w' := by
 have hu71 := Try.underlying71
 have HR0_6 := Aside0.mk hr0_6
 have HC0_6 := Aside0.mk hc0_6
 clear hr0_6 hc0_6
 have HB := Aside0.mk (Below.refl w.heap.size w)
 have H : (rillmeterref07_Piece.l0 k 0 a0_0 a0_1 a0_2 a0_3 a0_4 a0_5 l0_6) = some r := h
 clear h
 have H' := Aside0.mk H
 clear H
 go_enter Try.func31, Try.ntmps31
 go_wp2_with (first | ((with_reducible refine gate_dst (N := 1) rfl ?_); (try (refine gate_guard (by rfl) ?_; dsimp only)); refine bE_ (N := 1) (cs := #[.int .i64 a0_0, .int .i64 a0_1, .int .i64 a0_2, .int .i64 a0_3, .string a0_4, .string a0_5, .slice A0_6 l0_6.length c0_6]) (t := 71) ?_; intro gb101 hg w2 hbox hb; have n0_ := Aside0.mk (below_step (bU_ HB.out) hb); have n1_ := Aside0.mk (hbox); have n2_ := Aside0.mk (bZ_ hg (bU_ HB.out) : w.heap.size ≤ gb101); have n3_ := n2_; clear HB; have HB := n0_; have BK101 := n1_; have GW101 := n2_; have GE101 := n3_; clear n0_ n1_ n2_ n3_; clear hb hbox hg))
 go_loopg [3] k (fun kq v3 w' => ∃ (x3_1 : Int), v3 = .int .i64 x3_1 ∧ Aside0 (rillmeterref07_Piece.l0 kq x3_1 a0_0 a0_1 a0_2 a0_3 a0_4 a0_5 l0_6 = some r) ∧ Aside0 (kq ≤ k) ∧ Aside0 (w'.heap[gb101]? = some (.cells #[.int .i64 a0_0, .int .i64 a0_1, .int .i64 a0_2, .int .i64 a0_3, .string a0_4, .string a0_5, (.slice A0_6 l0_6.length c0_6)] 71 (0, 0))) ∧ Aside0 (Below w.heap.size w w'))
 case atStart => exact ⟨(0), (by first | rfl | (simp; done) | (simp [*]; done)), H', ⟨Nat.le_refl _⟩, ⟨by (with_reducible repeat first | apply pN_ | apply pD_ | apply pA_); exact BK101.out⟩, ⟨bU_ HB.out⟩⟩
 case round =>
  clear H'
  try clear p2
  obtain ⟨x3_1, rfl, HA, HK1, BK101, HB⟩ := hrel
  cases gk with
  | zero => exact absurd HA.out (by simp [rillmeterref07_Piece.l0])
  | succ k1 =>
   have H := HA.out
   clear HA
   simp only [rillmeterref07_Piece.l0] at H
   by_cases c3 : x3_1 < (l0_6.length : Int)
   ·rw [if_pos c3] at H
    have c3b0 : decide (x3_1 < (l0_6.length : Int)) = true := decide_eq_true c3
    clear c3
    by_cases c4 : 0 ≤ x3_1
    rotate_left
    ·rw [if_neg c4] at H; exact absurd H (by simp)
    rw [if_pos c4] at H
    have c4b0 : decide (0 ≤ x3_1) = true := decide_eq_true c4
    clear c4
    by_cases c5 : ((rd_T97 l0_6 x3_1).f0) = 44
    ·rw [if_pos c5] at H
     have c5b0 : (((rd_T97 l0_6 x3_1).f0) == 44) = true := beq_iff_eq.mpr c5
     have c5b1 : (((rd_T97 l0_6 x3_1).f0) != 44) = false := bne_eq_false_iff_eq.mpr c5
     clear c5
     by_cases c6 : (((rd_T97 l0_6 x3_1).f1).size : Int) > 2
     ·rw [if_pos c6] at H
      have c6b0 : decide (2 < (((rd_T97 l0_6 x3_1).f1).size : Int)) = true := decide_eq_true c6
      have c6b1 : decide (2 < ((rd_T97 l0_6 x3_1).f1).size) = true := decide_eq_true (by omega)
      clear c6
      by_cases c7 : 1 < (((rd_T97 l0_6 x3_1).f1).size : Int)
      rotate_left
      ·rw [if_neg c7] at H; exact absurd H (by simp)
      rw [if_pos c7] at H
      have c7b0 : decide (1 < (((rd_T97 l0_6 x3_1).f1).size : Int)) = true := decide_eq_true c7
      have c7b1 : decide (1 < ((rd_T97 l0_6 x3_1).f1).size) = true := decide_eq_true (by omega)
      clear c7
      by_cases c9 : (bt ((rd_T97 l0_6 x3_1).f1) 1) > 0
      ·rw [if_pos c9] at H
       have c9b0 : decide (0 < (bt ((rd_T97 l0_6 x3_1).f1) 1)) = true := decide_eq_true c9
       clear c9
       obtain rfl := Option.some.inj H
       have hcz10_0 : wr.cell? ⟨gb101, 0, none⟩ = some (.int .i64 a0_0) := (blk_cell BK101.out 0).trans rfl
       have hcz10_1 : wr.cell? ⟨gb101, 1, none⟩ = some (.int .i64 a0_1) := (blk_cell BK101.out 1).trans rfl
       have hcz10_2 : wr.cell? ⟨gb101, 2, none⟩ = some (.int .i64 a0_2) := (blk_cell BK101.out 2).trans rfl
       have hcz10_3 : wr.cell? ⟨gb101, 3, none⟩ = some (.int .i64 a0_3) := (blk_cell BK101.out 3).trans rfl
       have hcz10_4 : wr.cell? ⟨gb101, 4, none⟩ = some (.string a0_4) := (blk_cell BK101.out 4).trans rfl
       have hcz10_5 : wr.cell? ⟨gb101, 5, none⟩ = some (.string a0_5) := (blk_cell BK101.out 5).trans rfl
       have hcz10_6 : wr.cell? ⟨gb101, 6, none⟩ = some (.slice A0_6 l0_6.length c0_6) := (blk_cell BK101.out 6).trans rfl
       have hfz10_0 := blk_frozen BK101.out 0; have hfz10_1 := blk_frozen BK101.out 1; have hfz10_2 := blk_frozen BK101.out 2; have hfz10_3 := blk_frozen BK101.out 3; have hfz10_4 := blk_frozen BK101.out 4; have hfz10_5 := blk_frozen BK101.out 5; have hfz10_6 := blk_frozen BK101.out 6
       have p102 : 0 ≤ (x3_1 : Int) := oD_
       have q102 : x3_1 < (l0_6.length : Int) := oD_
       obtain ⟨ad102, e102, hx102_0, hx102_1⟩ := at_T97 HR0_6.out x3_1 p102 q102
       cases e102
       replace hx102_0 := (HB.out.cell (World.block_lt_of_cell? w _ hx102_0)).trans hx102_0
       replace hx102_1 := (HB.out.cell (World.block_lt_of_cell? w _ hx102_1)).trans hx102_1
       replace p102 := eq_true p102
       replace q102 := eq_true q102
       have p103 : 0 ≤ (x3_1 : Int) := oD_
       have q103 : x3_1 < (l0_6.length : Int) := oD_
       obtain ⟨ad103, e103, hx103_0, hx103_1⟩ := at_T97 HR0_6.out x3_1 p103 q103
       obtain rfl : ad102 = ad103 := (by injection e103)
       replace hx103_0 := (HB.out.cell (World.block_lt_of_cell? w _ hx103_0)).trans hx103_0
       replace hx103_1 := (HB.out.cell (World.block_lt_of_cell? w _ hx103_1)).trans hx103_1
       replace p103 := eq_true p103
       replace q103 := eq_true q103
       have p8 : 0 ≤ (1 : Int) := (by omega)
       have q8 : 1 < ((rd_T97 l0_6 x3_1).f1).size := (by have : (1 : Int) < (((rd_T97 l0_6 x3_1).f1).size : Int) := oD_; omega)
       have hx8 : ∀ h : 1 < ((rd_T97 l0_6 x3_1).f1).size, ((((rd_T97 l0_6 x3_1).f1)[1]'h).toNat : Int) = bt ((rd_T97 l0_6 x3_1).f1) 1 := bt_at ((rd_T97 l0_6 x3_1).f1) 1
       clear p8
       have qi8 : (1 < (((rd_T97 l0_6 x3_1).f1).size : Int)) = True := eq_true oD_
       replace q8 := eq_true q8
       go_wp2
       go_ret
       exact rE_ (bU_ HB.out)
      ·rw [if_neg c9] at H
       have c9b0 : decide (0 < (bt ((rd_T97 l0_6 x3_1).f1) 1)) = false := decide_eq_false c9
       clear c9
       by_cases c11 : 2 < (((rd_T97 l0_6 x3_1).f1).size : Int)
       rotate_left
       ·rw [if_neg c11] at H; exact absurd H (by simp)
       rw [if_pos c11] at H
       have c11b0 : decide (2 < (((rd_T97 l0_6 x3_1).f1).size : Int)) = true := decide_eq_true c11
       have c11b1 : decide (2 < ((rd_T97 l0_6 x3_1).f1).size) = true := decide_eq_true (by omega)
       clear c11
       by_cases c13 : (bt ((rd_T97 l0_6 x3_1).f1) 2) > 7
       ·rw [if_pos c13] at H
        have c13b0 : decide (7 < (bt ((rd_T97 l0_6 x3_1).f1) 2)) = true := decide_eq_true c13
        clear c13
        obtain rfl := Option.some.inj H
        have hcz14_0 : wr.cell? ⟨gb101, 0, none⟩ = some (.int .i64 a0_0) := (blk_cell BK101.out 0).trans rfl
        have hcz14_1 : wr.cell? ⟨gb101, 1, none⟩ = some (.int .i64 a0_1) := (blk_cell BK101.out 1).trans rfl
        have hcz14_2 : wr.cell? ⟨gb101, 2, none⟩ = some (.int .i64 a0_2) := (blk_cell BK101.out 2).trans rfl
        have hcz14_3 : wr.cell? ⟨gb101, 3, none⟩ = some (.int .i64 a0_3) := (blk_cell BK101.out 3).trans rfl
        have hcz14_4 : wr.cell? ⟨gb101, 4, none⟩ = some (.string a0_4) := (blk_cell BK101.out 4).trans rfl
        have hcz14_5 : wr.cell? ⟨gb101, 5, none⟩ = some (.string a0_5) := (blk_cell BK101.out 5).trans rfl
        have hcz14_6 : wr.cell? ⟨gb101, 6, none⟩ = some (.slice A0_6 l0_6.length c0_6) := (blk_cell BK101.out 6).trans rfl
        have hfz14_0 := blk_frozen BK101.out 0; have hfz14_1 := blk_frozen BK101.out 1; have hfz14_2 := blk_frozen BK101.out 2; have hfz14_3 := blk_frozen BK101.out 3; have hfz14_4 := blk_frozen BK101.out 4; have hfz14_5 := blk_frozen BK101.out 5; have hfz14_6 := blk_frozen BK101.out 6
        have p102 : 0 ≤ (x3_1 : Int) := oD_
        have q102 : x3_1 < (l0_6.length : Int) := oD_
        obtain ⟨ad102, e102, hx102_0, hx102_1⟩ := at_T97 HR0_6.out x3_1 p102 q102
        cases e102
        replace hx102_0 := (HB.out.cell (World.block_lt_of_cell? w _ hx102_0)).trans hx102_0
        replace hx102_1 := (HB.out.cell (World.block_lt_of_cell? w _ hx102_1)).trans hx102_1
        replace p102 := eq_true p102
        replace q102 := eq_true q102
        have p103 : 0 ≤ (x3_1 : Int) := oD_
        have q103 : x3_1 < (l0_6.length : Int) := oD_
        obtain ⟨ad103, e103, hx103_0, hx103_1⟩ := at_T97 HR0_6.out x3_1 p103 q103
        obtain rfl : ad102 = ad103 := (by injection e103)
        replace hx103_0 := (HB.out.cell (World.block_lt_of_cell? w _ hx103_0)).trans hx103_0
        replace hx103_1 := (HB.out.cell (World.block_lt_of_cell? w _ hx103_1)).trans hx103_1
        replace p103 := eq_true p103
        replace q103 := eq_true q103
        have p8 : 0 ≤ (1 : Int) := (by omega)
        have q8 : 1 < ((rd_T97 l0_6 x3_1).f1).size := (by have : (1 : Int) < (((rd_T97 l0_6 x3_1).f1).size : Int) := oD_; omega)
        have hx8 : ∀ h : 1 < ((rd_T97 l0_6 x3_1).f1).size, ((((rd_T97 l0_6 x3_1).f1)[1]'h).toNat : Int) = bt ((rd_T97 l0_6 x3_1).f1) 1 := bt_at ((rd_T97 l0_6 x3_1).f1) 1
        clear p8
        have qi8 : (1 < (((rd_T97 l0_6 x3_1).f1).size : Int)) = True := eq_true oD_
        replace q8 := eq_true q8
        have p12 : 0 ≤ (2 : Int) := (by omega)
        have q12 : 2 < ((rd_T97 l0_6 x3_1).f1).size := (by have : (2 : Int) < (((rd_T97 l0_6 x3_1).f1).size : Int) := oD_; omega)
        have hx12 : ∀ h : 2 < ((rd_T97 l0_6 x3_1).f1).size, ((((rd_T97 l0_6 x3_1).f1)[2]'h).toNat : Int) = bt ((rd_T97 l0_6 x3_1).f1) 2 := bt_at ((rd_T97 l0_6 x3_1).f1) 2
        clear p12
        have qi12 : (2 < (((rd_T97 l0_6 x3_1).f1).size : Int)) = True := eq_true oD_
        replace q12 := eq_true q12
        go_wp2
        go_ret
        exact rE_ (bU_ HB.out)
       ·rw [if_neg c13] at H
        have c13b0 : decide (7 < (bt ((rd_T97 l0_6 x3_1).f1) 2)) = false := decide_eq_false c13
        clear c13
        have H' := Aside0.mk H
        clear H
        have hcz15_0 : wr.cell? ⟨gb101, 0, none⟩ = some (.int .i64 a0_0) := (blk_cell BK101.out 0).trans rfl
        have hcz15_1 : wr.cell? ⟨gb101, 1, none⟩ = some (.int .i64 a0_1) := (blk_cell BK101.out 1).trans rfl
        have hcz15_2 : wr.cell? ⟨gb101, 2, none⟩ = some (.int .i64 a0_2) := (blk_cell BK101.out 2).trans rfl
        have hcz15_3 : wr.cell? ⟨gb101, 3, none⟩ = some (.int .i64 a0_3) := (blk_cell BK101.out 3).trans rfl
        have hcz15_4 : wr.cell? ⟨gb101, 4, none⟩ = some (.string a0_4) := (blk_cell BK101.out 4).trans rfl
        have hcz15_5 : wr.cell? ⟨gb101, 5, none⟩ = some (.string a0_5) := (blk_cell BK101.out 5).trans rfl
        have hcz15_6 : wr.cell? ⟨gb101, 6, none⟩ = some (.slice A0_6 l0_6.length c0_6) := (blk_cell BK101.out 6).trans rfl
        have hfz15_0 := blk_frozen BK101.out 0; have hfz15_1 := blk_frozen BK101.out 1; have hfz15_2 := blk_frozen BK101.out 2; have hfz15_3 := blk_frozen BK101.out 3; have hfz15_4 := blk_frozen BK101.out 4; have hfz15_5 := blk_frozen BK101.out 5; have hfz15_6 := blk_frozen BK101.out 6
        have p102 : 0 ≤ (x3_1 : Int) := oD_
        have q102 : x3_1 < (l0_6.length : Int) := oD_
        obtain ⟨ad102, e102, hx102_0, hx102_1⟩ := at_T97 HR0_6.out x3_1 p102 q102
        cases e102
        replace hx102_0 := (HB.out.cell (World.block_lt_of_cell? w _ hx102_0)).trans hx102_0
        replace hx102_1 := (HB.out.cell (World.block_lt_of_cell? w _ hx102_1)).trans hx102_1
        replace p102 := eq_true p102
        replace q102 := eq_true q102
        have p103 : 0 ≤ (x3_1 : Int) := oD_
        have q103 : x3_1 < (l0_6.length : Int) := oD_
        obtain ⟨ad103, e103, hx103_0, hx103_1⟩ := at_T97 HR0_6.out x3_1 p103 q103
        obtain rfl : ad102 = ad103 := (by injection e103)
        replace hx103_0 := (HB.out.cell (World.block_lt_of_cell? w _ hx103_0)).trans hx103_0
        replace hx103_1 := (HB.out.cell (World.block_lt_of_cell? w _ hx103_1)).trans hx103_1
        replace p103 := eq_true p103
        replace q103 := eq_true q103
        have p8 : 0 ≤ (1 : Int) := (by omega)
        have q8 : 1 < ((rd_T97 l0_6 x3_1).f1).size := (by have : (1 : Int) < (((rd_T97 l0_6 x3_1).f1).size : Int) := oD_; omega)
        have hx8 : ∀ h : 1 < ((rd_T97 l0_6 x3_1).f1).size, ((((rd_T97 l0_6 x3_1).f1)[1]'h).toNat : Int) = bt ((rd_T97 l0_6 x3_1).f1) 1 := bt_at ((rd_T97 l0_6 x3_1).f1) 1
        clear p8
        have qi8 : (1 < (((rd_T97 l0_6 x3_1).f1).size : Int)) = True := eq_true oD_
        replace q8 := eq_true q8
        have p12 : 0 ≤ (2 : Int) := (by omega)
        have q12 : 2 < ((rd_T97 l0_6 x3_1).f1).size := (by have : (2 : Int) < (((rd_T97 l0_6 x3_1).f1).size : Int) := oD_; omega)
        have hx12 : ∀ h : 2 < ((rd_T97 l0_6 x3_1).f1).size, ((((rd_T97 l0_6 x3_1).f1)[2]'h).toNat : Int) = bt ((rd_T97 l0_6 x3_1).f1) 2 := bt_at ((rd_T97 l0_6 x3_1).f1) 2
        clear p12
        have qi12 : (2 < (((rd_T97 l0_6 x3_1).f1).size : Int)) = True := eq_true oD_
        replace q12 := eq_true q12
        go_wp2
        go_roundg k1
        case measure => have := HK1.out; omega
        case rel => exact ⟨(wrap64 (x3_1 + 1)), (by first | rfl | (simp; done) | (simp [*]; done)), H', ⟨by have := HK1.out; omega⟩, ⟨by (with_reducible repeat first | apply pN_ | apply pD_ | apply pA_); exact BK101.out⟩, ⟨bU_ HB.out⟩⟩
     ·rw [if_neg c6] at H
      have c6b0 : decide (2 < (((rd_T97 l0_6 x3_1).f1).size : Int)) = false := decide_eq_false c6
      have c6b1 : decide (2 < ((rd_T97 l0_6 x3_1).f1).size) = false := decide_eq_false (by omega)
      clear c6
      have H' := Aside0.mk H
      clear H
      have hcz16_0 : wr.cell? ⟨gb101, 0, none⟩ = some (.int .i64 a0_0) := (blk_cell BK101.out 0).trans rfl
      have hcz16_1 : wr.cell? ⟨gb101, 1, none⟩ = some (.int .i64 a0_1) := (blk_cell BK101.out 1).trans rfl
      have hcz16_2 : wr.cell? ⟨gb101, 2, none⟩ = some (.int .i64 a0_2) := (blk_cell BK101.out 2).trans rfl
      have hcz16_3 : wr.cell? ⟨gb101, 3, none⟩ = some (.int .i64 a0_3) := (blk_cell BK101.out 3).trans rfl
      have hcz16_4 : wr.cell? ⟨gb101, 4, none⟩ = some (.string a0_4) := (blk_cell BK101.out 4).trans rfl
      have hcz16_5 : wr.cell? ⟨gb101, 5, none⟩ = some (.string a0_5) := (blk_cell BK101.out 5).trans rfl
      have hcz16_6 : wr.cell? ⟨gb101, 6, none⟩ = some (.slice A0_6 l0_6.length c0_6) := (blk_cell BK101.out 6).trans rfl
      have hfz16_0 := blk_frozen BK101.out 0; have hfz16_1 := blk_frozen BK101.out 1; have hfz16_2 := blk_frozen BK101.out 2; have hfz16_3 := blk_frozen BK101.out 3; have hfz16_4 := blk_frozen BK101.out 4; have hfz16_5 := blk_frozen BK101.out 5; have hfz16_6 := blk_frozen BK101.out 6
      have p102 : 0 ≤ (x3_1 : Int) := oD_
      have q102 : x3_1 < (l0_6.length : Int) := oD_
      obtain ⟨ad102, e102, hx102_0, hx102_1⟩ := at_T97 HR0_6.out x3_1 p102 q102
      cases e102
      replace hx102_0 := (HB.out.cell (World.block_lt_of_cell? w _ hx102_0)).trans hx102_0
      replace hx102_1 := (HB.out.cell (World.block_lt_of_cell? w _ hx102_1)).trans hx102_1
      replace p102 := eq_true p102
      replace q102 := eq_true q102
      have p103 : 0 ≤ (x3_1 : Int) := oD_
      have q103 : x3_1 < (l0_6.length : Int) := oD_
      obtain ⟨ad103, e103, hx103_0, hx103_1⟩ := at_T97 HR0_6.out x3_1 p103 q103
      obtain rfl : ad102 = ad103 := (by injection e103)
      replace hx103_0 := (HB.out.cell (World.block_lt_of_cell? w _ hx103_0)).trans hx103_0
      replace hx103_1 := (HB.out.cell (World.block_lt_of_cell? w _ hx103_1)).trans hx103_1
      replace p103 := eq_true p103
      replace q103 := eq_true q103
      go_wp2
      go_roundg k1
      case measure => have := HK1.out; omega
      case rel => exact ⟨(wrap64 (x3_1 + 1)), (by first | rfl | (simp; done) | (simp [*]; done)), H', ⟨by have := HK1.out; omega⟩, ⟨by (with_reducible repeat first | apply pN_ | apply pD_ | apply pA_); exact BK101.out⟩, ⟨bU_ HB.out⟩⟩
    ·rw [if_neg c5] at H
     have c5b0 : (((rd_T97 l0_6 x3_1).f0) == 44) = false := beq_eq_false_iff_ne.mpr c5
     have c5b1 : (((rd_T97 l0_6 x3_1).f0) != 44) = true := bne_iff_ne.mpr c5
     have H' := Aside0.mk H
     clear H
     have hcz17_0 : wr.cell? ⟨gb101, 0, none⟩ = some (.int .i64 a0_0) := (blk_cell BK101.out 0).trans rfl
     have hcz17_1 : wr.cell? ⟨gb101, 1, none⟩ = some (.int .i64 a0_1) := (blk_cell BK101.out 1).trans rfl
     have hcz17_2 : wr.cell? ⟨gb101, 2, none⟩ = some (.int .i64 a0_2) := (blk_cell BK101.out 2).trans rfl
     have hcz17_3 : wr.cell? ⟨gb101, 3, none⟩ = some (.int .i64 a0_3) := (blk_cell BK101.out 3).trans rfl
     have hcz17_4 : wr.cell? ⟨gb101, 4, none⟩ = some (.string a0_4) := (blk_cell BK101.out 4).trans rfl
     have hcz17_5 : wr.cell? ⟨gb101, 5, none⟩ = some (.string a0_5) := (blk_cell BK101.out 5).trans rfl
     have hcz17_6 : wr.cell? ⟨gb101, 6, none⟩ = some (.slice A0_6 l0_6.length c0_6) := (blk_cell BK101.out 6).trans rfl
     have hfz17_0 := blk_frozen BK101.out 0; have hfz17_1 := blk_frozen BK101.out 1; have hfz17_2 := blk_frozen BK101.out 2; have hfz17_3 := blk_frozen BK101.out 3; have hfz17_4 := blk_frozen BK101.out 4; have hfz17_5 := blk_frozen BK101.out 5; have hfz17_6 := blk_frozen BK101.out 6
     have p102 : 0 ≤ (x3_1 : Int) := oD_
     have q102 : x3_1 < (l0_6.length : Int) := oD_
     obtain ⟨ad102, e102, hx102_0, hx102_1⟩ := at_T97 HR0_6.out x3_1 p102 q102
     cases e102
     replace hx102_0 := (HB.out.cell (World.block_lt_of_cell? w _ hx102_0)).trans hx102_0
     replace hx102_1 := (HB.out.cell (World.block_lt_of_cell? w _ hx102_1)).trans hx102_1
     replace p102 := eq_true p102
     replace q102 := eq_true q102
     have p103 : 0 ≤ (x3_1 : Int) := oD_
     have q103 : x3_1 < (l0_6.length : Int) := oD_
     obtain ⟨ad103, e103, hx103_0, hx103_1⟩ := at_T97 HR0_6.out x3_1 p103 q103
     obtain rfl : ad102 = ad103 := (by injection e103)
     replace hx103_0 := (HB.out.cell (World.block_lt_of_cell? w _ hx103_0)).trans hx103_0
     replace hx103_1 := (HB.out.cell (World.block_lt_of_cell? w _ hx103_1)).trans hx103_1
     replace p103 := eq_true p103
     replace q103 := eq_true q103
     go_wp2
     go_roundg k1
     case measure => have := HK1.out; omega
     case rel => exact ⟨(wrap64 (x3_1 + 1)), (by first | rfl | (simp; done) | (simp [*]; done)), H', ⟨by have := HK1.out; omega⟩, ⟨by (with_reducible repeat first | apply pN_ | apply pD_ | apply pA_); exact BK101.out⟩, ⟨bU_ HB.out⟩⟩
   ·rw [if_neg c3] at H
    have c3b0 : decide (x3_1 < (l0_6.length : Int)) = false := decide_eq_false c3
    clear c3
    obtain rfl := Option.some.inj H
    have hcz18_0 : wr.cell? ⟨gb101, 0, none⟩ = some (.int .i64 a0_0) := (blk_cell BK101.out 0).trans rfl
    have hcz18_1 : wr.cell? ⟨gb101, 1, none⟩ = some (.int .i64 a0_1) := (blk_cell BK101.out 1).trans rfl
    have hcz18_2 : wr.cell? ⟨gb101, 2, none⟩ = some (.int .i64 a0_2) := (blk_cell BK101.out 2).trans rfl
    have hcz18_3 : wr.cell? ⟨gb101, 3, none⟩ = some (.int .i64 a0_3) := (blk_cell BK101.out 3).trans rfl
    have hcz18_4 : wr.cell? ⟨gb101, 4, none⟩ = some (.string a0_4) := (blk_cell BK101.out 4).trans rfl
    have hcz18_5 : wr.cell? ⟨gb101, 5, none⟩ = some (.string a0_5) := (blk_cell BK101.out 5).trans rfl
    have hcz18_6 : wr.cell? ⟨gb101, 6, none⟩ = some (.slice A0_6 l0_6.length c0_6) := (blk_cell BK101.out 6).trans rfl
    have hfz18_0 := blk_frozen BK101.out 0; have hfz18_1 := blk_frozen BK101.out 1; have hfz18_2 := blk_frozen BK101.out 2; have hfz18_3 := blk_frozen BK101.out 3; have hfz18_4 := blk_frozen BK101.out 4; have hfz18_5 := blk_frozen BK101.out 5; have hfz18_6 := blk_frozen BK101.out 6
    go_wp2
    go_ret
    exact rE_ (bU_ HB.out)
end Go.Proofs.Ytfdhifigndmgaaa.Q
