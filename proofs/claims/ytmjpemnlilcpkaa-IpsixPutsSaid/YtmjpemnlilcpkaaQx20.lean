-- made by a program of this session (wip/print-patch.py, over the kit's print)
import Derived.Test.YtmjpemnlilcpkaaQx0
import Derived.Test.YtmjpemnlilcpkaaQx13
namespace Go.Proofs.Ytmjpemnlilcpkaa.Q
open Go.RowKit Go.Proofs.YtmjpemnlilcpkaaW.PrintWords Go.Proofs.YtmjpemnlilcpkaaW.PrintLast Go.Proofs.YtmjpemnlilcpkaaW.PrintMore
attribute [local go_sem] max2_int min2_int max_two min_two max_three min_three max_four min_four   -- for this text's walks alone
set_option linter.unusedVariables false
set_option linter.unusedSimpArgs false

attribute [local go_sem] cell_twice_ cell_twiceN_
/-! ### rillmeterref07_Right: function 17 -/
def rillmeterref07_Right.l0 : Nat → Int → Int → Int → Int → Int → ByteArray → ByteArray → List (S57) → Option (Bool)
 | 0, _, _, _, _, _, _, _, _ => none
 | k + 1, x3, x102000, x102001, x102002, x102003, x102004, x102005, x102006 => if x3 < (x102006.length : Int) then (if 0 ≤ x3 then ((rillmeterref07_extension.f ((rd_T57 x102006 x3).f0)).bind fun t104 => (if t104 = true then (if ((rd_T57 x102006 x3).f0) = 44 then (if (((rd_T57 x102006 x3).f1).size : Int) > 2046 then (some false) else (if (((rd_T57 x102006 x3).f1).size : Int) = 7 then (if ((rd_T57 x102006 x3).f0) = 0 then (if x3 > 0 then (some false) else (rillmeterref07_Right.l0 k (wrap64 (x3 + 1)) x102000 x102001 x102002 x102003 x102004 x102005 x102006)) else (rillmeterref07_Right.l0 k (wrap64 (x3 + 1)) x102000 x102001 x102002 x102003 x102004 x102005 x102006)) else (some false))) else (if ((((rd_T57 x102006 x3).f1).size : Int) % 8) = 6 then (if (((rd_T57 x102006 x3).f1).size : Int) > 2046 then (some false) else (if ((rd_T57 x102006 x3).f0) = 0 then (if x3 > 0 then (some false) else (rillmeterref07_Right.l0 k (wrap64 (x3 + 1)) x102000 x102001 x102002 x102003 x102004 x102005 x102006)) else (rillmeterref07_Right.l0 k (wrap64 (x3 + 1)) x102000 x102001 x102002 x102003 x102004 x102005 x102006))) else (some false))) else (some false))) else (none)) else (if x102000 < 0 then (some false) else (if x102000 > 255 then (some false) else (if x102002 < 0 then (some false) else (if x102002 > 255 then (some false) else (if x102001 < 0 then (some false) else (if x102001 > 1048575 then (some false) else (if x102003 < 0 then (some false) else (if x102003 > 255 then (some false) else ((rillmeterref07_extension.f x102003).bind fun t105 => (if t105 = true then (some false) else (if (x102004.size : Int) = 16 then (if (x102005.size : Int) = 16 then (some (decide ((x102006.length : Int) < 9))) else (some false)) else (some false))))))))))))
def rillmeterref07_Right.f (k : Nat) (a0_0 : Int) (a0_1 : Int) (a0_2 : Int) (a0_3 : Int) (a0_4 : ByteArray) (a0_5 : ByteArray) (l0_6 : List (S57)) : Option (Bool) := rillmeterref07_Right.l0 k 0 a0_0 a0_1 a0_2 a0_3 a0_4 a0_5 l0_6
theorem rillmeterref07_Right.mono_l : ∀ k, (∀ y0 y1 y2 y3 y4 y5 y6 y7, LeO (rillmeterref07_Right.l0 k y0 y1 y2 y3 y4 y5 y6 y7) (rillmeterref07_Right.l0 (k + 1) y0 y1 y2 y3 y4 y5 y6 y7))
 | 0 => fun _ _ _ _ _ _ _ _ r h => by simp [rillmeterref07_Right.l0] at h
 | k + 1 => by
  have ih0 := rillmeterref07_Right.mono_l k
  ·intro y0 y1 y2 y3 y4 y5 y6 y7
   unfold rillmeterref07_Right.l0
   repeat' first
   | (with_reducible exact ih0 _ _ _ _ _ _ _ _)
   | (with_reducible exact LeO.refl _)
   | (with_reducible exact LeO.none _)
   | (with_reducible refine LeO.ite ?_ ?_)
   | (with_reducible refine LeO.bind ?_ (fun _ => ?_))
   | exact ih0 _ _ _ _ _ _ _ _
   | exact LeO.none _
   | refine LeO.ite ?_ ?_
   | refine LeO.bind ?_ (fun _ => ?_)
theorem rillmeterref07_Right.mono : ∀ a0 a1 a2 a3 a4 a5 a6 k, LeO (rillmeterref07_Right.f k a0 a1 a2 a3 a4 a5 a6) (rillmeterref07_Right.f (k + 1) a0 a1 a2 a3 a4 a5 a6) := by
 intro a0 a1 a2 a3 a4 a5 a6 k
 have ih0 := rillmeterref07_Right.mono_l k
 unfold rillmeterref07_Right.f
 repeat' first
   | (with_reducible exact ih0 _ _ _ _ _ _ _ _)
   | (with_reducible exact LeO.refl _)
   | (with_reducible exact LeO.none _)
   | (with_reducible refine LeO.ite ?_ ?_)
   | (with_reducible refine LeO.bind ?_ (fun _ => ?_))
   | exact ih0 _ _ _ _ _ _ _ _
   | exact LeO.none _
   | refine LeO.ite ?_ ?_
   | refine LeO.bind ?_ (fun _ => ?_)
set_option maxHeartbeats 8000000 in
set_option maxRecDepth 100000 in
theorem rillmeterref07_Right.calls (k : Nat) (a0_0 : Int) (a0_1 : Int) (a0_2 : Int) (a0_3 : Int) (a0_4 : ByteArray) (a0_5 : ByteArray) (A0_6 : Option Addr) (c0_6 : Nat) (l0_6 : List (S57)) (r : Bool) (w : World) (hr0_6 : Kd.C k57 w A0_6 l0_6.length l0_6) (hc0_6 : l0_6.length ≤ c0_6) (h : rillmeterref07_Right.f k a0_0 a0_1 a0_2 a0_3 a0_4 a0_5 l0_6 = some r) :
  Calls Try.prog 17 #[.agg #[.int .i64 a0_0, .int .i64 a0_1, .int .i64 a0_2, .int .i64 a0_3, .string a0_4, .string a0_5, .slice A0_6 l0_6.length c0_6]] w fun e w' => e = .returned (.bool r) ∧ Below w.heap.size w w' := by
 have hu31 := Try.underlying31
 have hu57 := Try.underlying57
 have HR0_6 := Aside0.mk hr0_6
 have HC0_6 := Aside0.mk hc0_6
 clear hr0_6 hc0_6
 have HB := Aside0.mk (Below.refl w.heap.size w)
 have H : (rillmeterref07_Right.l0 k 0 a0_0 a0_1 a0_2 a0_3 a0_4 a0_5 l0_6) = some r := h
 clear h
 have H' := Aside0.mk H
 clear H
 go_enter Try.func17, Try.ntmps17
 go_wp2_with (first | ((with_reducible refine gate_dst (N := 1) rfl ?_); (try (refine gate_guard (by rfl) ?_; dsimp only)); refine box_event ?hg (N := 1) ?hd (cs := #[.int .i64 a0_0, .int .i64 a0_1, .int .i64 a0_2, .int .i64 a0_3, .string a0_4, .string a0_5, .slice A0_6 l0_6.length c0_6]) (t := 31) ?hr ?_; (case hd => rfl); (case hg => rfl); (case hr => first | (go_simp; done) | (go_simp; rfl)); intro gb101 hg w2 hbox hb; have n0_ := Aside0.mk (below_step (bU_ HB.out) hb); have n1_ := Aside0.mk (hbox); have n2_ := Aside0.mk ((by rw [hg]; exact (below_size (bU_ HB.out)) : w.heap.size ≤ gb101)); have n3_ := Aside0.mk ((by rw [hg]; exact (below_size (bU_ HB.out)) : w.heap.size ≤ gb101)); clear HB; have HB := n0_; have BK101 := n1_; have GW101 := n2_; have GE101 := n3_; clear n0_ n1_ n2_ n3_; clear hb hbox hg))
 go_loopg [3] k (fun kq v3 w' => ∃ (x3_1 : Int), v3 = .int .i64 x3_1 ∧ Aside0 (rillmeterref07_Right.l0 kq x3_1 a0_0 a0_1 a0_2 a0_3 a0_4 a0_5 l0_6 = some r) ∧ Aside0 (kq ≤ k) ∧ Aside0 (w'.heap[gb101]? = some (.cells #[.int .i64 a0_0, .int .i64 a0_1, .int .i64 a0_2, .int .i64 a0_3, .string a0_4, .string a0_5, (.slice A0_6 l0_6.length c0_6)] 31 (0, 0))) ∧ Aside0 (Below w.heap.size w w'))
 case atStart => exact ⟨(0), (by first | rfl | (simp; done) | (simp [*]; done)), H', ⟨Nat.le_refl _⟩, ⟨by (with_reducible repeat first | apply pN_ | apply pD_ | apply pA_); exact BK101.out⟩, ⟨bU_ HB.out⟩⟩
 case round =>
  clear H'
  try clear c1
  try clear p2
  obtain ⟨x3_1, rfl, HA, HK1, BK101, HB⟩ := hrel
  cases gk with
  | zero => exact absurd HA.out (by simp [rillmeterref07_Right.l0])
  | succ k1 =>
   have H := HA.out
   clear HA
   simp only [rillmeterref07_Right.l0] at H
   by_cases c3 : x3_1 < (l0_6.length : Int)
   ·rw [if_pos c3] at H
    have c3b0 : decide (x3_1 < (l0_6.length : Int)) = true := decide_eq_true c3
    clear c3
    by_cases c4 : 0 ≤ x3_1
    ·rw [if_pos c4] at H
     have c4b0 : decide (0 ≤ x3_1) = true := decide_eq_true c4
     clear c4
     replace H := Option.bind_eq_some_iff.mp H
     obtain ⟨t104, A50, H⟩ := H
     replace H : (if t104 = true then (if ((rd_T57 l0_6 x3_1).f0) = 44 then (if (((rd_T57 l0_6 x3_1).f1).size : Int) > 2046 then (some false) else (if (((rd_T57 l0_6 x3_1).f1).size : Int) = 7 then (if ((rd_T57 l0_6 x3_1).f0) = 0 then (if x3_1 > 0 then (some false) else (rillmeterref07_Right.l0 k1 (wrap64 (x3_1 + 1)) a0_0 a0_1 a0_2 a0_3 a0_4 a0_5 l0_6)) else (rillmeterref07_Right.l0 k1 (wrap64 (x3_1 + 1)) a0_0 a0_1 a0_2 a0_3 a0_4 a0_5 l0_6)) else (some false))) else (if ((((rd_T57 l0_6 x3_1).f1).size : Int) % 8) = 6 then (if (((rd_T57 l0_6 x3_1).f1).size : Int) > 2046 then (some false) else (if ((rd_T57 l0_6 x3_1).f0) = 0 then (if x3_1 > 0 then (some false) else (rillmeterref07_Right.l0 k1 (wrap64 (x3_1 + 1)) a0_0 a0_1 a0_2 a0_3 a0_4 a0_5 l0_6)) else (rillmeterref07_Right.l0 k1 (wrap64 (x3_1 + 1)) a0_0 a0_1 a0_2 a0_3 a0_4 a0_5 l0_6))) else (some false))) else (some false)) = some r := H
     have A5 := Aside0.mk A50
     clear A50
     by_cases c6 : t104 = true
     ·subst c6
      have H1 : (if ((rd_T57 l0_6 x3_1).f0) = 44 then (if (((rd_T57 l0_6 x3_1).f1).size : Int) > 2046 then (some false) else (if (((rd_T57 l0_6 x3_1).f1).size : Int) = 7 then (if ((rd_T57 l0_6 x3_1).f0) = 0 then (if x3_1 > 0 then (some false) else (rillmeterref07_Right.l0 k1 (wrap64 (x3_1 + 1)) a0_0 a0_1 a0_2 a0_3 a0_4 a0_5 l0_6)) else (rillmeterref07_Right.l0 k1 (wrap64 (x3_1 + 1)) a0_0 a0_1 a0_2 a0_3 a0_4 a0_5 l0_6)) else (some false))) else (if ((((rd_T57 l0_6 x3_1).f1).size : Int) % 8) = 6 then (if (((rd_T57 l0_6 x3_1).f1).size : Int) > 2046 then (some false) else (if ((rd_T57 l0_6 x3_1).f0) = 0 then (if x3_1 > 0 then (some false) else (rillmeterref07_Right.l0 k1 (wrap64 (x3_1 + 1)) a0_0 a0_1 a0_2 a0_3 a0_4 a0_5 l0_6)) else (rillmeterref07_Right.l0 k1 (wrap64 (x3_1 + 1)) a0_0 a0_1 a0_2 a0_3 a0_4 a0_5 l0_6))) else (some false))) = some r := by rw [if_pos rfl] at H; exact H
      clear H
      have H := H1
      clear H1
      by_cases c7 : ((rd_T57 l0_6 x3_1).f0) = 44
      ·rw [if_pos c7] at H
       have c7b0 : (((rd_T57 l0_6 x3_1).f0) == 44) = true := beq_iff_eq.mpr c7
       have c7b1 : (((rd_T57 l0_6 x3_1).f0) != 44) = false := bne_eq_false_iff_eq.mpr c7
       clear c7
       by_cases c8 : (((rd_T57 l0_6 x3_1).f1).size : Int) > 2046
       ·rw [if_pos c8] at H
        have c8b0 : decide (2046 < (((rd_T57 l0_6 x3_1).f1).size : Int)) = true := decide_eq_true c8
        have c8b1 : decide (2046 < ((rd_T57 l0_6 x3_1).f1).size) = true := decide_eq_true (by omega)
        clear c8
        obtain rfl := Option.some.inj H
        have hcz9_0 : wr.cell? ⟨gb101, 0, none⟩ = some (.int .i64 a0_0) := (blk_cell BK101.out 0).trans rfl
        have hcz9_1 : wr.cell? ⟨gb101, 1, none⟩ = some (.int .i64 a0_1) := (blk_cell BK101.out 1).trans rfl
        have hcz9_2 : wr.cell? ⟨gb101, 2, none⟩ = some (.int .i64 a0_2) := (blk_cell BK101.out 2).trans rfl
        have hcz9_3 : wr.cell? ⟨gb101, 3, none⟩ = some (.int .i64 a0_3) := (blk_cell BK101.out 3).trans rfl
        have hcz9_4 : wr.cell? ⟨gb101, 4, none⟩ = some (.string a0_4) := (blk_cell BK101.out 4).trans rfl
        have hcz9_5 : wr.cell? ⟨gb101, 5, none⟩ = some (.string a0_5) := (blk_cell BK101.out 5).trans rfl
        have hcz9_6 : wr.cell? ⟨gb101, 6, none⟩ = some (.slice A0_6 l0_6.length c0_6) := (blk_cell BK101.out 6).trans rfl
        have hfz9_0 := blk_frozen BK101.out 0
        have hfz9_1 := blk_frozen BK101.out 1
        have hfz9_2 := blk_frozen BK101.out 2
        have hfz9_3 := blk_frozen BK101.out 3
        have hfz9_4 := blk_frozen BK101.out 4
        have hfz9_5 := blk_frozen BK101.out 5
        have hfz9_6 := blk_frozen BK101.out 6
        have p102 : 0 ≤ (x3_1 : Int) := of_decide_eq_true (by first | (with_reducible assumption) | assumption)
        have q102 : x3_1 < (l0_6.length : Int) := of_decide_eq_true (by first | (with_reducible assumption) | assumption)
        obtain ⟨ad102, e102, hx102_0, hx102_1⟩ := at_T57 HR0_6.out x3_1 p102 q102
        cases e102
        replace hx102_0 := (HB.out.cell (World.block_lt_of_cell? w _ hx102_0)).trans hx102_0
        replace hx102_1 := (HB.out.cell (World.block_lt_of_cell? w _ hx102_1)).trans hx102_1
        replace p102 := eq_true p102
        replace q102 := eq_true q102
        go_wp2_with (first | ((with_reducible refine gate_dst (N := 4) rfl ?_); (try (refine gate_guard (by rfl) ?_; dsimp only)); refine box_event ?hg (N := 4) ?hd (cs := #[.int .i64 0, .string (⟨#[]⟩ : ByteArray)]) (t := 57) ?hr ?_; (case hd => rfl); (case hg => rfl); (case hr => first | (go_simp; done) | (go_simp; rfl)); intro gb103 hg w10 hbox hb; have n0_ := Aside0.mk (blk_below (g := gb101) (o := .cells #[.int .i64 a0_0, .int .i64 a0_1, .int .i64 a0_2, .int .i64 a0_3, .string a0_4, .string a0_5, .slice (some ad102) l0_6.length c0_6] 31 (0, 0)) (by (with_reducible repeat first | apply pN_ | apply pD_ | apply pA_); exact BK101.out) hb); have n1_ := Aside0.mk (below_step (bU_ HB.out) hb); have n2_ := Aside0.mk (hbox); have n3_ := Aside0.mk ((by rw [hg]; exact (below_size (bU_ HB.out)) : w.heap.size ≤ gb103)); have n4_ := Aside0.mk ((by rw [hg]; exact (below_size (bU_ HB.out)) : w.heap.size ≤ gb103)); have n5_ := Aside0.mk ((by rw [hg]; exact Nat.ne_of_lt (blk_lt (g := gb101) (o := .cells #[.int .i64 a0_0, .int .i64 a0_1, .int .i64 a0_2, .int .i64 a0_3, .string a0_4, .string a0_5, .slice (some ad102) l0_6.length c0_6] 31 (0, 0)) (by (with_reducible repeat first | apply pN_ | apply pD_ | apply pA_); exact BK101.out)) : gb101 ≠ gb103)); have n6_ := Aside0.mk ((by rw [hg]; exact Nat.ne_of_gt (blk_lt (g := gb101) (o := .cells #[.int .i64 a0_0, .int .i64 a0_1, .int .i64 a0_2, .int .i64 a0_3, .string a0_4, .string a0_5, .slice (some ad102) l0_6.length c0_6] 31 (0, 0)) (by (with_reducible repeat first | apply pN_ | apply pD_ | apply pA_); exact BK101.out)) : gb103 ≠ gb101)); clear BK101; clear HB; have BK101 := n0_; have HB := n1_; have BK103 := n2_; have GW103 := n3_; have GE103 := n4_; have NB101_103 := n5_; have NB103_101 := n6_; clear n0_ n1_ n2_ n3_ n4_ n5_ n6_; clear hb hbox hg; have hnb11 := NB103_101.out; have hnc11 := NB101_103.out; have hcz12_0 : w10.cell? ⟨gb103, 0, none⟩ = some (.int .i64 0) := (blk_cell BK103.out 0).trans rfl; have hcz12_1 : w10.cell? ⟨gb103, 1, none⟩ = some (.string (⟨#[]⟩ : ByteArray)) := (blk_cell BK103.out 1).trans rfl; have hfz12_0 := blk_frozen BK103.out 0; have hfz12_1 := blk_frozen BK103.out 1) | ((with_reducible refine gate_callee (f := 24) rfl ?_); refine gL_ (some 23) rfl rfl Try.func24 (by kernel_rfl) rfl #[.int .i64 ((rd_T57 l0_6 x3_1).f0)] rfl ?_; (with_reducible refine (rillmeterref07_extension.calls ((rd_T57 l0_6 x3_1).f0) true _ A5.out).mono ?_); rintro e w' ⟨rfl, ⟨nd, rfl⟩⟩; refine ⟨_, rfl, ?_⟩))
        go_ret
        exact ⟨by first | rfl | (simp [errW_none, errW_some] <;> rfl) | (simp [*, errW_none, errW_some] <;> rfl), bU_ HB.out⟩
       ·rw [if_neg c8] at H
        have c8b0 : decide (2046 < (((rd_T57 l0_6 x3_1).f1).size : Int)) = false := decide_eq_false c8
        have c8b1 : decide (2046 < ((rd_T57 l0_6 x3_1).f1).size) = false := decide_eq_false (by omega)
        clear c8
        by_cases c13 : (((rd_T57 l0_6 x3_1).f1).size : Int) = 7
        ·rw [if_pos c13] at H
         have c13b0 : ((((rd_T57 l0_6 x3_1).f1).size : Int) == 7) = true := beq_iff_eq.mpr c13
         have c13b1 : ((((rd_T57 l0_6 x3_1).f1).size : Int) != 7) = false := bne_eq_false_iff_eq.mpr c13
         clear c13
         by_cases c14 : ((rd_T57 l0_6 x3_1).f0) = 0
         ·rw [if_pos c14] at H
          have c14b0 : (((rd_T57 l0_6 x3_1).f0) == 0) = true := beq_iff_eq.mpr c14
          have c14b1 : (((rd_T57 l0_6 x3_1).f0) != 0) = false := bne_eq_false_iff_eq.mpr c14
          clear c14
          by_cases c15 : x3_1 > 0
          ·rw [if_pos c15] at H
           have c15b0 : decide (0 < x3_1) = true := decide_eq_true c15
           clear c15
           obtain rfl := Option.some.inj H
           have hcz16_0 : wr.cell? ⟨gb101, 0, none⟩ = some (.int .i64 a0_0) := (blk_cell BK101.out 0).trans rfl
           have hcz16_1 : wr.cell? ⟨gb101, 1, none⟩ = some (.int .i64 a0_1) := (blk_cell BK101.out 1).trans rfl
           have hcz16_2 : wr.cell? ⟨gb101, 2, none⟩ = some (.int .i64 a0_2) := (blk_cell BK101.out 2).trans rfl
           have hcz16_3 : wr.cell? ⟨gb101, 3, none⟩ = some (.int .i64 a0_3) := (blk_cell BK101.out 3).trans rfl
           have hcz16_4 : wr.cell? ⟨gb101, 4, none⟩ = some (.string a0_4) := (blk_cell BK101.out 4).trans rfl
           have hcz16_5 : wr.cell? ⟨gb101, 5, none⟩ = some (.string a0_5) := (blk_cell BK101.out 5).trans rfl
           have hcz16_6 : wr.cell? ⟨gb101, 6, none⟩ = some (.slice A0_6 l0_6.length c0_6) := (blk_cell BK101.out 6).trans rfl
           have hfz16_0 := blk_frozen BK101.out 0
           have hfz16_1 := blk_frozen BK101.out 1
           have hfz16_2 := blk_frozen BK101.out 2
           have hfz16_3 := blk_frozen BK101.out 3
           have hfz16_4 := blk_frozen BK101.out 4
           have hfz16_5 := blk_frozen BK101.out 5
           have hfz16_6 := blk_frozen BK101.out 6
           have p102 : 0 ≤ (x3_1 : Int) := of_decide_eq_true (by first | (with_reducible assumption) | assumption)
           have q102 : x3_1 < (l0_6.length : Int) := of_decide_eq_true (by first | (with_reducible assumption) | assumption)
           obtain ⟨ad102, e102, hx102_0, hx102_1⟩ := at_T57 HR0_6.out x3_1 p102 q102
           cases e102
           replace hx102_0 := (HB.out.cell (World.block_lt_of_cell? w _ hx102_0)).trans hx102_0
           replace hx102_1 := (HB.out.cell (World.block_lt_of_cell? w _ hx102_1)).trans hx102_1
           replace p102 := eq_true p102
           replace q102 := eq_true q102
           go_wp2_with (first | ((with_reducible refine gate_dst (N := 4) rfl ?_); (try (refine gate_guard (by rfl) ?_; dsimp only)); refine box_event ?hg (N := 4) ?hd (cs := #[.int .i64 0, .string (⟨#[]⟩ : ByteArray)]) (t := 57) ?hr ?_; (case hd => rfl); (case hg => rfl); (case hr => first | (go_simp; done) | (go_simp; rfl)); intro gb103 hg w17 hbox hb; have n0_ := Aside0.mk (blk_below (g := gb101) (o := .cells #[.int .i64 a0_0, .int .i64 a0_1, .int .i64 a0_2, .int .i64 a0_3, .string a0_4, .string a0_5, .slice (some ad102) l0_6.length c0_6] 31 (0, 0)) (by (with_reducible repeat first | apply pN_ | apply pD_ | apply pA_); exact BK101.out) hb); have n1_ := Aside0.mk (below_step (bU_ HB.out) hb); have n2_ := Aside0.mk (hbox); have n3_ := Aside0.mk ((by rw [hg]; exact (below_size (bU_ HB.out)) : w.heap.size ≤ gb103)); have n4_ := Aside0.mk ((by rw [hg]; exact (below_size (bU_ HB.out)) : w.heap.size ≤ gb103)); have n5_ := Aside0.mk ((by rw [hg]; exact Nat.ne_of_lt (blk_lt (g := gb101) (o := .cells #[.int .i64 a0_0, .int .i64 a0_1, .int .i64 a0_2, .int .i64 a0_3, .string a0_4, .string a0_5, .slice (some ad102) l0_6.length c0_6] 31 (0, 0)) (by (with_reducible repeat first | apply pN_ | apply pD_ | apply pA_); exact BK101.out)) : gb101 ≠ gb103)); have n6_ := Aside0.mk ((by rw [hg]; exact Nat.ne_of_gt (blk_lt (g := gb101) (o := .cells #[.int .i64 a0_0, .int .i64 a0_1, .int .i64 a0_2, .int .i64 a0_3, .string a0_4, .string a0_5, .slice (some ad102) l0_6.length c0_6] 31 (0, 0)) (by (with_reducible repeat first | apply pN_ | apply pD_ | apply pA_); exact BK101.out)) : gb103 ≠ gb101)); clear BK101; clear HB; have BK101 := n0_; have HB := n1_; have BK103 := n2_; have GW103 := n3_; have GE103 := n4_; have NB101_103 := n5_; have NB103_101 := n6_; clear n0_ n1_ n2_ n3_ n4_ n5_ n6_; clear hb hbox hg; have hnb18 := NB103_101.out; have hnc18 := NB101_103.out; have hcz19_0 : w17.cell? ⟨gb103, 0, none⟩ = some (.int .i64 0) := (blk_cell BK103.out 0).trans rfl; have hcz19_1 : w17.cell? ⟨gb103, 1, none⟩ = some (.string (⟨#[]⟩ : ByteArray)) := (blk_cell BK103.out 1).trans rfl; have hfz19_0 := blk_frozen BK103.out 0; have hfz19_1 := blk_frozen BK103.out 1) | ((with_reducible refine gate_callee (f := 24) rfl ?_); refine gL_ (some 23) rfl rfl Try.func24 (by kernel_rfl) rfl #[.int .i64 ((rd_T57 l0_6 x3_1).f0)] rfl ?_; (with_reducible refine (rillmeterref07_extension.calls ((rd_T57 l0_6 x3_1).f0) true _ A5.out).mono ?_); rintro e w' ⟨rfl, ⟨nd, rfl⟩⟩; refine ⟨_, rfl, ?_⟩))
           go_ret
           exact ⟨by first | rfl | (simp [errW_none, errW_some] <;> rfl) | (simp [*, errW_none, errW_some] <;> rfl), bU_ HB.out⟩
          ·rw [if_neg c15] at H
           have c15b0 : decide (0 < x3_1) = false := decide_eq_false c15
           clear c15
           have H' := Aside0.mk H
           clear H
           have hcz20_0 : wr.cell? ⟨gb101, 0, none⟩ = some (.int .i64 a0_0) := (blk_cell BK101.out 0).trans rfl
           have hcz20_1 : wr.cell? ⟨gb101, 1, none⟩ = some (.int .i64 a0_1) := (blk_cell BK101.out 1).trans rfl
           have hcz20_2 : wr.cell? ⟨gb101, 2, none⟩ = some (.int .i64 a0_2) := (blk_cell BK101.out 2).trans rfl
           have hcz20_3 : wr.cell? ⟨gb101, 3, none⟩ = some (.int .i64 a0_3) := (blk_cell BK101.out 3).trans rfl
           have hcz20_4 : wr.cell? ⟨gb101, 4, none⟩ = some (.string a0_4) := (blk_cell BK101.out 4).trans rfl
           have hcz20_5 : wr.cell? ⟨gb101, 5, none⟩ = some (.string a0_5) := (blk_cell BK101.out 5).trans rfl
           have hcz20_6 : wr.cell? ⟨gb101, 6, none⟩ = some (.slice A0_6 l0_6.length c0_6) := (blk_cell BK101.out 6).trans rfl
           have hfz20_0 := blk_frozen BK101.out 0
           have hfz20_1 := blk_frozen BK101.out 1
           have hfz20_2 := blk_frozen BK101.out 2
           have hfz20_3 := blk_frozen BK101.out 3
           have hfz20_4 := blk_frozen BK101.out 4
           have hfz20_5 := blk_frozen BK101.out 5
           have hfz20_6 := blk_frozen BK101.out 6
           have p102 : 0 ≤ (x3_1 : Int) := of_decide_eq_true (by first | (with_reducible assumption) | assumption)
           have q102 : x3_1 < (l0_6.length : Int) := of_decide_eq_true (by first | (with_reducible assumption) | assumption)
           obtain ⟨ad102, e102, hx102_0, hx102_1⟩ := at_T57 HR0_6.out x3_1 p102 q102
           cases e102
           replace hx102_0 := (HB.out.cell (World.block_lt_of_cell? w _ hx102_0)).trans hx102_0
           replace hx102_1 := (HB.out.cell (World.block_lt_of_cell? w _ hx102_1)).trans hx102_1
           replace p102 := eq_true p102
           replace q102 := eq_true q102
           go_wp2_with (first | ((with_reducible refine gate_dst (N := 4) rfl ?_); (try (refine gate_guard (by rfl) ?_; dsimp only)); refine box_event ?hg (N := 4) ?hd (cs := #[.int .i64 0, .string (⟨#[]⟩ : ByteArray)]) (t := 57) ?hr ?_; (case hd => rfl); (case hg => rfl); (case hr => first | (go_simp; done) | (go_simp; rfl)); intro gb103 hg w21 hbox hb; have n0_ := Aside0.mk (blk_below (g := gb101) (o := .cells #[.int .i64 a0_0, .int .i64 a0_1, .int .i64 a0_2, .int .i64 a0_3, .string a0_4, .string a0_5, .slice (some ad102) l0_6.length c0_6] 31 (0, 0)) (by (with_reducible repeat first | apply pN_ | apply pD_ | apply pA_); exact BK101.out) hb); have n1_ := Aside0.mk (below_step (bU_ HB.out) hb); have n2_ := Aside0.mk (hbox); have n3_ := Aside0.mk ((by rw [hg]; exact (below_size (bU_ HB.out)) : w.heap.size ≤ gb103)); have n4_ := Aside0.mk ((by rw [hg]; exact (below_size (bU_ HB.out)) : w.heap.size ≤ gb103)); have n5_ := Aside0.mk ((by rw [hg]; exact Nat.ne_of_lt (blk_lt (g := gb101) (o := .cells #[.int .i64 a0_0, .int .i64 a0_1, .int .i64 a0_2, .int .i64 a0_3, .string a0_4, .string a0_5, .slice (some ad102) l0_6.length c0_6] 31 (0, 0)) (by (with_reducible repeat first | apply pN_ | apply pD_ | apply pA_); exact BK101.out)) : gb101 ≠ gb103)); have n6_ := Aside0.mk ((by rw [hg]; exact Nat.ne_of_gt (blk_lt (g := gb101) (o := .cells #[.int .i64 a0_0, .int .i64 a0_1, .int .i64 a0_2, .int .i64 a0_3, .string a0_4, .string a0_5, .slice (some ad102) l0_6.length c0_6] 31 (0, 0)) (by (with_reducible repeat first | apply pN_ | apply pD_ | apply pA_); exact BK101.out)) : gb103 ≠ gb101)); clear BK101; clear HB; have BK101 := n0_; have HB := n1_; have BK103 := n2_; have GW103 := n3_; have GE103 := n4_; have NB101_103 := n5_; have NB103_101 := n6_; clear n0_ n1_ n2_ n3_ n4_ n5_ n6_; clear hb hbox hg; have hnb22 := NB103_101.out; have hnc22 := NB101_103.out; have hcz23_0 : w21.cell? ⟨gb103, 0, none⟩ = some (.int .i64 0) := (blk_cell BK103.out 0).trans rfl; have hcz23_1 : w21.cell? ⟨gb103, 1, none⟩ = some (.string (⟨#[]⟩ : ByteArray)) := (blk_cell BK103.out 1).trans rfl; have hfz23_0 := blk_frozen BK103.out 0; have hfz23_1 := blk_frozen BK103.out 1) | ((with_reducible refine gate_callee (f := 24) rfl ?_); refine gL_ (some 23) rfl rfl Try.func24 (by kernel_rfl) rfl #[.int .i64 ((rd_T57 l0_6 x3_1).f0)] rfl ?_; (with_reducible refine (rillmeterref07_extension.calls ((rd_T57 l0_6 x3_1).f0) true _ A5.out).mono ?_); rintro e w' ⟨rfl, ⟨nd, rfl⟩⟩; refine ⟨_, rfl, ?_⟩))
           go_roundg k1
           case measure => have := HK1.out; omega
           case rel => exact ⟨(wrap64 (x3_1 + 1)), (by first | rfl | (simp; done) | (simp [*]; done)), H', ⟨by have := HK1.out; omega⟩, ⟨by (with_reducible repeat first | apply pN_ | apply pD_ | apply pA_); refine blk_far ?_ NB101_103.out _; (with_reducible repeat first | apply pN_ | apply pD_ | apply pA_); refine blk_far ?_ NB101_103.out _; (with_reducible repeat first | apply pN_ | apply pD_ | apply pA_); exact BK101.out⟩, ⟨bU_ HB.out⟩⟩
         ·rw [if_neg c14] at H
          have c14b0 : (((rd_T57 l0_6 x3_1).f0) == 0) = false := beq_eq_false_iff_ne.mpr c14
          have c14b1 : (((rd_T57 l0_6 x3_1).f0) != 0) = true := bne_iff_ne.mpr c14
          have H' := Aside0.mk H
          clear H
          have hcz24_0 : wr.cell? ⟨gb101, 0, none⟩ = some (.int .i64 a0_0) := (blk_cell BK101.out 0).trans rfl
          have hcz24_1 : wr.cell? ⟨gb101, 1, none⟩ = some (.int .i64 a0_1) := (blk_cell BK101.out 1).trans rfl
          have hcz24_2 : wr.cell? ⟨gb101, 2, none⟩ = some (.int .i64 a0_2) := (blk_cell BK101.out 2).trans rfl
          have hcz24_3 : wr.cell? ⟨gb101, 3, none⟩ = some (.int .i64 a0_3) := (blk_cell BK101.out 3).trans rfl
          have hcz24_4 : wr.cell? ⟨gb101, 4, none⟩ = some (.string a0_4) := (blk_cell BK101.out 4).trans rfl
          have hcz24_5 : wr.cell? ⟨gb101, 5, none⟩ = some (.string a0_5) := (blk_cell BK101.out 5).trans rfl
          have hcz24_6 : wr.cell? ⟨gb101, 6, none⟩ = some (.slice A0_6 l0_6.length c0_6) := (blk_cell BK101.out 6).trans rfl
          have hfz24_0 := blk_frozen BK101.out 0
          have hfz24_1 := blk_frozen BK101.out 1
          have hfz24_2 := blk_frozen BK101.out 2
          have hfz24_3 := blk_frozen BK101.out 3
          have hfz24_4 := blk_frozen BK101.out 4
          have hfz24_5 := blk_frozen BK101.out 5
          have hfz24_6 := blk_frozen BK101.out 6
          have p102 : 0 ≤ (x3_1 : Int) := of_decide_eq_true (by first | (with_reducible assumption) | assumption)
          have q102 : x3_1 < (l0_6.length : Int) := of_decide_eq_true (by first | (with_reducible assumption) | assumption)
          obtain ⟨ad102, e102, hx102_0, hx102_1⟩ := at_T57 HR0_6.out x3_1 p102 q102
          cases e102
          replace hx102_0 := (HB.out.cell (World.block_lt_of_cell? w _ hx102_0)).trans hx102_0
          replace hx102_1 := (HB.out.cell (World.block_lt_of_cell? w _ hx102_1)).trans hx102_1
          replace p102 := eq_true p102
          replace q102 := eq_true q102
          go_wp2_with (first | ((with_reducible refine gate_dst (N := 4) rfl ?_); (try (refine gate_guard (by rfl) ?_; dsimp only)); refine box_event ?hg (N := 4) ?hd (cs := #[.int .i64 0, .string (⟨#[]⟩ : ByteArray)]) (t := 57) ?hr ?_; (case hd => rfl); (case hg => rfl); (case hr => first | (go_simp; done) | (go_simp; rfl)); intro gb103 hg w25 hbox hb; have n0_ := Aside0.mk (blk_below (g := gb101) (o := .cells #[.int .i64 a0_0, .int .i64 a0_1, .int .i64 a0_2, .int .i64 a0_3, .string a0_4, .string a0_5, .slice (some ad102) l0_6.length c0_6] 31 (0, 0)) (by (with_reducible repeat first | apply pN_ | apply pD_ | apply pA_); exact BK101.out) hb); have n1_ := Aside0.mk (below_step (bU_ HB.out) hb); have n2_ := Aside0.mk (hbox); have n3_ := Aside0.mk ((by rw [hg]; exact (below_size (bU_ HB.out)) : w.heap.size ≤ gb103)); have n4_ := Aside0.mk ((by rw [hg]; exact (below_size (bU_ HB.out)) : w.heap.size ≤ gb103)); have n5_ := Aside0.mk ((by rw [hg]; exact Nat.ne_of_lt (blk_lt (g := gb101) (o := .cells #[.int .i64 a0_0, .int .i64 a0_1, .int .i64 a0_2, .int .i64 a0_3, .string a0_4, .string a0_5, .slice (some ad102) l0_6.length c0_6] 31 (0, 0)) (by (with_reducible repeat first | apply pN_ | apply pD_ | apply pA_); exact BK101.out)) : gb101 ≠ gb103)); have n6_ := Aside0.mk ((by rw [hg]; exact Nat.ne_of_gt (blk_lt (g := gb101) (o := .cells #[.int .i64 a0_0, .int .i64 a0_1, .int .i64 a0_2, .int .i64 a0_3, .string a0_4, .string a0_5, .slice (some ad102) l0_6.length c0_6] 31 (0, 0)) (by (with_reducible repeat first | apply pN_ | apply pD_ | apply pA_); exact BK101.out)) : gb103 ≠ gb101)); clear BK101; clear HB; have BK101 := n0_; have HB := n1_; have BK103 := n2_; have GW103 := n3_; have GE103 := n4_; have NB101_103 := n5_; have NB103_101 := n6_; clear n0_ n1_ n2_ n3_ n4_ n5_ n6_; clear hb hbox hg; have hnb26 := NB103_101.out; have hnc26 := NB101_103.out; have hcz27_0 : w25.cell? ⟨gb103, 0, none⟩ = some (.int .i64 0) := (blk_cell BK103.out 0).trans rfl; have hcz27_1 : w25.cell? ⟨gb103, 1, none⟩ = some (.string (⟨#[]⟩ : ByteArray)) := (blk_cell BK103.out 1).trans rfl; have hfz27_0 := blk_frozen BK103.out 0; have hfz27_1 := blk_frozen BK103.out 1) | ((with_reducible refine gate_callee (f := 24) rfl ?_); refine gL_ (some 23) rfl rfl Try.func24 (by kernel_rfl) rfl #[.int .i64 ((rd_T57 l0_6 x3_1).f0)] rfl ?_; (with_reducible refine (rillmeterref07_extension.calls ((rd_T57 l0_6 x3_1).f0) true _ A5.out).mono ?_); rintro e w' ⟨rfl, ⟨nd, rfl⟩⟩; refine ⟨_, rfl, ?_⟩))
          go_roundg k1
          case measure => have := HK1.out; omega
          case rel => exact ⟨(wrap64 (x3_1 + 1)), (by first | rfl | (simp; done) | (simp [*]; done)), H', ⟨by have := HK1.out; omega⟩, ⟨by (with_reducible repeat first | apply pN_ | apply pD_ | apply pA_); refine blk_far ?_ NB101_103.out _; (with_reducible repeat first | apply pN_ | apply pD_ | apply pA_); refine blk_far ?_ NB101_103.out _; (with_reducible repeat first | apply pN_ | apply pD_ | apply pA_); exact BK101.out⟩, ⟨bU_ HB.out⟩⟩
        ·rw [if_neg c13] at H
         have c13b0 : ((((rd_T57 l0_6 x3_1).f1).size : Int) == 7) = false := beq_eq_false_iff_ne.mpr c13
         have c13b1 : ((((rd_T57 l0_6 x3_1).f1).size : Int) != 7) = true := bne_iff_ne.mpr c13
         obtain rfl := Option.some.inj H
         have hcz28_0 : wr.cell? ⟨gb101, 0, none⟩ = some (.int .i64 a0_0) := (blk_cell BK101.out 0).trans rfl
         have hcz28_1 : wr.cell? ⟨gb101, 1, none⟩ = some (.int .i64 a0_1) := (blk_cell BK101.out 1).trans rfl
         have hcz28_2 : wr.cell? ⟨gb101, 2, none⟩ = some (.int .i64 a0_2) := (blk_cell BK101.out 2).trans rfl
         have hcz28_3 : wr.cell? ⟨gb101, 3, none⟩ = some (.int .i64 a0_3) := (blk_cell BK101.out 3).trans rfl
         have hcz28_4 : wr.cell? ⟨gb101, 4, none⟩ = some (.string a0_4) := (blk_cell BK101.out 4).trans rfl
         have hcz28_5 : wr.cell? ⟨gb101, 5, none⟩ = some (.string a0_5) := (blk_cell BK101.out 5).trans rfl
         have hcz28_6 : wr.cell? ⟨gb101, 6, none⟩ = some (.slice A0_6 l0_6.length c0_6) := (blk_cell BK101.out 6).trans rfl
         have hfz28_0 := blk_frozen BK101.out 0
         have hfz28_1 := blk_frozen BK101.out 1
         have hfz28_2 := blk_frozen BK101.out 2
         have hfz28_3 := blk_frozen BK101.out 3
         have hfz28_4 := blk_frozen BK101.out 4
         have hfz28_5 := blk_frozen BK101.out 5
         have hfz28_6 := blk_frozen BK101.out 6
         have p102 : 0 ≤ (x3_1 : Int) := of_decide_eq_true (by first | (with_reducible assumption) | assumption)
         have q102 : x3_1 < (l0_6.length : Int) := of_decide_eq_true (by first | (with_reducible assumption) | assumption)
         obtain ⟨ad102, e102, hx102_0, hx102_1⟩ := at_T57 HR0_6.out x3_1 p102 q102
         cases e102
         replace hx102_0 := (HB.out.cell (World.block_lt_of_cell? w _ hx102_0)).trans hx102_0
         replace hx102_1 := (HB.out.cell (World.block_lt_of_cell? w _ hx102_1)).trans hx102_1
         replace p102 := eq_true p102
         replace q102 := eq_true q102
         go_wp2_with (first | ((with_reducible refine gate_dst (N := 4) rfl ?_); (try (refine gate_guard (by rfl) ?_; dsimp only)); refine box_event ?hg (N := 4) ?hd (cs := #[.int .i64 0, .string (⟨#[]⟩ : ByteArray)]) (t := 57) ?hr ?_; (case hd => rfl); (case hg => rfl); (case hr => first | (go_simp; done) | (go_simp; rfl)); intro gb103 hg w29 hbox hb; have n0_ := Aside0.mk (blk_below (g := gb101) (o := .cells #[.int .i64 a0_0, .int .i64 a0_1, .int .i64 a0_2, .int .i64 a0_3, .string a0_4, .string a0_5, .slice (some ad102) l0_6.length c0_6] 31 (0, 0)) (by (with_reducible repeat first | apply pN_ | apply pD_ | apply pA_); exact BK101.out) hb); have n1_ := Aside0.mk (below_step (bU_ HB.out) hb); have n2_ := Aside0.mk (hbox); have n3_ := Aside0.mk ((by rw [hg]; exact (below_size (bU_ HB.out)) : w.heap.size ≤ gb103)); have n4_ := Aside0.mk ((by rw [hg]; exact (below_size (bU_ HB.out)) : w.heap.size ≤ gb103)); have n5_ := Aside0.mk ((by rw [hg]; exact Nat.ne_of_lt (blk_lt (g := gb101) (o := .cells #[.int .i64 a0_0, .int .i64 a0_1, .int .i64 a0_2, .int .i64 a0_3, .string a0_4, .string a0_5, .slice (some ad102) l0_6.length c0_6] 31 (0, 0)) (by (with_reducible repeat first | apply pN_ | apply pD_ | apply pA_); exact BK101.out)) : gb101 ≠ gb103)); have n6_ := Aside0.mk ((by rw [hg]; exact Nat.ne_of_gt (blk_lt (g := gb101) (o := .cells #[.int .i64 a0_0, .int .i64 a0_1, .int .i64 a0_2, .int .i64 a0_3, .string a0_4, .string a0_5, .slice (some ad102) l0_6.length c0_6] 31 (0, 0)) (by (with_reducible repeat first | apply pN_ | apply pD_ | apply pA_); exact BK101.out)) : gb103 ≠ gb101)); clear BK101; clear HB; have BK101 := n0_; have HB := n1_; have BK103 := n2_; have GW103 := n3_; have GE103 := n4_; have NB101_103 := n5_; have NB103_101 := n6_; clear n0_ n1_ n2_ n3_ n4_ n5_ n6_; clear hb hbox hg; have hnb30 := NB103_101.out; have hnc30 := NB101_103.out; have hcz31_0 : w29.cell? ⟨gb103, 0, none⟩ = some (.int .i64 0) := (blk_cell BK103.out 0).trans rfl; have hcz31_1 : w29.cell? ⟨gb103, 1, none⟩ = some (.string (⟨#[]⟩ : ByteArray)) := (blk_cell BK103.out 1).trans rfl; have hfz31_0 := blk_frozen BK103.out 0; have hfz31_1 := blk_frozen BK103.out 1) | ((with_reducible refine gate_callee (f := 24) rfl ?_); refine gL_ (some 23) rfl rfl Try.func24 (by kernel_rfl) rfl #[.int .i64 ((rd_T57 l0_6 x3_1).f0)] rfl ?_; (with_reducible refine (rillmeterref07_extension.calls ((rd_T57 l0_6 x3_1).f0) true _ A5.out).mono ?_); rintro e w' ⟨rfl, ⟨nd, rfl⟩⟩; refine ⟨_, rfl, ?_⟩))
         go_ret
         exact ⟨by first | rfl | (simp [errW_none, errW_some] <;> rfl) | (simp [*, errW_none, errW_some] <;> rfl), bU_ HB.out⟩
      ·rw [if_neg c7] at H
       have c7b0 : (((rd_T57 l0_6 x3_1).f0) == 44) = false := beq_eq_false_iff_ne.mpr c7
       have c7b1 : (((rd_T57 l0_6 x3_1).f0) != 44) = true := bne_iff_ne.mpr c7
       by_cases c32 : ((((rd_T57 l0_6 x3_1).f1).size : Int) % 8) = 6
       ·rw [if_pos c32] at H
        have c32b0 : (((((rd_T57 l0_6 x3_1).f1).size : Int) % 8) == 6) = true := beq_iff_eq.mpr c32
        have c32b1 : (((((rd_T57 l0_6 x3_1).f1).size : Int) % 8) != 6) = false := bne_eq_false_iff_eq.mpr c32
        clear c32
        by_cases c33 : (((rd_T57 l0_6 x3_1).f1).size : Int) > 2046
        ·rw [if_pos c33] at H
         have c33b0 : decide (2046 < (((rd_T57 l0_6 x3_1).f1).size : Int)) = true := decide_eq_true c33
         have c33b1 : decide (2046 < ((rd_T57 l0_6 x3_1).f1).size) = true := decide_eq_true (by omega)
         clear c33
         obtain rfl := Option.some.inj H
         have hcz34_0 : wr.cell? ⟨gb101, 0, none⟩ = some (.int .i64 a0_0) := (blk_cell BK101.out 0).trans rfl
         have hcz34_1 : wr.cell? ⟨gb101, 1, none⟩ = some (.int .i64 a0_1) := (blk_cell BK101.out 1).trans rfl
         have hcz34_2 : wr.cell? ⟨gb101, 2, none⟩ = some (.int .i64 a0_2) := (blk_cell BK101.out 2).trans rfl
         have hcz34_3 : wr.cell? ⟨gb101, 3, none⟩ = some (.int .i64 a0_3) := (blk_cell BK101.out 3).trans rfl
         have hcz34_4 : wr.cell? ⟨gb101, 4, none⟩ = some (.string a0_4) := (blk_cell BK101.out 4).trans rfl
         have hcz34_5 : wr.cell? ⟨gb101, 5, none⟩ = some (.string a0_5) := (blk_cell BK101.out 5).trans rfl
         have hcz34_6 : wr.cell? ⟨gb101, 6, none⟩ = some (.slice A0_6 l0_6.length c0_6) := (blk_cell BK101.out 6).trans rfl
         have hfz34_0 := blk_frozen BK101.out 0
         have hfz34_1 := blk_frozen BK101.out 1
         have hfz34_2 := blk_frozen BK101.out 2
         have hfz34_3 := blk_frozen BK101.out 3
         have hfz34_4 := blk_frozen BK101.out 4
         have hfz34_5 := blk_frozen BK101.out 5
         have hfz34_6 := blk_frozen BK101.out 6
         have p102 : 0 ≤ (x3_1 : Int) := of_decide_eq_true (by first | (with_reducible assumption) | assumption)
         have q102 : x3_1 < (l0_6.length : Int) := of_decide_eq_true (by first | (with_reducible assumption) | assumption)
         obtain ⟨ad102, e102, hx102_0, hx102_1⟩ := at_T57 HR0_6.out x3_1 p102 q102
         cases e102
         replace hx102_0 := (HB.out.cell (World.block_lt_of_cell? w _ hx102_0)).trans hx102_0
         replace hx102_1 := (HB.out.cell (World.block_lt_of_cell? w _ hx102_1)).trans hx102_1
         replace p102 := eq_true p102
         replace q102 := eq_true q102
         go_wp2_with (first | ((with_reducible refine gate_dst (N := 4) rfl ?_); (try (refine gate_guard (by rfl) ?_; dsimp only)); refine box_event ?hg (N := 4) ?hd (cs := #[.int .i64 0, .string (⟨#[]⟩ : ByteArray)]) (t := 57) ?hr ?_; (case hd => rfl); (case hg => rfl); (case hr => first | (go_simp; done) | (go_simp; rfl)); intro gb103 hg w35 hbox hb; have n0_ := Aside0.mk (blk_below (g := gb101) (o := .cells #[.int .i64 a0_0, .int .i64 a0_1, .int .i64 a0_2, .int .i64 a0_3, .string a0_4, .string a0_5, .slice (some ad102) l0_6.length c0_6] 31 (0, 0)) (by (with_reducible repeat first | apply pN_ | apply pD_ | apply pA_); exact BK101.out) hb); have n1_ := Aside0.mk (below_step (bU_ HB.out) hb); have n2_ := Aside0.mk (hbox); have n3_ := Aside0.mk ((by rw [hg]; exact (below_size (bU_ HB.out)) : w.heap.size ≤ gb103)); have n4_ := Aside0.mk ((by rw [hg]; exact (below_size (bU_ HB.out)) : w.heap.size ≤ gb103)); have n5_ := Aside0.mk ((by rw [hg]; exact Nat.ne_of_lt (blk_lt (g := gb101) (o := .cells #[.int .i64 a0_0, .int .i64 a0_1, .int .i64 a0_2, .int .i64 a0_3, .string a0_4, .string a0_5, .slice (some ad102) l0_6.length c0_6] 31 (0, 0)) (by (with_reducible repeat first | apply pN_ | apply pD_ | apply pA_); exact BK101.out)) : gb101 ≠ gb103)); have n6_ := Aside0.mk ((by rw [hg]; exact Nat.ne_of_gt (blk_lt (g := gb101) (o := .cells #[.int .i64 a0_0, .int .i64 a0_1, .int .i64 a0_2, .int .i64 a0_3, .string a0_4, .string a0_5, .slice (some ad102) l0_6.length c0_6] 31 (0, 0)) (by (with_reducible repeat first | apply pN_ | apply pD_ | apply pA_); exact BK101.out)) : gb103 ≠ gb101)); clear BK101; clear HB; have BK101 := n0_; have HB := n1_; have BK103 := n2_; have GW103 := n3_; have GE103 := n4_; have NB101_103 := n5_; have NB103_101 := n6_; clear n0_ n1_ n2_ n3_ n4_ n5_ n6_; clear hb hbox hg; have hnb36 := NB103_101.out; have hnc36 := NB101_103.out; have hcz37_0 : w35.cell? ⟨gb103, 0, none⟩ = some (.int .i64 0) := (blk_cell BK103.out 0).trans rfl; have hcz37_1 : w35.cell? ⟨gb103, 1, none⟩ = some (.string (⟨#[]⟩ : ByteArray)) := (blk_cell BK103.out 1).trans rfl; have hfz37_0 := blk_frozen BK103.out 0; have hfz37_1 := blk_frozen BK103.out 1) | ((with_reducible refine gate_callee (f := 24) rfl ?_); refine gL_ (some 23) rfl rfl Try.func24 (by kernel_rfl) rfl #[.int .i64 ((rd_T57 l0_6 x3_1).f0)] rfl ?_; (with_reducible refine (rillmeterref07_extension.calls ((rd_T57 l0_6 x3_1).f0) true _ A5.out).mono ?_); rintro e w' ⟨rfl, ⟨nd, rfl⟩⟩; refine ⟨_, rfl, ?_⟩))
         go_ret
         exact ⟨by first | rfl | (simp [errW_none, errW_some] <;> rfl) | (simp [*, errW_none, errW_some] <;> rfl), bU_ HB.out⟩
        ·rw [if_neg c33] at H
         have c33b0 : decide (2046 < (((rd_T57 l0_6 x3_1).f1).size : Int)) = false := decide_eq_false c33
         have c33b1 : decide (2046 < ((rd_T57 l0_6 x3_1).f1).size) = false := decide_eq_false (by omega)
         clear c33
         by_cases c38 : ((rd_T57 l0_6 x3_1).f0) = 0
         ·rw [if_pos c38] at H
          have c38b0 : (((rd_T57 l0_6 x3_1).f0) == 0) = true := beq_iff_eq.mpr c38
          have c38b1 : (((rd_T57 l0_6 x3_1).f0) != 0) = false := bne_eq_false_iff_eq.mpr c38
          clear c38
          by_cases c39 : x3_1 > 0
          ·rw [if_pos c39] at H
           have c39b0 : decide (0 < x3_1) = true := decide_eq_true c39
           clear c39
           obtain rfl := Option.some.inj H
           have hcz40_0 : wr.cell? ⟨gb101, 0, none⟩ = some (.int .i64 a0_0) := (blk_cell BK101.out 0).trans rfl
           have hcz40_1 : wr.cell? ⟨gb101, 1, none⟩ = some (.int .i64 a0_1) := (blk_cell BK101.out 1).trans rfl
           have hcz40_2 : wr.cell? ⟨gb101, 2, none⟩ = some (.int .i64 a0_2) := (blk_cell BK101.out 2).trans rfl
           have hcz40_3 : wr.cell? ⟨gb101, 3, none⟩ = some (.int .i64 a0_3) := (blk_cell BK101.out 3).trans rfl
           have hcz40_4 : wr.cell? ⟨gb101, 4, none⟩ = some (.string a0_4) := (blk_cell BK101.out 4).trans rfl
           have hcz40_5 : wr.cell? ⟨gb101, 5, none⟩ = some (.string a0_5) := (blk_cell BK101.out 5).trans rfl
           have hcz40_6 : wr.cell? ⟨gb101, 6, none⟩ = some (.slice A0_6 l0_6.length c0_6) := (blk_cell BK101.out 6).trans rfl
           have hfz40_0 := blk_frozen BK101.out 0
           have hfz40_1 := blk_frozen BK101.out 1
           have hfz40_2 := blk_frozen BK101.out 2
           have hfz40_3 := blk_frozen BK101.out 3
           have hfz40_4 := blk_frozen BK101.out 4
           have hfz40_5 := blk_frozen BK101.out 5
           have hfz40_6 := blk_frozen BK101.out 6
           have p102 : 0 ≤ (x3_1 : Int) := of_decide_eq_true (by first | (with_reducible assumption) | assumption)
           have q102 : x3_1 < (l0_6.length : Int) := of_decide_eq_true (by first | (with_reducible assumption) | assumption)
           obtain ⟨ad102, e102, hx102_0, hx102_1⟩ := at_T57 HR0_6.out x3_1 p102 q102
           cases e102
           replace hx102_0 := (HB.out.cell (World.block_lt_of_cell? w _ hx102_0)).trans hx102_0
           replace hx102_1 := (HB.out.cell (World.block_lt_of_cell? w _ hx102_1)).trans hx102_1
           replace p102 := eq_true p102
           replace q102 := eq_true q102
           go_wp2_with (first | ((with_reducible refine gate_dst (N := 4) rfl ?_); (try (refine gate_guard (by rfl) ?_; dsimp only)); refine box_event ?hg (N := 4) ?hd (cs := #[.int .i64 0, .string (⟨#[]⟩ : ByteArray)]) (t := 57) ?hr ?_; (case hd => rfl); (case hg => rfl); (case hr => first | (go_simp; done) | (go_simp; rfl)); intro gb103 hg w41 hbox hb; have n0_ := Aside0.mk (blk_below (g := gb101) (o := .cells #[.int .i64 a0_0, .int .i64 a0_1, .int .i64 a0_2, .int .i64 a0_3, .string a0_4, .string a0_5, .slice (some ad102) l0_6.length c0_6] 31 (0, 0)) (by (with_reducible repeat first | apply pN_ | apply pD_ | apply pA_); exact BK101.out) hb); have n1_ := Aside0.mk (below_step (bU_ HB.out) hb); have n2_ := Aside0.mk (hbox); have n3_ := Aside0.mk ((by rw [hg]; exact (below_size (bU_ HB.out)) : w.heap.size ≤ gb103)); have n4_ := Aside0.mk ((by rw [hg]; exact (below_size (bU_ HB.out)) : w.heap.size ≤ gb103)); have n5_ := Aside0.mk ((by rw [hg]; exact Nat.ne_of_lt (blk_lt (g := gb101) (o := .cells #[.int .i64 a0_0, .int .i64 a0_1, .int .i64 a0_2, .int .i64 a0_3, .string a0_4, .string a0_5, .slice (some ad102) l0_6.length c0_6] 31 (0, 0)) (by (with_reducible repeat first | apply pN_ | apply pD_ | apply pA_); exact BK101.out)) : gb101 ≠ gb103)); have n6_ := Aside0.mk ((by rw [hg]; exact Nat.ne_of_gt (blk_lt (g := gb101) (o := .cells #[.int .i64 a0_0, .int .i64 a0_1, .int .i64 a0_2, .int .i64 a0_3, .string a0_4, .string a0_5, .slice (some ad102) l0_6.length c0_6] 31 (0, 0)) (by (with_reducible repeat first | apply pN_ | apply pD_ | apply pA_); exact BK101.out)) : gb103 ≠ gb101)); clear BK101; clear HB; have BK101 := n0_; have HB := n1_; have BK103 := n2_; have GW103 := n3_; have GE103 := n4_; have NB101_103 := n5_; have NB103_101 := n6_; clear n0_ n1_ n2_ n3_ n4_ n5_ n6_; clear hb hbox hg; have hnb42 := NB103_101.out; have hnc42 := NB101_103.out; have hcz43_0 : w41.cell? ⟨gb103, 0, none⟩ = some (.int .i64 0) := (blk_cell BK103.out 0).trans rfl; have hcz43_1 : w41.cell? ⟨gb103, 1, none⟩ = some (.string (⟨#[]⟩ : ByteArray)) := (blk_cell BK103.out 1).trans rfl; have hfz43_0 := blk_frozen BK103.out 0; have hfz43_1 := blk_frozen BK103.out 1) | ((with_reducible refine gate_callee (f := 24) rfl ?_); refine gL_ (some 23) rfl rfl Try.func24 (by kernel_rfl) rfl #[.int .i64 ((rd_T57 l0_6 x3_1).f0)] rfl ?_; (with_reducible refine (rillmeterref07_extension.calls ((rd_T57 l0_6 x3_1).f0) true _ A5.out).mono ?_); rintro e w' ⟨rfl, ⟨nd, rfl⟩⟩; refine ⟨_, rfl, ?_⟩))
           go_ret
           exact ⟨by first | rfl | (simp [errW_none, errW_some] <;> rfl) | (simp [*, errW_none, errW_some] <;> rfl), bU_ HB.out⟩
          ·rw [if_neg c39] at H
           have c39b0 : decide (0 < x3_1) = false := decide_eq_false c39
           clear c39
           have H' := Aside0.mk H
           clear H
           have hcz44_0 : wr.cell? ⟨gb101, 0, none⟩ = some (.int .i64 a0_0) := (blk_cell BK101.out 0).trans rfl
           have hcz44_1 : wr.cell? ⟨gb101, 1, none⟩ = some (.int .i64 a0_1) := (blk_cell BK101.out 1).trans rfl
           have hcz44_2 : wr.cell? ⟨gb101, 2, none⟩ = some (.int .i64 a0_2) := (blk_cell BK101.out 2).trans rfl
           have hcz44_3 : wr.cell? ⟨gb101, 3, none⟩ = some (.int .i64 a0_3) := (blk_cell BK101.out 3).trans rfl
           have hcz44_4 : wr.cell? ⟨gb101, 4, none⟩ = some (.string a0_4) := (blk_cell BK101.out 4).trans rfl
           have hcz44_5 : wr.cell? ⟨gb101, 5, none⟩ = some (.string a0_5) := (blk_cell BK101.out 5).trans rfl
           have hcz44_6 : wr.cell? ⟨gb101, 6, none⟩ = some (.slice A0_6 l0_6.length c0_6) := (blk_cell BK101.out 6).trans rfl
           have hfz44_0 := blk_frozen BK101.out 0
           have hfz44_1 := blk_frozen BK101.out 1
           have hfz44_2 := blk_frozen BK101.out 2
           have hfz44_3 := blk_frozen BK101.out 3
           have hfz44_4 := blk_frozen BK101.out 4
           have hfz44_5 := blk_frozen BK101.out 5
           have hfz44_6 := blk_frozen BK101.out 6
           have p102 : 0 ≤ (x3_1 : Int) := of_decide_eq_true (by first | (with_reducible assumption) | assumption)
           have q102 : x3_1 < (l0_6.length : Int) := of_decide_eq_true (by first | (with_reducible assumption) | assumption)
           obtain ⟨ad102, e102, hx102_0, hx102_1⟩ := at_T57 HR0_6.out x3_1 p102 q102
           cases e102
           replace hx102_0 := (HB.out.cell (World.block_lt_of_cell? w _ hx102_0)).trans hx102_0
           replace hx102_1 := (HB.out.cell (World.block_lt_of_cell? w _ hx102_1)).trans hx102_1
           replace p102 := eq_true p102
           replace q102 := eq_true q102
           go_wp2_with (first | ((with_reducible refine gate_dst (N := 4) rfl ?_); (try (refine gate_guard (by rfl) ?_; dsimp only)); refine box_event ?hg (N := 4) ?hd (cs := #[.int .i64 0, .string (⟨#[]⟩ : ByteArray)]) (t := 57) ?hr ?_; (case hd => rfl); (case hg => rfl); (case hr => first | (go_simp; done) | (go_simp; rfl)); intro gb103 hg w45 hbox hb; have n0_ := Aside0.mk (blk_below (g := gb101) (o := .cells #[.int .i64 a0_0, .int .i64 a0_1, .int .i64 a0_2, .int .i64 a0_3, .string a0_4, .string a0_5, .slice (some ad102) l0_6.length c0_6] 31 (0, 0)) (by (with_reducible repeat first | apply pN_ | apply pD_ | apply pA_); exact BK101.out) hb); have n1_ := Aside0.mk (below_step (bU_ HB.out) hb); have n2_ := Aside0.mk (hbox); have n3_ := Aside0.mk ((by rw [hg]; exact (below_size (bU_ HB.out)) : w.heap.size ≤ gb103)); have n4_ := Aside0.mk ((by rw [hg]; exact (below_size (bU_ HB.out)) : w.heap.size ≤ gb103)); have n5_ := Aside0.mk ((by rw [hg]; exact Nat.ne_of_lt (blk_lt (g := gb101) (o := .cells #[.int .i64 a0_0, .int .i64 a0_1, .int .i64 a0_2, .int .i64 a0_3, .string a0_4, .string a0_5, .slice (some ad102) l0_6.length c0_6] 31 (0, 0)) (by (with_reducible repeat first | apply pN_ | apply pD_ | apply pA_); exact BK101.out)) : gb101 ≠ gb103)); have n6_ := Aside0.mk ((by rw [hg]; exact Nat.ne_of_gt (blk_lt (g := gb101) (o := .cells #[.int .i64 a0_0, .int .i64 a0_1, .int .i64 a0_2, .int .i64 a0_3, .string a0_4, .string a0_5, .slice (some ad102) l0_6.length c0_6] 31 (0, 0)) (by (with_reducible repeat first | apply pN_ | apply pD_ | apply pA_); exact BK101.out)) : gb103 ≠ gb101)); clear BK101; clear HB; have BK101 := n0_; have HB := n1_; have BK103 := n2_; have GW103 := n3_; have GE103 := n4_; have NB101_103 := n5_; have NB103_101 := n6_; clear n0_ n1_ n2_ n3_ n4_ n5_ n6_; clear hb hbox hg; have hnb46 := NB103_101.out; have hnc46 := NB101_103.out; have hcz47_0 : w45.cell? ⟨gb103, 0, none⟩ = some (.int .i64 0) := (blk_cell BK103.out 0).trans rfl; have hcz47_1 : w45.cell? ⟨gb103, 1, none⟩ = some (.string (⟨#[]⟩ : ByteArray)) := (blk_cell BK103.out 1).trans rfl; have hfz47_0 := blk_frozen BK103.out 0; have hfz47_1 := blk_frozen BK103.out 1) | ((with_reducible refine gate_callee (f := 24) rfl ?_); refine gL_ (some 23) rfl rfl Try.func24 (by kernel_rfl) rfl #[.int .i64 ((rd_T57 l0_6 x3_1).f0)] rfl ?_; (with_reducible refine (rillmeterref07_extension.calls ((rd_T57 l0_6 x3_1).f0) true _ A5.out).mono ?_); rintro e w' ⟨rfl, ⟨nd, rfl⟩⟩; refine ⟨_, rfl, ?_⟩))
           go_roundg k1
           case measure => have := HK1.out; omega
           case rel => exact ⟨(wrap64 (x3_1 + 1)), (by first | rfl | (simp; done) | (simp [*]; done)), H', ⟨by have := HK1.out; omega⟩, ⟨by (with_reducible repeat first | apply pN_ | apply pD_ | apply pA_); refine blk_far ?_ NB101_103.out _; (with_reducible repeat first | apply pN_ | apply pD_ | apply pA_); refine blk_far ?_ NB101_103.out _; (with_reducible repeat first | apply pN_ | apply pD_ | apply pA_); exact BK101.out⟩, ⟨bU_ HB.out⟩⟩
         ·rw [if_neg c38] at H
          have c38b0 : (((rd_T57 l0_6 x3_1).f0) == 0) = false := beq_eq_false_iff_ne.mpr c38
          have c38b1 : (((rd_T57 l0_6 x3_1).f0) != 0) = true := bne_iff_ne.mpr c38
          have H' := Aside0.mk H
          clear H
          have hcz48_0 : wr.cell? ⟨gb101, 0, none⟩ = some (.int .i64 a0_0) := (blk_cell BK101.out 0).trans rfl
          have hcz48_1 : wr.cell? ⟨gb101, 1, none⟩ = some (.int .i64 a0_1) := (blk_cell BK101.out 1).trans rfl
          have hcz48_2 : wr.cell? ⟨gb101, 2, none⟩ = some (.int .i64 a0_2) := (blk_cell BK101.out 2).trans rfl
          have hcz48_3 : wr.cell? ⟨gb101, 3, none⟩ = some (.int .i64 a0_3) := (blk_cell BK101.out 3).trans rfl
          have hcz48_4 : wr.cell? ⟨gb101, 4, none⟩ = some (.string a0_4) := (blk_cell BK101.out 4).trans rfl
          have hcz48_5 : wr.cell? ⟨gb101, 5, none⟩ = some (.string a0_5) := (blk_cell BK101.out 5).trans rfl
          have hcz48_6 : wr.cell? ⟨gb101, 6, none⟩ = some (.slice A0_6 l0_6.length c0_6) := (blk_cell BK101.out 6).trans rfl
          have hfz48_0 := blk_frozen BK101.out 0
          have hfz48_1 := blk_frozen BK101.out 1
          have hfz48_2 := blk_frozen BK101.out 2
          have hfz48_3 := blk_frozen BK101.out 3
          have hfz48_4 := blk_frozen BK101.out 4
          have hfz48_5 := blk_frozen BK101.out 5
          have hfz48_6 := blk_frozen BK101.out 6
          have p102 : 0 ≤ (x3_1 : Int) := of_decide_eq_true (by first | (with_reducible assumption) | assumption)
          have q102 : x3_1 < (l0_6.length : Int) := of_decide_eq_true (by first | (with_reducible assumption) | assumption)
          obtain ⟨ad102, e102, hx102_0, hx102_1⟩ := at_T57 HR0_6.out x3_1 p102 q102
          cases e102
          replace hx102_0 := (HB.out.cell (World.block_lt_of_cell? w _ hx102_0)).trans hx102_0
          replace hx102_1 := (HB.out.cell (World.block_lt_of_cell? w _ hx102_1)).trans hx102_1
          replace p102 := eq_true p102
          replace q102 := eq_true q102
          go_wp2_with (first | ((with_reducible refine gate_dst (N := 4) rfl ?_); (try (refine gate_guard (by rfl) ?_; dsimp only)); refine box_event ?hg (N := 4) ?hd (cs := #[.int .i64 0, .string (⟨#[]⟩ : ByteArray)]) (t := 57) ?hr ?_; (case hd => rfl); (case hg => rfl); (case hr => first | (go_simp; done) | (go_simp; rfl)); intro gb103 hg w49 hbox hb; have n0_ := Aside0.mk (blk_below (g := gb101) (o := .cells #[.int .i64 a0_0, .int .i64 a0_1, .int .i64 a0_2, .int .i64 a0_3, .string a0_4, .string a0_5, .slice (some ad102) l0_6.length c0_6] 31 (0, 0)) (by (with_reducible repeat first | apply pN_ | apply pD_ | apply pA_); exact BK101.out) hb); have n1_ := Aside0.mk (below_step (bU_ HB.out) hb); have n2_ := Aside0.mk (hbox); have n3_ := Aside0.mk ((by rw [hg]; exact (below_size (bU_ HB.out)) : w.heap.size ≤ gb103)); have n4_ := Aside0.mk ((by rw [hg]; exact (below_size (bU_ HB.out)) : w.heap.size ≤ gb103)); have n5_ := Aside0.mk ((by rw [hg]; exact Nat.ne_of_lt (blk_lt (g := gb101) (o := .cells #[.int .i64 a0_0, .int .i64 a0_1, .int .i64 a0_2, .int .i64 a0_3, .string a0_4, .string a0_5, .slice (some ad102) l0_6.length c0_6] 31 (0, 0)) (by (with_reducible repeat first | apply pN_ | apply pD_ | apply pA_); exact BK101.out)) : gb101 ≠ gb103)); have n6_ := Aside0.mk ((by rw [hg]; exact Nat.ne_of_gt (blk_lt (g := gb101) (o := .cells #[.int .i64 a0_0, .int .i64 a0_1, .int .i64 a0_2, .int .i64 a0_3, .string a0_4, .string a0_5, .slice (some ad102) l0_6.length c0_6] 31 (0, 0)) (by (with_reducible repeat first | apply pN_ | apply pD_ | apply pA_); exact BK101.out)) : gb103 ≠ gb101)); clear BK101; clear HB; have BK101 := n0_; have HB := n1_; have BK103 := n2_; have GW103 := n3_; have GE103 := n4_; have NB101_103 := n5_; have NB103_101 := n6_; clear n0_ n1_ n2_ n3_ n4_ n5_ n6_; clear hb hbox hg; have hnb50 := NB103_101.out; have hnc50 := NB101_103.out; have hcz51_0 : w49.cell? ⟨gb103, 0, none⟩ = some (.int .i64 0) := (blk_cell BK103.out 0).trans rfl; have hcz51_1 : w49.cell? ⟨gb103, 1, none⟩ = some (.string (⟨#[]⟩ : ByteArray)) := (blk_cell BK103.out 1).trans rfl; have hfz51_0 := blk_frozen BK103.out 0; have hfz51_1 := blk_frozen BK103.out 1) | ((with_reducible refine gate_callee (f := 24) rfl ?_); refine gL_ (some 23) rfl rfl Try.func24 (by kernel_rfl) rfl #[.int .i64 ((rd_T57 l0_6 x3_1).f0)] rfl ?_; (with_reducible refine (rillmeterref07_extension.calls ((rd_T57 l0_6 x3_1).f0) true _ A5.out).mono ?_); rintro e w' ⟨rfl, ⟨nd, rfl⟩⟩; refine ⟨_, rfl, ?_⟩))
          go_roundg k1
          case measure => have := HK1.out; omega
          case rel => exact ⟨(wrap64 (x3_1 + 1)), (by first | rfl | (simp; done) | (simp [*]; done)), H', ⟨by have := HK1.out; omega⟩, ⟨by (with_reducible repeat first | apply pN_ | apply pD_ | apply pA_); refine blk_far ?_ NB101_103.out _; (with_reducible repeat first | apply pN_ | apply pD_ | apply pA_); refine blk_far ?_ NB101_103.out _; (with_reducible repeat first | apply pN_ | apply pD_ | apply pA_); exact BK101.out⟩, ⟨bU_ HB.out⟩⟩
       ·rw [if_neg c32] at H
        have c32b0 : (((((rd_T57 l0_6 x3_1).f1).size : Int) % 8) == 6) = false := beq_eq_false_iff_ne.mpr c32
        have c32b1 : (((((rd_T57 l0_6 x3_1).f1).size : Int) % 8) != 6) = true := bne_iff_ne.mpr c32
        obtain rfl := Option.some.inj H
        have hcz52_0 : wr.cell? ⟨gb101, 0, none⟩ = some (.int .i64 a0_0) := (blk_cell BK101.out 0).trans rfl
        have hcz52_1 : wr.cell? ⟨gb101, 1, none⟩ = some (.int .i64 a0_1) := (blk_cell BK101.out 1).trans rfl
        have hcz52_2 : wr.cell? ⟨gb101, 2, none⟩ = some (.int .i64 a0_2) := (blk_cell BK101.out 2).trans rfl
        have hcz52_3 : wr.cell? ⟨gb101, 3, none⟩ = some (.int .i64 a0_3) := (blk_cell BK101.out 3).trans rfl
        have hcz52_4 : wr.cell? ⟨gb101, 4, none⟩ = some (.string a0_4) := (blk_cell BK101.out 4).trans rfl
        have hcz52_5 : wr.cell? ⟨gb101, 5, none⟩ = some (.string a0_5) := (blk_cell BK101.out 5).trans rfl
        have hcz52_6 : wr.cell? ⟨gb101, 6, none⟩ = some (.slice A0_6 l0_6.length c0_6) := (blk_cell BK101.out 6).trans rfl
        have hfz52_0 := blk_frozen BK101.out 0
        have hfz52_1 := blk_frozen BK101.out 1
        have hfz52_2 := blk_frozen BK101.out 2
        have hfz52_3 := blk_frozen BK101.out 3
        have hfz52_4 := blk_frozen BK101.out 4
        have hfz52_5 := blk_frozen BK101.out 5
        have hfz52_6 := blk_frozen BK101.out 6
        have p102 : 0 ≤ (x3_1 : Int) := of_decide_eq_true (by first | (with_reducible assumption) | assumption)
        have q102 : x3_1 < (l0_6.length : Int) := of_decide_eq_true (by first | (with_reducible assumption) | assumption)
        obtain ⟨ad102, e102, hx102_0, hx102_1⟩ := at_T57 HR0_6.out x3_1 p102 q102
        cases e102
        replace hx102_0 := (HB.out.cell (World.block_lt_of_cell? w _ hx102_0)).trans hx102_0
        replace hx102_1 := (HB.out.cell (World.block_lt_of_cell? w _ hx102_1)).trans hx102_1
        replace p102 := eq_true p102
        replace q102 := eq_true q102
        go_wp2_with (first | ((with_reducible refine gate_dst (N := 4) rfl ?_); (try (refine gate_guard (by rfl) ?_; dsimp only)); refine box_event ?hg (N := 4) ?hd (cs := #[.int .i64 0, .string (⟨#[]⟩ : ByteArray)]) (t := 57) ?hr ?_; (case hd => rfl); (case hg => rfl); (case hr => first | (go_simp; done) | (go_simp; rfl)); intro gb103 hg w53 hbox hb; have n0_ := Aside0.mk (blk_below (g := gb101) (o := .cells #[.int .i64 a0_0, .int .i64 a0_1, .int .i64 a0_2, .int .i64 a0_3, .string a0_4, .string a0_5, .slice (some ad102) l0_6.length c0_6] 31 (0, 0)) (by (with_reducible repeat first | apply pN_ | apply pD_ | apply pA_); exact BK101.out) hb); have n1_ := Aside0.mk (below_step (bU_ HB.out) hb); have n2_ := Aside0.mk (hbox); have n3_ := Aside0.mk ((by rw [hg]; exact (below_size (bU_ HB.out)) : w.heap.size ≤ gb103)); have n4_ := Aside0.mk ((by rw [hg]; exact (below_size (bU_ HB.out)) : w.heap.size ≤ gb103)); have n5_ := Aside0.mk ((by rw [hg]; exact Nat.ne_of_lt (blk_lt (g := gb101) (o := .cells #[.int .i64 a0_0, .int .i64 a0_1, .int .i64 a0_2, .int .i64 a0_3, .string a0_4, .string a0_5, .slice (some ad102) l0_6.length c0_6] 31 (0, 0)) (by (with_reducible repeat first | apply pN_ | apply pD_ | apply pA_); exact BK101.out)) : gb101 ≠ gb103)); have n6_ := Aside0.mk ((by rw [hg]; exact Nat.ne_of_gt (blk_lt (g := gb101) (o := .cells #[.int .i64 a0_0, .int .i64 a0_1, .int .i64 a0_2, .int .i64 a0_3, .string a0_4, .string a0_5, .slice (some ad102) l0_6.length c0_6] 31 (0, 0)) (by (with_reducible repeat first | apply pN_ | apply pD_ | apply pA_); exact BK101.out)) : gb103 ≠ gb101)); clear BK101; clear HB; have BK101 := n0_; have HB := n1_; have BK103 := n2_; have GW103 := n3_; have GE103 := n4_; have NB101_103 := n5_; have NB103_101 := n6_; clear n0_ n1_ n2_ n3_ n4_ n5_ n6_; clear hb hbox hg; have hnb54 := NB103_101.out; have hnc54 := NB101_103.out; have hcz55_0 : w53.cell? ⟨gb103, 0, none⟩ = some (.int .i64 0) := (blk_cell BK103.out 0).trans rfl; have hcz55_1 : w53.cell? ⟨gb103, 1, none⟩ = some (.string (⟨#[]⟩ : ByteArray)) := (blk_cell BK103.out 1).trans rfl; have hfz55_0 := blk_frozen BK103.out 0; have hfz55_1 := blk_frozen BK103.out 1) | ((with_reducible refine gate_callee (f := 24) rfl ?_); refine gL_ (some 23) rfl rfl Try.func24 (by kernel_rfl) rfl #[.int .i64 ((rd_T57 l0_6 x3_1).f0)] rfl ?_; (with_reducible refine (rillmeterref07_extension.calls ((rd_T57 l0_6 x3_1).f0) true _ A5.out).mono ?_); rintro e w' ⟨rfl, ⟨nd, rfl⟩⟩; refine ⟨_, rfl, ?_⟩))
        go_ret
        exact ⟨by first | rfl | (simp [errW_none, errW_some] <;> rfl) | (simp [*, errW_none, errW_some] <;> rfl), bU_ HB.out⟩
     ·replace c6 := Bool.eq_false_iff.mpr c6
      subst c6
      have H1 : (some false) = some r := by rw [if_neg (show ¬ (false = true) by decide)] at H; exact H
      clear H
      have H := H1
      clear H1
      obtain rfl := Option.some.inj H
      have hcz56_0 : wr.cell? ⟨gb101, 0, none⟩ = some (.int .i64 a0_0) := (blk_cell BK101.out 0).trans rfl
      have hcz56_1 : wr.cell? ⟨gb101, 1, none⟩ = some (.int .i64 a0_1) := (blk_cell BK101.out 1).trans rfl
      have hcz56_2 : wr.cell? ⟨gb101, 2, none⟩ = some (.int .i64 a0_2) := (blk_cell BK101.out 2).trans rfl
      have hcz56_3 : wr.cell? ⟨gb101, 3, none⟩ = some (.int .i64 a0_3) := (blk_cell BK101.out 3).trans rfl
      have hcz56_4 : wr.cell? ⟨gb101, 4, none⟩ = some (.string a0_4) := (blk_cell BK101.out 4).trans rfl
      have hcz56_5 : wr.cell? ⟨gb101, 5, none⟩ = some (.string a0_5) := (blk_cell BK101.out 5).trans rfl
      have hcz56_6 : wr.cell? ⟨gb101, 6, none⟩ = some (.slice A0_6 l0_6.length c0_6) := (blk_cell BK101.out 6).trans rfl
      have hfz56_0 := blk_frozen BK101.out 0
      have hfz56_1 := blk_frozen BK101.out 1
      have hfz56_2 := blk_frozen BK101.out 2
      have hfz56_3 := blk_frozen BK101.out 3
      have hfz56_4 := blk_frozen BK101.out 4
      have hfz56_5 := blk_frozen BK101.out 5
      have hfz56_6 := blk_frozen BK101.out 6
      have p102 : 0 ≤ (x3_1 : Int) := of_decide_eq_true (by first | (with_reducible assumption) | assumption)
      have q102 : x3_1 < (l0_6.length : Int) := of_decide_eq_true (by first | (with_reducible assumption) | assumption)
      obtain ⟨ad102, e102, hx102_0, hx102_1⟩ := at_T57 HR0_6.out x3_1 p102 q102
      cases e102
      replace hx102_0 := (HB.out.cell (World.block_lt_of_cell? w _ hx102_0)).trans hx102_0
      replace hx102_1 := (HB.out.cell (World.block_lt_of_cell? w _ hx102_1)).trans hx102_1
      replace p102 := eq_true p102
      replace q102 := eq_true q102
      go_wp2_with (first | ((with_reducible refine gate_dst (N := 4) rfl ?_); (try (refine gate_guard (by rfl) ?_; dsimp only)); refine box_event ?hg (N := 4) ?hd (cs := #[.int .i64 0, .string (⟨#[]⟩ : ByteArray)]) (t := 57) ?hr ?_; (case hd => rfl); (case hg => rfl); (case hr => first | (go_simp; done) | (go_simp; rfl)); intro gb103 hg w57 hbox hb; have n0_ := Aside0.mk (blk_below (g := gb101) (o := .cells #[.int .i64 a0_0, .int .i64 a0_1, .int .i64 a0_2, .int .i64 a0_3, .string a0_4, .string a0_5, .slice (some ad102) l0_6.length c0_6] 31 (0, 0)) (by (with_reducible repeat first | apply pN_ | apply pD_ | apply pA_); exact BK101.out) hb); have n1_ := Aside0.mk (below_step (bU_ HB.out) hb); have n2_ := Aside0.mk (hbox); have n3_ := Aside0.mk ((by rw [hg]; exact (below_size (bU_ HB.out)) : w.heap.size ≤ gb103)); have n4_ := Aside0.mk ((by rw [hg]; exact (below_size (bU_ HB.out)) : w.heap.size ≤ gb103)); have n5_ := Aside0.mk ((by rw [hg]; exact Nat.ne_of_lt (blk_lt (g := gb101) (o := .cells #[.int .i64 a0_0, .int .i64 a0_1, .int .i64 a0_2, .int .i64 a0_3, .string a0_4, .string a0_5, .slice (some ad102) l0_6.length c0_6] 31 (0, 0)) (by (with_reducible repeat first | apply pN_ | apply pD_ | apply pA_); exact BK101.out)) : gb101 ≠ gb103)); have n6_ := Aside0.mk ((by rw [hg]; exact Nat.ne_of_gt (blk_lt (g := gb101) (o := .cells #[.int .i64 a0_0, .int .i64 a0_1, .int .i64 a0_2, .int .i64 a0_3, .string a0_4, .string a0_5, .slice (some ad102) l0_6.length c0_6] 31 (0, 0)) (by (with_reducible repeat first | apply pN_ | apply pD_ | apply pA_); exact BK101.out)) : gb103 ≠ gb101)); clear BK101; clear HB; have BK101 := n0_; have HB := n1_; have BK103 := n2_; have GW103 := n3_; have GE103 := n4_; have NB101_103 := n5_; have NB103_101 := n6_; clear n0_ n1_ n2_ n3_ n4_ n5_ n6_; clear hb hbox hg; have hnb58 := NB103_101.out; have hnc58 := NB101_103.out; have hcz59_0 : w57.cell? ⟨gb103, 0, none⟩ = some (.int .i64 0) := (blk_cell BK103.out 0).trans rfl; have hcz59_1 : w57.cell? ⟨gb103, 1, none⟩ = some (.string (⟨#[]⟩ : ByteArray)) := (blk_cell BK103.out 1).trans rfl; have hfz59_0 := blk_frozen BK103.out 0; have hfz59_1 := blk_frozen BK103.out 1) | ((with_reducible refine gate_callee (f := 24) rfl ?_); refine gL_ (some 23) rfl rfl Try.func24 (by kernel_rfl) rfl #[.int .i64 ((rd_T57 l0_6 x3_1).f0)] rfl ?_; (with_reducible refine (rillmeterref07_extension.calls ((rd_T57 l0_6 x3_1).f0) false _ A5.out).mono ?_); rintro e w' ⟨rfl, ⟨nd, rfl⟩⟩; refine ⟨_, rfl, ?_⟩))
      go_ret
      exact ⟨by first | rfl | (simp [errW_none, errW_some] <;> rfl) | (simp [*, errW_none, errW_some] <;> rfl), bU_ HB.out⟩
    ·rw [if_neg c4] at H
     exact absurd H (by simp)
   ·rw [if_neg c3] at H
    have c3b0 : decide (x3_1 < (l0_6.length : Int)) = false := decide_eq_false c3
    clear c3
    by_cases c60 : a0_0 < 0
    ·rw [if_pos c60] at H
     have c60b0 : decide (a0_0 < 0) = true := decide_eq_true c60
     clear c60
     obtain rfl := Option.some.inj H
     have hcz61_0 : wr.cell? ⟨gb101, 0, none⟩ = some (.int .i64 a0_0) := (blk_cell BK101.out 0).trans rfl
     have hcz61_1 : wr.cell? ⟨gb101, 1, none⟩ = some (.int .i64 a0_1) := (blk_cell BK101.out 1).trans rfl
     have hcz61_2 : wr.cell? ⟨gb101, 2, none⟩ = some (.int .i64 a0_2) := (blk_cell BK101.out 2).trans rfl
     have hcz61_3 : wr.cell? ⟨gb101, 3, none⟩ = some (.int .i64 a0_3) := (blk_cell BK101.out 3).trans rfl
     have hcz61_4 : wr.cell? ⟨gb101, 4, none⟩ = some (.string a0_4) := (blk_cell BK101.out 4).trans rfl
     have hcz61_5 : wr.cell? ⟨gb101, 5, none⟩ = some (.string a0_5) := (blk_cell BK101.out 5).trans rfl
     have hcz61_6 : wr.cell? ⟨gb101, 6, none⟩ = some (.slice A0_6 l0_6.length c0_6) := (blk_cell BK101.out 6).trans rfl
     have hfz61_0 := blk_frozen BK101.out 0
     have hfz61_1 := blk_frozen BK101.out 1
     have hfz61_2 := blk_frozen BK101.out 2
     have hfz61_3 := blk_frozen BK101.out 3
     have hfz61_4 := blk_frozen BK101.out 4
     have hfz61_5 := blk_frozen BK101.out 5
     have hfz61_6 := blk_frozen BK101.out 6
     go_wp2
     go_ret
     exact ⟨by first | rfl | (simp [errW_none, errW_some] <;> rfl) | (simp [*, errW_none, errW_some] <;> rfl), bU_ HB.out⟩
    ·rw [if_neg c60] at H
     have c60b0 : decide (a0_0 < 0) = false := decide_eq_false c60
     clear c60
     by_cases c62 : a0_0 > 255
     ·rw [if_pos c62] at H
      have c62b0 : decide (255 < a0_0) = true := decide_eq_true c62
      clear c62
      obtain rfl := Option.some.inj H
      have hcz63_0 : wr.cell? ⟨gb101, 0, none⟩ = some (.int .i64 a0_0) := (blk_cell BK101.out 0).trans rfl
      have hcz63_1 : wr.cell? ⟨gb101, 1, none⟩ = some (.int .i64 a0_1) := (blk_cell BK101.out 1).trans rfl
      have hcz63_2 : wr.cell? ⟨gb101, 2, none⟩ = some (.int .i64 a0_2) := (blk_cell BK101.out 2).trans rfl
      have hcz63_3 : wr.cell? ⟨gb101, 3, none⟩ = some (.int .i64 a0_3) := (blk_cell BK101.out 3).trans rfl
      have hcz63_4 : wr.cell? ⟨gb101, 4, none⟩ = some (.string a0_4) := (blk_cell BK101.out 4).trans rfl
      have hcz63_5 : wr.cell? ⟨gb101, 5, none⟩ = some (.string a0_5) := (blk_cell BK101.out 5).trans rfl
      have hcz63_6 : wr.cell? ⟨gb101, 6, none⟩ = some (.slice A0_6 l0_6.length c0_6) := (blk_cell BK101.out 6).trans rfl
      have hfz63_0 := blk_frozen BK101.out 0
      have hfz63_1 := blk_frozen BK101.out 1
      have hfz63_2 := blk_frozen BK101.out 2
      have hfz63_3 := blk_frozen BK101.out 3
      have hfz63_4 := blk_frozen BK101.out 4
      have hfz63_5 := blk_frozen BK101.out 5
      have hfz63_6 := blk_frozen BK101.out 6
      go_wp2
      go_ret
      exact ⟨by first | rfl | (simp [errW_none, errW_some] <;> rfl) | (simp [*, errW_none, errW_some] <;> rfl), bU_ HB.out⟩
     ·rw [if_neg c62] at H
      have c62b0 : decide (255 < a0_0) = false := decide_eq_false c62
      clear c62
      by_cases c64 : a0_2 < 0
      ·rw [if_pos c64] at H
       have c64b0 : decide (a0_2 < 0) = true := decide_eq_true c64
       clear c64
       obtain rfl := Option.some.inj H
       have hcz65_0 : wr.cell? ⟨gb101, 0, none⟩ = some (.int .i64 a0_0) := (blk_cell BK101.out 0).trans rfl
       have hcz65_1 : wr.cell? ⟨gb101, 1, none⟩ = some (.int .i64 a0_1) := (blk_cell BK101.out 1).trans rfl
       have hcz65_2 : wr.cell? ⟨gb101, 2, none⟩ = some (.int .i64 a0_2) := (blk_cell BK101.out 2).trans rfl
       have hcz65_3 : wr.cell? ⟨gb101, 3, none⟩ = some (.int .i64 a0_3) := (blk_cell BK101.out 3).trans rfl
       have hcz65_4 : wr.cell? ⟨gb101, 4, none⟩ = some (.string a0_4) := (blk_cell BK101.out 4).trans rfl
       have hcz65_5 : wr.cell? ⟨gb101, 5, none⟩ = some (.string a0_5) := (blk_cell BK101.out 5).trans rfl
       have hcz65_6 : wr.cell? ⟨gb101, 6, none⟩ = some (.slice A0_6 l0_6.length c0_6) := (blk_cell BK101.out 6).trans rfl
       have hfz65_0 := blk_frozen BK101.out 0
       have hfz65_1 := blk_frozen BK101.out 1
       have hfz65_2 := blk_frozen BK101.out 2
       have hfz65_3 := blk_frozen BK101.out 3
       have hfz65_4 := blk_frozen BK101.out 4
       have hfz65_5 := blk_frozen BK101.out 5
       have hfz65_6 := blk_frozen BK101.out 6
       go_wp2
       go_ret
       exact ⟨by first | rfl | (simp [errW_none, errW_some] <;> rfl) | (simp [*, errW_none, errW_some] <;> rfl), bU_ HB.out⟩
      ·rw [if_neg c64] at H
       have c64b0 : decide (a0_2 < 0) = false := decide_eq_false c64
       clear c64
       by_cases c66 : a0_2 > 255
       ·rw [if_pos c66] at H
        have c66b0 : decide (255 < a0_2) = true := decide_eq_true c66
        clear c66
        obtain rfl := Option.some.inj H
        have hcz67_0 : wr.cell? ⟨gb101, 0, none⟩ = some (.int .i64 a0_0) := (blk_cell BK101.out 0).trans rfl
        have hcz67_1 : wr.cell? ⟨gb101, 1, none⟩ = some (.int .i64 a0_1) := (blk_cell BK101.out 1).trans rfl
        have hcz67_2 : wr.cell? ⟨gb101, 2, none⟩ = some (.int .i64 a0_2) := (blk_cell BK101.out 2).trans rfl
        have hcz67_3 : wr.cell? ⟨gb101, 3, none⟩ = some (.int .i64 a0_3) := (blk_cell BK101.out 3).trans rfl
        have hcz67_4 : wr.cell? ⟨gb101, 4, none⟩ = some (.string a0_4) := (blk_cell BK101.out 4).trans rfl
        have hcz67_5 : wr.cell? ⟨gb101, 5, none⟩ = some (.string a0_5) := (blk_cell BK101.out 5).trans rfl
        have hcz67_6 : wr.cell? ⟨gb101, 6, none⟩ = some (.slice A0_6 l0_6.length c0_6) := (blk_cell BK101.out 6).trans rfl
        have hfz67_0 := blk_frozen BK101.out 0
        have hfz67_1 := blk_frozen BK101.out 1
        have hfz67_2 := blk_frozen BK101.out 2
        have hfz67_3 := blk_frozen BK101.out 3
        have hfz67_4 := blk_frozen BK101.out 4
        have hfz67_5 := blk_frozen BK101.out 5
        have hfz67_6 := blk_frozen BK101.out 6
        go_wp2
        go_ret
        exact ⟨by first | rfl | (simp [errW_none, errW_some] <;> rfl) | (simp [*, errW_none, errW_some] <;> rfl), bU_ HB.out⟩
       ·rw [if_neg c66] at H
        have c66b0 : decide (255 < a0_2) = false := decide_eq_false c66
        clear c66
        by_cases c68 : a0_1 < 0
        ·rw [if_pos c68] at H
         have c68b0 : decide (a0_1 < 0) = true := decide_eq_true c68
         clear c68
         obtain rfl := Option.some.inj H
         have hcz69_0 : wr.cell? ⟨gb101, 0, none⟩ = some (.int .i64 a0_0) := (blk_cell BK101.out 0).trans rfl
         have hcz69_1 : wr.cell? ⟨gb101, 1, none⟩ = some (.int .i64 a0_1) := (blk_cell BK101.out 1).trans rfl
         have hcz69_2 : wr.cell? ⟨gb101, 2, none⟩ = some (.int .i64 a0_2) := (blk_cell BK101.out 2).trans rfl
         have hcz69_3 : wr.cell? ⟨gb101, 3, none⟩ = some (.int .i64 a0_3) := (blk_cell BK101.out 3).trans rfl
         have hcz69_4 : wr.cell? ⟨gb101, 4, none⟩ = some (.string a0_4) := (blk_cell BK101.out 4).trans rfl
         have hcz69_5 : wr.cell? ⟨gb101, 5, none⟩ = some (.string a0_5) := (blk_cell BK101.out 5).trans rfl
         have hcz69_6 : wr.cell? ⟨gb101, 6, none⟩ = some (.slice A0_6 l0_6.length c0_6) := (blk_cell BK101.out 6).trans rfl
         have hfz69_0 := blk_frozen BK101.out 0
         have hfz69_1 := blk_frozen BK101.out 1
         have hfz69_2 := blk_frozen BK101.out 2
         have hfz69_3 := blk_frozen BK101.out 3
         have hfz69_4 := blk_frozen BK101.out 4
         have hfz69_5 := blk_frozen BK101.out 5
         have hfz69_6 := blk_frozen BK101.out 6
         go_wp2
         go_ret
         exact ⟨by first | rfl | (simp [errW_none, errW_some] <;> rfl) | (simp [*, errW_none, errW_some] <;> rfl), bU_ HB.out⟩
        ·rw [if_neg c68] at H
         have c68b0 : decide (a0_1 < 0) = false := decide_eq_false c68
         clear c68
         by_cases c70 : a0_1 > 1048575
         ·rw [if_pos c70] at H
          have c70b0 : decide (1048575 < a0_1) = true := decide_eq_true c70
          clear c70
          obtain rfl := Option.some.inj H
          have hcz71_0 : wr.cell? ⟨gb101, 0, none⟩ = some (.int .i64 a0_0) := (blk_cell BK101.out 0).trans rfl
          have hcz71_1 : wr.cell? ⟨gb101, 1, none⟩ = some (.int .i64 a0_1) := (blk_cell BK101.out 1).trans rfl
          have hcz71_2 : wr.cell? ⟨gb101, 2, none⟩ = some (.int .i64 a0_2) := (blk_cell BK101.out 2).trans rfl
          have hcz71_3 : wr.cell? ⟨gb101, 3, none⟩ = some (.int .i64 a0_3) := (blk_cell BK101.out 3).trans rfl
          have hcz71_4 : wr.cell? ⟨gb101, 4, none⟩ = some (.string a0_4) := (blk_cell BK101.out 4).trans rfl
          have hcz71_5 : wr.cell? ⟨gb101, 5, none⟩ = some (.string a0_5) := (blk_cell BK101.out 5).trans rfl
          have hcz71_6 : wr.cell? ⟨gb101, 6, none⟩ = some (.slice A0_6 l0_6.length c0_6) := (blk_cell BK101.out 6).trans rfl
          have hfz71_0 := blk_frozen BK101.out 0
          have hfz71_1 := blk_frozen BK101.out 1
          have hfz71_2 := blk_frozen BK101.out 2
          have hfz71_3 := blk_frozen BK101.out 3
          have hfz71_4 := blk_frozen BK101.out 4
          have hfz71_5 := blk_frozen BK101.out 5
          have hfz71_6 := blk_frozen BK101.out 6
          go_wp2
          go_ret
          exact ⟨by first | rfl | (simp [errW_none, errW_some] <;> rfl) | (simp [*, errW_none, errW_some] <;> rfl), bU_ HB.out⟩
         ·rw [if_neg c70] at H
          have c70b0 : decide (1048575 < a0_1) = false := decide_eq_false c70
          clear c70
          by_cases c72 : a0_3 < 0
          ·rw [if_pos c72] at H
           have c72b0 : decide (a0_3 < 0) = true := decide_eq_true c72
           clear c72
           obtain rfl := Option.some.inj H
           have hcz73_0 : wr.cell? ⟨gb101, 0, none⟩ = some (.int .i64 a0_0) := (blk_cell BK101.out 0).trans rfl
           have hcz73_1 : wr.cell? ⟨gb101, 1, none⟩ = some (.int .i64 a0_1) := (blk_cell BK101.out 1).trans rfl
           have hcz73_2 : wr.cell? ⟨gb101, 2, none⟩ = some (.int .i64 a0_2) := (blk_cell BK101.out 2).trans rfl
           have hcz73_3 : wr.cell? ⟨gb101, 3, none⟩ = some (.int .i64 a0_3) := (blk_cell BK101.out 3).trans rfl
           have hcz73_4 : wr.cell? ⟨gb101, 4, none⟩ = some (.string a0_4) := (blk_cell BK101.out 4).trans rfl
           have hcz73_5 : wr.cell? ⟨gb101, 5, none⟩ = some (.string a0_5) := (blk_cell BK101.out 5).trans rfl
           have hcz73_6 : wr.cell? ⟨gb101, 6, none⟩ = some (.slice A0_6 l0_6.length c0_6) := (blk_cell BK101.out 6).trans rfl
           have hfz73_0 := blk_frozen BK101.out 0
           have hfz73_1 := blk_frozen BK101.out 1
           have hfz73_2 := blk_frozen BK101.out 2
           have hfz73_3 := blk_frozen BK101.out 3
           have hfz73_4 := blk_frozen BK101.out 4
           have hfz73_5 := blk_frozen BK101.out 5
           have hfz73_6 := blk_frozen BK101.out 6
           go_wp2
           go_ret
           exact ⟨by first | rfl | (simp [errW_none, errW_some] <;> rfl) | (simp [*, errW_none, errW_some] <;> rfl), bU_ HB.out⟩
          ·rw [if_neg c72] at H
           have c72b0 : decide (a0_3 < 0) = false := decide_eq_false c72
           clear c72
           by_cases c74 : a0_3 > 255
           ·rw [if_pos c74] at H
            have c74b0 : decide (255 < a0_3) = true := decide_eq_true c74
            clear c74
            obtain rfl := Option.some.inj H
            have hcz75_0 : wr.cell? ⟨gb101, 0, none⟩ = some (.int .i64 a0_0) := (blk_cell BK101.out 0).trans rfl
            have hcz75_1 : wr.cell? ⟨gb101, 1, none⟩ = some (.int .i64 a0_1) := (blk_cell BK101.out 1).trans rfl
            have hcz75_2 : wr.cell? ⟨gb101, 2, none⟩ = some (.int .i64 a0_2) := (blk_cell BK101.out 2).trans rfl
            have hcz75_3 : wr.cell? ⟨gb101, 3, none⟩ = some (.int .i64 a0_3) := (blk_cell BK101.out 3).trans rfl
            have hcz75_4 : wr.cell? ⟨gb101, 4, none⟩ = some (.string a0_4) := (blk_cell BK101.out 4).trans rfl
            have hcz75_5 : wr.cell? ⟨gb101, 5, none⟩ = some (.string a0_5) := (blk_cell BK101.out 5).trans rfl
            have hcz75_6 : wr.cell? ⟨gb101, 6, none⟩ = some (.slice A0_6 l0_6.length c0_6) := (blk_cell BK101.out 6).trans rfl
            have hfz75_0 := blk_frozen BK101.out 0
            have hfz75_1 := blk_frozen BK101.out 1
            have hfz75_2 := blk_frozen BK101.out 2
            have hfz75_3 := blk_frozen BK101.out 3
            have hfz75_4 := blk_frozen BK101.out 4
            have hfz75_5 := blk_frozen BK101.out 5
            have hfz75_6 := blk_frozen BK101.out 6
            go_wp2
            go_ret
            exact ⟨by first | rfl | (simp [errW_none, errW_some] <;> rfl) | (simp [*, errW_none, errW_some] <;> rfl), bU_ HB.out⟩
           ·rw [if_neg c74] at H
            have c74b0 : decide (255 < a0_3) = false := decide_eq_false c74
            clear c74
            replace H := Option.bind_eq_some_iff.mp H
            obtain ⟨t105, A760, H⟩ := H
            replace H : (if t105 = true then (some false) else (if (a0_4.size : Int) = 16 then (if (a0_5.size : Int) = 16 then (some (decide ((l0_6.length : Int) < 9))) else (some false)) else (some false))) = some r := H
            have A76 := Aside0.mk A760
            clear A760
            by_cases c77 : t105 = true
            ·subst c77
             have H1 : (some false) = some r := by rw [if_pos rfl] at H; exact H
             clear H
             have H := H1
             clear H1
             obtain rfl := Option.some.inj H
             have hcz78_0 : wr.cell? ⟨gb101, 0, none⟩ = some (.int .i64 a0_0) := (blk_cell BK101.out 0).trans rfl
             have hcz78_1 : wr.cell? ⟨gb101, 1, none⟩ = some (.int .i64 a0_1) := (blk_cell BK101.out 1).trans rfl
             have hcz78_2 : wr.cell? ⟨gb101, 2, none⟩ = some (.int .i64 a0_2) := (blk_cell BK101.out 2).trans rfl
             have hcz78_3 : wr.cell? ⟨gb101, 3, none⟩ = some (.int .i64 a0_3) := (blk_cell BK101.out 3).trans rfl
             have hcz78_4 : wr.cell? ⟨gb101, 4, none⟩ = some (.string a0_4) := (blk_cell BK101.out 4).trans rfl
             have hcz78_5 : wr.cell? ⟨gb101, 5, none⟩ = some (.string a0_5) := (blk_cell BK101.out 5).trans rfl
             have hcz78_6 : wr.cell? ⟨gb101, 6, none⟩ = some (.slice A0_6 l0_6.length c0_6) := (blk_cell BK101.out 6).trans rfl
             have hfz78_0 := blk_frozen BK101.out 0
             have hfz78_1 := blk_frozen BK101.out 1
             have hfz78_2 := blk_frozen BK101.out 2
             have hfz78_3 := blk_frozen BK101.out 3
             have hfz78_4 := blk_frozen BK101.out 4
             have hfz78_5 := blk_frozen BK101.out 5
             have hfz78_6 := blk_frozen BK101.out 6
             go_wp2_with (first | ((with_reducible refine gate_callee (f := 24) rfl ?_); refine gL_ (some 97) rfl rfl Try.func24 (by kernel_rfl) rfl #[.int .i64 a0_3] rfl ?_; (with_reducible refine (rillmeterref07_extension.calls a0_3 true _ A76.out).mono ?_); rintro e w' ⟨rfl, ⟨nd, rfl⟩⟩; refine ⟨_, rfl, ?_⟩))
             go_ret
             exact ⟨by first | rfl | (simp [errW_none, errW_some] <;> rfl) | (simp [*, errW_none, errW_some] <;> rfl), bU_ HB.out⟩
            ·replace c77 := Bool.eq_false_iff.mpr c77
             subst c77
             have H1 : (if (a0_4.size : Int) = 16 then (if (a0_5.size : Int) = 16 then (some (decide ((l0_6.length : Int) < 9))) else (some false)) else (some false)) = some r := by rw [if_neg (show ¬ (false = true) by decide)] at H; exact H
             clear H
             have H := H1
             clear H1
             by_cases c79 : (a0_4.size : Int) = 16
             ·rw [if_pos c79] at H
              have c79b0 : ((a0_4.size : Int) == 16) = true := beq_iff_eq.mpr c79
              have c79b1 : ((a0_4.size : Int) != 16) = false := bne_eq_false_iff_eq.mpr c79
              clear c79
              by_cases c80 : (a0_5.size : Int) = 16
              ·rw [if_pos c80] at H
               have c80b0 : ((a0_5.size : Int) == 16) = true := beq_iff_eq.mpr c80
               have c80b1 : ((a0_5.size : Int) != 16) = false := bne_eq_false_iff_eq.mpr c80
               clear c80
               obtain rfl := Option.some.inj H
               have hcz81_0 : wr.cell? ⟨gb101, 0, none⟩ = some (.int .i64 a0_0) := (blk_cell BK101.out 0).trans rfl
               have hcz81_1 : wr.cell? ⟨gb101, 1, none⟩ = some (.int .i64 a0_1) := (blk_cell BK101.out 1).trans rfl
               have hcz81_2 : wr.cell? ⟨gb101, 2, none⟩ = some (.int .i64 a0_2) := (blk_cell BK101.out 2).trans rfl
               have hcz81_3 : wr.cell? ⟨gb101, 3, none⟩ = some (.int .i64 a0_3) := (blk_cell BK101.out 3).trans rfl
               have hcz81_4 : wr.cell? ⟨gb101, 4, none⟩ = some (.string a0_4) := (blk_cell BK101.out 4).trans rfl
               have hcz81_5 : wr.cell? ⟨gb101, 5, none⟩ = some (.string a0_5) := (blk_cell BK101.out 5).trans rfl
               have hcz81_6 : wr.cell? ⟨gb101, 6, none⟩ = some (.slice A0_6 l0_6.length c0_6) := (blk_cell BK101.out 6).trans rfl
               have hfz81_0 := blk_frozen BK101.out 0
               have hfz81_1 := blk_frozen BK101.out 1
               have hfz81_2 := blk_frozen BK101.out 2
               have hfz81_3 := blk_frozen BK101.out 3
               have hfz81_4 := blk_frozen BK101.out 4
               have hfz81_5 := blk_frozen BK101.out 5
               have hfz81_6 := blk_frozen BK101.out 6
               go_wp2_with (first | ((with_reducible refine gate_callee (f := 24) rfl ?_); refine gL_ (some 97) rfl rfl Try.func24 (by kernel_rfl) rfl #[.int .i64 a0_3] rfl ?_; (with_reducible refine (rillmeterref07_extension.calls a0_3 false _ A76.out).mono ?_); rintro e w' ⟨rfl, ⟨nd, rfl⟩⟩; refine ⟨_, rfl, ?_⟩))
               go_ret
               exact ⟨by first | rfl | (simp [errW_none, errW_some] <;> rfl) | (simp [*, errW_none, errW_some] <;> rfl), bU_ HB.out⟩
              ·rw [if_neg c80] at H
               have c80b0 : ((a0_5.size : Int) == 16) = false := beq_eq_false_iff_ne.mpr c80
               have c80b1 : ((a0_5.size : Int) != 16) = true := bne_iff_ne.mpr c80
               obtain rfl := Option.some.inj H
               have hcz82_0 : wr.cell? ⟨gb101, 0, none⟩ = some (.int .i64 a0_0) := (blk_cell BK101.out 0).trans rfl
               have hcz82_1 : wr.cell? ⟨gb101, 1, none⟩ = some (.int .i64 a0_1) := (blk_cell BK101.out 1).trans rfl
               have hcz82_2 : wr.cell? ⟨gb101, 2, none⟩ = some (.int .i64 a0_2) := (blk_cell BK101.out 2).trans rfl
               have hcz82_3 : wr.cell? ⟨gb101, 3, none⟩ = some (.int .i64 a0_3) := (blk_cell BK101.out 3).trans rfl
               have hcz82_4 : wr.cell? ⟨gb101, 4, none⟩ = some (.string a0_4) := (blk_cell BK101.out 4).trans rfl
               have hcz82_5 : wr.cell? ⟨gb101, 5, none⟩ = some (.string a0_5) := (blk_cell BK101.out 5).trans rfl
               have hcz82_6 : wr.cell? ⟨gb101, 6, none⟩ = some (.slice A0_6 l0_6.length c0_6) := (blk_cell BK101.out 6).trans rfl
               have hfz82_0 := blk_frozen BK101.out 0
               have hfz82_1 := blk_frozen BK101.out 1
               have hfz82_2 := blk_frozen BK101.out 2
               have hfz82_3 := blk_frozen BK101.out 3
               have hfz82_4 := blk_frozen BK101.out 4
               have hfz82_5 := blk_frozen BK101.out 5
               have hfz82_6 := blk_frozen BK101.out 6
               go_wp2_with (first | ((with_reducible refine gate_callee (f := 24) rfl ?_); refine gL_ (some 97) rfl rfl Try.func24 (by kernel_rfl) rfl #[.int .i64 a0_3] rfl ?_; (with_reducible refine (rillmeterref07_extension.calls a0_3 false _ A76.out).mono ?_); rintro e w' ⟨rfl, ⟨nd, rfl⟩⟩; refine ⟨_, rfl, ?_⟩))
               go_ret
               exact ⟨by first | rfl | (simp [errW_none, errW_some] <;> rfl) | (simp [*, errW_none, errW_some] <;> rfl), bU_ HB.out⟩
             ·rw [if_neg c79] at H
              have c79b0 : ((a0_4.size : Int) == 16) = false := beq_eq_false_iff_ne.mpr c79
              have c79b1 : ((a0_4.size : Int) != 16) = true := bne_iff_ne.mpr c79
              obtain rfl := Option.some.inj H
              have hcz83_0 : wr.cell? ⟨gb101, 0, none⟩ = some (.int .i64 a0_0) := (blk_cell BK101.out 0).trans rfl
              have hcz83_1 : wr.cell? ⟨gb101, 1, none⟩ = some (.int .i64 a0_1) := (blk_cell BK101.out 1).trans rfl
              have hcz83_2 : wr.cell? ⟨gb101, 2, none⟩ = some (.int .i64 a0_2) := (blk_cell BK101.out 2).trans rfl
              have hcz83_3 : wr.cell? ⟨gb101, 3, none⟩ = some (.int .i64 a0_3) := (blk_cell BK101.out 3).trans rfl
              have hcz83_4 : wr.cell? ⟨gb101, 4, none⟩ = some (.string a0_4) := (blk_cell BK101.out 4).trans rfl
              have hcz83_5 : wr.cell? ⟨gb101, 5, none⟩ = some (.string a0_5) := (blk_cell BK101.out 5).trans rfl
              have hcz83_6 : wr.cell? ⟨gb101, 6, none⟩ = some (.slice A0_6 l0_6.length c0_6) := (blk_cell BK101.out 6).trans rfl
              have hfz83_0 := blk_frozen BK101.out 0
              have hfz83_1 := blk_frozen BK101.out 1
              have hfz83_2 := blk_frozen BK101.out 2
              have hfz83_3 := blk_frozen BK101.out 3
              have hfz83_4 := blk_frozen BK101.out 4
              have hfz83_5 := blk_frozen BK101.out 5
              have hfz83_6 := blk_frozen BK101.out 6
              go_wp2_with (first | ((with_reducible refine gate_callee (f := 24) rfl ?_); refine gL_ (some 97) rfl rfl Try.func24 (by kernel_rfl) rfl #[.int .i64 a0_3] rfl ?_; (with_reducible refine (rillmeterref07_extension.calls a0_3 false _ A76.out).mono ?_); rintro e w' ⟨rfl, ⟨nd, rfl⟩⟩; refine ⟨_, rfl, ?_⟩))
              go_ret
              exact ⟨by first | rfl | (simp [errW_none, errW_some] <;> rfl) | (simp [*, errW_none, errW_some] <;> rfl), bU_ HB.out⟩

end Go.Proofs.Ytmjpemnlilcpkaa.Q
