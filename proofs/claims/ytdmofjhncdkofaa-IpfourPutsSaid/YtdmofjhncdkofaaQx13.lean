-- made by a program of this session (wip/print-patch.py, over the kit's print)
import Derived.Test.YtdmofjhncdkofaaQx0
namespace Go.Proofs.Ytdmofjhncdkofaa.Q
open Go.RowKit Go.Proofs.YtdmofjhncdkofaaW.PrintWords Go.Proofs.YtdmofjhncdkofaaW.PrintLast Go.Proofs.YtdmofjhncdkofaaW.PrintMore
attribute [local go_sem] max2_int min2_int max_two min_two max_three min_three max_four min_four   -- for this text's walks alone
set_option linter.unusedVariables false
set_option linter.unusedSimpArgs false

attribute [local go_sem] cell_twice_ cell_twiceN_
/-! ### rillmeterref06_Right: function 12 -/
def rillmeterref06_Right.l0 : Nat → List Int → Int → Int → Int → Int → Int → Int → Int → Int → ByteArray → ByteArray → ByteArray → Option (Bool)
 | 0, _, _, _, _, _, _, _, _, _, _, _, _ => none
 | k + 1, x12, x13, x14, x102000, x102001, x102002, x102003, x102004, x102005, x102006, x102007, x102008 => if x14 < x13 then (if 0 ≤ x14 then (if x14 < (x12.length : Int) then (if (rd x12 x14) < 0 then (some false) else (if (rd x12 x14) > 255 then (some false) else (rillmeterref06_Right.l0 k x12 x13 (wrap64 (x14 + 1)) x102000 x102001 x102002 x102003 x102004 x102005 x102006 x102007 x102008))) else (none)) else (none)) else (if x102001 < 0 then (some false) else (if x102001 > 65535 then (some false) else (if x102002 < 0 then (some false) else (if x102002 > 7 then (some false) else (if x102003 < 0 then (some false) else (if x102003 > 8191 then (some false) else (if (x102006.size : Int) = 4 then (if (x102007.size : Int) = 4 then (if (x102008.size : Int) ≤ 40 then (some (((x102008.size : Int) % 4) == 0)) else (some false)) else (some false)) else (some false))))))))
def rillmeterref06_Right.f (k : Nat) (a0_0 : Int) (a0_1 : Int) (a0_2 : Int) (a0_3 : Int) (a0_4 : Int) (a0_5 : Int) (a0_6 : ByteArray) (a0_7 : ByteArray) (a0_8 : ByteArray) : Option (Bool) := (some (([a0_0, a0_4, a0_5] : List Int) : List Int)).bind fun y102 => (rillmeterref06_Right.l0 k y102 (y102.length : Int) 0 a0_0 a0_1 a0_2 a0_3 a0_4 a0_5 a0_6 a0_7 a0_8)
theorem rillmeterref06_Right.mono_l : ∀ k, (∀ y0 y1 y2 y3 y4 y5 y6 y7 y8 y9 y10 y11, LeO (rillmeterref06_Right.l0 k y0 y1 y2 y3 y4 y5 y6 y7 y8 y9 y10 y11) (rillmeterref06_Right.l0 (k + 1) y0 y1 y2 y3 y4 y5 y6 y7 y8 y9 y10 y11))
 | 0 => fun _ _ _ _ _ _ _ _ _ _ _ _ r h => by simp [rillmeterref06_Right.l0] at h
 | k + 1 => by
  have ih0 := rillmeterref06_Right.mono_l k
  ·intro y0 y1 y2 y3 y4 y5 y6 y7 y8 y9 y10 y11
   unfold rillmeterref06_Right.l0
   repeat' first
   | (with_reducible exact ih0 _ _ _ _ _ _ _ _ _ _ _ _)
   | (with_reducible exact LeO.refl _)
   | (with_reducible exact LeO.none _)
   | (with_reducible refine LeO.ite ?_ ?_)
   | (with_reducible refine LeO.bind ?_ (fun _ => ?_))
   | exact ih0 _ _ _ _ _ _ _ _ _ _ _ _
   | exact LeO.none _
   | refine LeO.ite ?_ ?_
   | refine LeO.bind ?_ (fun _ => ?_)
theorem rillmeterref06_Right.mono : ∀ a0 a1 a2 a3 a4 a5 a6 a7 a8 k, LeO (rillmeterref06_Right.f k a0 a1 a2 a3 a4 a5 a6 a7 a8) (rillmeterref06_Right.f (k + 1) a0 a1 a2 a3 a4 a5 a6 a7 a8) := by
 intro a0 a1 a2 a3 a4 a5 a6 a7 a8 k
 have ih0 := rillmeterref06_Right.mono_l k
 unfold rillmeterref06_Right.f
 repeat' first
   | (with_reducible exact ih0 _ _ _ _ _ _ _ _ _ _ _ _)
   | (with_reducible exact LeO.refl _)
   | (with_reducible exact LeO.none _)
   | (with_reducible refine LeO.ite ?_ ?_)
   | (with_reducible refine LeO.bind ?_ (fun _ => ?_))
   | exact ih0 _ _ _ _ _ _ _ _ _ _ _ _
   | exact LeO.none _
   | refine LeO.ite ?_ ?_
   | refine LeO.bind ?_ (fun _ => ?_)
set_option maxHeartbeats 8000000 in
set_option maxRecDepth 100000 in
theorem rillmeterref06_Right.calls (k : Nat) (a0_0 : Int) (a0_1 : Int) (a0_2 : Int) (a0_3 : Int) (a0_4 : Int) (a0_5 : Int) (a0_6 : ByteArray) (a0_7 : ByteArray) (a0_8 : ByteArray) (r : Bool) (w : World) (h : rillmeterref06_Right.f k a0_0 a0_1 a0_2 a0_3 a0_4 a0_5 a0_6 a0_7 a0_8 = some r) :
  Calls Try.prog 12 #[.agg #[.int .i64 a0_0, .int .i64 a0_1, .int .i64 a0_2, .int .i64 a0_3, .int .i64 a0_4, .int .i64 a0_5, .string a0_6, .string a0_7, .string a0_8]] w fun e w' => e = .returned (.bool r) ∧ Below w.heap.size w w' := by
 have hu33 := Try.underlying33
 have HB := Aside0.mk (Below.refl w.heap.size w)
 have H : ((some (([a0_0, a0_4, a0_5] : List Int) : List Int)).bind fun y102 => (rillmeterref06_Right.l0 k y102 (y102.length : Int) 0 a0_0 a0_1 a0_2 a0_3 a0_4 a0_5 a0_6 a0_7 a0_8)) = some r := h
 clear h
 obtain ⟨y102, hy102⟩ : ∃ y_ : List Int, y_ = (([a0_0, a0_4, a0_5] : List Int)) := ⟨_, rfl⟩
 replace H : (rillmeterref06_Right.l0 k y102 (y102.length : Int) 0 a0_0 a0_1 a0_2 a0_3 a0_4 a0_5 a0_6 a0_7 a0_8) = some r := by first | (rw [hy102]; with_reducible exact H) | (have H2_ := (Option.bind_some _ _).symm.trans H; rw [hy102]; with_reducible exact H2_) | (have H2_ := (Option.bind_some _ _).symm.trans H; with_reducible exact H2_) | with_reducible exact H | (rw [hy102]; exact H) | exact H
 have Ny102 := Aside0.mk hy102
 clear hy102
 have H' := Aside0.mk H
 clear H
 go_enter Try.func12, Try.ntmps12
 go_wp2_with (first | ((with_reducible refine gate_dst (N := 1) rfl ?_); (try (refine gate_guard (by rfl) ?_; dsimp only)); refine box_event ?hg (N := 1) ?hd (cs := #[.int .i64 a0_0, .int .i64 a0_1, .int .i64 a0_2, .int .i64 a0_3, .int .i64 a0_4, .int .i64 a0_5, .string a0_6, .string a0_7, .string a0_8]) (t := 33) ?hr ?_; (case hd => rfl); (case hg => rfl); (case hr => first | (go_simp; done) | (go_simp; rfl)); intro gb101 hg w2 hbox hb; have n0_ := Aside0.mk (below_step (bU_ HB.out) hb); have n1_ := Aside0.mk (hbox); have n2_ := Aside0.mk ((by rw [hg]; exact (below_size (bU_ HB.out)) : w.heap.size ≤ gb101)); have n3_ := Aside0.mk ((by rw [hg]; exact (below_size (bU_ HB.out)) : w.heap.size ≤ gb101)); clear HB; have HB := n0_; have BK101 := n1_; have GW101 := n2_; have GE101 := n3_; clear n0_ n1_ n2_ n3_; clear hb hbox hg; have hcz3_0 : w2.cell? ⟨gb101, 0, none⟩ = some (.int .i64 a0_0) := (blk_cell BK101.out 0).trans rfl; have hcz3_1 : w2.cell? ⟨gb101, 1, none⟩ = some (.int .i64 a0_1) := (blk_cell BK101.out 1).trans rfl; have hcz3_2 : w2.cell? ⟨gb101, 2, none⟩ = some (.int .i64 a0_2) := (blk_cell BK101.out 2).trans rfl; have hcz3_3 : w2.cell? ⟨gb101, 3, none⟩ = some (.int .i64 a0_3) := (blk_cell BK101.out 3).trans rfl; have hcz3_4 : w2.cell? ⟨gb101, 4, none⟩ = some (.int .i64 a0_4) := (blk_cell BK101.out 4).trans rfl; have hcz3_5 : w2.cell? ⟨gb101, 5, none⟩ = some (.int .i64 a0_5) := (blk_cell BK101.out 5).trans rfl; have hcz3_6 : w2.cell? ⟨gb101, 6, none⟩ = some (.string a0_6) := (blk_cell BK101.out 6).trans rfl; have hcz3_7 : w2.cell? ⟨gb101, 7, none⟩ = some (.string a0_7) := (blk_cell BK101.out 7).trans rfl; have hcz3_8 : w2.cell? ⟨gb101, 8, none⟩ = some (.string a0_8) := (blk_cell BK101.out 8).trans rfl; have hfz3_0 := blk_frozen BK101.out 0; have hfz3_1 := blk_frozen BK101.out 1; have hfz3_2 := blk_frozen BK101.out 2; have hfz3_3 := blk_frozen BK101.out 3; have hfz3_4 := blk_frozen BK101.out 4; have hfz3_5 := blk_frozen BK101.out 5; have hfz3_6 := blk_frozen BK101.out 6; have hfz3_7 := blk_frozen BK101.out 7; have hfz3_8 := blk_frozen BK101.out 8) | ((with_reducible refine gate_dst (N := 12) rfl ?_); (try (refine gate_guard (by rfl) ?_; dsimp only)); refine Kd.R_lit (Kd.int .i64) _ 3 ?hg (N := 12) ?hd (xs := ([a0_0, a0_4, a0_5] : List Int)) (inner := [.int .i64 a0_0, .int .i64 a0_4, .int .i64 a0_5]) (ok := fun _ => True) (okp := fun _ => True) ?hr ?hp (fun _ hk => hk) trivial (Below.refl _ _) (Nat.le_refl _) (by simp) ?_; (case hd => rfl); (case hg => rfl); (case hr => first | (go_simp; done) | (go_simp; simp only [IntKind.wrap_u8]; done) | (go_simp; rfl)); (case hp => exact (Reps.one (show Kd.M (Kd.int .i64) _ _ _ a0_0 [.int .i64 a0_0] from rfl) (Reps.one (show Kd.M (Kd.int .i64) _ _ _ a0_4 [.int .i64 a0_4] from rfl) (Reps.one (show Kd.M (Kd.int .i64) _ _ _ a0_5 [.int .i64 a0_5] from rfl) (Reps.none _ _))))); intro v103 w4 ho5 hb hg_ hnew_; clear hg_ hnew_; (first | rw [← Ny102.out] at ho5 | (simp only [Int.reduceToNat] at ho5; rw [← Ny102.out] at ho5)); have n0_ := Aside0.mk (Kd.R_lower ho5 (below_size (bU_ HB.out))); have n1_ := Aside0.mk (blk_below (g := gb101) (o := .cells #[.int .i64 a0_0, .int .i64 a0_1, .int .i64 a0_2, .int .i64 a0_3, .int .i64 a0_4, .int .i64 a0_5, .string a0_6, .string a0_7, .string a0_8] 33 (0, 0)) (by (with_reducible repeat first | apply pN_ | apply pD_ | apply pA_); exact BK101.out) hb); have n2_ := Aside0.mk (below_step (bU_ HB.out) hb); clear BK101 HB; have HO104 := n0_; have BK101 := n1_; have HB := n2_; clear n0_ n1_ n2_; clear hb ho5; obtain ⟨Ao6, co6, eo6⟩ := Kd.R_slice HO104.out; subst eo6))
 go_loopg [14] k (fun kq v14 w' => ∃ (x14_1 : Int), v14 = .int .i64 x14_1 ∧ Aside0 (rillmeterref06_Right.l0 kq y102 (y102.length : Int) x14_1 a0_0 a0_1 a0_2 a0_3 a0_4 a0_5 a0_6 a0_7 a0_8 = some r) ∧ Aside0 (kq ≤ k) ∧ Aside0 (Kd.R (Kd.int .i64) 3 w' w.heap.size (fun _ => True) (.slice Ao6 y102.length co6) y102) ∧ Aside0 (w'.heap[gb101]? = some (.cells #[.int .i64 a0_0, .int .i64 a0_1, .int .i64 a0_2, .int .i64 a0_3, .int .i64 a0_4, .int .i64 a0_5, .string a0_6, .string a0_7, .string a0_8] 33 (0, 0))) ∧ Aside0 (Below w.heap.size w w'))
 case atStart => exact ⟨(0), (by first | rfl | (simp; done) | (simp [*]; done)), H', ⟨Nat.le_refl _⟩, ⟨by (with_reducible repeat first | apply Kd.R_alloc | apply Kd.R_drewN | apply Kd.R_drew); exact HO104.out⟩, ⟨by (with_reducible repeat first | apply pN_ | apply pD_ | apply pA_); exact BK101.out⟩, ⟨bU_ HB.out⟩⟩
 case round =>
  clear H'
  try clear c1
  try clear p2
  try clear hcz3_0
  try clear hcz3_1
  try clear hcz3_2
  try clear hcz3_3
  try clear hcz3_4
  try clear hcz3_5
  try clear hcz3_6
  try clear hcz3_7
  try clear hcz3_8
  try clear hfz3_0
  try clear hfz3_1
  try clear hfz3_2
  try clear hfz3_3
  try clear hfz3_4
  try clear hfz3_5
  try clear hfz3_6
  try clear hfz3_7
  try clear hfz3_8
  obtain ⟨x14_1, rfl, HA, HK1, HO_12, BK101, HB⟩ := hrel
  cases gk with
  | zero => exact absurd HA.out (by simp [rillmeterref06_Right.l0])
  | succ k1 =>
   have H := HA.out
   clear HA
   simp only [rillmeterref06_Right.l0] at H
   by_cases c7 : x14_1 < (y102.length : Int)
   ·rw [if_pos c7] at H
    have c7b0 : decide (x14_1 < (y102.length : Int)) = true := decide_eq_true c7
    clear c7
    by_cases c8 : 0 ≤ x14_1
    rotate_left
    ·rw [if_neg c8] at H
     exact absurd H (by simp)
    rw [if_pos c8] at H
    have c8b0 : decide (0 ≤ x14_1) = true := decide_eq_true c8
    clear c8
    by_cases c9 : x14_1 < (y102.length : Int)
    rotate_left
    ·rw [if_neg c9] at H
     exact absurd H (by simp)
    rw [if_pos c9] at H
    have c9b0 : decide (x14_1 < (y102.length : Int)) = true := decide_eq_true c9
    clear c9
    by_cases c10 : (rd y102 x14_1) < 0
    ·rw [if_pos c10] at H
     have c10b0 : decide ((rd y102 x14_1) < 0) = true := decide_eq_true c10
     clear c10
     obtain rfl := Option.some.inj H
     have p105 : 0 ≤ (x14_1 : Int) := of_decide_eq_true (by first | (with_reducible assumption) | assumption)
     have q105 : x14_1 < (y102.length : Int) := of_decide_eq_true (by first | (with_reducible assumption) | assumption)
     obtain ⟨ad105, e105, hx105_0⟩ := Kd.at_int (Kd.R_reads' HO_12.out).2.2 x14_1 p105 q105
     cases e105
     replace p105 := eq_true p105
     replace q105 := eq_true q105
     go_wp2
     go_ret
     exact ⟨by first | rfl | (simp [errW_none, errW_some] <;> rfl) | (simp [*, errW_none, errW_some] <;> rfl), bU_ HB.out⟩
    ·rw [if_neg c10] at H
     have c10b0 : decide ((rd y102 x14_1) < 0) = false := decide_eq_false c10
     clear c10
     by_cases c11 : (rd y102 x14_1) > 255
     ·rw [if_pos c11] at H
      have c11b0 : decide (255 < (rd y102 x14_1)) = true := decide_eq_true c11
      clear c11
      obtain rfl := Option.some.inj H
      have p105 : 0 ≤ (x14_1 : Int) := of_decide_eq_true (by first | (with_reducible assumption) | assumption)
      have q105 : x14_1 < (y102.length : Int) := of_decide_eq_true (by first | (with_reducible assumption) | assumption)
      obtain ⟨ad105, e105, hx105_0⟩ := Kd.at_int (Kd.R_reads' HO_12.out).2.2 x14_1 p105 q105
      cases e105
      replace p105 := eq_true p105
      replace q105 := eq_true q105
      go_wp2
      go_ret
      exact ⟨by first | rfl | (simp [errW_none, errW_some] <;> rfl) | (simp [*, errW_none, errW_some] <;> rfl), bU_ HB.out⟩
     ·rw [if_neg c11] at H
      have c11b0 : decide (255 < (rd y102 x14_1)) = false := decide_eq_false c11
      clear c11
      have H' := Aside0.mk H
      clear H
      have p105 : 0 ≤ (x14_1 : Int) := of_decide_eq_true (by first | (with_reducible assumption) | assumption)
      have q105 : x14_1 < (y102.length : Int) := of_decide_eq_true (by first | (with_reducible assumption) | assumption)
      obtain ⟨ad105, e105, hx105_0⟩ := Kd.at_int (Kd.R_reads' HO_12.out).2.2 x14_1 p105 q105
      cases e105
      replace p105 := eq_true p105
      replace q105 := eq_true q105
      go_wp2
      go_roundg k1
      case measure => have := HK1.out; omega
      case rel => exact ⟨(wrap64 (x14_1 + 1)), (by first | rfl | (simp; done) | (simp [*]; done)), H', ⟨by have := HK1.out; omega⟩, ⟨by (with_reducible repeat first | apply Kd.R_alloc | apply Kd.R_drewN | apply Kd.R_drew); exact HO_12.out⟩, ⟨by (with_reducible repeat first | apply pN_ | apply pD_ | apply pA_); exact BK101.out⟩, ⟨bU_ HB.out⟩⟩
   ·rw [if_neg c7] at H
    have c7b0 : decide (x14_1 < (y102.length : Int)) = false := decide_eq_false c7
    clear c7
    by_cases c12 : a0_1 < 0
    ·rw [if_pos c12] at H
     have c12b0 : decide (a0_1 < 0) = true := decide_eq_true c12
     clear c12
     obtain rfl := Option.some.inj H
     have hcz13_0 : wr.cell? ⟨gb101, 0, none⟩ = some (.int .i64 a0_0) := (blk_cell BK101.out 0).trans rfl
     have hcz13_1 : wr.cell? ⟨gb101, 1, none⟩ = some (.int .i64 a0_1) := (blk_cell BK101.out 1).trans rfl
     have hcz13_2 : wr.cell? ⟨gb101, 2, none⟩ = some (.int .i64 a0_2) := (blk_cell BK101.out 2).trans rfl
     have hcz13_3 : wr.cell? ⟨gb101, 3, none⟩ = some (.int .i64 a0_3) := (blk_cell BK101.out 3).trans rfl
     have hcz13_4 : wr.cell? ⟨gb101, 4, none⟩ = some (.int .i64 a0_4) := (blk_cell BK101.out 4).trans rfl
     have hcz13_5 : wr.cell? ⟨gb101, 5, none⟩ = some (.int .i64 a0_5) := (blk_cell BK101.out 5).trans rfl
     have hcz13_6 : wr.cell? ⟨gb101, 6, none⟩ = some (.string a0_6) := (blk_cell BK101.out 6).trans rfl
     have hcz13_7 : wr.cell? ⟨gb101, 7, none⟩ = some (.string a0_7) := (blk_cell BK101.out 7).trans rfl
     have hcz13_8 : wr.cell? ⟨gb101, 8, none⟩ = some (.string a0_8) := (blk_cell BK101.out 8).trans rfl
     have hfz13_0 := blk_frozen BK101.out 0
     have hfz13_1 := blk_frozen BK101.out 1
     have hfz13_2 := blk_frozen BK101.out 2
     have hfz13_3 := blk_frozen BK101.out 3
     have hfz13_4 := blk_frozen BK101.out 4
     have hfz13_5 := blk_frozen BK101.out 5
     have hfz13_6 := blk_frozen BK101.out 6
     have hfz13_7 := blk_frozen BK101.out 7
     have hfz13_8 := blk_frozen BK101.out 8
     go_wp2
     go_ret
     exact ⟨by first | rfl | (simp [errW_none, errW_some] <;> rfl) | (simp [*, errW_none, errW_some] <;> rfl), bU_ HB.out⟩
    ·rw [if_neg c12] at H
     have c12b0 : decide (a0_1 < 0) = false := decide_eq_false c12
     clear c12
     by_cases c14 : a0_1 > 65535
     ·rw [if_pos c14] at H
      have c14b0 : decide (65535 < a0_1) = true := decide_eq_true c14
      clear c14
      obtain rfl := Option.some.inj H
      have hcz15_0 : wr.cell? ⟨gb101, 0, none⟩ = some (.int .i64 a0_0) := (blk_cell BK101.out 0).trans rfl
      have hcz15_1 : wr.cell? ⟨gb101, 1, none⟩ = some (.int .i64 a0_1) := (blk_cell BK101.out 1).trans rfl
      have hcz15_2 : wr.cell? ⟨gb101, 2, none⟩ = some (.int .i64 a0_2) := (blk_cell BK101.out 2).trans rfl
      have hcz15_3 : wr.cell? ⟨gb101, 3, none⟩ = some (.int .i64 a0_3) := (blk_cell BK101.out 3).trans rfl
      have hcz15_4 : wr.cell? ⟨gb101, 4, none⟩ = some (.int .i64 a0_4) := (blk_cell BK101.out 4).trans rfl
      have hcz15_5 : wr.cell? ⟨gb101, 5, none⟩ = some (.int .i64 a0_5) := (blk_cell BK101.out 5).trans rfl
      have hcz15_6 : wr.cell? ⟨gb101, 6, none⟩ = some (.string a0_6) := (blk_cell BK101.out 6).trans rfl
      have hcz15_7 : wr.cell? ⟨gb101, 7, none⟩ = some (.string a0_7) := (blk_cell BK101.out 7).trans rfl
      have hcz15_8 : wr.cell? ⟨gb101, 8, none⟩ = some (.string a0_8) := (blk_cell BK101.out 8).trans rfl
      have hfz15_0 := blk_frozen BK101.out 0
      have hfz15_1 := blk_frozen BK101.out 1
      have hfz15_2 := blk_frozen BK101.out 2
      have hfz15_3 := blk_frozen BK101.out 3
      have hfz15_4 := blk_frozen BK101.out 4
      have hfz15_5 := blk_frozen BK101.out 5
      have hfz15_6 := blk_frozen BK101.out 6
      have hfz15_7 := blk_frozen BK101.out 7
      have hfz15_8 := blk_frozen BK101.out 8
      go_wp2
      go_ret
      exact ⟨by first | rfl | (simp [errW_none, errW_some] <;> rfl) | (simp [*, errW_none, errW_some] <;> rfl), bU_ HB.out⟩
     ·rw [if_neg c14] at H
      have c14b0 : decide (65535 < a0_1) = false := decide_eq_false c14
      clear c14
      by_cases c16 : a0_2 < 0
      ·rw [if_pos c16] at H
       have c16b0 : decide (a0_2 < 0) = true := decide_eq_true c16
       clear c16
       obtain rfl := Option.some.inj H
       have hcz17_0 : wr.cell? ⟨gb101, 0, none⟩ = some (.int .i64 a0_0) := (blk_cell BK101.out 0).trans rfl
       have hcz17_1 : wr.cell? ⟨gb101, 1, none⟩ = some (.int .i64 a0_1) := (blk_cell BK101.out 1).trans rfl
       have hcz17_2 : wr.cell? ⟨gb101, 2, none⟩ = some (.int .i64 a0_2) := (blk_cell BK101.out 2).trans rfl
       have hcz17_3 : wr.cell? ⟨gb101, 3, none⟩ = some (.int .i64 a0_3) := (blk_cell BK101.out 3).trans rfl
       have hcz17_4 : wr.cell? ⟨gb101, 4, none⟩ = some (.int .i64 a0_4) := (blk_cell BK101.out 4).trans rfl
       have hcz17_5 : wr.cell? ⟨gb101, 5, none⟩ = some (.int .i64 a0_5) := (blk_cell BK101.out 5).trans rfl
       have hcz17_6 : wr.cell? ⟨gb101, 6, none⟩ = some (.string a0_6) := (blk_cell BK101.out 6).trans rfl
       have hcz17_7 : wr.cell? ⟨gb101, 7, none⟩ = some (.string a0_7) := (blk_cell BK101.out 7).trans rfl
       have hcz17_8 : wr.cell? ⟨gb101, 8, none⟩ = some (.string a0_8) := (blk_cell BK101.out 8).trans rfl
       have hfz17_0 := blk_frozen BK101.out 0
       have hfz17_1 := blk_frozen BK101.out 1
       have hfz17_2 := blk_frozen BK101.out 2
       have hfz17_3 := blk_frozen BK101.out 3
       have hfz17_4 := blk_frozen BK101.out 4
       have hfz17_5 := blk_frozen BK101.out 5
       have hfz17_6 := blk_frozen BK101.out 6
       have hfz17_7 := blk_frozen BK101.out 7
       have hfz17_8 := blk_frozen BK101.out 8
       go_wp2
       go_ret
       exact ⟨by first | rfl | (simp [errW_none, errW_some] <;> rfl) | (simp [*, errW_none, errW_some] <;> rfl), bU_ HB.out⟩
      ·rw [if_neg c16] at H
       have c16b0 : decide (a0_2 < 0) = false := decide_eq_false c16
       clear c16
       by_cases c18 : a0_2 > 7
       ·rw [if_pos c18] at H
        have c18b0 : decide (7 < a0_2) = true := decide_eq_true c18
        clear c18
        obtain rfl := Option.some.inj H
        have hcz19_0 : wr.cell? ⟨gb101, 0, none⟩ = some (.int .i64 a0_0) := (blk_cell BK101.out 0).trans rfl
        have hcz19_1 : wr.cell? ⟨gb101, 1, none⟩ = some (.int .i64 a0_1) := (blk_cell BK101.out 1).trans rfl
        have hcz19_2 : wr.cell? ⟨gb101, 2, none⟩ = some (.int .i64 a0_2) := (blk_cell BK101.out 2).trans rfl
        have hcz19_3 : wr.cell? ⟨gb101, 3, none⟩ = some (.int .i64 a0_3) := (blk_cell BK101.out 3).trans rfl
        have hcz19_4 : wr.cell? ⟨gb101, 4, none⟩ = some (.int .i64 a0_4) := (blk_cell BK101.out 4).trans rfl
        have hcz19_5 : wr.cell? ⟨gb101, 5, none⟩ = some (.int .i64 a0_5) := (blk_cell BK101.out 5).trans rfl
        have hcz19_6 : wr.cell? ⟨gb101, 6, none⟩ = some (.string a0_6) := (blk_cell BK101.out 6).trans rfl
        have hcz19_7 : wr.cell? ⟨gb101, 7, none⟩ = some (.string a0_7) := (blk_cell BK101.out 7).trans rfl
        have hcz19_8 : wr.cell? ⟨gb101, 8, none⟩ = some (.string a0_8) := (blk_cell BK101.out 8).trans rfl
        have hfz19_0 := blk_frozen BK101.out 0
        have hfz19_1 := blk_frozen BK101.out 1
        have hfz19_2 := blk_frozen BK101.out 2
        have hfz19_3 := blk_frozen BK101.out 3
        have hfz19_4 := blk_frozen BK101.out 4
        have hfz19_5 := blk_frozen BK101.out 5
        have hfz19_6 := blk_frozen BK101.out 6
        have hfz19_7 := blk_frozen BK101.out 7
        have hfz19_8 := blk_frozen BK101.out 8
        go_wp2
        go_ret
        exact ⟨by first | rfl | (simp [errW_none, errW_some] <;> rfl) | (simp [*, errW_none, errW_some] <;> rfl), bU_ HB.out⟩
       ·rw [if_neg c18] at H
        have c18b0 : decide (7 < a0_2) = false := decide_eq_false c18
        clear c18
        by_cases c20 : a0_3 < 0
        ·rw [if_pos c20] at H
         have c20b0 : decide (a0_3 < 0) = true := decide_eq_true c20
         clear c20
         obtain rfl := Option.some.inj H
         have hcz21_0 : wr.cell? ⟨gb101, 0, none⟩ = some (.int .i64 a0_0) := (blk_cell BK101.out 0).trans rfl
         have hcz21_1 : wr.cell? ⟨gb101, 1, none⟩ = some (.int .i64 a0_1) := (blk_cell BK101.out 1).trans rfl
         have hcz21_2 : wr.cell? ⟨gb101, 2, none⟩ = some (.int .i64 a0_2) := (blk_cell BK101.out 2).trans rfl
         have hcz21_3 : wr.cell? ⟨gb101, 3, none⟩ = some (.int .i64 a0_3) := (blk_cell BK101.out 3).trans rfl
         have hcz21_4 : wr.cell? ⟨gb101, 4, none⟩ = some (.int .i64 a0_4) := (blk_cell BK101.out 4).trans rfl
         have hcz21_5 : wr.cell? ⟨gb101, 5, none⟩ = some (.int .i64 a0_5) := (blk_cell BK101.out 5).trans rfl
         have hcz21_6 : wr.cell? ⟨gb101, 6, none⟩ = some (.string a0_6) := (blk_cell BK101.out 6).trans rfl
         have hcz21_7 : wr.cell? ⟨gb101, 7, none⟩ = some (.string a0_7) := (blk_cell BK101.out 7).trans rfl
         have hcz21_8 : wr.cell? ⟨gb101, 8, none⟩ = some (.string a0_8) := (blk_cell BK101.out 8).trans rfl
         have hfz21_0 := blk_frozen BK101.out 0
         have hfz21_1 := blk_frozen BK101.out 1
         have hfz21_2 := blk_frozen BK101.out 2
         have hfz21_3 := blk_frozen BK101.out 3
         have hfz21_4 := blk_frozen BK101.out 4
         have hfz21_5 := blk_frozen BK101.out 5
         have hfz21_6 := blk_frozen BK101.out 6
         have hfz21_7 := blk_frozen BK101.out 7
         have hfz21_8 := blk_frozen BK101.out 8
         go_wp2
         go_ret
         exact ⟨by first | rfl | (simp [errW_none, errW_some] <;> rfl) | (simp [*, errW_none, errW_some] <;> rfl), bU_ HB.out⟩
        ·rw [if_neg c20] at H
         have c20b0 : decide (a0_3 < 0) = false := decide_eq_false c20
         clear c20
         by_cases c22 : a0_3 > 8191
         ·rw [if_pos c22] at H
          have c22b0 : decide (8191 < a0_3) = true := decide_eq_true c22
          clear c22
          obtain rfl := Option.some.inj H
          have hcz23_0 : wr.cell? ⟨gb101, 0, none⟩ = some (.int .i64 a0_0) := (blk_cell BK101.out 0).trans rfl
          have hcz23_1 : wr.cell? ⟨gb101, 1, none⟩ = some (.int .i64 a0_1) := (blk_cell BK101.out 1).trans rfl
          have hcz23_2 : wr.cell? ⟨gb101, 2, none⟩ = some (.int .i64 a0_2) := (blk_cell BK101.out 2).trans rfl
          have hcz23_3 : wr.cell? ⟨gb101, 3, none⟩ = some (.int .i64 a0_3) := (blk_cell BK101.out 3).trans rfl
          have hcz23_4 : wr.cell? ⟨gb101, 4, none⟩ = some (.int .i64 a0_4) := (blk_cell BK101.out 4).trans rfl
          have hcz23_5 : wr.cell? ⟨gb101, 5, none⟩ = some (.int .i64 a0_5) := (blk_cell BK101.out 5).trans rfl
          have hcz23_6 : wr.cell? ⟨gb101, 6, none⟩ = some (.string a0_6) := (blk_cell BK101.out 6).trans rfl
          have hcz23_7 : wr.cell? ⟨gb101, 7, none⟩ = some (.string a0_7) := (blk_cell BK101.out 7).trans rfl
          have hcz23_8 : wr.cell? ⟨gb101, 8, none⟩ = some (.string a0_8) := (blk_cell BK101.out 8).trans rfl
          have hfz23_0 := blk_frozen BK101.out 0
          have hfz23_1 := blk_frozen BK101.out 1
          have hfz23_2 := blk_frozen BK101.out 2
          have hfz23_3 := blk_frozen BK101.out 3
          have hfz23_4 := blk_frozen BK101.out 4
          have hfz23_5 := blk_frozen BK101.out 5
          have hfz23_6 := blk_frozen BK101.out 6
          have hfz23_7 := blk_frozen BK101.out 7
          have hfz23_8 := blk_frozen BK101.out 8
          go_wp2
          go_ret
          exact ⟨by first | rfl | (simp [errW_none, errW_some] <;> rfl) | (simp [*, errW_none, errW_some] <;> rfl), bU_ HB.out⟩
         ·rw [if_neg c22] at H
          have c22b0 : decide (8191 < a0_3) = false := decide_eq_false c22
          clear c22
          by_cases c24 : (a0_6.size : Int) = 4
          ·rw [if_pos c24] at H
           have c24b0 : ((a0_6.size : Int) == 4) = true := beq_iff_eq.mpr c24
           have c24b1 : ((a0_6.size : Int) != 4) = false := bne_eq_false_iff_eq.mpr c24
           clear c24
           by_cases c25 : (a0_7.size : Int) = 4
           ·rw [if_pos c25] at H
            have c25b0 : ((a0_7.size : Int) == 4) = true := beq_iff_eq.mpr c25
            have c25b1 : ((a0_7.size : Int) != 4) = false := bne_eq_false_iff_eq.mpr c25
            clear c25
            by_cases c26 : (a0_8.size : Int) ≤ 40
            ·rw [if_pos c26] at H
             have c26b0 : decide ((a0_8.size : Int) ≤ 40) = true := decide_eq_true c26
             have c26b1 : decide (a0_8.size ≤ 40) = true := decide_eq_true (by omega)
             clear c26
             obtain rfl := Option.some.inj H
             have hcz27_0 : wr.cell? ⟨gb101, 0, none⟩ = some (.int .i64 a0_0) := (blk_cell BK101.out 0).trans rfl
             have hcz27_1 : wr.cell? ⟨gb101, 1, none⟩ = some (.int .i64 a0_1) := (blk_cell BK101.out 1).trans rfl
             have hcz27_2 : wr.cell? ⟨gb101, 2, none⟩ = some (.int .i64 a0_2) := (blk_cell BK101.out 2).trans rfl
             have hcz27_3 : wr.cell? ⟨gb101, 3, none⟩ = some (.int .i64 a0_3) := (blk_cell BK101.out 3).trans rfl
             have hcz27_4 : wr.cell? ⟨gb101, 4, none⟩ = some (.int .i64 a0_4) := (blk_cell BK101.out 4).trans rfl
             have hcz27_5 : wr.cell? ⟨gb101, 5, none⟩ = some (.int .i64 a0_5) := (blk_cell BK101.out 5).trans rfl
             have hcz27_6 : wr.cell? ⟨gb101, 6, none⟩ = some (.string a0_6) := (blk_cell BK101.out 6).trans rfl
             have hcz27_7 : wr.cell? ⟨gb101, 7, none⟩ = some (.string a0_7) := (blk_cell BK101.out 7).trans rfl
             have hcz27_8 : wr.cell? ⟨gb101, 8, none⟩ = some (.string a0_8) := (blk_cell BK101.out 8).trans rfl
             have hfz27_0 := blk_frozen BK101.out 0
             have hfz27_1 := blk_frozen BK101.out 1
             have hfz27_2 := blk_frozen BK101.out 2
             have hfz27_3 := blk_frozen BK101.out 3
             have hfz27_4 := blk_frozen BK101.out 4
             have hfz27_5 := blk_frozen BK101.out 5
             have hfz27_6 := blk_frozen BK101.out 6
             have hfz27_7 := blk_frozen BK101.out 7
             have hfz27_8 := blk_frozen BK101.out 8
             go_wp2
             go_ret
             exact ⟨by first | rfl | (simp [errW_none, errW_some] <;> rfl) | (simp [*, errW_none, errW_some] <;> rfl), bU_ HB.out⟩
            ·rw [if_neg c26] at H
             have c26b0 : decide ((a0_8.size : Int) ≤ 40) = false := decide_eq_false c26
             have c26b1 : decide (a0_8.size ≤ 40) = false := decide_eq_false (by omega)
             clear c26
             obtain rfl := Option.some.inj H
             have hcz28_0 : wr.cell? ⟨gb101, 0, none⟩ = some (.int .i64 a0_0) := (blk_cell BK101.out 0).trans rfl
             have hcz28_1 : wr.cell? ⟨gb101, 1, none⟩ = some (.int .i64 a0_1) := (blk_cell BK101.out 1).trans rfl
             have hcz28_2 : wr.cell? ⟨gb101, 2, none⟩ = some (.int .i64 a0_2) := (blk_cell BK101.out 2).trans rfl
             have hcz28_3 : wr.cell? ⟨gb101, 3, none⟩ = some (.int .i64 a0_3) := (blk_cell BK101.out 3).trans rfl
             have hcz28_4 : wr.cell? ⟨gb101, 4, none⟩ = some (.int .i64 a0_4) := (blk_cell BK101.out 4).trans rfl
             have hcz28_5 : wr.cell? ⟨gb101, 5, none⟩ = some (.int .i64 a0_5) := (blk_cell BK101.out 5).trans rfl
             have hcz28_6 : wr.cell? ⟨gb101, 6, none⟩ = some (.string a0_6) := (blk_cell BK101.out 6).trans rfl
             have hcz28_7 : wr.cell? ⟨gb101, 7, none⟩ = some (.string a0_7) := (blk_cell BK101.out 7).trans rfl
             have hcz28_8 : wr.cell? ⟨gb101, 8, none⟩ = some (.string a0_8) := (blk_cell BK101.out 8).trans rfl
             have hfz28_0 := blk_frozen BK101.out 0
             have hfz28_1 := blk_frozen BK101.out 1
             have hfz28_2 := blk_frozen BK101.out 2
             have hfz28_3 := blk_frozen BK101.out 3
             have hfz28_4 := blk_frozen BK101.out 4
             have hfz28_5 := blk_frozen BK101.out 5
             have hfz28_6 := blk_frozen BK101.out 6
             have hfz28_7 := blk_frozen BK101.out 7
             have hfz28_8 := blk_frozen BK101.out 8
             go_wp2
             go_ret
             exact ⟨by first | rfl | (simp [errW_none, errW_some] <;> rfl) | (simp [*, errW_none, errW_some] <;> rfl), bU_ HB.out⟩
           ·rw [if_neg c25] at H
            have c25b0 : ((a0_7.size : Int) == 4) = false := beq_eq_false_iff_ne.mpr c25
            have c25b1 : ((a0_7.size : Int) != 4) = true := bne_iff_ne.mpr c25
            obtain rfl := Option.some.inj H
            have hcz29_0 : wr.cell? ⟨gb101, 0, none⟩ = some (.int .i64 a0_0) := (blk_cell BK101.out 0).trans rfl
            have hcz29_1 : wr.cell? ⟨gb101, 1, none⟩ = some (.int .i64 a0_1) := (blk_cell BK101.out 1).trans rfl
            have hcz29_2 : wr.cell? ⟨gb101, 2, none⟩ = some (.int .i64 a0_2) := (blk_cell BK101.out 2).trans rfl
            have hcz29_3 : wr.cell? ⟨gb101, 3, none⟩ = some (.int .i64 a0_3) := (blk_cell BK101.out 3).trans rfl
            have hcz29_4 : wr.cell? ⟨gb101, 4, none⟩ = some (.int .i64 a0_4) := (blk_cell BK101.out 4).trans rfl
            have hcz29_5 : wr.cell? ⟨gb101, 5, none⟩ = some (.int .i64 a0_5) := (blk_cell BK101.out 5).trans rfl
            have hcz29_6 : wr.cell? ⟨gb101, 6, none⟩ = some (.string a0_6) := (blk_cell BK101.out 6).trans rfl
            have hcz29_7 : wr.cell? ⟨gb101, 7, none⟩ = some (.string a0_7) := (blk_cell BK101.out 7).trans rfl
            have hcz29_8 : wr.cell? ⟨gb101, 8, none⟩ = some (.string a0_8) := (blk_cell BK101.out 8).trans rfl
            have hfz29_0 := blk_frozen BK101.out 0
            have hfz29_1 := blk_frozen BK101.out 1
            have hfz29_2 := blk_frozen BK101.out 2
            have hfz29_3 := blk_frozen BK101.out 3
            have hfz29_4 := blk_frozen BK101.out 4
            have hfz29_5 := blk_frozen BK101.out 5
            have hfz29_6 := blk_frozen BK101.out 6
            have hfz29_7 := blk_frozen BK101.out 7
            have hfz29_8 := blk_frozen BK101.out 8
            go_wp2
            go_ret
            exact ⟨by first | rfl | (simp [errW_none, errW_some] <;> rfl) | (simp [*, errW_none, errW_some] <;> rfl), bU_ HB.out⟩
          ·rw [if_neg c24] at H
           have c24b0 : ((a0_6.size : Int) == 4) = false := beq_eq_false_iff_ne.mpr c24
           have c24b1 : ((a0_6.size : Int) != 4) = true := bne_iff_ne.mpr c24
           obtain rfl := Option.some.inj H
           have hcz30_0 : wr.cell? ⟨gb101, 0, none⟩ = some (.int .i64 a0_0) := (blk_cell BK101.out 0).trans rfl
           have hcz30_1 : wr.cell? ⟨gb101, 1, none⟩ = some (.int .i64 a0_1) := (blk_cell BK101.out 1).trans rfl
           have hcz30_2 : wr.cell? ⟨gb101, 2, none⟩ = some (.int .i64 a0_2) := (blk_cell BK101.out 2).trans rfl
           have hcz30_3 : wr.cell? ⟨gb101, 3, none⟩ = some (.int .i64 a0_3) := (blk_cell BK101.out 3).trans rfl
           have hcz30_4 : wr.cell? ⟨gb101, 4, none⟩ = some (.int .i64 a0_4) := (blk_cell BK101.out 4).trans rfl
           have hcz30_5 : wr.cell? ⟨gb101, 5, none⟩ = some (.int .i64 a0_5) := (blk_cell BK101.out 5).trans rfl
           have hcz30_6 : wr.cell? ⟨gb101, 6, none⟩ = some (.string a0_6) := (blk_cell BK101.out 6).trans rfl
           have hcz30_7 : wr.cell? ⟨gb101, 7, none⟩ = some (.string a0_7) := (blk_cell BK101.out 7).trans rfl
           have hcz30_8 : wr.cell? ⟨gb101, 8, none⟩ = some (.string a0_8) := (blk_cell BK101.out 8).trans rfl
           have hfz30_0 := blk_frozen BK101.out 0
           have hfz30_1 := blk_frozen BK101.out 1
           have hfz30_2 := blk_frozen BK101.out 2
           have hfz30_3 := blk_frozen BK101.out 3
           have hfz30_4 := blk_frozen BK101.out 4
           have hfz30_5 := blk_frozen BK101.out 5
           have hfz30_6 := blk_frozen BK101.out 6
           have hfz30_7 := blk_frozen BK101.out 7
           have hfz30_8 := blk_frozen BK101.out 8
           go_wp2
           go_ret
           exact ⟨by first | rfl | (simp [errW_none, errW_some] <;> rfl) | (simp [*, errW_none, errW_some] <;> rfl), bU_ HB.out⟩
end Go.Proofs.Ytdmofjhncdkofaa.Q
