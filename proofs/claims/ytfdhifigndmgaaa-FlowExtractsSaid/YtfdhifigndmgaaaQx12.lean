-- made by a program of this session (wip/print-patch.py, over the kit's print)
import Derived.Test.YtfdhifigndmgaaaQx0
import Derived.Test.YtfdhifigndmgaaaQx4
import Derived.Test.YtfdhifigndmgaaaQx10
import Derived.Test.YtfdhifigndmgaaaQx11
namespace Go.Proofs.Ytfdhifigndmgaaa.Q
open Go.RowKit Go.Proofs.YtfdhifigndmgaaaW.PrintWords Go.Proofs.YtfdhifigndmgaaaW.PrintLast Go.Proofs.YtfdhifigndmgaaaW.PrintMore
attribute [local go_sem] max2_int min2_int max_two min_two max_three min_three max_four min_four   -- for this text's walks alone
set_option linter.unusedVariables false
set_option linter.unusedSimpArgs false

attribute [local go_sem] cell_twice_ cell_twiceN_
abbrev Z12_0 : Array Value := #[.int .i64 0, .int .i64 0, .int .i64 0, .int .i64 0, .string ⟨#[]⟩, .string ⟨#[]⟩, .slice none 0 0]
/-! ### ipsix_Take: function 41 -/
def ipsix_Take.l0 : Nat → ByteArray → Int → Int → Int → Int → ByteArray → ByteArray → List (S102) → Option (Int × Int × Int × Int × ByteArray × ByteArray × (List (S102)) × ByteArray × Int)
 | 0, _, _, _, _, _, _, _, _ => none
 | k + 1, x12, x109000, x109001, x109002, x109003, x109004, x109005, x109006 => (ipsix_extension.f x109003).bind fun t109 => (if t109 = true then ((ipsix_ext.f x109003 x12).bind fun bt110 => (if bt110.2.2.2.2 = true then (if (x109006.length : Int) = 8 then (some (0, 0, 0, 0, (⟨#[]⟩ : ByteArray), (⟨#[]⟩ : ByteArray), ([] : List (S102)), (⟨#[]⟩ : ByteArray), 15)) else (if bt110.1 = 0 then (if (x109006.length : Int) > 0 then (some (0, 0, 0, 0, (⟨#[]⟩ : ByteArray), (⟨#[]⟩ : ByteArray), ([] : List (S102)), (⟨#[]⟩ : ByteArray), 15)) else (if x109006.length < 5864062014805 then (ipsix_Take.l0 k bt110.2.2.2.1 x109000 x109001 x109002 bt110.2.2.1 x109004 x109005 (x109006 ++ [(⟨bt110.1, bt110.2.1⟩ : S102)])) else (none))) else (if x109006.length < 5864062014805 then (ipsix_Take.l0 k bt110.2.2.2.1 x109000 x109001 x109002 bt110.2.2.1 x109004 x109005 (x109006 ++ [(⟨bt110.1, bt110.2.1⟩ : S102)])) else (none)))) else (some (0, 0, 0, 0, (⟨#[]⟩ : ByteArray), (⟨#[]⟩ : ByteArray), ([] : List (S102)), (⟨#[]⟩ : ByteArray), 15)))) else (some (x109000, x109001, x109002, x109003, x109004, x109005, x109006, x12, 0)))
def ipsix_Take.f (k : Nat) (a0 : ByteArray) : Option (Int × Int × Int × Int × ByteArray × ByteArray × (List (S102)) × ByteArray × Int) := if (a0.size : Int) < 40 then (some (0, 0, 0, 0, (⟨#[]⟩ : ByteArray), (⟨#[]⟩ : ByteArray), ([] : List (S102)), (⟨#[]⟩ : ByteArray), 2)) else ((octet_Take.f k a0 4).bind fun bt102 => (if 4 ≤ (a0.size : Int) then ((octet_Take.f k (a0.extract 4 a0.size) 2).bind fun bt105 => (if 7 < (a0.size : Int) then (if 6 < (a0.size : Int) then (if 8 ≤ 24 then (if 24 ≤ (a0.size : Int) then (if 24 ≤ 40 then (if 40 ≤ (a0.size : Int) then (if (bt102.1 / 268435456) = 6 then (if bt105.1 > (wrap64 ((a0.size : Int) - 40)) then (some (0, 0, 0, 0, (⟨#[]⟩ : ByteArray), (⟨#[]⟩ : ByteArray), ([] : List (S102)), (⟨#[]⟩ : ByteArray), 13)) else (if 40 ≤ (wrap64 (40 + bt105.1)) then (if (wrap64 (40 + bt105.1)) ≤ (a0.size : Int) then (ipsix_Take.l0 k (a0.extract 40 ((wrap64 (40 + bt105.1)) : Int).toNat) (Go.bits .and .i64 (bt102.1 / 1048576) 255) (Go.bits .and .i64 bt102.1 1048575) (wrap64 (bt a0 7)) (wrap64 (bt a0 6)) (a0.extract 8 24) (a0.extract 24 40) ([] : List (S102))) else (none)) else (none))) else (some (0, 0, 0, 0, (⟨#[]⟩ : ByteArray), (⟨#[]⟩ : ByteArray), ([] : List (S102)), (⟨#[]⟩ : ByteArray), 10))) else (none)) else (none)) else (none)) else (none)) else (none)) else (none))) else (none)))
theorem ipsix_Take.mono_l : ∀ k, (∀ y0 y1 y2 y3 y4 y5 y6 y7, LeO (ipsix_Take.l0 k y0 y1 y2 y3 y4 y5 y6 y7) (ipsix_Take.l0 (k + 1) y0 y1 y2 y3 y4 y5 y6 y7))
 | 0 => fun _ _ _ _ _ _ _ _ r h => by simp [ipsix_Take.l0] at h
 | k + 1 => by
  have ih0 := ipsix_Take.mono_l k
  ·intro y0 y1 y2 y3 y4 y5 y6 y7
   unfold ipsix_Take.l0
   repeat' first
   | (with_reducible exact ih0 _ _ _ _ _ _ _ _)
   | (with_reducible exact octet_Take.mono _ _ _)
   | (with_reducible exact LeO.refl _)
   | (with_reducible exact LeO.none _)
   | (with_reducible refine LeO.ite ?_ ?_)
   | (with_reducible refine LeO.bind ?_ (fun _ => ?_))
   | exact ih0 _ _ _ _ _ _ _ _
   | exact octet_Take.mono _ _ _
   | exact LeO.none _
   | refine LeO.ite ?_ ?_
   | refine LeO.bind ?_ (fun _ => ?_)
theorem ipsix_Take.mono : ∀ a0 k, LeO (ipsix_Take.f k a0) (ipsix_Take.f (k + 1) a0) := by
 intro a0 k
 have ih0 := ipsix_Take.mono_l k
 unfold ipsix_Take.f
 repeat' first
   | (with_reducible exact ih0 _ _ _ _ _ _ _ _)
   | (with_reducible exact octet_Take.mono _ _ _)
   | (with_reducible exact LeO.refl _)
   | (with_reducible exact LeO.none _)
   | (with_reducible refine LeO.ite ?_ ?_)
   | (with_reducible refine LeO.bind ?_ (fun _ => ?_))
   | exact ih0 _ _ _ _ _ _ _ _
   | exact octet_Take.mono _ _ _
   | exact LeO.none _
   | refine LeO.ite ?_ ?_
   | refine LeO.bind ?_ (fun _ => ?_)
def ipsix_Take.T5 : Bool × List (List Nat × List Nat) := (true, [([], []), ([0], [0]), ([1], [1]), ([], []), ([3], [3]), ([], []), ([5], [5]), ([6], [6]), ([], []), ([8], [8]), ([9], [9]), ([], []), ([11], [11]), ([], []), ([13], [13]), ([2, 4, 7, 10, 12, 14], [2, 4, 7, 10, 12, 14]), ([], []), ([16, 15, 0, 1, 2, 3, 4, 5, 6, 7, 8, 9, 10, 11, 12, 13, 14, 15, 16], [15, 16])])
def ipsix_Take.B5 : List Nat := [0, 1, 3, 0, 8, 0, 32, 96, 0, 256, 768, 0, 2048, 0, 8192, 32767, 0, 131071]
theorem ipsix_Take.tab5 : rtab .any (opsOf Try.f41 5) = ipsix_Take.T5 := by kernel_rfl
theorem ipsix_Take.bits5 : waitsOk ipsix_Take.T5.2 ipsix_Take.B5 = true := by kernel_rfl
set_option maxHeartbeats 8000000 in
set_option maxRecDepth 100000 in
theorem ipsix_Take.calls (k : Nat) (a0 : ByteArray) (r1 : Int) (r2 : Int) (r3 : Int) (r4 : Int) (r5 : ByteArray) (r6 : ByteArray) (r7 : List (S102)) (r8 : ByteArray) (r9 : Int) (w : World) (h : ipsix_Take.f k a0 = some (r1, r2, r3, r4, r5, r6, r7, r8, r9)) :
  Calls Try.prog 41 #[.string a0] w fun e w' => ∃ v6_ : Value, e = .returned (.tuple #[.agg #[.int .i64 r1, .int .i64 r2, .int .i64 r3, .int .i64 r4, .string r5, .string r6, v6_], .string r8, .int .i64 r9]) ∧ Kd.R k102 102 w' w.heap.size (fun _ => True) v6_ r7 ∧ Below w.heap.size w w' := by
 have hu90 := Try.underlying90
 have hu102 := Try.underlying102
 have HB := Aside0.mk (Below.refl w.heap.size w)
 have H : (if (a0.size : Int) < 40 then (some (0, 0, 0, 0, (⟨#[]⟩ : ByteArray), (⟨#[]⟩ : ByteArray), ([] : List (S102)), (⟨#[]⟩ : ByteArray), 2)) else ((octet_Take.f k a0 4).bind fun bt102 => (if 4 ≤ (a0.size : Int) then ((octet_Take.f k (a0.extract 4 a0.size) 2).bind fun bt105 => (if 7 < (a0.size : Int) then (if 6 < (a0.size : Int) then (if 8 ≤ 24 then (if 24 ≤ (a0.size : Int) then (if 24 ≤ 40 then (if 40 ≤ (a0.size : Int) then (if (bt102.1 / 268435456) = 6 then (if bt105.1 > (wrap64 ((a0.size : Int) - 40)) then (some (0, 0, 0, 0, (⟨#[]⟩ : ByteArray), (⟨#[]⟩ : ByteArray), ([] : List (S102)), (⟨#[]⟩ : ByteArray), 13)) else (if 40 ≤ (wrap64 (40 + bt105.1)) then (if (wrap64 (40 + bt105.1)) ≤ (a0.size : Int) then (ipsix_Take.l0 k (a0.extract 40 ((wrap64 (40 + bt105.1)) : Int).toNat) (Go.bits .and .i64 (bt102.1 / 1048576) 255) (Go.bits .and .i64 bt102.1 1048575) (wrap64 (bt a0 7)) (wrap64 (bt a0 6)) (a0.extract 8 24) (a0.extract 24 40) ([] : List (S102))) else (none)) else (none))) else (some (0, 0, 0, 0, (⟨#[]⟩ : ByteArray), (⟨#[]⟩ : ByteArray), ([] : List (S102)), (⟨#[]⟩ : ByteArray), 10))) else (none)) else (none)) else (none)) else (none)) else (none)) else (none))) else (none)))) = some (r1, r2, r3, r4, r5, r6, r7, r8, r9) := h
 clear h
 by_cases c2 : (a0.size : Int) < 40
 ·rw [if_pos c2] at H
  have c2b0 : decide ((a0.size : Int) < 40) = true := decide_eq_true c2
  have c2b1 : decide (a0.size < 40) = true := decide_eq_true (by omega)
  clear c2
  simp only [Option.some.injEq, Prod.mk.injEq] at H
  obtain ⟨rfl, rfl, rfl, rfl, rfl, rfl, rfl, rfl, rfl⟩ := H
  go_enter Try.func41, Try.ntmps41
  go_wp2_with (first | ((with_reducible refine gate_dst (N := 2) rfl ?_); (try (refine gate_guard (by rfl) ?_; dsimp only)); refine bE_ (N := 2) (cs := Z12_0) (t := 90) ?_; intro gb101 hg w3 hbox hb; have n0_ := Aside0.mk (below_step (bU_ HB.out) hb); have n1_ := Aside0.mk (hbox); have n2_ := Aside0.mk (bZ_ hg (bU_ HB.out) : w.heap.size ≤ gb101); have n3_ := n2_; clear HB; have HB := n0_; have BK101 := n1_; have GW101 := n2_; have GE101 := n3_; clear n0_ n1_ n2_ n3_; clear hb hbox hg; have hcz4_0 : w3.cell? ⟨gb101, 0, none⟩ = some (.int .i64 0) := (blk_cell BK101.out 0).trans rfl; have hcz4_1 : w3.cell? ⟨gb101, 1, none⟩ = some (.int .i64 0) := (blk_cell BK101.out 1).trans rfl; have hcz4_2 : w3.cell? ⟨gb101, 2, none⟩ = some (.int .i64 0) := (blk_cell BK101.out 2).trans rfl; have hcz4_3 : w3.cell? ⟨gb101, 3, none⟩ = some (.int .i64 0) := (blk_cell BK101.out 3).trans rfl; have hcz4_4 : w3.cell? ⟨gb101, 4, none⟩ = some (.string ⟨#[]⟩) := (blk_cell BK101.out 4).trans rfl; have hcz4_5 : w3.cell? ⟨gb101, 5, none⟩ = some (.string ⟨#[]⟩) := (blk_cell BK101.out 5).trans rfl; have hcz4_6 : w3.cell? ⟨gb101, 6, none⟩ = some (.slice none 0 0) := (blk_cell BK101.out 6).trans rfl; have hfz4_0 := blk_frozen BK101.out 0; have hfz4_1 := blk_frozen BK101.out 1; have hfz4_2 := blk_frozen BK101.out 2; have hfz4_3 := blk_frozen BK101.out 3; have hfz4_4 := blk_frozen BK101.out 4; have hfz4_5 := blk_frozen BK101.out 5; have hfz4_6 := blk_frozen BK101.out 6))
  refine bodyPost_ret (results_ctt rfl _ _ gb101 90 #[.int .i64 0, .int .i64 0, .int .i64 0, .int .i64 0, .string ⟨#[]⟩, .string ⟨#[]⟩, .slice none 0 0] (0, 0) _ rfl (by (with_reducible repeat first | apply pN_ | apply pD_ | apply pA_); refine blk_put (cs := Z12_0) ?_ 6 _ rfl; (with_reducible repeat first | apply pN_ | apply pD_ | apply pA_); refine blk_put (cs := Z12_0) ?_ 5 _ rfl; (with_reducible repeat first | apply pN_ | apply pD_ | apply pA_); refine blk_put (cs := Z12_0) ?_ 4 _ rfl; (with_reducible repeat first | apply pN_ | apply pD_ | apply pA_); refine blk_put (cs := Z12_0) ?_ 3 _ rfl; (with_reducible repeat first | apply pN_ | apply pD_ | apply pA_); refine blk_put (cs := Z12_0) ?_ 2 _ rfl; (with_reducible repeat first | apply pN_ | apply pD_ | apply pA_); refine blk_put (cs := Z12_0) ?_ 1 _ rfl; (with_reducible repeat first | apply pN_ | apply pD_ | apply pA_); refine blk_put (cs := Z12_0) ?_ 0 _ rfl; (with_reducible repeat first | apply pN_ | apply pD_ | apply pA_); exact BK101.out) Try.underlying90 rfl (by kernel_rfl)) rfl ?_
  exact ⟨_, by first | rfl | (simp [errW_none, errW_some] <;> rfl) | (simp [*, errW_none, errW_some] <;> rfl), by first | exact Kd.R_nil _ _ _ _ _ | exact Kd.N_nil _ _ _ _ _ | exact Kd.V_nil _ _ _ _ _ | exact Kd.Q_nil _ _ _ _ _ | exact Kd.S_nil _ _ _ _ _, bU_ HB.out⟩
 ·rw [if_neg c2] at H
  have c2b0 : decide ((a0.size : Int) < 40) = false := decide_eq_false c2
  have c2b1 : decide (a0.size < 40) = false := decide_eq_false (by omega)
  clear c2
  replace H := Option.bind_eq_some_iff.mp H
  obtain ⟨⟨t102, t103, t104⟩, A50, H⟩ := H
  replace H : (if 4 ≤ (a0.size : Int) then ((octet_Take.f k (a0.extract 4 a0.size) 2).bind fun bt105 => (if 7 < (a0.size : Int) then (if 6 < (a0.size : Int) then (if 8 ≤ 24 then (if 24 ≤ (a0.size : Int) then (if 24 ≤ 40 then (if 40 ≤ (a0.size : Int) then (if (t102 / 268435456) = 6 then (if bt105.1 > (wrap64 ((a0.size : Int) - 40)) then (some (0, 0, 0, 0, (⟨#[]⟩ : ByteArray), (⟨#[]⟩ : ByteArray), ([] : List (S102)), (⟨#[]⟩ : ByteArray), 13)) else (if 40 ≤ (wrap64 (40 + bt105.1)) then (if (wrap64 (40 + bt105.1)) ≤ (a0.size : Int) then (ipsix_Take.l0 k (a0.extract 40 ((wrap64 (40 + bt105.1)) : Int).toNat) (Go.bits .and .i64 (t102 / 1048576) 255) (Go.bits .and .i64 t102 1048575) (wrap64 (bt a0 7)) (wrap64 (bt a0 6)) (a0.extract 8 24) (a0.extract 24 40) ([] : List (S102))) else (none)) else (none))) else (some (0, 0, 0, 0, (⟨#[]⟩ : ByteArray), (⟨#[]⟩ : ByteArray), ([] : List (S102)), (⟨#[]⟩ : ByteArray), 10))) else (none)) else (none)) else (none)) else (none)) else (none)) else (none))) else (none)) = some (r1, r2, r3, r4, r5, r6, r7, r8, r9) := H
  have A5 := Aside0.mk A50
  clear A50
  by_cases c6 : 4 ≤ (a0.size : Int)
  rotate_left
  ·rw [if_neg c6] at H; exact absurd H (by simp)
  rw [if_pos c6] at H
  have c6b0 := eq_true c6
  have c6b1 : decide (4 ≤ (a0.size : Int)) = true := decide_eq_true c6
  clear c6
  replace H := Option.bind_eq_some_iff.mp H
  obtain ⟨⟨t105, t106, t107⟩, A70, H⟩ := H
  replace H : (if 7 < (a0.size : Int) then (if 6 < (a0.size : Int) then (if 8 ≤ 24 then (if 24 ≤ (a0.size : Int) then (if 24 ≤ 40 then (if 40 ≤ (a0.size : Int) then (if (t102 / 268435456) = 6 then (if t105 > (wrap64 ((a0.size : Int) - 40)) then (some (0, 0, 0, 0, (⟨#[]⟩ : ByteArray), (⟨#[]⟩ : ByteArray), ([] : List (S102)), (⟨#[]⟩ : ByteArray), 13)) else (if 40 ≤ (wrap64 (40 + t105)) then (if (wrap64 (40 + t105)) ≤ (a0.size : Int) then (ipsix_Take.l0 k (a0.extract 40 ((wrap64 (40 + t105)) : Int).toNat) (Go.bits .and .i64 (t102 / 1048576) 255) (Go.bits .and .i64 t102 1048575) (wrap64 (bt a0 7)) (wrap64 (bt a0 6)) (a0.extract 8 24) (a0.extract 24 40) ([] : List (S102))) else (none)) else (none))) else (some (0, 0, 0, 0, (⟨#[]⟩ : ByteArray), (⟨#[]⟩ : ByteArray), ([] : List (S102)), (⟨#[]⟩ : ByteArray), 10))) else (none)) else (none)) else (none)) else (none)) else (none)) else (none)) = some (r1, r2, r3, r4, r5, r6, r7, r8, r9) := H
  have A7 := Aside0.mk A70
  clear A70
  by_cases c8 : 7 < (a0.size : Int)
  rotate_left
  ·rw [if_neg c8] at H; exact absurd H (by simp)
  rw [if_pos c8] at H
  have c8b0 : decide (7 < (a0.size : Int)) = true := decide_eq_true c8
  have c8b1 : decide (7 < a0.size) = true := decide_eq_true (by omega)
  clear c8
  by_cases c10 : 6 < (a0.size : Int)
  rotate_left
  ·rw [if_neg c10] at H; exact absurd H (by simp)
  rw [if_pos c10] at H
  have c10b0 : decide (6 < (a0.size : Int)) = true := decide_eq_true c10
  have c10b1 : decide (6 < a0.size) = true := decide_eq_true (by omega)
  clear c10
  by_cases c12 : 8 ≤ 24
  rotate_left
  ·rw [if_neg c12] at H; exact absurd H (by simp)
  rw [if_pos c12] at H
  have c12b0 := eq_true c12
  have c12b1 : decide (8 ≤ 24) = true := decide_eq_true c12
  clear c12
  by_cases c13 : 24 ≤ (a0.size : Int)
  rotate_left
  ·rw [if_neg c13] at H; exact absurd H (by simp)
  rw [if_pos c13] at H
  have c13b0 := eq_true c13
  have c13b1 : decide (24 ≤ (a0.size : Int)) = true := decide_eq_true c13
  clear c13
  by_cases c14 : 24 ≤ 40
  rotate_left
  ·rw [if_neg c14] at H; exact absurd H (by simp)
  rw [if_pos c14] at H
  have c14b0 := eq_true c14
  have c14b1 : decide (24 ≤ 40) = true := decide_eq_true c14
  clear c14
  by_cases c15 : 40 ≤ (a0.size : Int)
  rotate_left
  ·rw [if_neg c15] at H; exact absurd H (by simp)
  rw [if_pos c15] at H
  have c15b0 := eq_true c15
  have c15b1 : decide (40 ≤ (a0.size : Int)) = true := decide_eq_true c15
  clear c15
  by_cases c16 : (t102 / 268435456) = 6
  ·rw [if_pos c16] at H
   have c16b0 : ((t102 / 268435456) == 6) = true := beq_iff_eq.mpr c16
   have c16b1 : ((t102 / 268435456) != 6) = false := bne_eq_false_iff_eq.mpr c16
   clear c16
   by_cases c17 : t105 > (wrap64 ((a0.size : Int) - 40))
   ·rw [if_pos c17] at H
    have c17b0 : decide ((wrap64 ((a0.size : Int) - 40)) < t105) = true := decide_eq_true c17
    clear c17
    simp only [Option.some.injEq, Prod.mk.injEq] at H
    obtain ⟨rfl, rfl, rfl, rfl, rfl, rfl, rfl, rfl, rfl⟩ := H
    go_enter Try.func41, Try.ntmps41
    try go_wp2_with (first | ((with_reducible refine gate_dst (N := 2) rfl ?_); (try (refine gate_guard (by rfl) ?_; dsimp only)); refine bE_ (N := 2) (cs := Z12_0) (t := 90) ?_; intro gb101 hg w18 hbox hb; have n0_ := Aside0.mk (below_step (bU_ HB.out) hb); have n1_ := Aside0.mk (hbox); have n2_ := Aside0.mk (bZ_ hg (bU_ HB.out) : w.heap.size ≤ gb101); have n3_ := n2_; clear HB; have HB := n0_; have BK101 := n1_; have GW101 := n2_; have GE101 := n3_; clear n0_ n1_ n2_ n3_; clear hb hbox hg) | ((with_reducible refine gate_callee (f := 25) rfl ?_); refine gL_ (some 23) rfl rfl Try.func25 (by kernel_rfl) rfl #[.string a0, .int .i64 4] rfl ?_; (with_reducible refine (octet_Take.calls k a0 4 t102 t103 t104 _ A5.out).mono ?_); rintro e w19 ⟨rfl, hb⟩; refine ⟨_, rfl, ?_⟩; have n0_ := Aside0.mk (bB_ BK101.out hb); have n1_ := Aside0.mk (below_step (bU_ HB.out) hb); clear BK101 HB; have BK101 := n0_; have HB := n1_; clear n0_ n1_; (try clear hb); (try clear hb2); (try clear hk); (try clear hi)) | ((with_reducible refine gate_callee (f := 25) rfl ?_); refine gL_ (some 30) rfl rfl Try.func25 (by kernel_rfl) rfl #[.string (a0.extract 4 a0.size), .int .i64 2] rfl ?_; (with_reducible refine (octet_Take.calls k (a0.extract 4 a0.size) 2 t105 t106 t107 _ A7.out).mono ?_); rintro e w20 ⟨rfl, hb⟩; refine ⟨_, rfl, ?_⟩; have n0_ := Aside0.mk (bB_ BK101.out hb); have n1_ := Aside0.mk (below_step (bU_ HB.out) hb); clear BK101 HB; have BK101 := n0_; have HB := n1_; clear n0_ n1_; (try clear hb); (try clear hb2); (try clear hk); (try clear hi)))
    have n0_ := Aside0.mk (blk_drew BK101.out)
    have n1_ := Aside0.mk (below_drew1 HB.out)
    clear BK101
    clear HB
    have BK101 := n0_
    have HB := n1_
    clear n0_ n1_
    have p9 : 0 ≤ (7 : Int) := (by omega)
    have q9 : 7 < a0.size := (by have : (7 : Int) < (a0.size : Int) := oD_; omega)
    have hx9 : ∀ h : 7 < a0.size, ((a0[7]'h).toNat : Int) = bt a0 7 := bt_at a0 7
    clear p9
    have qi9 : (7 < (a0.size : Int)) = True := eq_true oD_
    replace q9 := eq_true q9
    have p11 : 0 ≤ (6 : Int) := (by omega)
    have q11 : 6 < a0.size := (by have : (6 : Int) < (a0.size : Int) := oD_; omega)
    have hx11 : ∀ h : 6 < a0.size, ((a0[6]'h).toNat : Int) = bt a0 6 := bt_at a0 6
    clear p11
    have qi11 : (6 < (a0.size : Int)) = True := eq_true oD_
    replace q11 := eq_true q11
    refine start_ (n := 18) (S := fun w' => True) (ds := []) #[false, false, false, false, false, false, false, false, false, false, false, false, false, false, false, false, false, false] (by kernel_rfl) rfl rfl trivial (fun hHeld => ?_); refine with_tabW ipsix_Take.tab5 ipsix_Take.bits5 (fun HT_ HW_ => ?_)
    generalize w20.drew = w21 at BK101 HB hHeld ⊢
    refine pure_ (i := 0) (N := some 34) (v := ?_) (a' := ?_) #[true, false, false, false, false, false, false, false, false, false, false, false, false, false, false, false, false, false] rfl rfl (any_of HT_.out (by kernel_rfl)) (fun _ _ _ h => h) (Or.inl ⟨by rfl, ?_⟩) ?_ ?_
    rotate_left
    ·intro w'; go_simp; with_reducible rfl
    rotate_left
    ·simp only [Act.put, s1_, s2_, s3_, i64_w, i32_w]; rfl
    refine pure_ (i := 1) (N := some 35) (v := ?_) (a' := ?_) #[true, true, false, false, false, false, false, false, false, false, false, false, false, false, false, false, false, false] rfl rfl (any_of HT_.out (by kernel_rfl)) (fun _ _ _ h => h) (Or.inl ⟨by rfl, ?_⟩) ?_ ?_
    rotate_left
    ·intro w'; go_simp; with_reducible rfl
    rotate_left
    ·simp only [Act.put, s1_, s2_, s3_, i64_w, i32_w]; rfl
    refine pure_ (i := 2) (N := some 36) (v := ?_) (a' := ?_) #[true, true, true, false, false, false, false, false, false, false, false, false, false, false, false, false, false, false] rfl rfl (any_of HT_.out (by kernel_rfl)) (fun _ _ _ h => h) (Or.inl ⟨by rfl, ?_⟩) ?_ ?_
    rotate_left
    ·intro w'; go_simp; with_reducible rfl
    rotate_left
    ·simp only [Act.put, s1_, s2_, s3_, i64_w, i32_w]; rfl
    refine pure_ (i := 3) (N := some 37) (v := ?_) (a' := ?_) #[true, true, true, true, false, false, false, false, false, false, false, false, false, false, false, false, false, false] rfl rfl (any_of HT_.out (by kernel_rfl)) (fun _ _ _ h => h) (Or.inl ⟨by rfl, ?_⟩) ?_ ?_
    rotate_left
    ·intro w'; go_simp; with_reducible rfl
    rotate_left
    ·simp only [Act.put, s1_, s2_, s3_, i64_w, i32_w]; rfl
    refine pure_ (i := 4) (N := some 38) (v := ?_) (a' := ?_) #[true, true, true, true, true, false, false, false, false, false, false, false, false, false, false, false, false, false] rfl rfl (any_of HT_.out (by kernel_rfl)) (fun _ _ _ h => h) (Or.inl ⟨by rfl, ?_⟩) ?_ ?_
    rotate_left
    ·intro w'; go_simp; with_reducible rfl
    rotate_left
    ·simp only [Act.put, s1_, s2_, s3_, i64_w, i32_w]; rfl
    refine pure_ (i := 5) (N := some 39) (v := ?_) (a' := ?_) #[true, true, true, true, true, true, false, false, false, false, false, false, false, false, false, false, false, false] rfl rfl (any_of HT_.out (by kernel_rfl)) (fun _ _ _ h => h) (Or.inl ⟨by rfl, ?_⟩) ?_ ?_
    rotate_left
    ·intro w'; go_simp; with_reducible rfl
    rotate_left
    ·simp only [Act.put, s1_, s2_, s3_, i64_w, i32_w]; rfl
    refine pure_ (i := 8) (N := some 42) (v := ?_) (a' := ?_) #[true, true, true, true, true, true, false, false, true, false, false, false, false, false, false, false, false, false] rfl rfl (any_of HT_.out (by kernel_rfl)) (fun _ _ _ h => h) (Or.inl ⟨by rfl, ?_⟩) ?_ ?_
    rotate_left
    ·intro w'; go_simp; with_reducible rfl
    rotate_left
    ·simp only [Act.put, s1_, s2_, s3_, i64_w, i32_w]; rfl
    refine pure_ (i := 11) (N := some 45) (v := ?_) (a' := ?_) #[true, true, true, true, true, true, false, false, true, false, false, true, false, false, false, false, false, false] rfl rfl (any_of HT_.out (by kernel_rfl)) (fun _ _ _ h => h) (Or.inl ⟨by rfl, ?_⟩) ?_ ?_
    rotate_left
    ·intro w'; go_simp; with_reducible rfl
    rotate_left
    ·simp only [Act.put, s1_, s2_, s3_, i64_w, i32_w]; rfl
    refine pure_ (i := 12) (N := some 46) (v := ?_) (a' := ?_) #[true, true, true, true, true, true, false, false, true, false, false, true, true, false, false, false, false, false] rfl rfl (any_of HT_.out (by kernel_rfl)) (fun _ _ _ h => h) (Or.inl ⟨by rfl, ?_⟩) ?_ ?_
    rotate_left
    ·intro w'; go_simp; with_reducible rfl
    rotate_left
    ·simp only [Act.put, s1_, s2_, s3_, i64_w, i32_w]; rfl
    refine pure_ (i := 13) (N := some 47) (v := ?_) (a' := ?_) #[true, true, true, true, true, true, false, false, true, false, false, true, true, true, false, false, false, false] rfl rfl (any_of HT_.out (by kernel_rfl)) (fun _ _ _ h => h) (Or.inl ⟨by rfl, ?_⟩) ?_ ?_
    rotate_left
    ·intro w'; go_simp; with_reducible rfl
    rotate_left
    ·simp only [Act.put, s1_, s2_, s3_, i64_w, i32_w]; rfl
    refine pure_ (i := 14) (N := some 48) (v := ?_) (a' := ?_) #[true, true, true, true, true, true, false, false, true, false, false, true, true, true, true, false, false, false] rfl rfl (any_of HT_.out (by kernel_rfl)) (fun _ _ _ h => h) (Or.inl ⟨by rfl, ?_⟩) ?_ ?_
    rotate_left
    ·intro w'; go_simp; with_reducible rfl
    rotate_left
    ·simp only [Act.put, s1_, s2_, s3_, i64_w, i32_w]; rfl
    refine take_ (i := 6) (N := some 40) (v := ?_) (a' := ?_) #[true, true, true, true, true, true, true, false, true, false, false, true, true, true, true, false, false, false] rfl rfl (take_ofW HT_.out HW_.out (by kernel_rfl)) (fun _ _ _ h => h) (Or.inl ⟨by rfl, ?_⟩) hHeld ?_ ?_
    rotate_left
    ·intro w' _
     go_simp
     with_reducible rfl
    rotate_left
    ·simp only [Act.put, s1_, s2_, s3_, i64_w, i32_w]; rfl
    refine pure_ (i := 7) (N := some 41) (v := ?_) (a' := ?_) #[true, true, true, true, true, true, true, true, true, false, false, true, true, true, true, false, false, false] rfl rfl (any_of HT_.out (by kernel_rfl)) (fun _ _ _ h => h) (Or.inl ⟨by rfl, ?_⟩) ?_ ?_
    rotate_left
    ·intro w'; go_simp; with_reducible rfl
    rotate_left
    ·simp only [Act.put, s1_, s2_, s3_, i64_w, i32_w]; rfl
    refine take_ (i := 9) (N := some 43) (v := ?_) (a' := ?_) #[true, true, true, true, true, true, true, true, true, true, false, true, true, true, true, false, false, false] rfl rfl (take_ofW HT_.out HW_.out (by kernel_rfl)) (fun _ _ _ h => h) (Or.inl ⟨by rfl, ?_⟩) hHeld ?_ ?_
    rotate_left
    ·intro w' _
     go_simp
     with_reducible rfl
    rotate_left
    ·simp only [Act.put, s1_, s2_, s3_, i64_w, i32_w]; rfl
    refine pure_ (i := 10) (N := some 44) (v := ?_) (a' := ?_) #[true, true, true, true, true, true, true, true, true, true, true, true, true, true, true, false, false, false] rfl rfl (any_of HT_.out (by kernel_rfl)) (fun _ _ _ h => h) (Or.inl ⟨by rfl, ?_⟩) ?_ ?_
    rotate_left
    ·intro w'; go_simp; with_reducible rfl
    rotate_left
    ·simp only [Act.put, s1_, s2_, s3_, i64_w, i32_w]; rfl
    refine pure_ (i := 15) (N := some 49) (v := ?_) (a' := ?_) #[true, true, true, true, true, true, true, true, true, true, true, true, true, true, true, true, false, false] rfl rfl (any_of HT_.out (by kernel_rfl)) (fun _ _ _ h => h) (Or.inl ⟨by rfl, ?_⟩) ?_ ?_
    rotate_left
    ·intro w'; go_simp; with_reducible rfl
    rotate_left
    ·simp only [Act.put, s1_, s2_, s3_, i64_w, i32_w]; rfl
    refine one_ (i := 16) (N := some 11) #[true, true, true, true, true, true, true, true, true, true, true, true, true, true, true, true, true, false] rfl rfl (one_of HT_.out (by kernel_rfl)) (by decide) (fun K hK => ?_)
    refine box_step ?hg (N := 11) ?hd (cs := Z12_0) (t := 90) ?hr ?_; (case hd => rfl); (case hg => rfl); (case hr => first | (go_simp; done) | (go_simp; rfl))
    intro gb108 hg w22 hbox hb
    have n0_ := Aside0.mk (bB_ BK101.out hb)
    have n1_ := Aside0.mk (below_step (bU_ HB.out) hb)
    have n2_ := Aside0.mk (hbox)
    have n3_ := Aside0.mk (bZ_ hg (bU_ HB.out) : w.heap.size ≤ gb108)
    have n4_ := Aside0.mk (bZ_ hg (bU_ HB.out) : w.heap.size ≤ gb108)
    have n5_ := Aside0.mk ((bN_ hg BK101.out : gb101 ≠ gb108))
    have n6_ := Aside0.mk ((by rw [hg]; exact Nat.ne_of_gt (blk_lt (g := gb101) (o := .cells Z12_0 90 (0, 0)) (by (with_reducible repeat first | apply pN_ | apply pD_ | apply pA_); exact BK101.out)) : gb108 ≠ gb101))
    clear BK101
    clear HB
    have BK101 := n0_
    have HB := n1_
    have BK108 := n2_
    have GW108 := n3_
    have GE108 := n4_
    have NB101_108 := n5_
    have NB108_101 := n6_
    clear n0_ n1_ n2_ n3_ n4_ n5_ n6_
    clear hb hbox hg
    refine hK.out _ _ trivial (fun hHeld => ?_)
    clear hK K
    refine norm_ (a' := ?_) ?_ ?_
    rotate_left
    ·show Act.put _ (some 11) _ = _
     simp only [Act.put, s1_, s2_, s3_, i64_w, i32_w]; rfl
    refine one_ (i := 17) (N := none) #[true, true, true, true, true, true, true, true, true, true, true, true, true, true, true, true, true, true] rfl rfl (one_of HT_.out (by kernel_rfl)) (by decide) (fun K hK => ?_)
    have hs23 : w22.cell? ⟨gb108, 0, none⟩ = some (.int .i64 0) := (blk_cell BK108.out 0).trans rfl
    have hfs23 := blk_frozen BK108.out 0
    have hns23_0 := NB101_108.out
    have hms23_0 := NB108_101.out
    have hs24 : w22.cell? ⟨gb108, 1, none⟩ = some (.int .i64 0) := (blk_cell BK108.out 1).trans rfl
    have hfs24 := blk_frozen BK108.out 1
    have hns24_0 := NB101_108.out
    have hms24_0 := NB108_101.out
    have hs25 : w22.cell? ⟨gb108, 2, none⟩ = some (.int .i64 0) := (blk_cell BK108.out 2).trans rfl
    have hfs25 := blk_frozen BK108.out 2
    have hns25_0 := NB101_108.out
    have hms25_0 := NB108_101.out
    have hs26 : w22.cell? ⟨gb108, 3, none⟩ = some (.int .i64 0) := (blk_cell BK108.out 3).trans rfl
    have hfs26 := blk_frozen BK108.out 3
    have hns26_0 := NB101_108.out
    have hms26_0 := NB108_101.out
    have hs27 : w22.cell? ⟨gb108, 4, none⟩ = some (.string ⟨#[]⟩) := (blk_cell BK108.out 4).trans rfl
    have hfs27 := blk_frozen BK108.out 4
    have hns27_0 := NB101_108.out
    have hms27_0 := NB108_101.out
    have hs28 : w22.cell? ⟨gb108, 5, none⟩ = some (.string ⟨#[]⟩) := (blk_cell BK108.out 5).trans rfl
    have hfs28 := blk_frozen BK108.out 5
    have hns28_0 := NB101_108.out
    have hms28_0 := NB108_101.out
    have hs29 : w22.cell? ⟨gb108, 6, none⟩ = some (.slice none 0 0) := (blk_cell BK108.out 6).trans rfl
    have hfs29 := blk_frozen BK108.out 6
    have hns29_0 := NB101_108.out
    have hms29_0 := NB108_101.out
    refine skip_ (w1 := ?_) (by rfl) rfl ?_ ?_
    rotate_left
    ·go_simp
     rfl
    refine hK.out _ _ trivial (fun hHeld => ?_)
    clear hK K
    refine done_ (done_of HT_.out (by kernel_rfl)) ?_
    have hnb30 := NB101_108.out
    have hnc30 := NB108_101.out
    have hcz31_0 : w22.cell? ⟨gb101, 0, none⟩ = some (.int .i64 0) := (blk_cell BK101.out 0).trans rfl
    have hcz31_1 : w22.cell? ⟨gb101, 1, none⟩ = some (.int .i64 0) := (blk_cell BK101.out 1).trans rfl
    have hcz31_2 : w22.cell? ⟨gb101, 2, none⟩ = some (.int .i64 0) := (blk_cell BK101.out 2).trans rfl
    have hcz31_3 : w22.cell? ⟨gb101, 3, none⟩ = some (.int .i64 0) := (blk_cell BK101.out 3).trans rfl
    have hcz31_4 : w22.cell? ⟨gb101, 4, none⟩ = some (.string ⟨#[]⟩) := (blk_cell BK101.out 4).trans rfl
    have hcz31_5 : w22.cell? ⟨gb101, 5, none⟩ = some (.string ⟨#[]⟩) := (blk_cell BK101.out 5).trans rfl
    have hcz31_6 : w22.cell? ⟨gb101, 6, none⟩ = some (.slice none 0 0) := (blk_cell BK101.out 6).trans rfl
    have hfz31_0 := blk_frozen BK101.out 0; have hfz31_1 := blk_frozen BK101.out 1; have hfz31_2 := blk_frozen BK101.out 2; have hfz31_3 := blk_frozen BK101.out 3; have hfz31_4 := blk_frozen BK101.out 4; have hfz31_5 := blk_frozen BK101.out 5; have hfz31_6 := blk_frozen BK101.out 6
    try go_wp2
    refine bodyPost_ret (results_ctt rfl _ _ gb101 90 #[.int .i64 0, .int .i64 0, .int .i64 0, .int .i64 0, .string ⟨#[]⟩, .string ⟨#[]⟩, .slice none 0 0] (0, 0) _ rfl (by (with_reducible repeat first | apply pN_ | apply pD_ | apply pA_); refine blk_put (cs := Z12_0) ?_ 6 _ rfl; (with_reducible repeat first | apply pN_ | apply pD_ | apply pA_); refine blk_put (cs := Z12_0) ?_ 5 _ rfl; (with_reducible repeat first | apply pN_ | apply pD_ | apply pA_); refine blk_put (cs := Z12_0) ?_ 4 _ rfl; (with_reducible repeat first | apply pN_ | apply pD_ | apply pA_); refine blk_put (cs := Z12_0) ?_ 3 _ rfl; (with_reducible repeat first | apply pN_ | apply pD_ | apply pA_); refine blk_put (cs := Z12_0) ?_ 2 _ rfl; (with_reducible repeat first | apply pN_ | apply pD_ | apply pA_); refine blk_put (cs := Z12_0) ?_ 1 _ rfl; (with_reducible repeat first | apply pN_ | apply pD_ | apply pA_); refine blk_put (cs := Z12_0) ?_ 0 _ rfl; (iterate 7 ((with_reducible repeat first | apply pN_ | apply pD_ | apply pA_); refine blk_far ?_ NB101_108.out _)); (with_reducible repeat first | apply pN_ | apply pD_ | apply pA_); exact BK101.out) Try.underlying90 rfl (by kernel_rfl)) rfl ?_
    exact ⟨_, by first | rfl | (simp [errW_none, errW_some] <;> rfl) | (simp [*, errW_none, errW_some] <;> rfl), by first | exact Kd.R_nil _ _ _ _ _ | exact Kd.N_nil _ _ _ _ _ | exact Kd.V_nil _ _ _ _ _ | exact Kd.Q_nil _ _ _ _ _ | exact Kd.S_nil _ _ _ _ _, bU_ HB.out⟩
   ·rw [if_neg c17] at H
    have c17b0 : decide ((wrap64 ((a0.size : Int) - 40)) < t105) = false := decide_eq_false c17
    clear c17
    by_cases c32 : 40 ≤ (wrap64 (40 + t105))
    rotate_left
    ·rw [if_neg c32] at H; exact absurd H (by simp)
    rw [if_pos c32] at H
    have c32b0 := eq_true c32
    have c32b1 : decide (40 ≤ (wrap64 (40 + t105))) = true := decide_eq_true c32
    by_cases c33 : (wrap64 (40 + t105)) ≤ (a0.size : Int)
    rotate_left
    ·rw [if_neg c33] at H; exact absurd H (by simp)
    rw [if_pos c33] at H
    have c33b0 := eq_true c33
    have c33b1 : decide ((wrap64 (40 + t105)) ≤ (a0.size : Int)) = true := decide_eq_true c33
    have H' := Aside0.mk H
    clear H
    go_enter Try.func41, Try.ntmps41
    try go_wp2_with (first | ((with_reducible refine gate_dst (N := 2) rfl ?_); (try (refine gate_guard (by rfl) ?_; dsimp only)); refine bE_ (N := 2) (cs := Z12_0) (t := 90) ?_; intro gb101 hg w34 hbox hb; have n0_ := Aside0.mk (below_step (bU_ HB.out) hb); have n1_ := Aside0.mk (hbox); have n2_ := Aside0.mk (bZ_ hg (bU_ HB.out) : w.heap.size ≤ gb101); have n3_ := n2_; clear HB; have HB := n0_; have BK101 := n1_; have GW101 := n2_; have GE101 := n3_; clear n0_ n1_ n2_ n3_; clear hb hbox hg) | ((with_reducible refine gate_callee (f := 25) rfl ?_); refine gL_ (some 23) rfl rfl Try.func25 (by kernel_rfl) rfl #[.string a0, .int .i64 4] rfl ?_; (with_reducible refine (octet_Take.calls k a0 4 t102 t103 t104 _ A5.out).mono ?_); rintro e w35 ⟨rfl, hb⟩; refine ⟨_, rfl, ?_⟩; have n0_ := Aside0.mk (bB_ BK101.out hb); have n1_ := Aside0.mk (below_step (bU_ HB.out) hb); clear BK101 HB; have BK101 := n0_; have HB := n1_; clear n0_ n1_; (try clear hb); (try clear hb2); (try clear hk); (try clear hi)) | ((with_reducible refine gate_callee (f := 25) rfl ?_); refine gL_ (some 30) rfl rfl Try.func25 (by kernel_rfl) rfl #[.string (a0.extract 4 a0.size), .int .i64 2] rfl ?_; (with_reducible refine (octet_Take.calls k (a0.extract 4 a0.size) 2 t105 t106 t107 _ A7.out).mono ?_); rintro e w36 ⟨rfl, hb⟩; refine ⟨_, rfl, ?_⟩; have n0_ := Aside0.mk (bB_ BK101.out hb); have n1_ := Aside0.mk (below_step (bU_ HB.out) hb); clear BK101 HB; have BK101 := n0_; have HB := n1_; clear n0_ n1_; (try clear hb); (try clear hb2); (try clear hk); (try clear hi)))
    have n0_ := Aside0.mk (blk_drew BK101.out)
    have n1_ := Aside0.mk (below_drew1 HB.out)
    clear BK101
    clear HB
    have BK101 := n0_
    have HB := n1_
    clear n0_ n1_
    have p9 : 0 ≤ (7 : Int) := (by omega)
    have q9 : 7 < a0.size := (by have : (7 : Int) < (a0.size : Int) := oD_; omega)
    have hx9 : ∀ h : 7 < a0.size, ((a0[7]'h).toNat : Int) = bt a0 7 := bt_at a0 7
    clear p9
    have qi9 : (7 < (a0.size : Int)) = True := eq_true oD_
    replace q9 := eq_true q9
    have p11 : 0 ≤ (6 : Int) := (by omega)
    have q11 : 6 < a0.size := (by have : (6 : Int) < (a0.size : Int) := oD_; omega)
    have hx11 : ∀ h : 6 < a0.size, ((a0[6]'h).toNat : Int) = bt a0 6 := bt_at a0 6
    clear p11
    have qi11 : (6 < (a0.size : Int)) = True := eq_true oD_
    replace q11 := eq_true q11
    refine start_ (n := 18) (S := fun w' => True) (ds := []) #[false, false, false, false, false, false, false, false, false, false, false, false, false, false, false, false, false, false] (by kernel_rfl) rfl rfl trivial (fun hHeld => ?_); refine with_tabW ipsix_Take.tab5 ipsix_Take.bits5 (fun HT_ HW_ => ?_)
    generalize w36.drew = w37 at BK101 HB hHeld ⊢
    refine pure_ (i := 0) (N := some 34) (v := ?_) (a' := ?_) #[true, false, false, false, false, false, false, false, false, false, false, false, false, false, false, false, false, false] rfl rfl (any_of HT_.out (by kernel_rfl)) (fun _ _ _ h => h) (Or.inl ⟨by rfl, ?_⟩) ?_ ?_
    rotate_left
    ·intro w'; go_simp; with_reducible rfl
    rotate_left
    ·simp only [Act.put, s1_, s2_, s3_, i64_w, i32_w]; rfl
    refine pure_ (i := 1) (N := some 35) (v := ?_) (a' := ?_) #[true, true, false, false, false, false, false, false, false, false, false, false, false, false, false, false, false, false] rfl rfl (any_of HT_.out (by kernel_rfl)) (fun _ _ _ h => h) (Or.inl ⟨by rfl, ?_⟩) ?_ ?_
    rotate_left
    ·intro w'; go_simp; with_reducible rfl
    rotate_left
    ·simp only [Act.put, s1_, s2_, s3_, i64_w, i32_w]; rfl
    refine pure_ (i := 2) (N := some 36) (v := ?_) (a' := ?_) #[true, true, true, false, false, false, false, false, false, false, false, false, false, false, false, false, false, false] rfl rfl (any_of HT_.out (by kernel_rfl)) (fun _ _ _ h => h) (Or.inl ⟨by rfl, ?_⟩) ?_ ?_
    rotate_left
    ·intro w'; go_simp; with_reducible rfl
    rotate_left
    ·simp only [Act.put, s1_, s2_, s3_, i64_w, i32_w]; rfl
    refine pure_ (i := 3) (N := some 37) (v := ?_) (a' := ?_) #[true, true, true, true, false, false, false, false, false, false, false, false, false, false, false, false, false, false] rfl rfl (any_of HT_.out (by kernel_rfl)) (fun _ _ _ h => h) (Or.inl ⟨by rfl, ?_⟩) ?_ ?_
    rotate_left
    ·intro w'; go_simp; with_reducible rfl
    rotate_left
    ·simp only [Act.put, s1_, s2_, s3_, i64_w, i32_w]; rfl
    refine pure_ (i := 4) (N := some 38) (v := ?_) (a' := ?_) #[true, true, true, true, true, false, false, false, false, false, false, false, false, false, false, false, false, false] rfl rfl (any_of HT_.out (by kernel_rfl)) (fun _ _ _ h => h) (Or.inl ⟨by rfl, ?_⟩) ?_ ?_
    rotate_left
    ·intro w'; go_simp; with_reducible rfl
    rotate_left
    ·simp only [Act.put, s1_, s2_, s3_, i64_w, i32_w]; rfl
    refine pure_ (i := 5) (N := some 39) (v := ?_) (a' := ?_) #[true, true, true, true, true, true, false, false, false, false, false, false, false, false, false, false, false, false] rfl rfl (any_of HT_.out (by kernel_rfl)) (fun _ _ _ h => h) (Or.inl ⟨by rfl, ?_⟩) ?_ ?_
    rotate_left
    ·intro w'; go_simp; with_reducible rfl
    rotate_left
    ·simp only [Act.put, s1_, s2_, s3_, i64_w, i32_w]; rfl
    refine pure_ (i := 8) (N := some 42) (v := ?_) (a' := ?_) #[true, true, true, true, true, true, false, false, true, false, false, false, false, false, false, false, false, false] rfl rfl (any_of HT_.out (by kernel_rfl)) (fun _ _ _ h => h) (Or.inl ⟨by rfl, ?_⟩) ?_ ?_
    rotate_left
    ·intro w'; go_simp; with_reducible rfl
    rotate_left
    ·simp only [Act.put, s1_, s2_, s3_, i64_w, i32_w]; rfl
    refine pure_ (i := 11) (N := some 45) (v := ?_) (a' := ?_) #[true, true, true, true, true, true, false, false, true, false, false, true, false, false, false, false, false, false] rfl rfl (any_of HT_.out (by kernel_rfl)) (fun _ _ _ h => h) (Or.inl ⟨by rfl, ?_⟩) ?_ ?_
    rotate_left
    ·intro w'; go_simp; with_reducible rfl
    rotate_left
    ·simp only [Act.put, s1_, s2_, s3_, i64_w, i32_w]; rfl
    refine pure_ (i := 12) (N := some 46) (v := ?_) (a' := ?_) #[true, true, true, true, true, true, false, false, true, false, false, true, true, false, false, false, false, false] rfl rfl (any_of HT_.out (by kernel_rfl)) (fun _ _ _ h => h) (Or.inl ⟨by rfl, ?_⟩) ?_ ?_
    rotate_left
    ·intro w'; go_simp; with_reducible rfl
    rotate_left
    ·simp only [Act.put, s1_, s2_, s3_, i64_w, i32_w]; rfl
    refine pure_ (i := 13) (N := some 47) (v := ?_) (a' := ?_) #[true, true, true, true, true, true, false, false, true, false, false, true, true, true, false, false, false, false] rfl rfl (any_of HT_.out (by kernel_rfl)) (fun _ _ _ h => h) (Or.inl ⟨by rfl, ?_⟩) ?_ ?_
    rotate_left
    ·intro w'; go_simp; with_reducible rfl
    rotate_left
    ·simp only [Act.put, s1_, s2_, s3_, i64_w, i32_w]; rfl
    refine pure_ (i := 14) (N := some 48) (v := ?_) (a' := ?_) #[true, true, true, true, true, true, false, false, true, false, false, true, true, true, true, false, false, false] rfl rfl (any_of HT_.out (by kernel_rfl)) (fun _ _ _ h => h) (Or.inl ⟨by rfl, ?_⟩) ?_ ?_
    rotate_left
    ·intro w'; go_simp; with_reducible rfl
    rotate_left
    ·simp only [Act.put, s1_, s2_, s3_, i64_w, i32_w]; rfl
    refine take_ (i := 6) (N := some 40) (v := ?_) (a' := ?_) #[true, true, true, true, true, true, true, false, true, false, false, true, true, true, true, false, false, false] rfl rfl (take_ofW HT_.out HW_.out (by kernel_rfl)) (fun _ _ _ h => h) (Or.inl ⟨by rfl, ?_⟩) hHeld ?_ ?_
    rotate_left
    ·intro w' _
     go_simp
     with_reducible rfl
    rotate_left
    ·simp only [Act.put, s1_, s2_, s3_, i64_w, i32_w]; rfl
    refine pure_ (i := 7) (N := some 41) (v := ?_) (a' := ?_) #[true, true, true, true, true, true, true, true, true, false, false, true, true, true, true, false, false, false] rfl rfl (any_of HT_.out (by kernel_rfl)) (fun _ _ _ h => h) (Or.inl ⟨by rfl, ?_⟩) ?_ ?_
    rotate_left
    ·intro w'; go_simp; with_reducible rfl
    rotate_left
    ·simp only [Act.put, s1_, s2_, s3_, i64_w, i32_w]; rfl
    refine take_ (i := 9) (N := some 43) (v := ?_) (a' := ?_) #[true, true, true, true, true, true, true, true, true, true, false, true, true, true, true, false, false, false] rfl rfl (take_ofW HT_.out HW_.out (by kernel_rfl)) (fun _ _ _ h => h) (Or.inl ⟨by rfl, ?_⟩) hHeld ?_ ?_
    rotate_left
    ·intro w' _
     go_simp
     with_reducible rfl
    rotate_left
    ·simp only [Act.put, s1_, s2_, s3_, i64_w, i32_w]; rfl
    refine pure_ (i := 10) (N := some 44) (v := ?_) (a' := ?_) #[true, true, true, true, true, true, true, true, true, true, true, true, true, true, true, false, false, false] rfl rfl (any_of HT_.out (by kernel_rfl)) (fun _ _ _ h => h) (Or.inl ⟨by rfl, ?_⟩) ?_ ?_
    rotate_left
    ·intro w'; go_simp; with_reducible rfl
    rotate_left
    ·simp only [Act.put, s1_, s2_, s3_, i64_w, i32_w]; rfl
    refine pure_ (i := 15) (N := some 49) (v := ?_) (a' := ?_) #[true, true, true, true, true, true, true, true, true, true, true, true, true, true, true, true, false, false] rfl rfl (any_of HT_.out (by kernel_rfl)) (fun _ _ _ h => h) (Or.inl ⟨by rfl, ?_⟩) ?_ ?_
    rotate_left
    ·intro w'; go_simp; with_reducible rfl
    rotate_left
    ·simp only [Act.put, s1_, s2_, s3_, i64_w, i32_w]; rfl
    refine one_ (i := 16) (N := some 11) #[true, true, true, true, true, true, true, true, true, true, true, true, true, true, true, true, true, false] rfl rfl (one_of HT_.out (by kernel_rfl)) (by decide) (fun K hK => ?_)
    refine box_step ?hg (N := 11) ?hd (cs := Z12_0) (t := 90) ?hr ?_; (case hd => rfl); (case hg => rfl); (case hr => first | (go_simp; done) | (go_simp; rfl))
    intro gb108 hg w38 hbox hb
    have n0_ := Aside0.mk (bB_ BK101.out hb)
    have n1_ := Aside0.mk (below_step (bU_ HB.out) hb)
    have n2_ := Aside0.mk (hbox)
    have n3_ := Aside0.mk (bZ_ hg (bU_ HB.out) : w.heap.size ≤ gb108)
    have n4_ := Aside0.mk (bZ_ hg (bU_ HB.out) : w.heap.size ≤ gb108)
    have n5_ := Aside0.mk ((bN_ hg BK101.out : gb101 ≠ gb108))
    have n6_ := Aside0.mk ((by rw [hg]; exact Nat.ne_of_gt (blk_lt (g := gb101) (o := .cells Z12_0 90 (0, 0)) (by (with_reducible repeat first | apply pN_ | apply pD_ | apply pA_); exact BK101.out)) : gb108 ≠ gb101))
    clear BK101
    clear HB
    have BK101 := n0_
    have HB := n1_
    have BK108 := n2_
    have GW108 := n3_
    have GE108 := n4_
    have NB101_108 := n5_
    have NB108_101 := n6_
    clear n0_ n1_ n2_ n3_ n4_ n5_ n6_
    clear hb hbox hg
    refine hK.out _ _ trivial (fun hHeld => ?_)
    clear hK K
    refine norm_ (a' := ?_) ?_ ?_
    rotate_left
    ·show Act.put _ (some 11) _ = _
     simp only [Act.put, s1_, s2_, s3_, i64_w, i32_w]; rfl
    refine one_ (i := 17) (N := none) #[true, true, true, true, true, true, true, true, true, true, true, true, true, true, true, true, true, true] rfl rfl (one_of HT_.out (by kernel_rfl)) (by decide) (fun K hK => ?_)
    have hs39 : w38.cell? ⟨gb108, 0, none⟩ = some (.int .i64 0) := (blk_cell BK108.out 0).trans rfl
    have hfs39 := blk_frozen BK108.out 0
    have hns39_0 := NB101_108.out
    have hms39_0 := NB108_101.out
    have hs40 : w38.cell? ⟨gb108, 1, none⟩ = some (.int .i64 0) := (blk_cell BK108.out 1).trans rfl
    have hfs40 := blk_frozen BK108.out 1
    have hns40_0 := NB101_108.out
    have hms40_0 := NB108_101.out
    have hs41 : w38.cell? ⟨gb108, 2, none⟩ = some (.int .i64 0) := (blk_cell BK108.out 2).trans rfl
    have hfs41 := blk_frozen BK108.out 2
    have hns41_0 := NB101_108.out
    have hms41_0 := NB108_101.out
    have hs42 : w38.cell? ⟨gb108, 3, none⟩ = some (.int .i64 0) := (blk_cell BK108.out 3).trans rfl
    have hfs42 := blk_frozen BK108.out 3
    have hns42_0 := NB101_108.out
    have hms42_0 := NB108_101.out
    have hs43 : w38.cell? ⟨gb108, 4, none⟩ = some (.string ⟨#[]⟩) := (blk_cell BK108.out 4).trans rfl
    have hfs43 := blk_frozen BK108.out 4
    have hns43_0 := NB101_108.out
    have hms43_0 := NB108_101.out
    have hs44 : w38.cell? ⟨gb108, 5, none⟩ = some (.string ⟨#[]⟩) := (blk_cell BK108.out 5).trans rfl
    have hfs44 := blk_frozen BK108.out 5
    have hns44_0 := NB101_108.out
    have hms44_0 := NB108_101.out
    have hs45 : w38.cell? ⟨gb108, 6, none⟩ = some (.slice none 0 0) := (blk_cell BK108.out 6).trans rfl
    have hfs45 := blk_frozen BK108.out 6
    have hns45_0 := NB101_108.out
    have hms45_0 := NB108_101.out
    refine skip_ (w1 := ?_) (by rfl) rfl ?_ ?_
    rotate_left
    ·go_simp
     rfl
    refine hK.out _ _ trivial (fun hHeld => ?_)
    clear hK K
    refine done_ (done_of HT_.out (by kernel_rfl)) ?_
    try go_wp2
    go_loopg [12] k (fun kq v12 w' => ∃ (x12_1 : ByteArray) (x102000_1 : Int) (x102001_1 : Int) (x102002_1 : Int) (x102003_1 : Int) (x102004_1 : ByteArray) (x102005_1 : ByteArray) (x109003_1 : Int) (x109006_1 : List (S102)) (u109006 : Value), v12 = .string x12_1 ∧ Aside0 (ipsix_Take.l0 kq x12_1 (Go.bits .and .i64 (t102 / 1048576) 255) (Go.bits .and .i64 t102 1048575) (wrap64 (bt a0 7)) x109003_1 (a0.extract 8 24) (a0.extract 24 40) x109006_1 = some (r1, r2, r3, r4, r5, r6, r7, r8, r9)) ∧ Aside0 (kq ≤ k) ∧ Aside0 (Kd.R k102 102 w' w.heap.size (fun _ => True) u109006 x109006_1) ∧ Aside0 (w'.heap[gb101]? = some (.cells #[.int .i64 x102000_1, .int .i64 x102001_1, .int .i64 x102002_1, .int .i64 x102003_1, .string x102004_1, .string x102005_1, (.slice none 0 0)] 90 (0, 0))) ∧ Aside0 (w'.heap[gb108]? = some (.cells #[.int .i64 (Go.bits .and .i64 (t102 / 1048576) 255), .int .i64 (Go.bits .and .i64 t102 1048575), .int .i64 (wrap64 (bt a0 7)), .int .i64 x109003_1, .string (a0.extract 8 24), .string (a0.extract 24 40), u109006] 90 (0, 0))) ∧ Aside0 (Below w.heap.size w w'))
    case atStart => exact ⟨(a0.extract 40 ((wrap64 (40 + t105)) : Int).toNat), (0), (0), (0), (0), ((⟨#[]⟩ : ByteArray)), ((⟨#[]⟩ : ByteArray)), (wrap64 (bt a0 6)), (([] : List (S102))), (.slice none 0 0), (by first | rfl | (simp; done) | (simp [*]; done)), H', ⟨Nat.le_refl _⟩, ⟨by first | exact Kd.R_nil _ _ _ _ _ | exact Kd.N_nil _ _ _ _ _ | exact Kd.V_nil _ _ _ _ _ | exact Kd.Q_nil _ _ _ _ _ | exact Kd.S_nil _ _ _ _ _⟩, ⟨by (iterate 7 ((with_reducible repeat first | apply pN_ | apply pD_ | apply pA_); refine blk_far ?_ NB101_108.out _)); (with_reducible repeat first | apply pN_ | apply pD_ | apply pA_); exact BK101.out⟩, ⟨by (with_reducible repeat first | apply pN_ | apply pD_ | apply pA_); refine blk_put (cs := #[.int .i64 (Go.bits .and .i64 (t102 / 1048576) 255), .int .i64 (Go.bits .and .i64 t102 1048575), .int .i64 (wrap64 (bt a0 7)), .int .i64 (wrap64 (bt a0 6)), .string (a0.extract 8 24), .string (a0.extract 24 40), .slice none 0 0]) ?_ 6 _ rfl; (with_reducible repeat first | apply pN_ | apply pD_ | apply pA_); refine blk_put (cs := #[.int .i64 (Go.bits .and .i64 (t102 / 1048576) 255), .int .i64 (Go.bits .and .i64 t102 1048575), .int .i64 (wrap64 (bt a0 7)), .int .i64 (wrap64 (bt a0 6)), .string (a0.extract 8 24), .string ⟨#[]⟩, .slice none 0 0]) ?_ 5 _ rfl; (with_reducible repeat first | apply pN_ | apply pD_ | apply pA_); refine blk_put (cs := #[.int .i64 (Go.bits .and .i64 (t102 / 1048576) 255), .int .i64 (Go.bits .and .i64 t102 1048575), .int .i64 (wrap64 (bt a0 7)), .int .i64 (wrap64 (bt a0 6)), .string ⟨#[]⟩, .string ⟨#[]⟩, .slice none 0 0]) ?_ 4 _ rfl; (with_reducible repeat first | apply pN_ | apply pD_ | apply pA_); refine blk_put (cs := #[.int .i64 (Go.bits .and .i64 (t102 / 1048576) 255), .int .i64 (Go.bits .and .i64 t102 1048575), .int .i64 (wrap64 (bt a0 7)), .int .i64 0, .string ⟨#[]⟩, .string ⟨#[]⟩, .slice none 0 0]) ?_ 3 _ rfl; (with_reducible repeat first | apply pN_ | apply pD_ | apply pA_); refine blk_put (cs := #[.int .i64 (Go.bits .and .i64 (t102 / 1048576) 255), .int .i64 (Go.bits .and .i64 t102 1048575), .int .i64 0, .int .i64 0, .string ⟨#[]⟩, .string ⟨#[]⟩, .slice none 0 0]) ?_ 2 _ rfl; (with_reducible repeat first | apply pN_ | apply pD_ | apply pA_); refine blk_put (cs := #[.int .i64 (Go.bits .and .i64 (t102 / 1048576) 255), .int .i64 0, .int .i64 0, .int .i64 0, .string ⟨#[]⟩, .string ⟨#[]⟩, .slice none 0 0]) ?_ 1 _ rfl; (with_reducible repeat first | apply pN_ | apply pD_ | apply pA_); refine blk_put (cs := Z12_0) ?_ 0 _ rfl; (with_reducible repeat first | apply pN_ | apply pD_ | apply pA_); exact BK108.out⟩, ⟨bU_ HB.out⟩⟩
    case round =>
     clear H'
     (try clear c1); (try clear p1); (try clear q1); (try clear hx1); (try clear qi1); (try clear c2); (try clear c2b0); (try clear c2b1); (try clear p2); (try clear c3); (try clear c4); (try clear c6); (try clear c6b0); (try clear c6b1); (try clear p6); (try clear c8); (try clear c8b0); (try clear c8b1); (try clear p9); (try clear q9); (try clear hx9); (try clear qi9); (try clear c10); (try clear c10b0); (try clear c10b1); (try clear p11); (try clear q11); (try clear hx11); (try clear qi11); (try clear c12); (try clear c12b0); (try clear c12b1); (try clear c13); (try clear c13b0); (try clear c13b1); (try clear c14); (try clear c14b0); (try clear c14b1); (try clear c15); (try clear c15b0); (try clear c15b1); (try clear c16); (try clear c16b0); (try clear c16b1); (try clear c17); (try clear c17b0); (try clear c25); (try clear c30); (try clear c32); (try clear c32b0); (try clear c32b1); (try clear c33); (try clear c33b0); (try clear c33b1); (try clear c41); (try clear hcz31_0); (try clear hcz31_1); (try clear hcz31_2); (try clear hcz31_3); (try clear hcz31_4); (try clear hcz31_5); (try clear hcz31_6); (try clear hcz4_0); (try clear hcz4_1); (try clear hcz4_2); (try clear hcz4_3); (try clear hcz4_4); (try clear hcz4_5); (try clear hcz4_6); (try clear hfz31_0); (try clear hfz31_1); (try clear hfz31_2); (try clear hfz31_3); (try clear hfz31_4); (try clear hfz31_5); (try clear hfz31_6); (try clear hfz4_0); (try clear hfz4_1); (try clear hfz4_2); (try clear hfz4_3); (try clear hfz4_4); (try clear hfz4_5); (try clear hfz4_6); (try clear p11); (try clear p9); (try clear q11); (try clear q9)
     obtain ⟨x12_1, x102000_1, x102001_1, x102002_1, x102003_1, x102004_1, x102005_1, x109003_1, x109006_1, u109006, rfl, HA, HK1, HO_109006, BK101, BK108, HB⟩ := hrel
     cases gk with
     | zero => exact absurd HA.out (by simp [ipsix_Take.l0])
     | succ k1 =>
      have H := HA.out
      clear HA
      simp only [ipsix_Take.l0] at H
      replace H := Option.bind_eq_some_iff.mp H
      obtain ⟨t109, A460, H⟩ := H
      replace H : (if t109 = true then ((ipsix_ext.f x109003_1 x12_1).bind fun bt110 => (if bt110.2.2.2.2 = true then (if (x109006_1.length : Int) = 8 then (some (0, 0, 0, 0, (⟨#[]⟩ : ByteArray), (⟨#[]⟩ : ByteArray), ([] : List (S102)), (⟨#[]⟩ : ByteArray), 15)) else (if bt110.1 = 0 then (if (x109006_1.length : Int) > 0 then (some (0, 0, 0, 0, (⟨#[]⟩ : ByteArray), (⟨#[]⟩ : ByteArray), ([] : List (S102)), (⟨#[]⟩ : ByteArray), 15)) else (if x109006_1.length < 5864062014805 then (ipsix_Take.l0 k1 bt110.2.2.2.1 (Go.bits .and .i64 (t102 / 1048576) 255) (Go.bits .and .i64 t102 1048575) (wrap64 (bt a0 7)) bt110.2.2.1 (a0.extract 8 24) (a0.extract 24 40) (x109006_1 ++ [(⟨bt110.1, bt110.2.1⟩ : S102)])) else (none))) else (if x109006_1.length < 5864062014805 then (ipsix_Take.l0 k1 bt110.2.2.2.1 (Go.bits .and .i64 (t102 / 1048576) 255) (Go.bits .and .i64 t102 1048575) (wrap64 (bt a0 7)) bt110.2.2.1 (a0.extract 8 24) (a0.extract 24 40) (x109006_1 ++ [(⟨bt110.1, bt110.2.1⟩ : S102)])) else (none)))) else (some (0, 0, 0, 0, (⟨#[]⟩ : ByteArray), (⟨#[]⟩ : ByteArray), ([] : List (S102)), (⟨#[]⟩ : ByteArray), 15)))) else (some ((Go.bits .and .i64 (t102 / 1048576) 255), (Go.bits .and .i64 t102 1048575), (wrap64 (bt a0 7)), x109003_1, (a0.extract 8 24), (a0.extract 24 40), x109006_1, x12_1, 0))) = some (r1, r2, r3, r4, r5, r6, r7, r8, r9) := H
      have A46 := Aside0.mk A460
      clear A460
      by_cases c47 : t109 = true
      ·subst c47
       have H1 : ((ipsix_ext.f x109003_1 x12_1).bind fun bt110 => (if bt110.2.2.2.2 = true then (if (x109006_1.length : Int) = 8 then (some (0, 0, 0, 0, (⟨#[]⟩ : ByteArray), (⟨#[]⟩ : ByteArray), ([] : List (S102)), (⟨#[]⟩ : ByteArray), 15)) else (if bt110.1 = 0 then (if (x109006_1.length : Int) > 0 then (some (0, 0, 0, 0, (⟨#[]⟩ : ByteArray), (⟨#[]⟩ : ByteArray), ([] : List (S102)), (⟨#[]⟩ : ByteArray), 15)) else (if x109006_1.length < 5864062014805 then (ipsix_Take.l0 k1 bt110.2.2.2.1 (Go.bits .and .i64 (t102 / 1048576) 255) (Go.bits .and .i64 t102 1048575) (wrap64 (bt a0 7)) bt110.2.2.1 (a0.extract 8 24) (a0.extract 24 40) (x109006_1 ++ [(⟨bt110.1, bt110.2.1⟩ : S102)])) else (none))) else (if x109006_1.length < 5864062014805 then (ipsix_Take.l0 k1 bt110.2.2.2.1 (Go.bits .and .i64 (t102 / 1048576) 255) (Go.bits .and .i64 t102 1048575) (wrap64 (bt a0 7)) bt110.2.2.1 (a0.extract 8 24) (a0.extract 24 40) (x109006_1 ++ [(⟨bt110.1, bt110.2.1⟩ : S102)])) else (none)))) else (some (0, 0, 0, 0, (⟨#[]⟩ : ByteArray), (⟨#[]⟩ : ByteArray), ([] : List (S102)), (⟨#[]⟩ : ByteArray), 15)))) = some (r1, r2, r3, r4, r5, r6, r7, r8, r9) := by rw [if_pos rfl] at H; exact H
       clear H
       have H := H1
       clear H1
       replace H := Option.bind_eq_some_iff.mp H
       obtain ⟨⟨t110, t111, t112, t113, t114⟩, A480, H⟩ := H
       replace H : (if t114 = true then (if (x109006_1.length : Int) = 8 then (some (0, 0, 0, 0, (⟨#[]⟩ : ByteArray), (⟨#[]⟩ : ByteArray), ([] : List (S102)), (⟨#[]⟩ : ByteArray), 15)) else (if t110 = 0 then (if (x109006_1.length : Int) > 0 then (some (0, 0, 0, 0, (⟨#[]⟩ : ByteArray), (⟨#[]⟩ : ByteArray), ([] : List (S102)), (⟨#[]⟩ : ByteArray), 15)) else (if x109006_1.length < 5864062014805 then (ipsix_Take.l0 k1 t113 (Go.bits .and .i64 (t102 / 1048576) 255) (Go.bits .and .i64 t102 1048575) (wrap64 (bt a0 7)) t112 (a0.extract 8 24) (a0.extract 24 40) (x109006_1 ++ [(⟨t110, t111⟩ : S102)])) else (none))) else (if x109006_1.length < 5864062014805 then (ipsix_Take.l0 k1 t113 (Go.bits .and .i64 (t102 / 1048576) 255) (Go.bits .and .i64 t102 1048575) (wrap64 (bt a0 7)) t112 (a0.extract 8 24) (a0.extract 24 40) (x109006_1 ++ [(⟨t110, t111⟩ : S102)])) else (none)))) else (some (0, 0, 0, 0, (⟨#[]⟩ : ByteArray), (⟨#[]⟩ : ByteArray), ([] : List (S102)), (⟨#[]⟩ : ByteArray), 15))) = some (r1, r2, r3, r4, r5, r6, r7, r8, r9) := H
       have A48 := Aside0.mk A480
       clear A480
       by_cases c49 : t114 = true
       ·subst c49
        have H1 : (if (x109006_1.length : Int) = 8 then (some (0, 0, 0, 0, (⟨#[]⟩ : ByteArray), (⟨#[]⟩ : ByteArray), ([] : List (S102)), (⟨#[]⟩ : ByteArray), 15)) else (if t110 = 0 then (if (x109006_1.length : Int) > 0 then (some (0, 0, 0, 0, (⟨#[]⟩ : ByteArray), (⟨#[]⟩ : ByteArray), ([] : List (S102)), (⟨#[]⟩ : ByteArray), 15)) else (if x109006_1.length < 5864062014805 then (ipsix_Take.l0 k1 t113 (Go.bits .and .i64 (t102 / 1048576) 255) (Go.bits .and .i64 t102 1048575) (wrap64 (bt a0 7)) t112 (a0.extract 8 24) (a0.extract 24 40) (x109006_1 ++ [(⟨t110, t111⟩ : S102)])) else (none))) else (if x109006_1.length < 5864062014805 then (ipsix_Take.l0 k1 t113 (Go.bits .and .i64 (t102 / 1048576) 255) (Go.bits .and .i64 t102 1048575) (wrap64 (bt a0 7)) t112 (a0.extract 8 24) (a0.extract 24 40) (x109006_1 ++ [(⟨t110, t111⟩ : S102)])) else (none)))) = some (r1, r2, r3, r4, r5, r6, r7, r8, r9) := by rw [if_pos rfl] at H; exact H
        clear H
        have H := H1
        clear H1
        by_cases c50 : (x109006_1.length : Int) = 8
        ·rw [if_pos c50] at H
         have c50b0 : ((x109006_1.length : Int) == 8) = true := beq_iff_eq.mpr c50
         have c50b1 : ((x109006_1.length : Int) != 8) = false := bne_eq_false_iff_eq.mpr c50
         clear c50
         simp only [Option.some.injEq, Prod.mk.injEq] at H
         obtain ⟨rfl, rfl, rfl, rfl, rfl, rfl, rfl, rfl, rfl⟩ := H
         have hnb51 := NB108_101.out
         have hnc51 := NB101_108.out
         have hcz52_0 : wr.cell? ⟨gb108, 0, none⟩ = some (.int .i64 (Go.bits .and .i64 (t102 / 1048576) 255)) := (blk_cell BK108.out 0).trans rfl
         have hcz52_1 : wr.cell? ⟨gb108, 1, none⟩ = some (.int .i64 (Go.bits .and .i64 t102 1048575)) := (blk_cell BK108.out 1).trans rfl
         have hcz52_2 : wr.cell? ⟨gb108, 2, none⟩ = some (.int .i64 (wrap64 (bt a0 7))) := (blk_cell BK108.out 2).trans rfl
         have hcz52_3 : wr.cell? ⟨gb108, 3, none⟩ = some (.int .i64 x109003_1) := (blk_cell BK108.out 3).trans rfl
         have hcz52_4 : wr.cell? ⟨gb108, 4, none⟩ = some (.string (a0.extract 8 24)) := (blk_cell BK108.out 4).trans rfl
         have hcz52_5 : wr.cell? ⟨gb108, 5, none⟩ = some (.string (a0.extract 24 40)) := (blk_cell BK108.out 5).trans rfl
         have hcz52_6 : wr.cell? ⟨gb108, 6, none⟩ = some (u109006) := (blk_cell BK108.out 6).trans rfl
         have hfz52_0 := blk_frozen BK108.out 0; have hfz52_1 := blk_frozen BK108.out 1; have hfz52_2 := blk_frozen BK108.out 2; have hfz52_3 := blk_frozen BK108.out 3; have hfz52_4 := blk_frozen BK108.out 4; have hfz52_5 := blk_frozen BK108.out 5; have hfz52_6 := blk_frozen BK108.out 6
         go_wp2_with (first | ((with_reducible refine gate_callee (f := 53) rfl ?_); refine gL_ (some 68) rfl rfl Try.func53 (by kernel_rfl) rfl #[.int .i64 x109003_1] rfl ?_; (with_reducible refine (ipsix_extension.calls x109003_1 true _ A46.out).mono ?_); rintro e w' ⟨rfl, ⟨nd, rfl⟩⟩; refine ⟨_, rfl, ?_⟩; (try (rw [drewN_self wr]; generalize hq_ : World.drewN wr _ = wr; have n0_ : Aside0 (Kd.R k102 102 wr w.heap.size (fun _ => True) u109006 x109006_1) := ⟨by rw [← hq_]; exact (by (with_reducible repeat first | apply Kd.R_alloc | apply Kd.R_drewN | apply Kd.R_drew); exact HO_109006.out)⟩; have n1_ : Aside0 (wr.heap[gb101]? = some (.cells #[.int .i64 x102000_1, .int .i64 x102001_1, .int .i64 x102002_1, .int .i64 x102003_1, .string x102004_1, .string x102005_1, .slice none 0 0] 90 (0, 0))) := ⟨by rw [← hq_]; exact (by (with_reducible repeat first | apply pN_ | apply pD_ | apply pA_); exact BK101.out)⟩; have n2_ : Aside0 (wr.heap[gb108]? = some (.cells #[.int .i64 (Go.bits .and .i64 (t102 / 1048576) 255), .int .i64 (Go.bits .and .i64 t102 1048575), .int .i64 (wrap64 (bt a0 7)), .int .i64 x109003_1, .string (a0.extract 8 24), .string (a0.extract 24 40), u109006] 90 (0, 0))) := ⟨by rw [← hq_]; exact (by (with_reducible repeat first | apply pN_ | apply pD_ | apply pA_); exact BK108.out)⟩; have n3_ : Aside0 (Below w.heap.size w wr) := ⟨by rw [← hq_]; exact (bU_ HB.out)⟩; clear HO_109006 BK101 BK108 HB hq_; have HO_109006 := n0_; have BK101 := n1_; have BK108 := n2_; have HB := n3_; clear n0_ n1_ n2_ n3_)); have hcz53_0 : wr.cell? ⟨gb108, 0, none⟩ = some (.int .i64 (Go.bits .and .i64 (t102 / 1048576) 255)) := (blk_cell BK108.out 0).trans rfl; have hcz53_1 : wr.cell? ⟨gb108, 1, none⟩ = some (.int .i64 (Go.bits .and .i64 t102 1048575)) := (blk_cell BK108.out 1).trans rfl; have hcz53_2 : wr.cell? ⟨gb108, 2, none⟩ = some (.int .i64 (wrap64 (bt a0 7))) := (blk_cell BK108.out 2).trans rfl; have hcz53_3 : wr.cell? ⟨gb108, 3, none⟩ = some (.int .i64 x109003_1) := (blk_cell BK108.out 3).trans rfl; have hcz53_4 : wr.cell? ⟨gb108, 4, none⟩ = some (.string (a0.extract 8 24)) := (blk_cell BK108.out 4).trans rfl; have hcz53_5 : wr.cell? ⟨gb108, 5, none⟩ = some (.string (a0.extract 24 40)) := (blk_cell BK108.out 5).trans rfl; have hcz53_6 : wr.cell? ⟨gb108, 6, none⟩ = some (u109006) := (blk_cell BK108.out 6).trans rfl; have hfz53_0 := blk_frozen BK108.out 0; have hfz53_1 := blk_frozen BK108.out 1; have hfz53_2 := blk_frozen BK108.out 2; have hfz53_3 := blk_frozen BK108.out 3; have hfz53_4 := blk_frozen BK108.out 4; have hfz53_5 := blk_frozen BK108.out 5; have hfz53_6 := blk_frozen BK108.out 6) | ((with_reducible refine gate_callee (f := 54) rfl ?_); refine gL_ (some 73) rfl rfl Try.func54 (by kernel_rfl) rfl #[.int .i64 x109003_1, .string x12_1] rfl ?_; (with_reducible refine (ipsix_ext.calls x109003_1 x12_1 t110 t111 t112 t113 true _ A48.out).mono ?_); rintro e w54 ⟨rfl, hb⟩; refine ⟨_, rfl, ?_⟩; have n0_ := Aside0.mk (rB_ HO_109006.out hb); have n1_ := Aside0.mk (bB_ BK101.out hb); have n2_ := Aside0.mk (bB_ BK108.out hb); have n3_ := Aside0.mk (below_step (bU_ HB.out) hb); clear HO_109006 BK101 BK108 HB; have HO_109006 := n0_; have BK101 := n1_; have BK108 := n2_; have HB := n3_; clear n0_ n1_ n2_ n3_; (try clear hb); (try clear hb2); (try clear hk); (try clear hi)) | ((with_reducible refine gate_dst (N := 13) rfl ?_); (try (refine gate_guard (by rfl) ?_; dsimp only)); refine bE_ (N := 13) (cs := #[.int .i64 0, .string ⟨#[]⟩]) (t := 102) ?_; intro gb115 hg w55 hbox hb; have n0_ := Aside0.mk (Kd.R_below (Kd.R_elderB (by (with_reducible repeat first | apply Kd.R_alloc | apply Kd.R_drewN | apply Kd.R_drew); exact HO_109006.out) gb115 (Nat.le_of_eq hg.symm)) hb); have n1_ := Aside0.mk (bB_ BK101.out hb); have n2_ := Aside0.mk (bB_ BK108.out hb); have n3_ := Aside0.mk (below_step (bU_ HB.out) hb); have n4_ := Aside0.mk (hbox); have n5_ := Aside0.mk (bZ_ hg (bU_ HB.out) : w.heap.size ≤ gb115); have n6_ := n5_; have n7_ := Aside0.mk ((bN_ hg BK101.out : gb101 ≠ gb115)); have n8_ := Aside0.mk (Ne.symm n7_.out); have n9_ := Aside0.mk ((bN_ hg BK108.out : gb108 ≠ gb115)); have n10_ := Aside0.mk (Ne.symm n9_.out); clear HO_109006 BK101 BK108 HB; have HO_109006 := n0_; have BK101 := n1_; have BK108 := n2_; have HB := n3_; have BK115 := n4_; have GW115 := n5_; have GE115 := n6_; have NB101_115 := n7_; have NB115_101 := n8_; have NB108_115 := n9_; have NB115_108 := n10_; clear n0_ n1_ n2_ n3_ n4_ n5_ n6_ n7_ n8_ n9_ n10_; clear hb hbox hg; have hnb56 := NB115_101.out; have hnc56 := NB101_115.out; have hnb57 := NB115_108.out; have hnc57 := NB108_115.out; have hcz58_0 : w55.cell? ⟨gb115, 0, none⟩ = some (.int .i64 0) := (blk_cell BK115.out 0).trans rfl; have hcz58_1 : w55.cell? ⟨gb115, 1, none⟩ = some (.string ⟨#[]⟩) := (blk_cell BK115.out 1).trans rfl; have hfz58_0 := blk_frozen BK115.out 0; have hfz58_1 := blk_frozen BK115.out 1; have hcz59_0 : w55.cell? ⟨gb108, 0, none⟩ = some (.int .i64 (Go.bits .and .i64 (t102 / 1048576) 255)) := (blk_cell BK108.out 0).trans rfl; have hcz59_1 : w55.cell? ⟨gb108, 1, none⟩ = some (.int .i64 (Go.bits .and .i64 t102 1048575)) := (blk_cell BK108.out 1).trans rfl; have hcz59_2 : w55.cell? ⟨gb108, 2, none⟩ = some (.int .i64 (wrap64 (bt a0 7))) := (blk_cell BK108.out 2).trans rfl; have hcz59_3 : w55.cell? ⟨gb108, 3, none⟩ = some (.int .i64 x109003_1) := (blk_cell BK108.out 3).trans rfl; have hcz59_4 : w55.cell? ⟨gb108, 4, none⟩ = some (.string (a0.extract 8 24)) := (blk_cell BK108.out 4).trans rfl; have hcz59_5 : w55.cell? ⟨gb108, 5, none⟩ = some (.string (a0.extract 24 40)) := (blk_cell BK108.out 5).trans rfl; have hcz59_6 : w55.cell? ⟨gb108, 6, none⟩ = some (u109006) := (blk_cell BK108.out 6).trans rfl; have hfz59_0 := blk_frozen BK108.out 0; have hfz59_1 := blk_frozen BK108.out 1; have hfz59_2 := blk_frozen BK108.out 2; have hfz59_3 := blk_frozen BK108.out 3; have hfz59_4 := blk_frozen BK108.out 4; have hfz59_5 := blk_frozen BK108.out 5; have hfz59_6 := blk_frozen BK108.out 6; obtain ⟨Ao60, co60, eo60⟩ := Kd.R_slice HO_109006.out; subst eo60; have hcz61_0 : w55.cell? ⟨gb101, 0, none⟩ = some (.int .i64 x102000_1) := (blk_cell BK101.out 0).trans rfl; have hcz61_1 : w55.cell? ⟨gb101, 1, none⟩ = some (.int .i64 x102001_1) := (blk_cell BK101.out 1).trans rfl; have hcz61_2 : w55.cell? ⟨gb101, 2, none⟩ = some (.int .i64 x102002_1) := (blk_cell BK101.out 2).trans rfl; have hcz61_3 : w55.cell? ⟨gb101, 3, none⟩ = some (.int .i64 x102003_1) := (blk_cell BK101.out 3).trans rfl; have hcz61_4 : w55.cell? ⟨gb101, 4, none⟩ = some (.string x102004_1) := (blk_cell BK101.out 4).trans rfl; have hcz61_5 : w55.cell? ⟨gb101, 5, none⟩ = some (.string x102005_1) := (blk_cell BK101.out 5).trans rfl; have hcz61_6 : w55.cell? ⟨gb101, 6, none⟩ = some (.slice none 0 0) := (blk_cell BK101.out 6).trans rfl; have hfz61_0 := blk_frozen BK101.out 0; have hfz61_1 := blk_frozen BK101.out 1; have hfz61_2 := blk_frozen BK101.out 2; have hfz61_3 := blk_frozen BK101.out 3; have hfz61_4 := blk_frozen BK101.out 4; have hfz61_5 := blk_frozen BK101.out 5; have hfz61_6 := blk_frozen BK101.out 6))
         refine bodyPost_ret (results_ctt rfl _ _ gb101 90 #[.int .i64 0, .int .i64 0, .int .i64 0, .int .i64 0, .string ⟨#[]⟩, .string ⟨#[]⟩, .slice none 0 0] (0, 0) _ rfl (by (with_reducible repeat first | apply pN_ | apply pD_ | apply pA_); refine blk_put (cs := Z12_0) ?_ 6 _ rfl; (with_reducible repeat first | apply pN_ | apply pD_ | apply pA_); refine blk_put (cs := #[.int .i64 0, .int .i64 0, .int .i64 0, .int .i64 0, .string ⟨#[]⟩, .string x102005_1, .slice none 0 0]) ?_ 5 _ rfl; (with_reducible repeat first | apply pN_ | apply pD_ | apply pA_); refine blk_put (cs := #[.int .i64 0, .int .i64 0, .int .i64 0, .int .i64 0, .string x102004_1, .string x102005_1, .slice none 0 0]) ?_ 4 _ rfl; (with_reducible repeat first | apply pN_ | apply pD_ | apply pA_); refine blk_put (cs := #[.int .i64 0, .int .i64 0, .int .i64 0, .int .i64 x102003_1, .string x102004_1, .string x102005_1, .slice none 0 0]) ?_ 3 _ rfl; (with_reducible repeat first | apply pN_ | apply pD_ | apply pA_); refine blk_put (cs := #[.int .i64 0, .int .i64 0, .int .i64 x102002_1, .int .i64 x102003_1, .string x102004_1, .string x102005_1, .slice none 0 0]) ?_ 2 _ rfl; (with_reducible repeat first | apply pN_ | apply pD_ | apply pA_); refine blk_put (cs := #[.int .i64 0, .int .i64 x102001_1, .int .i64 x102002_1, .int .i64 x102003_1, .string x102004_1, .string x102005_1, .slice none 0 0]) ?_ 1 _ rfl; (with_reducible repeat first | apply pN_ | apply pD_ | apply pA_); refine blk_put (cs := #[.int .i64 x102000_1, .int .i64 x102001_1, .int .i64 x102002_1, .int .i64 x102003_1, .string x102004_1, .string x102005_1, .slice none 0 0]) ?_ 0 _ rfl; (iterate 2 ((with_reducible repeat first | apply pN_ | apply pD_ | apply pA_); refine blk_far ?_ NB101_115.out _)); (with_reducible repeat first | apply pN_ | apply pD_ | apply pA_); exact BK101.out) Try.underlying90 rfl (by kernel_rfl)) rfl ?_
         exact ⟨_, by first | rfl | (simp [errW_none, errW_some] <;> rfl) | (simp [*, errW_none, errW_some] <;> rfl), by first | exact Kd.R_nil _ _ _ _ _ | exact Kd.N_nil _ _ _ _ _ | exact Kd.V_nil _ _ _ _ _ | exact Kd.Q_nil _ _ _ _ _ | exact Kd.S_nil _ _ _ _ _, bU_ HB.out⟩
        ·rw [if_neg c50] at H
         have c50b0 : ((x109006_1.length : Int) == 8) = false := beq_eq_false_iff_ne.mpr c50
         have c50b1 : ((x109006_1.length : Int) != 8) = true := bne_iff_ne.mpr c50
         by_cases c62 : t110 = 0
         ·rw [if_pos c62] at H
          have c62b0 : (t110 == 0) = true := beq_iff_eq.mpr c62
          have c62b1 : (t110 != 0) = false := bne_eq_false_iff_eq.mpr c62
          clear c62
          by_cases c63 : (x109006_1.length : Int) > 0
          ·rw [if_pos c63] at H
           have c63b0 : decide (0 < (x109006_1.length : Int)) = true := decide_eq_true c63
           have c63b1 : decide (0 < x109006_1.length) = true := decide_eq_true (by omega)
           clear c63
           simp only [Option.some.injEq, Prod.mk.injEq] at H
           obtain ⟨rfl, rfl, rfl, rfl, rfl, rfl, rfl, rfl, rfl⟩ := H
           have hnb64 := NB108_101.out
           have hnc64 := NB101_108.out
           have hcz65_0 : wr.cell? ⟨gb108, 0, none⟩ = some (.int .i64 (Go.bits .and .i64 (t102 / 1048576) 255)) := (blk_cell BK108.out 0).trans rfl
           have hcz65_1 : wr.cell? ⟨gb108, 1, none⟩ = some (.int .i64 (Go.bits .and .i64 t102 1048575)) := (blk_cell BK108.out 1).trans rfl
           have hcz65_2 : wr.cell? ⟨gb108, 2, none⟩ = some (.int .i64 (wrap64 (bt a0 7))) := (blk_cell BK108.out 2).trans rfl
           have hcz65_3 : wr.cell? ⟨gb108, 3, none⟩ = some (.int .i64 x109003_1) := (blk_cell BK108.out 3).trans rfl
           have hcz65_4 : wr.cell? ⟨gb108, 4, none⟩ = some (.string (a0.extract 8 24)) := (blk_cell BK108.out 4).trans rfl
           have hcz65_5 : wr.cell? ⟨gb108, 5, none⟩ = some (.string (a0.extract 24 40)) := (blk_cell BK108.out 5).trans rfl
           have hcz65_6 : wr.cell? ⟨gb108, 6, none⟩ = some (u109006) := (blk_cell BK108.out 6).trans rfl
           have hfz65_0 := blk_frozen BK108.out 0; have hfz65_1 := blk_frozen BK108.out 1; have hfz65_2 := blk_frozen BK108.out 2; have hfz65_3 := blk_frozen BK108.out 3; have hfz65_4 := blk_frozen BK108.out 4; have hfz65_5 := blk_frozen BK108.out 5; have hfz65_6 := blk_frozen BK108.out 6
           go_wp2_with (first | ((with_reducible refine gate_callee (f := 53) rfl ?_); refine gL_ (some 68) rfl rfl Try.func53 (by kernel_rfl) rfl #[.int .i64 x109003_1] rfl ?_; (with_reducible refine (ipsix_extension.calls x109003_1 true _ A46.out).mono ?_); rintro e w' ⟨rfl, ⟨nd, rfl⟩⟩; refine ⟨_, rfl, ?_⟩; (try (rw [drewN_self wr]; generalize hq_ : World.drewN wr _ = wr; have n0_ : Aside0 (Kd.R k102 102 wr w.heap.size (fun _ => True) u109006 x109006_1) := ⟨by rw [← hq_]; exact (by (with_reducible repeat first | apply Kd.R_alloc | apply Kd.R_drewN | apply Kd.R_drew); exact HO_109006.out)⟩; have n1_ : Aside0 (wr.heap[gb101]? = some (.cells #[.int .i64 x102000_1, .int .i64 x102001_1, .int .i64 x102002_1, .int .i64 x102003_1, .string x102004_1, .string x102005_1, .slice none 0 0] 90 (0, 0))) := ⟨by rw [← hq_]; exact (by (with_reducible repeat first | apply pN_ | apply pD_ | apply pA_); exact BK101.out)⟩; have n2_ : Aside0 (wr.heap[gb108]? = some (.cells #[.int .i64 (Go.bits .and .i64 (t102 / 1048576) 255), .int .i64 (Go.bits .and .i64 t102 1048575), .int .i64 (wrap64 (bt a0 7)), .int .i64 x109003_1, .string (a0.extract 8 24), .string (a0.extract 24 40), u109006] 90 (0, 0))) := ⟨by rw [← hq_]; exact (by (with_reducible repeat first | apply pN_ | apply pD_ | apply pA_); exact BK108.out)⟩; have n3_ : Aside0 (Below w.heap.size w wr) := ⟨by rw [← hq_]; exact (bU_ HB.out)⟩; clear HO_109006 BK101 BK108 HB hq_; have HO_109006 := n0_; have BK101 := n1_; have BK108 := n2_; have HB := n3_; clear n0_ n1_ n2_ n3_)); have hcz66_0 : wr.cell? ⟨gb108, 0, none⟩ = some (.int .i64 (Go.bits .and .i64 (t102 / 1048576) 255)) := (blk_cell BK108.out 0).trans rfl; have hcz66_1 : wr.cell? ⟨gb108, 1, none⟩ = some (.int .i64 (Go.bits .and .i64 t102 1048575)) := (blk_cell BK108.out 1).trans rfl; have hcz66_2 : wr.cell? ⟨gb108, 2, none⟩ = some (.int .i64 (wrap64 (bt a0 7))) := (blk_cell BK108.out 2).trans rfl; have hcz66_3 : wr.cell? ⟨gb108, 3, none⟩ = some (.int .i64 x109003_1) := (blk_cell BK108.out 3).trans rfl; have hcz66_4 : wr.cell? ⟨gb108, 4, none⟩ = some (.string (a0.extract 8 24)) := (blk_cell BK108.out 4).trans rfl; have hcz66_5 : wr.cell? ⟨gb108, 5, none⟩ = some (.string (a0.extract 24 40)) := (blk_cell BK108.out 5).trans rfl; have hcz66_6 : wr.cell? ⟨gb108, 6, none⟩ = some (u109006) := (blk_cell BK108.out 6).trans rfl; have hfz66_0 := blk_frozen BK108.out 0; have hfz66_1 := blk_frozen BK108.out 1; have hfz66_2 := blk_frozen BK108.out 2; have hfz66_3 := blk_frozen BK108.out 3; have hfz66_4 := blk_frozen BK108.out 4; have hfz66_5 := blk_frozen BK108.out 5; have hfz66_6 := blk_frozen BK108.out 6) | ((with_reducible refine gate_callee (f := 54) rfl ?_); refine gL_ (some 73) rfl rfl Try.func54 (by kernel_rfl) rfl #[.int .i64 x109003_1, .string x12_1] rfl ?_; (with_reducible refine (ipsix_ext.calls x109003_1 x12_1 t110 t111 t112 t113 true _ A48.out).mono ?_); rintro e w67 ⟨rfl, hb⟩; refine ⟨_, rfl, ?_⟩; have n0_ := Aside0.mk (rB_ HO_109006.out hb); have n1_ := Aside0.mk (bB_ BK101.out hb); have n2_ := Aside0.mk (bB_ BK108.out hb); have n3_ := Aside0.mk (below_step (bU_ HB.out) hb); clear HO_109006 BK101 BK108 HB; have HO_109006 := n0_; have BK101 := n1_; have BK108 := n2_; have HB := n3_; clear n0_ n1_ n2_ n3_; (try clear hb); (try clear hb2); (try clear hk); (try clear hi)) | ((with_reducible refine gate_dst (N := 13) rfl ?_); (try (refine gate_guard (by rfl) ?_; dsimp only)); refine bE_ (N := 13) (cs := #[.int .i64 0, .string ⟨#[]⟩]) (t := 102) ?_; intro gb115 hg w68 hbox hb; have n0_ := Aside0.mk (Kd.R_below (Kd.R_elderB (by (with_reducible repeat first | apply Kd.R_alloc | apply Kd.R_drewN | apply Kd.R_drew); exact HO_109006.out) gb115 (Nat.le_of_eq hg.symm)) hb); have n1_ := Aside0.mk (bB_ BK101.out hb); have n2_ := Aside0.mk (bB_ BK108.out hb); have n3_ := Aside0.mk (below_step (bU_ HB.out) hb); have n4_ := Aside0.mk (hbox); have n5_ := Aside0.mk (bZ_ hg (bU_ HB.out) : w.heap.size ≤ gb115); have n6_ := n5_; have n7_ := Aside0.mk ((bN_ hg BK101.out : gb101 ≠ gb115)); have n8_ := Aside0.mk (Ne.symm n7_.out); have n9_ := Aside0.mk ((bN_ hg BK108.out : gb108 ≠ gb115)); have n10_ := Aside0.mk (Ne.symm n9_.out); clear HO_109006 BK101 BK108 HB; have HO_109006 := n0_; have BK101 := n1_; have BK108 := n2_; have HB := n3_; have BK115 := n4_; have GW115 := n5_; have GE115 := n6_; have NB101_115 := n7_; have NB115_101 := n8_; have NB108_115 := n9_; have NB115_108 := n10_; clear n0_ n1_ n2_ n3_ n4_ n5_ n6_ n7_ n8_ n9_ n10_; clear hb hbox hg; have hnb69 := NB115_101.out; have hnc69 := NB101_115.out; have hnb70 := NB115_108.out; have hnc70 := NB108_115.out; have hcz71_0 : w68.cell? ⟨gb115, 0, none⟩ = some (.int .i64 0) := (blk_cell BK115.out 0).trans rfl; have hcz71_1 : w68.cell? ⟨gb115, 1, none⟩ = some (.string ⟨#[]⟩) := (blk_cell BK115.out 1).trans rfl; have hfz71_0 := blk_frozen BK115.out 0; have hfz71_1 := blk_frozen BK115.out 1; have hcz72_0 : w68.cell? ⟨gb108, 0, none⟩ = some (.int .i64 (Go.bits .and .i64 (t102 / 1048576) 255)) := (blk_cell BK108.out 0).trans rfl; have hcz72_1 : w68.cell? ⟨gb108, 1, none⟩ = some (.int .i64 (Go.bits .and .i64 t102 1048575)) := (blk_cell BK108.out 1).trans rfl; have hcz72_2 : w68.cell? ⟨gb108, 2, none⟩ = some (.int .i64 (wrap64 (bt a0 7))) := (blk_cell BK108.out 2).trans rfl; have hcz72_3 : w68.cell? ⟨gb108, 3, none⟩ = some (.int .i64 x109003_1) := (blk_cell BK108.out 3).trans rfl; have hcz72_4 : w68.cell? ⟨gb108, 4, none⟩ = some (.string (a0.extract 8 24)) := (blk_cell BK108.out 4).trans rfl; have hcz72_5 : w68.cell? ⟨gb108, 5, none⟩ = some (.string (a0.extract 24 40)) := (blk_cell BK108.out 5).trans rfl; have hcz72_6 : w68.cell? ⟨gb108, 6, none⟩ = some (u109006) := (blk_cell BK108.out 6).trans rfl; have hfz72_0 := blk_frozen BK108.out 0; have hfz72_1 := blk_frozen BK108.out 1; have hfz72_2 := blk_frozen BK108.out 2; have hfz72_3 := blk_frozen BK108.out 3; have hfz72_4 := blk_frozen BK108.out 4; have hfz72_5 := blk_frozen BK108.out 5; have hfz72_6 := blk_frozen BK108.out 6; obtain ⟨Ao73, co73, eo73⟩ := Kd.R_slice HO_109006.out; subst eo73; have hcz74_0 : w68.cell? ⟨gb101, 0, none⟩ = some (.int .i64 x102000_1) := (blk_cell BK101.out 0).trans rfl; have hcz74_1 : w68.cell? ⟨gb101, 1, none⟩ = some (.int .i64 x102001_1) := (blk_cell BK101.out 1).trans rfl; have hcz74_2 : w68.cell? ⟨gb101, 2, none⟩ = some (.int .i64 x102002_1) := (blk_cell BK101.out 2).trans rfl; have hcz74_3 : w68.cell? ⟨gb101, 3, none⟩ = some (.int .i64 x102003_1) := (blk_cell BK101.out 3).trans rfl; have hcz74_4 : w68.cell? ⟨gb101, 4, none⟩ = some (.string x102004_1) := (blk_cell BK101.out 4).trans rfl; have hcz74_5 : w68.cell? ⟨gb101, 5, none⟩ = some (.string x102005_1) := (blk_cell BK101.out 5).trans rfl; have hcz74_6 : w68.cell? ⟨gb101, 6, none⟩ = some (.slice none 0 0) := (blk_cell BK101.out 6).trans rfl; have hfz74_0 := blk_frozen BK101.out 0; have hfz74_1 := blk_frozen BK101.out 1; have hfz74_2 := blk_frozen BK101.out 2; have hfz74_3 := blk_frozen BK101.out 3; have hfz74_4 := blk_frozen BK101.out 4; have hfz74_5 := blk_frozen BK101.out 5; have hfz74_6 := blk_frozen BK101.out 6))
           refine bodyPost_ret (results_ctt rfl _ _ gb101 90 #[.int .i64 0, .int .i64 0, .int .i64 0, .int .i64 0, .string ⟨#[]⟩, .string ⟨#[]⟩, .slice none 0 0] (0, 0) _ rfl (by (with_reducible repeat first | apply pN_ | apply pD_ | apply pA_); refine blk_put (cs := Z12_0) ?_ 6 _ rfl; (with_reducible repeat first | apply pN_ | apply pD_ | apply pA_); refine blk_put (cs := #[.int .i64 0, .int .i64 0, .int .i64 0, .int .i64 0, .string ⟨#[]⟩, .string x102005_1, .slice none 0 0]) ?_ 5 _ rfl; (with_reducible repeat first | apply pN_ | apply pD_ | apply pA_); refine blk_put (cs := #[.int .i64 0, .int .i64 0, .int .i64 0, .int .i64 0, .string x102004_1, .string x102005_1, .slice none 0 0]) ?_ 4 _ rfl; (with_reducible repeat first | apply pN_ | apply pD_ | apply pA_); refine blk_put (cs := #[.int .i64 0, .int .i64 0, .int .i64 0, .int .i64 x102003_1, .string x102004_1, .string x102005_1, .slice none 0 0]) ?_ 3 _ rfl; (with_reducible repeat first | apply pN_ | apply pD_ | apply pA_); refine blk_put (cs := #[.int .i64 0, .int .i64 0, .int .i64 x102002_1, .int .i64 x102003_1, .string x102004_1, .string x102005_1, .slice none 0 0]) ?_ 2 _ rfl; (with_reducible repeat first | apply pN_ | apply pD_ | apply pA_); refine blk_put (cs := #[.int .i64 0, .int .i64 x102001_1, .int .i64 x102002_1, .int .i64 x102003_1, .string x102004_1, .string x102005_1, .slice none 0 0]) ?_ 1 _ rfl; (with_reducible repeat first | apply pN_ | apply pD_ | apply pA_); refine blk_put (cs := #[.int .i64 x102000_1, .int .i64 x102001_1, .int .i64 x102002_1, .int .i64 x102003_1, .string x102004_1, .string x102005_1, .slice none 0 0]) ?_ 0 _ rfl; (iterate 2 ((with_reducible repeat first | apply pN_ | apply pD_ | apply pA_); refine blk_far ?_ NB101_115.out _)); (with_reducible repeat first | apply pN_ | apply pD_ | apply pA_); exact BK101.out) Try.underlying90 rfl (by kernel_rfl)) rfl ?_
           exact ⟨_, by first | rfl | (simp [errW_none, errW_some] <;> rfl) | (simp [*, errW_none, errW_some] <;> rfl), by first | exact Kd.R_nil _ _ _ _ _ | exact Kd.N_nil _ _ _ _ _ | exact Kd.V_nil _ _ _ _ _ | exact Kd.Q_nil _ _ _ _ _ | exact Kd.S_nil _ _ _ _ _, bU_ HB.out⟩
          ·rw [if_neg c63] at H
           have c63b0 : decide (0 < (x109006_1.length : Int)) = false := decide_eq_false c63
           have c63b1 : decide (0 < x109006_1.length) = false := decide_eq_false (by omega)
           clear c63
           by_cases c75 : x109006_1.length < 5864062014805
           rotate_left
           ·rw [if_neg c75] at H; exact absurd H (by simp)
           rw [if_pos c75] at H
           have LMc75 := Aside0.mk c75
           clear c75
           obtain ⟨y116, hy116⟩ : ∃ y_ : List (S102), y_ = (x109006_1 ++ [(⟨t110, t111⟩ : S102)]) := ⟨_, rfl⟩
           replace H : (ipsix_Take.l0 k1 t113 (Go.bits .and .i64 (t102 / 1048576) 255) (Go.bits .and .i64 t102 1048575) (wrap64 (bt a0 7)) t112 (a0.extract 8 24) (a0.extract 24 40) y116) = some (r1, r2, r3, r4, r5, r6, r7, r8, r9) := by first | (rw [hy116]; with_reducible exact H) | (have H2_ := (Option.bind_some _ _).symm.trans H; rw [hy116]; with_reducible exact H2_) | (have H2_ := (Option.bind_some _ _).symm.trans H; with_reducible exact H2_) | with_reducible exact H | (rw [hy116]; exact H) | exact H
           have Ny116 := Aside0.mk hy116
           clear hy116
           have H' := Aside0.mk H
           clear H
           have hnb76 := NB108_101.out
           have hnc76 := NB101_108.out
           have hcz77_0 : wr.cell? ⟨gb108, 0, none⟩ = some (.int .i64 (Go.bits .and .i64 (t102 / 1048576) 255)) := (blk_cell BK108.out 0).trans rfl
           have hcz77_1 : wr.cell? ⟨gb108, 1, none⟩ = some (.int .i64 (Go.bits .and .i64 t102 1048575)) := (blk_cell BK108.out 1).trans rfl
           have hcz77_2 : wr.cell? ⟨gb108, 2, none⟩ = some (.int .i64 (wrap64 (bt a0 7))) := (blk_cell BK108.out 2).trans rfl
           have hcz77_3 : wr.cell? ⟨gb108, 3, none⟩ = some (.int .i64 x109003_1) := (blk_cell BK108.out 3).trans rfl
           have hcz77_4 : wr.cell? ⟨gb108, 4, none⟩ = some (.string (a0.extract 8 24)) := (blk_cell BK108.out 4).trans rfl
           have hcz77_5 : wr.cell? ⟨gb108, 5, none⟩ = some (.string (a0.extract 24 40)) := (blk_cell BK108.out 5).trans rfl
           have hcz77_6 : wr.cell? ⟨gb108, 6, none⟩ = some (u109006) := (blk_cell BK108.out 6).trans rfl
           have hfz77_0 := blk_frozen BK108.out 0; have hfz77_1 := blk_frozen BK108.out 1; have hfz77_2 := blk_frozen BK108.out 2; have hfz77_3 := blk_frozen BK108.out 3; have hfz77_4 := blk_frozen BK108.out 4; have hfz77_5 := blk_frozen BK108.out 5; have hfz77_6 := blk_frozen BK108.out 6
           go_wp2_with (first | ((with_reducible refine gate_callee (f := 53) rfl ?_); refine gL_ (some 68) rfl rfl Try.func53 (by kernel_rfl) rfl #[.int .i64 x109003_1] rfl ?_; (with_reducible refine (ipsix_extension.calls x109003_1 true _ A46.out).mono ?_); rintro e w' ⟨rfl, ⟨nd, rfl⟩⟩; refine ⟨_, rfl, ?_⟩; (try (rw [drewN_self wr]; generalize hq_ : World.drewN wr _ = wr; have n0_ : Aside0 (Kd.R k102 102 wr w.heap.size (fun _ => True) u109006 x109006_1) := ⟨by rw [← hq_]; exact (by (with_reducible repeat first | apply Kd.R_alloc | apply Kd.R_drewN | apply Kd.R_drew); exact HO_109006.out)⟩; have n1_ : Aside0 (wr.heap[gb101]? = some (.cells #[.int .i64 x102000_1, .int .i64 x102001_1, .int .i64 x102002_1, .int .i64 x102003_1, .string x102004_1, .string x102005_1, .slice none 0 0] 90 (0, 0))) := ⟨by rw [← hq_]; exact (by (with_reducible repeat first | apply pN_ | apply pD_ | apply pA_); exact BK101.out)⟩; have n2_ : Aside0 (wr.heap[gb108]? = some (.cells #[.int .i64 (Go.bits .and .i64 (t102 / 1048576) 255), .int .i64 (Go.bits .and .i64 t102 1048575), .int .i64 (wrap64 (bt a0 7)), .int .i64 x109003_1, .string (a0.extract 8 24), .string (a0.extract 24 40), u109006] 90 (0, 0))) := ⟨by rw [← hq_]; exact (by (with_reducible repeat first | apply pN_ | apply pD_ | apply pA_); exact BK108.out)⟩; have n3_ : Aside0 (Below w.heap.size w wr) := ⟨by rw [← hq_]; exact (bU_ HB.out)⟩; clear HO_109006 BK101 BK108 HB hq_; have HO_109006 := n0_; have BK101 := n1_; have BK108 := n2_; have HB := n3_; clear n0_ n1_ n2_ n3_)); have hcz78_0 : wr.cell? ⟨gb108, 0, none⟩ = some (.int .i64 (Go.bits .and .i64 (t102 / 1048576) 255)) := (blk_cell BK108.out 0).trans rfl; have hcz78_1 : wr.cell? ⟨gb108, 1, none⟩ = some (.int .i64 (Go.bits .and .i64 t102 1048575)) := (blk_cell BK108.out 1).trans rfl; have hcz78_2 : wr.cell? ⟨gb108, 2, none⟩ = some (.int .i64 (wrap64 (bt a0 7))) := (blk_cell BK108.out 2).trans rfl; have hcz78_3 : wr.cell? ⟨gb108, 3, none⟩ = some (.int .i64 x109003_1) := (blk_cell BK108.out 3).trans rfl; have hcz78_4 : wr.cell? ⟨gb108, 4, none⟩ = some (.string (a0.extract 8 24)) := (blk_cell BK108.out 4).trans rfl; have hcz78_5 : wr.cell? ⟨gb108, 5, none⟩ = some (.string (a0.extract 24 40)) := (blk_cell BK108.out 5).trans rfl; have hcz78_6 : wr.cell? ⟨gb108, 6, none⟩ = some (u109006) := (blk_cell BK108.out 6).trans rfl; have hfz78_0 := blk_frozen BK108.out 0; have hfz78_1 := blk_frozen BK108.out 1; have hfz78_2 := blk_frozen BK108.out 2; have hfz78_3 := blk_frozen BK108.out 3; have hfz78_4 := blk_frozen BK108.out 4; have hfz78_5 := blk_frozen BK108.out 5; have hfz78_6 := blk_frozen BK108.out 6) | ((with_reducible refine gate_callee (f := 54) rfl ?_); refine gL_ (some 73) rfl rfl Try.func54 (by kernel_rfl) rfl #[.int .i64 x109003_1, .string x12_1] rfl ?_; (with_reducible refine (ipsix_ext.calls x109003_1 x12_1 t110 t111 t112 t113 true _ A48.out).mono ?_); rintro e w79 ⟨rfl, hb⟩; refine ⟨_, rfl, ?_⟩; have n0_ := Aside0.mk (rB_ HO_109006.out hb); have n1_ := Aside0.mk (bB_ BK101.out hb); have n2_ := Aside0.mk (bB_ BK108.out hb); have n3_ := Aside0.mk (below_step (bU_ HB.out) hb); clear HO_109006 BK101 BK108 HB; have HO_109006 := n0_; have BK101 := n1_; have BK108 := n2_; have HB := n3_; clear n0_ n1_ n2_ n3_; (try clear hb); (try clear hb2); (try clear hk); (try clear hi)) | ((with_reducible refine gate_dst (N := 13) rfl ?_); (try (refine gate_guard (by rfl) ?_; dsimp only)); refine bE_ (N := 13) (cs := #[.int .i64 0, .string ⟨#[]⟩]) (t := 102) ?_; intro gb115 hg w80 hbox hb; have n0_ := Aside0.mk (Kd.R_below (Kd.R_elderB (by (with_reducible repeat first | apply Kd.R_alloc | apply Kd.R_drewN | apply Kd.R_drew); exact HO_109006.out) gb115 (Nat.le_of_eq hg.symm)) hb); have n1_ := Aside0.mk (bB_ BK101.out hb); have n2_ := Aside0.mk (bB_ BK108.out hb); have n3_ := Aside0.mk (below_step (bU_ HB.out) hb); have n4_ := Aside0.mk (hbox); have n5_ := Aside0.mk (bZ_ hg (bU_ HB.out) : w.heap.size ≤ gb115); have n6_ := n5_; have n7_ := Aside0.mk ((bN_ hg BK101.out : gb101 ≠ gb115)); have n8_ := Aside0.mk (Ne.symm n7_.out); have n9_ := Aside0.mk ((bN_ hg BK108.out : gb108 ≠ gb115)); have n10_ := Aside0.mk (Ne.symm n9_.out); clear HO_109006 BK101 BK108 HB; have HO_109006 := n0_; have BK101 := n1_; have BK108 := n2_; have HB := n3_; have BK115 := n4_; have GW115 := n5_; have GE115 := n6_; have NB101_115 := n7_; have NB115_101 := n8_; have NB108_115 := n9_; have NB115_108 := n10_; clear n0_ n1_ n2_ n3_ n4_ n5_ n6_ n7_ n8_ n9_ n10_; clear hb hbox hg; have hnb81 := NB115_101.out; have hnc81 := NB101_115.out; have hnb82 := NB115_108.out; have hnc82 := NB108_115.out; have hcz83_0 : w80.cell? ⟨gb115, 0, none⟩ = some (.int .i64 0) := (blk_cell BK115.out 0).trans rfl; have hcz83_1 : w80.cell? ⟨gb115, 1, none⟩ = some (.string ⟨#[]⟩) := (blk_cell BK115.out 1).trans rfl; have hfz83_0 := blk_frozen BK115.out 0; have hfz83_1 := blk_frozen BK115.out 1; have hcz84_0 : w80.cell? ⟨gb108, 0, none⟩ = some (.int .i64 (Go.bits .and .i64 (t102 / 1048576) 255)) := (blk_cell BK108.out 0).trans rfl; have hcz84_1 : w80.cell? ⟨gb108, 1, none⟩ = some (.int .i64 (Go.bits .and .i64 t102 1048575)) := (blk_cell BK108.out 1).trans rfl; have hcz84_2 : w80.cell? ⟨gb108, 2, none⟩ = some (.int .i64 (wrap64 (bt a0 7))) := (blk_cell BK108.out 2).trans rfl; have hcz84_3 : w80.cell? ⟨gb108, 3, none⟩ = some (.int .i64 x109003_1) := (blk_cell BK108.out 3).trans rfl; have hcz84_4 : w80.cell? ⟨gb108, 4, none⟩ = some (.string (a0.extract 8 24)) := (blk_cell BK108.out 4).trans rfl; have hcz84_5 : w80.cell? ⟨gb108, 5, none⟩ = some (.string (a0.extract 24 40)) := (blk_cell BK108.out 5).trans rfl; have hcz84_6 : w80.cell? ⟨gb108, 6, none⟩ = some (u109006) := (blk_cell BK108.out 6).trans rfl; have hfz84_0 := blk_frozen BK108.out 0; have hfz84_1 := blk_frozen BK108.out 1; have hfz84_2 := blk_frozen BK108.out 2; have hfz84_3 := blk_frozen BK108.out 3; have hfz84_4 := blk_frozen BK108.out 4; have hfz84_5 := blk_frozen BK108.out 5; have hfz84_6 := blk_frozen BK108.out 6; obtain ⟨Ao85, co85, eo85⟩ := Kd.R_slice HO_109006.out; subst eo85) | ((with_reducible refine gate_builtin (b := .append) (xs := #[.tmp 99, .tmp 101]) rfl ?_); (try (refine gate_guard (by rfl) ?_; dsimp only)); at_builtin; refine Kd.R_append k102 (w0 := w) w.heap.size rfl (.tmp 99) (.tmp 101) 88 102 (.agg #[(.int .i64 0), (.string ⟨#[]⟩)]) 24 rfl Try.underlying88 info102 rfl (by decide) (by omega) (.slice Ao85 x109006_1.length co85) x109006_1 (⟨t110, t111⟩ : S102) [.int .i64 t110, .string t111] (fun k_ => k_ ≠ gb115) (fun _ => False) rfl (by first | (go_simp; done) | (go_simp; rfl)) ?aP (fun _ hk => hk.elim) ?aF ?aO ?aB ?aS ?aL ?_; (case aP => exact k102_mkM _ _ _ (⟨t110, t111⟩ : S102)); (case aB => exact (bU_ HB.out)); (case aF => exact (fun k_ hk => Kd.freshB (g := gb115) (o := .cells #[.int .i64 t110, .string t111] 102 (0, 0)) (by (with_reducible repeat first | apply pN_ | apply pD_ | apply pA_); refine blk_put (cs := #[.int .i64 t110, .string ⟨#[]⟩]) ?_ 1 _ rfl; (with_reducible repeat first | apply pN_ | apply pD_ | apply pA_); refine blk_put (cs := #[.int .i64 0, .string ⟨#[]⟩]) ?_ 0 _ rfl; (with_reducible repeat first | apply pN_ | apply pD_ | apply pA_); exact BK115.out) k_ hk)); (case aO => exact (by (with_reducible repeat first | apply Kd.R_alloc | apply Kd.R_drewN | apply Kd.R_drew); exact Kd.R_mono (Kd.R_far (p := ⟨gb115, 1, none⟩) (Kd.R_far (p := ⟨gb115, 0, none⟩) (Kd.R_mono HO_109006.out (fun k_ hk => (⟨hk, hk.2⟩ : _ ∧ k_ ≠ gb115))) (fun _ hk => hk.2) (.int .i64 t110)) (fun _ hk => hk.2) (.string t111)) (fun _ hk => hk.1.2))); (case aS => exact (below_size (bU_ HB.out))); (case aL => have := LMc75.out; omega); intro v117 w86 ho hb hg hat; rw [← Ny116.out] at ho; have n0_ := Aside0.mk (blk_grown (g := gb101) (o := .cells #[.int .i64 x102000_1, .int .i64 x102001_1, .int .i64 x102002_1, .int .i64 x102003_1, .string x102004_1, .string x102005_1, .slice none 0 0] 90 (0, 0)) (by (iterate 2 ((with_reducible repeat first | apply pN_ | apply pD_ | apply pA_); refine blk_far ?_ NB101_115.out _)); (with_reducible repeat first | apply pN_ | apply pD_ | apply pA_); exact BK101.out) hg (Kd.R_ne HO_109006.out BK101.out (by decide))); have n1_ := Aside0.mk (blk_grown (g := gb108) (o := .cells #[.int .i64 (Go.bits .and .i64 (t102 / 1048576) 255), .int .i64 (Go.bits .and .i64 t102 1048575), .int .i64 (wrap64 (bt a0 7)), .int .i64 x109003_1, .string (a0.extract 8 24), .string (a0.extract 24 40), .slice Ao85 x109006_1.length co85] 90 (0, 0)) (by (iterate 2 ((with_reducible repeat first | apply pN_ | apply pD_ | apply pA_); refine blk_far ?_ NB108_115.out _)); (with_reducible repeat first | apply pN_ | apply pD_ | apply pA_); exact BK108.out) hg (Kd.R_ne HO_109006.out BK108.out (by decide))); have n2_ := Aside0.mk (blk_grown (g := gb115) (o := .cells #[.int .i64 t110, .string t111] 102 (0, 0)) (by (with_reducible repeat first | apply pN_ | apply pD_ | apply pA_); refine blk_put (cs := #[.int .i64 t110, .string ⟨#[]⟩]) ?_ 1 _ rfl; (with_reducible repeat first | apply pN_ | apply pD_ | apply pA_); refine blk_put (cs := #[.int .i64 0, .string ⟨#[]⟩]) ?_ 0 _ rfl; (with_reducible repeat first | apply pN_ | apply pD_ | apply pA_); exact BK115.out) hg (Kd.R_away HO_109006.out (fun _ hk => hk.2))); have n3_ := Aside0.mk (hb); have n4_ := Aside0.mk (ho); clear BK101 BK108 BK115 HB HO_109006; have BK101 := n0_; have BK108 := n1_; have BK115 := n2_; have HB := n3_; have HO118 := n4_; clear n0_ n1_ n2_ n3_ n4_; clear ho hb hg hat; obtain ⟨Ao87, co87, eo87⟩ := Kd.R_slice HO118.out; subst eo87; have hcz88_0 : w86.cell? ⟨gb108, 0, none⟩ = some (.int .i64 (Go.bits .and .i64 (t102 / 1048576) 255)) := (blk_cell BK108.out 0).trans rfl; have hcz88_1 : w86.cell? ⟨gb108, 1, none⟩ = some (.int .i64 (Go.bits .and .i64 t102 1048575)) := (blk_cell BK108.out 1).trans rfl; have hcz88_2 : w86.cell? ⟨gb108, 2, none⟩ = some (.int .i64 (wrap64 (bt a0 7))) := (blk_cell BK108.out 2).trans rfl; have hcz88_3 : w86.cell? ⟨gb108, 3, none⟩ = some (.int .i64 x109003_1) := (blk_cell BK108.out 3).trans rfl; have hcz88_4 : w86.cell? ⟨gb108, 4, none⟩ = some (.string (a0.extract 8 24)) := (blk_cell BK108.out 4).trans rfl; have hcz88_5 : w86.cell? ⟨gb108, 5, none⟩ = some (.string (a0.extract 24 40)) := (blk_cell BK108.out 5).trans rfl; have hcz88_6 : w86.cell? ⟨gb108, 6, none⟩ = some (.slice Ao85 x109006_1.length co85) := (blk_cell BK108.out 6).trans rfl; have hfz88_0 := blk_frozen BK108.out 0; have hfz88_1 := blk_frozen BK108.out 1; have hfz88_2 := blk_frozen BK108.out 2; have hfz88_3 := blk_frozen BK108.out 3; have hfz88_4 := blk_frozen BK108.out 4; have hfz88_5 := blk_frozen BK108.out 5; have hfz88_6 := blk_frozen BK108.out 6))
           go_roundg k1
           case measure => have := HK1.out; omega
           case rel => exact ⟨(t113), (x102000_1), (x102001_1), (x102002_1), (x102003_1), (x102004_1), (x102005_1), (t112), (y116), (.slice Ao87 y116.length co87), (by first | rfl | (simp; done) | (simp [*]; done)), H', ⟨by have := HK1.out; omega⟩, ⟨by (with_reducible repeat first | apply Kd.R_alloc | apply Kd.R_drewN | apply Kd.R_drew); exact Kd.R_mono (Kd.R_far (p := ⟨gb108, 3, none⟩) (Kd.R_far (p := ⟨gb108, 6, none⟩) (Kd.R_types HO118.out BK108.out (by decide)) (fun _ hk => hk.2) (.slice Ao87 y116.length co87)) (fun _ hk => hk.2) (.int .i64 t112)) (fun _ hk => trivial)⟩, ⟨by (iterate 2 ((with_reducible repeat first | apply pN_ | apply pD_ | apply pA_); refine blk_far ?_ NB101_108.out _)); (with_reducible repeat first | apply pN_ | apply pD_ | apply pA_); exact BK101.out⟩, ⟨by (with_reducible repeat first | apply pN_ | apply pD_ | apply pA_); refine blk_put (cs := #[.int .i64 (Go.bits .and .i64 (t102 / 1048576) 255), .int .i64 (Go.bits .and .i64 t102 1048575), .int .i64 (wrap64 (bt a0 7)), .int .i64 x109003_1, .string (a0.extract 8 24), .string (a0.extract 24 40), .slice Ao87 y116.length co87]) ?_ 3 _ rfl; (with_reducible repeat first | apply pN_ | apply pD_ | apply pA_); refine blk_put (cs := #[.int .i64 (Go.bits .and .i64 (t102 / 1048576) 255), .int .i64 (Go.bits .and .i64 t102 1048575), .int .i64 (wrap64 (bt a0 7)), .int .i64 x109003_1, .string (a0.extract 8 24), .string (a0.extract 24 40), .slice Ao85 x109006_1.length co85]) ?_ 6 _ rfl; (with_reducible repeat first | apply pN_ | apply pD_ | apply pA_); exact BK108.out⟩, ⟨bU_ HB.out⟩⟩
         ·rw [if_neg c62] at H
          have c62b0 : (t110 == 0) = false := beq_eq_false_iff_ne.mpr c62
          have c62b1 : (t110 != 0) = true := bne_iff_ne.mpr c62
          by_cases c89 : x109006_1.length < 5864062014805
          rotate_left
          ·rw [if_neg c89] at H; exact absurd H (by simp)
          rw [if_pos c89] at H
          have LMc89 := Aside0.mk c89
          clear c89
          obtain ⟨y119, hy119⟩ : ∃ y_ : List (S102), y_ = (x109006_1 ++ [(⟨t110, t111⟩ : S102)]) := ⟨_, rfl⟩
          replace H : (ipsix_Take.l0 k1 t113 (Go.bits .and .i64 (t102 / 1048576) 255) (Go.bits .and .i64 t102 1048575) (wrap64 (bt a0 7)) t112 (a0.extract 8 24) (a0.extract 24 40) y119) = some (r1, r2, r3, r4, r5, r6, r7, r8, r9) := by first | (rw [hy119]; with_reducible exact H) | (have H2_ := (Option.bind_some _ _).symm.trans H; rw [hy119]; with_reducible exact H2_) | (have H2_ := (Option.bind_some _ _).symm.trans H; with_reducible exact H2_) | with_reducible exact H | (rw [hy119]; exact H) | exact H
          have Ny119 := Aside0.mk hy119
          clear hy119
          have H' := Aside0.mk H
          clear H
          have hnb90 := NB108_101.out
          have hnc90 := NB101_108.out
          have hcz91_0 : wr.cell? ⟨gb108, 0, none⟩ = some (.int .i64 (Go.bits .and .i64 (t102 / 1048576) 255)) := (blk_cell BK108.out 0).trans rfl
          have hcz91_1 : wr.cell? ⟨gb108, 1, none⟩ = some (.int .i64 (Go.bits .and .i64 t102 1048575)) := (blk_cell BK108.out 1).trans rfl
          have hcz91_2 : wr.cell? ⟨gb108, 2, none⟩ = some (.int .i64 (wrap64 (bt a0 7))) := (blk_cell BK108.out 2).trans rfl
          have hcz91_3 : wr.cell? ⟨gb108, 3, none⟩ = some (.int .i64 x109003_1) := (blk_cell BK108.out 3).trans rfl
          have hcz91_4 : wr.cell? ⟨gb108, 4, none⟩ = some (.string (a0.extract 8 24)) := (blk_cell BK108.out 4).trans rfl
          have hcz91_5 : wr.cell? ⟨gb108, 5, none⟩ = some (.string (a0.extract 24 40)) := (blk_cell BK108.out 5).trans rfl
          have hcz91_6 : wr.cell? ⟨gb108, 6, none⟩ = some (u109006) := (blk_cell BK108.out 6).trans rfl
          have hfz91_0 := blk_frozen BK108.out 0; have hfz91_1 := blk_frozen BK108.out 1; have hfz91_2 := blk_frozen BK108.out 2; have hfz91_3 := blk_frozen BK108.out 3; have hfz91_4 := blk_frozen BK108.out 4; have hfz91_5 := blk_frozen BK108.out 5; have hfz91_6 := blk_frozen BK108.out 6
          go_wp2_with (first | ((with_reducible refine gate_callee (f := 53) rfl ?_); refine gL_ (some 68) rfl rfl Try.func53 (by kernel_rfl) rfl #[.int .i64 x109003_1] rfl ?_; (with_reducible refine (ipsix_extension.calls x109003_1 true _ A46.out).mono ?_); rintro e w' ⟨rfl, ⟨nd, rfl⟩⟩; refine ⟨_, rfl, ?_⟩; (try (rw [drewN_self wr]; generalize hq_ : World.drewN wr _ = wr; have n0_ : Aside0 (Kd.R k102 102 wr w.heap.size (fun _ => True) u109006 x109006_1) := ⟨by rw [← hq_]; exact (by (with_reducible repeat first | apply Kd.R_alloc | apply Kd.R_drewN | apply Kd.R_drew); exact HO_109006.out)⟩; have n1_ : Aside0 (wr.heap[gb101]? = some (.cells #[.int .i64 x102000_1, .int .i64 x102001_1, .int .i64 x102002_1, .int .i64 x102003_1, .string x102004_1, .string x102005_1, .slice none 0 0] 90 (0, 0))) := ⟨by rw [← hq_]; exact (by (with_reducible repeat first | apply pN_ | apply pD_ | apply pA_); exact BK101.out)⟩; have n2_ : Aside0 (wr.heap[gb108]? = some (.cells #[.int .i64 (Go.bits .and .i64 (t102 / 1048576) 255), .int .i64 (Go.bits .and .i64 t102 1048575), .int .i64 (wrap64 (bt a0 7)), .int .i64 x109003_1, .string (a0.extract 8 24), .string (a0.extract 24 40), u109006] 90 (0, 0))) := ⟨by rw [← hq_]; exact (by (with_reducible repeat first | apply pN_ | apply pD_ | apply pA_); exact BK108.out)⟩; have n3_ : Aside0 (Below w.heap.size w wr) := ⟨by rw [← hq_]; exact (bU_ HB.out)⟩; clear HO_109006 BK101 BK108 HB hq_; have HO_109006 := n0_; have BK101 := n1_; have BK108 := n2_; have HB := n3_; clear n0_ n1_ n2_ n3_)); have hcz92_0 : wr.cell? ⟨gb108, 0, none⟩ = some (.int .i64 (Go.bits .and .i64 (t102 / 1048576) 255)) := (blk_cell BK108.out 0).trans rfl; have hcz92_1 : wr.cell? ⟨gb108, 1, none⟩ = some (.int .i64 (Go.bits .and .i64 t102 1048575)) := (blk_cell BK108.out 1).trans rfl; have hcz92_2 : wr.cell? ⟨gb108, 2, none⟩ = some (.int .i64 (wrap64 (bt a0 7))) := (blk_cell BK108.out 2).trans rfl; have hcz92_3 : wr.cell? ⟨gb108, 3, none⟩ = some (.int .i64 x109003_1) := (blk_cell BK108.out 3).trans rfl; have hcz92_4 : wr.cell? ⟨gb108, 4, none⟩ = some (.string (a0.extract 8 24)) := (blk_cell BK108.out 4).trans rfl; have hcz92_5 : wr.cell? ⟨gb108, 5, none⟩ = some (.string (a0.extract 24 40)) := (blk_cell BK108.out 5).trans rfl; have hcz92_6 : wr.cell? ⟨gb108, 6, none⟩ = some (u109006) := (blk_cell BK108.out 6).trans rfl; have hfz92_0 := blk_frozen BK108.out 0; have hfz92_1 := blk_frozen BK108.out 1; have hfz92_2 := blk_frozen BK108.out 2; have hfz92_3 := blk_frozen BK108.out 3; have hfz92_4 := blk_frozen BK108.out 4; have hfz92_5 := blk_frozen BK108.out 5; have hfz92_6 := blk_frozen BK108.out 6) | ((with_reducible refine gate_callee (f := 54) rfl ?_); refine gL_ (some 73) rfl rfl Try.func54 (by kernel_rfl) rfl #[.int .i64 x109003_1, .string x12_1] rfl ?_; (with_reducible refine (ipsix_ext.calls x109003_1 x12_1 t110 t111 t112 t113 true _ A48.out).mono ?_); rintro e w93 ⟨rfl, hb⟩; refine ⟨_, rfl, ?_⟩; have n0_ := Aside0.mk (rB_ HO_109006.out hb); have n1_ := Aside0.mk (bB_ BK101.out hb); have n2_ := Aside0.mk (bB_ BK108.out hb); have n3_ := Aside0.mk (below_step (bU_ HB.out) hb); clear HO_109006 BK101 BK108 HB; have HO_109006 := n0_; have BK101 := n1_; have BK108 := n2_; have HB := n3_; clear n0_ n1_ n2_ n3_; (try clear hb); (try clear hb2); (try clear hk); (try clear hi)) | ((with_reducible refine gate_dst (N := 13) rfl ?_); (try (refine gate_guard (by rfl) ?_; dsimp only)); refine bE_ (N := 13) (cs := #[.int .i64 0, .string ⟨#[]⟩]) (t := 102) ?_; intro gb115 hg w94 hbox hb; have n0_ := Aside0.mk (Kd.R_below (Kd.R_elderB (by (with_reducible repeat first | apply Kd.R_alloc | apply Kd.R_drewN | apply Kd.R_drew); exact HO_109006.out) gb115 (Nat.le_of_eq hg.symm)) hb); have n1_ := Aside0.mk (bB_ BK101.out hb); have n2_ := Aside0.mk (bB_ BK108.out hb); have n3_ := Aside0.mk (below_step (bU_ HB.out) hb); have n4_ := Aside0.mk (hbox); have n5_ := Aside0.mk (bZ_ hg (bU_ HB.out) : w.heap.size ≤ gb115); have n6_ := n5_; have n7_ := Aside0.mk ((bN_ hg BK101.out : gb101 ≠ gb115)); have n8_ := Aside0.mk (Ne.symm n7_.out); have n9_ := Aside0.mk ((bN_ hg BK108.out : gb108 ≠ gb115)); have n10_ := Aside0.mk (Ne.symm n9_.out); clear HO_109006 BK101 BK108 HB; have HO_109006 := n0_; have BK101 := n1_; have BK108 := n2_; have HB := n3_; have BK115 := n4_; have GW115 := n5_; have GE115 := n6_; have NB101_115 := n7_; have NB115_101 := n8_; have NB108_115 := n9_; have NB115_108 := n10_; clear n0_ n1_ n2_ n3_ n4_ n5_ n6_ n7_ n8_ n9_ n10_; clear hb hbox hg; have hnb95 := NB115_101.out; have hnc95 := NB101_115.out; have hnb96 := NB115_108.out; have hnc96 := NB108_115.out; have hcz97_0 : w94.cell? ⟨gb115, 0, none⟩ = some (.int .i64 0) := (blk_cell BK115.out 0).trans rfl; have hcz97_1 : w94.cell? ⟨gb115, 1, none⟩ = some (.string ⟨#[]⟩) := (blk_cell BK115.out 1).trans rfl; have hfz97_0 := blk_frozen BK115.out 0; have hfz97_1 := blk_frozen BK115.out 1; have hcz98_0 : w94.cell? ⟨gb108, 0, none⟩ = some (.int .i64 (Go.bits .and .i64 (t102 / 1048576) 255)) := (blk_cell BK108.out 0).trans rfl; have hcz98_1 : w94.cell? ⟨gb108, 1, none⟩ = some (.int .i64 (Go.bits .and .i64 t102 1048575)) := (blk_cell BK108.out 1).trans rfl; have hcz98_2 : w94.cell? ⟨gb108, 2, none⟩ = some (.int .i64 (wrap64 (bt a0 7))) := (blk_cell BK108.out 2).trans rfl; have hcz98_3 : w94.cell? ⟨gb108, 3, none⟩ = some (.int .i64 x109003_1) := (blk_cell BK108.out 3).trans rfl; have hcz98_4 : w94.cell? ⟨gb108, 4, none⟩ = some (.string (a0.extract 8 24)) := (blk_cell BK108.out 4).trans rfl; have hcz98_5 : w94.cell? ⟨gb108, 5, none⟩ = some (.string (a0.extract 24 40)) := (blk_cell BK108.out 5).trans rfl; have hcz98_6 : w94.cell? ⟨gb108, 6, none⟩ = some (u109006) := (blk_cell BK108.out 6).trans rfl; have hfz98_0 := blk_frozen BK108.out 0; have hfz98_1 := blk_frozen BK108.out 1; have hfz98_2 := blk_frozen BK108.out 2; have hfz98_3 := blk_frozen BK108.out 3; have hfz98_4 := blk_frozen BK108.out 4; have hfz98_5 := blk_frozen BK108.out 5; have hfz98_6 := blk_frozen BK108.out 6; obtain ⟨Ao99, co99, eo99⟩ := Kd.R_slice HO_109006.out; subst eo99) | ((with_reducible refine gate_builtin (b := .append) (xs := #[.tmp 99, .tmp 101]) rfl ?_); (try (refine gate_guard (by rfl) ?_; dsimp only)); at_builtin; refine Kd.R_append k102 (w0 := w) w.heap.size rfl (.tmp 99) (.tmp 101) 88 102 (.agg #[(.int .i64 0), (.string ⟨#[]⟩)]) 24 rfl Try.underlying88 info102 rfl (by decide) (by omega) (.slice Ao99 x109006_1.length co99) x109006_1 (⟨t110, t111⟩ : S102) [.int .i64 t110, .string t111] (fun k_ => k_ ≠ gb115) (fun _ => False) rfl (by first | (go_simp; done) | (go_simp; rfl)) ?aP (fun _ hk => hk.elim) ?aF ?aO ?aB ?aS ?aL ?_; (case aP => exact k102_mkM _ _ _ (⟨t110, t111⟩ : S102)); (case aB => exact (bU_ HB.out)); (case aF => exact (fun k_ hk => Kd.freshB (g := gb115) (o := .cells #[.int .i64 t110, .string t111] 102 (0, 0)) (by (with_reducible repeat first | apply pN_ | apply pD_ | apply pA_); refine blk_put (cs := #[.int .i64 t110, .string ⟨#[]⟩]) ?_ 1 _ rfl; (with_reducible repeat first | apply pN_ | apply pD_ | apply pA_); refine blk_put (cs := #[.int .i64 0, .string ⟨#[]⟩]) ?_ 0 _ rfl; (with_reducible repeat first | apply pN_ | apply pD_ | apply pA_); exact BK115.out) k_ hk)); (case aO => exact (by (with_reducible repeat first | apply Kd.R_alloc | apply Kd.R_drewN | apply Kd.R_drew); exact Kd.R_mono (Kd.R_far (p := ⟨gb115, 1, none⟩) (Kd.R_far (p := ⟨gb115, 0, none⟩) (Kd.R_mono HO_109006.out (fun k_ hk => (⟨hk, hk.2⟩ : _ ∧ k_ ≠ gb115))) (fun _ hk => hk.2) (.int .i64 t110)) (fun _ hk => hk.2) (.string t111)) (fun _ hk => hk.1.2))); (case aS => exact (below_size (bU_ HB.out))); (case aL => have := LMc89.out; omega); intro v120 w100 ho hb hg hat; rw [← Ny119.out] at ho; have n0_ := Aside0.mk (blk_grown (g := gb101) (o := .cells #[.int .i64 x102000_1, .int .i64 x102001_1, .int .i64 x102002_1, .int .i64 x102003_1, .string x102004_1, .string x102005_1, .slice none 0 0] 90 (0, 0)) (by (iterate 2 ((with_reducible repeat first | apply pN_ | apply pD_ | apply pA_); refine blk_far ?_ NB101_115.out _)); (with_reducible repeat first | apply pN_ | apply pD_ | apply pA_); exact BK101.out) hg (Kd.R_ne HO_109006.out BK101.out (by decide))); have n1_ := Aside0.mk (blk_grown (g := gb108) (o := .cells #[.int .i64 (Go.bits .and .i64 (t102 / 1048576) 255), .int .i64 (Go.bits .and .i64 t102 1048575), .int .i64 (wrap64 (bt a0 7)), .int .i64 x109003_1, .string (a0.extract 8 24), .string (a0.extract 24 40), .slice Ao99 x109006_1.length co99] 90 (0, 0)) (by (iterate 2 ((with_reducible repeat first | apply pN_ | apply pD_ | apply pA_); refine blk_far ?_ NB108_115.out _)); (with_reducible repeat first | apply pN_ | apply pD_ | apply pA_); exact BK108.out) hg (Kd.R_ne HO_109006.out BK108.out (by decide))); have n2_ := Aside0.mk (blk_grown (g := gb115) (o := .cells #[.int .i64 t110, .string t111] 102 (0, 0)) (by (with_reducible repeat first | apply pN_ | apply pD_ | apply pA_); refine blk_put (cs := #[.int .i64 t110, .string ⟨#[]⟩]) ?_ 1 _ rfl; (with_reducible repeat first | apply pN_ | apply pD_ | apply pA_); refine blk_put (cs := #[.int .i64 0, .string ⟨#[]⟩]) ?_ 0 _ rfl; (with_reducible repeat first | apply pN_ | apply pD_ | apply pA_); exact BK115.out) hg (Kd.R_away HO_109006.out (fun _ hk => hk.2))); have n3_ := Aside0.mk (hb); have n4_ := Aside0.mk (ho); clear BK101 BK108 BK115 HB HO_109006; have BK101 := n0_; have BK108 := n1_; have BK115 := n2_; have HB := n3_; have HO121 := n4_; clear n0_ n1_ n2_ n3_ n4_; clear ho hb hg hat; obtain ⟨Ao101, co101, eo101⟩ := Kd.R_slice HO121.out; subst eo101; have hcz102_0 : w100.cell? ⟨gb108, 0, none⟩ = some (.int .i64 (Go.bits .and .i64 (t102 / 1048576) 255)) := (blk_cell BK108.out 0).trans rfl; have hcz102_1 : w100.cell? ⟨gb108, 1, none⟩ = some (.int .i64 (Go.bits .and .i64 t102 1048575)) := (blk_cell BK108.out 1).trans rfl; have hcz102_2 : w100.cell? ⟨gb108, 2, none⟩ = some (.int .i64 (wrap64 (bt a0 7))) := (blk_cell BK108.out 2).trans rfl; have hcz102_3 : w100.cell? ⟨gb108, 3, none⟩ = some (.int .i64 x109003_1) := (blk_cell BK108.out 3).trans rfl; have hcz102_4 : w100.cell? ⟨gb108, 4, none⟩ = some (.string (a0.extract 8 24)) := (blk_cell BK108.out 4).trans rfl; have hcz102_5 : w100.cell? ⟨gb108, 5, none⟩ = some (.string (a0.extract 24 40)) := (blk_cell BK108.out 5).trans rfl; have hcz102_6 : w100.cell? ⟨gb108, 6, none⟩ = some (.slice Ao99 x109006_1.length co99) := (blk_cell BK108.out 6).trans rfl; have hfz102_0 := blk_frozen BK108.out 0; have hfz102_1 := blk_frozen BK108.out 1; have hfz102_2 := blk_frozen BK108.out 2; have hfz102_3 := blk_frozen BK108.out 3; have hfz102_4 := blk_frozen BK108.out 4; have hfz102_5 := blk_frozen BK108.out 5; have hfz102_6 := blk_frozen BK108.out 6))
          go_roundg k1
          case measure => have := HK1.out; omega
          case rel => exact ⟨(t113), (x102000_1), (x102001_1), (x102002_1), (x102003_1), (x102004_1), (x102005_1), (t112), (y119), (.slice Ao101 y119.length co101), (by first | rfl | (simp; done) | (simp [*]; done)), H', ⟨by have := HK1.out; omega⟩, ⟨by (with_reducible repeat first | apply Kd.R_alloc | apply Kd.R_drewN | apply Kd.R_drew); exact Kd.R_mono (Kd.R_far (p := ⟨gb108, 3, none⟩) (Kd.R_far (p := ⟨gb108, 6, none⟩) (Kd.R_types HO121.out BK108.out (by decide)) (fun _ hk => hk.2) (.slice Ao101 y119.length co101)) (fun _ hk => hk.2) (.int .i64 t112)) (fun _ hk => trivial)⟩, ⟨by (iterate 2 ((with_reducible repeat first | apply pN_ | apply pD_ | apply pA_); refine blk_far ?_ NB101_108.out _)); (with_reducible repeat first | apply pN_ | apply pD_ | apply pA_); exact BK101.out⟩, ⟨by (with_reducible repeat first | apply pN_ | apply pD_ | apply pA_); refine blk_put (cs := #[.int .i64 (Go.bits .and .i64 (t102 / 1048576) 255), .int .i64 (Go.bits .and .i64 t102 1048575), .int .i64 (wrap64 (bt a0 7)), .int .i64 x109003_1, .string (a0.extract 8 24), .string (a0.extract 24 40), .slice Ao101 y119.length co101]) ?_ 3 _ rfl; (with_reducible repeat first | apply pN_ | apply pD_ | apply pA_); refine blk_put (cs := #[.int .i64 (Go.bits .and .i64 (t102 / 1048576) 255), .int .i64 (Go.bits .and .i64 t102 1048575), .int .i64 (wrap64 (bt a0 7)), .int .i64 x109003_1, .string (a0.extract 8 24), .string (a0.extract 24 40), .slice Ao99 x109006_1.length co99]) ?_ 6 _ rfl; (with_reducible repeat first | apply pN_ | apply pD_ | apply pA_); exact BK108.out⟩, ⟨bU_ HB.out⟩⟩
       ·replace c49 := Bool.eq_false_iff.mpr c49
        subst c49
        have H1 : (some (0, 0, 0, 0, (⟨#[]⟩ : ByteArray), (⟨#[]⟩ : ByteArray), ([] : List (S102)), (⟨#[]⟩ : ByteArray), 15)) = some (r1, r2, r3, r4, r5, r6, r7, r8, r9) := by rw [if_neg (show ¬ (false = true) by decide)] at H; exact H
        clear H
        have H := H1
        clear H1
        simp only [Option.some.injEq, Prod.mk.injEq] at H
        obtain ⟨rfl, rfl, rfl, rfl, rfl, rfl, rfl, rfl, rfl⟩ := H
        have hnb103 := NB108_101.out
        have hnc103 := NB101_108.out
        have hcz104_0 : wr.cell? ⟨gb108, 0, none⟩ = some (.int .i64 (Go.bits .and .i64 (t102 / 1048576) 255)) := (blk_cell BK108.out 0).trans rfl
        have hcz104_1 : wr.cell? ⟨gb108, 1, none⟩ = some (.int .i64 (Go.bits .and .i64 t102 1048575)) := (blk_cell BK108.out 1).trans rfl
        have hcz104_2 : wr.cell? ⟨gb108, 2, none⟩ = some (.int .i64 (wrap64 (bt a0 7))) := (blk_cell BK108.out 2).trans rfl
        have hcz104_3 : wr.cell? ⟨gb108, 3, none⟩ = some (.int .i64 x109003_1) := (blk_cell BK108.out 3).trans rfl
        have hcz104_4 : wr.cell? ⟨gb108, 4, none⟩ = some (.string (a0.extract 8 24)) := (blk_cell BK108.out 4).trans rfl
        have hcz104_5 : wr.cell? ⟨gb108, 5, none⟩ = some (.string (a0.extract 24 40)) := (blk_cell BK108.out 5).trans rfl
        have hcz104_6 : wr.cell? ⟨gb108, 6, none⟩ = some (u109006) := (blk_cell BK108.out 6).trans rfl
        have hfz104_0 := blk_frozen BK108.out 0; have hfz104_1 := blk_frozen BK108.out 1; have hfz104_2 := blk_frozen BK108.out 2; have hfz104_3 := blk_frozen BK108.out 3; have hfz104_4 := blk_frozen BK108.out 4; have hfz104_5 := blk_frozen BK108.out 5; have hfz104_6 := blk_frozen BK108.out 6
        go_wp2_with (first | ((with_reducible refine gate_callee (f := 53) rfl ?_); refine gL_ (some 68) rfl rfl Try.func53 (by kernel_rfl) rfl #[.int .i64 x109003_1] rfl ?_; (with_reducible refine (ipsix_extension.calls x109003_1 true _ A46.out).mono ?_); rintro e w' ⟨rfl, ⟨nd, rfl⟩⟩; refine ⟨_, rfl, ?_⟩; (try (rw [drewN_self wr]; generalize hq_ : World.drewN wr _ = wr; have n0_ : Aside0 (Kd.R k102 102 wr w.heap.size (fun _ => True) u109006 x109006_1) := ⟨by rw [← hq_]; exact (by (with_reducible repeat first | apply Kd.R_alloc | apply Kd.R_drewN | apply Kd.R_drew); exact HO_109006.out)⟩; have n1_ : Aside0 (wr.heap[gb101]? = some (.cells #[.int .i64 x102000_1, .int .i64 x102001_1, .int .i64 x102002_1, .int .i64 x102003_1, .string x102004_1, .string x102005_1, .slice none 0 0] 90 (0, 0))) := ⟨by rw [← hq_]; exact (by (with_reducible repeat first | apply pN_ | apply pD_ | apply pA_); exact BK101.out)⟩; have n2_ : Aside0 (wr.heap[gb108]? = some (.cells #[.int .i64 (Go.bits .and .i64 (t102 / 1048576) 255), .int .i64 (Go.bits .and .i64 t102 1048575), .int .i64 (wrap64 (bt a0 7)), .int .i64 x109003_1, .string (a0.extract 8 24), .string (a0.extract 24 40), u109006] 90 (0, 0))) := ⟨by rw [← hq_]; exact (by (with_reducible repeat first | apply pN_ | apply pD_ | apply pA_); exact BK108.out)⟩; have n3_ : Aside0 (Below w.heap.size w wr) := ⟨by rw [← hq_]; exact (bU_ HB.out)⟩; clear HO_109006 BK101 BK108 HB hq_; have HO_109006 := n0_; have BK101 := n1_; have BK108 := n2_; have HB := n3_; clear n0_ n1_ n2_ n3_)); have hcz105_0 : wr.cell? ⟨gb108, 0, none⟩ = some (.int .i64 (Go.bits .and .i64 (t102 / 1048576) 255)) := (blk_cell BK108.out 0).trans rfl; have hcz105_1 : wr.cell? ⟨gb108, 1, none⟩ = some (.int .i64 (Go.bits .and .i64 t102 1048575)) := (blk_cell BK108.out 1).trans rfl; have hcz105_2 : wr.cell? ⟨gb108, 2, none⟩ = some (.int .i64 (wrap64 (bt a0 7))) := (blk_cell BK108.out 2).trans rfl; have hcz105_3 : wr.cell? ⟨gb108, 3, none⟩ = some (.int .i64 x109003_1) := (blk_cell BK108.out 3).trans rfl; have hcz105_4 : wr.cell? ⟨gb108, 4, none⟩ = some (.string (a0.extract 8 24)) := (blk_cell BK108.out 4).trans rfl; have hcz105_5 : wr.cell? ⟨gb108, 5, none⟩ = some (.string (a0.extract 24 40)) := (blk_cell BK108.out 5).trans rfl; have hcz105_6 : wr.cell? ⟨gb108, 6, none⟩ = some (u109006) := (blk_cell BK108.out 6).trans rfl; have hfz105_0 := blk_frozen BK108.out 0; have hfz105_1 := blk_frozen BK108.out 1; have hfz105_2 := blk_frozen BK108.out 2; have hfz105_3 := blk_frozen BK108.out 3; have hfz105_4 := blk_frozen BK108.out 4; have hfz105_5 := blk_frozen BK108.out 5; have hfz105_6 := blk_frozen BK108.out 6) | ((with_reducible refine gate_callee (f := 54) rfl ?_); refine gL_ (some 73) rfl rfl Try.func54 (by kernel_rfl) rfl #[.int .i64 x109003_1, .string x12_1] rfl ?_; (with_reducible refine (ipsix_ext.calls x109003_1 x12_1 t110 t111 t112 t113 false _ A48.out).mono ?_); rintro e w106 ⟨rfl, hb⟩; refine ⟨_, rfl, ?_⟩; have n0_ := Aside0.mk (rB_ HO_109006.out hb); have n1_ := Aside0.mk (bB_ BK101.out hb); have n2_ := Aside0.mk (bB_ BK108.out hb); have n3_ := Aside0.mk (below_step (bU_ HB.out) hb); clear HO_109006 BK101 BK108 HB; have HO_109006 := n0_; have BK101 := n1_; have BK108 := n2_; have HB := n3_; clear n0_ n1_ n2_ n3_; (try clear hb); (try clear hb2); (try clear hk); (try clear hi)) | ((with_reducible refine gate_dst (N := 13) rfl ?_); (try (refine gate_guard (by rfl) ?_; dsimp only)); refine bE_ (N := 13) (cs := #[.int .i64 0, .string ⟨#[]⟩]) (t := 102) ?_; intro gb115 hg w107 hbox hb; have n0_ := Aside0.mk (Kd.R_below (Kd.R_elderB (by (with_reducible repeat first | apply Kd.R_alloc | apply Kd.R_drewN | apply Kd.R_drew); exact HO_109006.out) gb115 (Nat.le_of_eq hg.symm)) hb); have n1_ := Aside0.mk (bB_ BK101.out hb); have n2_ := Aside0.mk (bB_ BK108.out hb); have n3_ := Aside0.mk (below_step (bU_ HB.out) hb); have n4_ := Aside0.mk (hbox); have n5_ := Aside0.mk (bZ_ hg (bU_ HB.out) : w.heap.size ≤ gb115); have n6_ := n5_; have n7_ := Aside0.mk ((bN_ hg BK101.out : gb101 ≠ gb115)); have n8_ := Aside0.mk (Ne.symm n7_.out); have n9_ := Aside0.mk ((bN_ hg BK108.out : gb108 ≠ gb115)); have n10_ := Aside0.mk (Ne.symm n9_.out); clear HO_109006 BK101 BK108 HB; have HO_109006 := n0_; have BK101 := n1_; have BK108 := n2_; have HB := n3_; have BK115 := n4_; have GW115 := n5_; have GE115 := n6_; have NB101_115 := n7_; have NB115_101 := n8_; have NB108_115 := n9_; have NB115_108 := n10_; clear n0_ n1_ n2_ n3_ n4_ n5_ n6_ n7_ n8_ n9_ n10_; clear hb hbox hg; have hnb108 := NB115_101.out; have hnc108 := NB101_115.out; have hnb109 := NB115_108.out; have hnc109 := NB108_115.out; have hcz110_0 : w107.cell? ⟨gb115, 0, none⟩ = some (.int .i64 0) := (blk_cell BK115.out 0).trans rfl; have hcz110_1 : w107.cell? ⟨gb115, 1, none⟩ = some (.string ⟨#[]⟩) := (blk_cell BK115.out 1).trans rfl; have hfz110_0 := blk_frozen BK115.out 0; have hfz110_1 := blk_frozen BK115.out 1; have hcz111_0 : w107.cell? ⟨gb101, 0, none⟩ = some (.int .i64 x102000_1) := (blk_cell BK101.out 0).trans rfl; have hcz111_1 : w107.cell? ⟨gb101, 1, none⟩ = some (.int .i64 x102001_1) := (blk_cell BK101.out 1).trans rfl; have hcz111_2 : w107.cell? ⟨gb101, 2, none⟩ = some (.int .i64 x102002_1) := (blk_cell BK101.out 2).trans rfl; have hcz111_3 : w107.cell? ⟨gb101, 3, none⟩ = some (.int .i64 x102003_1) := (blk_cell BK101.out 3).trans rfl; have hcz111_4 : w107.cell? ⟨gb101, 4, none⟩ = some (.string x102004_1) := (blk_cell BK101.out 4).trans rfl; have hcz111_5 : w107.cell? ⟨gb101, 5, none⟩ = some (.string x102005_1) := (blk_cell BK101.out 5).trans rfl; have hcz111_6 : w107.cell? ⟨gb101, 6, none⟩ = some (.slice none 0 0) := (blk_cell BK101.out 6).trans rfl; have hfz111_0 := blk_frozen BK101.out 0; have hfz111_1 := blk_frozen BK101.out 1; have hfz111_2 := blk_frozen BK101.out 2; have hfz111_3 := blk_frozen BK101.out 3; have hfz111_4 := blk_frozen BK101.out 4; have hfz111_5 := blk_frozen BK101.out 5; have hfz111_6 := blk_frozen BK101.out 6))
        refine bodyPost_ret (results_ctt rfl _ _ gb101 90 #[.int .i64 0, .int .i64 0, .int .i64 0, .int .i64 0, .string ⟨#[]⟩, .string ⟨#[]⟩, .slice none 0 0] (0, 0) _ rfl (by (with_reducible repeat first | apply pN_ | apply pD_ | apply pA_); refine blk_put (cs := Z12_0) ?_ 6 _ rfl; (with_reducible repeat first | apply pN_ | apply pD_ | apply pA_); refine blk_put (cs := #[.int .i64 0, .int .i64 0, .int .i64 0, .int .i64 0, .string ⟨#[]⟩, .string x102005_1, .slice none 0 0]) ?_ 5 _ rfl; (with_reducible repeat first | apply pN_ | apply pD_ | apply pA_); refine blk_put (cs := #[.int .i64 0, .int .i64 0, .int .i64 0, .int .i64 0, .string x102004_1, .string x102005_1, .slice none 0 0]) ?_ 4 _ rfl; (with_reducible repeat first | apply pN_ | apply pD_ | apply pA_); refine blk_put (cs := #[.int .i64 0, .int .i64 0, .int .i64 0, .int .i64 x102003_1, .string x102004_1, .string x102005_1, .slice none 0 0]) ?_ 3 _ rfl; (with_reducible repeat first | apply pN_ | apply pD_ | apply pA_); refine blk_put (cs := #[.int .i64 0, .int .i64 0, .int .i64 x102002_1, .int .i64 x102003_1, .string x102004_1, .string x102005_1, .slice none 0 0]) ?_ 2 _ rfl; (with_reducible repeat first | apply pN_ | apply pD_ | apply pA_); refine blk_put (cs := #[.int .i64 0, .int .i64 x102001_1, .int .i64 x102002_1, .int .i64 x102003_1, .string x102004_1, .string x102005_1, .slice none 0 0]) ?_ 1 _ rfl; (with_reducible repeat first | apply pN_ | apply pD_ | apply pA_); refine blk_put (cs := #[.int .i64 x102000_1, .int .i64 x102001_1, .int .i64 x102002_1, .int .i64 x102003_1, .string x102004_1, .string x102005_1, .slice none 0 0]) ?_ 0 _ rfl; (iterate 2 ((with_reducible repeat first | apply pN_ | apply pD_ | apply pA_); refine blk_far ?_ NB101_115.out _)); (with_reducible repeat first | apply pN_ | apply pD_ | apply pA_); exact BK101.out) Try.underlying90 rfl (by kernel_rfl)) rfl ?_
        exact ⟨_, by first | rfl | (simp [errW_none, errW_some] <;> rfl) | (simp [*, errW_none, errW_some] <;> rfl), by first | exact Kd.R_nil _ _ _ _ _ | exact Kd.N_nil _ _ _ _ _ | exact Kd.V_nil _ _ _ _ _ | exact Kd.Q_nil _ _ _ _ _ | exact Kd.S_nil _ _ _ _ _, bU_ HB.out⟩
      ·replace c47 := Bool.eq_false_iff.mpr c47
       subst c47
       have H1 : (some ((Go.bits .and .i64 (t102 / 1048576) 255), (Go.bits .and .i64 t102 1048575), (wrap64 (bt a0 7)), x109003_1, (a0.extract 8 24), (a0.extract 24 40), x109006_1, x12_1, 0)) = some (r1, r2, r3, r4, r5, r6, r7, r8, r9) := by rw [if_neg (show ¬ (false = true) by decide)] at H; exact H
       clear H
       have H := H1
       clear H1
       simp only [Option.some.injEq, Prod.mk.injEq] at H
       obtain ⟨rfl, rfl, rfl, rfl, rfl, rfl, rfl, rfl, rfl⟩ := H
       have hnb112 := NB108_101.out
       have hnc112 := NB101_108.out
       have hcz113_0 : wr.cell? ⟨gb108, 0, none⟩ = some (.int .i64 (Go.bits .and .i64 (t102 / 1048576) 255)) := (blk_cell BK108.out 0).trans rfl
       have hcz113_1 : wr.cell? ⟨gb108, 1, none⟩ = some (.int .i64 (Go.bits .and .i64 t102 1048575)) := (blk_cell BK108.out 1).trans rfl
       have hcz113_2 : wr.cell? ⟨gb108, 2, none⟩ = some (.int .i64 (wrap64 (bt a0 7))) := (blk_cell BK108.out 2).trans rfl
       have hcz113_3 : wr.cell? ⟨gb108, 3, none⟩ = some (.int .i64 x109003_1) := (blk_cell BK108.out 3).trans rfl
       have hcz113_4 : wr.cell? ⟨gb108, 4, none⟩ = some (.string (a0.extract 8 24)) := (blk_cell BK108.out 4).trans rfl
       have hcz113_5 : wr.cell? ⟨gb108, 5, none⟩ = some (.string (a0.extract 24 40)) := (blk_cell BK108.out 5).trans rfl
       have hcz113_6 : wr.cell? ⟨gb108, 6, none⟩ = some (u109006) := (blk_cell BK108.out 6).trans rfl
       have hfz113_0 := blk_frozen BK108.out 0; have hfz113_1 := blk_frozen BK108.out 1; have hfz113_2 := blk_frozen BK108.out 2; have hfz113_3 := blk_frozen BK108.out 3; have hfz113_4 := blk_frozen BK108.out 4; have hfz113_5 := blk_frozen BK108.out 5; have hfz113_6 := blk_frozen BK108.out 6
       go_wp2_with (first | ((with_reducible refine gate_callee (f := 53) rfl ?_); refine gL_ (some 68) rfl rfl Try.func53 (by kernel_rfl) rfl #[.int .i64 x109003_1] rfl ?_; (with_reducible refine (ipsix_extension.calls x109003_1 false _ A46.out).mono ?_); rintro e w' ⟨rfl, ⟨nd, rfl⟩⟩; refine ⟨_, rfl, ?_⟩; (try (rw [drewN_self wr]; generalize hq_ : World.drewN wr _ = wr; have n0_ : Aside0 (Kd.R k102 102 wr w.heap.size (fun _ => True) u109006 x109006_1) := ⟨by rw [← hq_]; exact (by (with_reducible repeat first | apply Kd.R_alloc | apply Kd.R_drewN | apply Kd.R_drew); exact HO_109006.out)⟩; have n1_ : Aside0 (wr.heap[gb101]? = some (.cells #[.int .i64 x102000_1, .int .i64 x102001_1, .int .i64 x102002_1, .int .i64 x102003_1, .string x102004_1, .string x102005_1, .slice none 0 0] 90 (0, 0))) := ⟨by rw [← hq_]; exact (by (with_reducible repeat first | apply pN_ | apply pD_ | apply pA_); exact BK101.out)⟩; have n2_ : Aside0 (wr.heap[gb108]? = some (.cells #[.int .i64 (Go.bits .and .i64 (t102 / 1048576) 255), .int .i64 (Go.bits .and .i64 t102 1048575), .int .i64 (wrap64 (bt a0 7)), .int .i64 x109003_1, .string (a0.extract 8 24), .string (a0.extract 24 40), u109006] 90 (0, 0))) := ⟨by rw [← hq_]; exact (by (with_reducible repeat first | apply pN_ | apply pD_ | apply pA_); exact BK108.out)⟩; have n3_ : Aside0 (Below w.heap.size w wr) := ⟨by rw [← hq_]; exact (bU_ HB.out)⟩; clear HO_109006 BK101 BK108 HB hq_; have HO_109006 := n0_; have BK101 := n1_; have BK108 := n2_; have HB := n3_; clear n0_ n1_ n2_ n3_)); have hcz114_0 : wr.cell? ⟨gb108, 0, none⟩ = some (.int .i64 (Go.bits .and .i64 (t102 / 1048576) 255)) := (blk_cell BK108.out 0).trans rfl; have hcz114_1 : wr.cell? ⟨gb108, 1, none⟩ = some (.int .i64 (Go.bits .and .i64 t102 1048575)) := (blk_cell BK108.out 1).trans rfl; have hcz114_2 : wr.cell? ⟨gb108, 2, none⟩ = some (.int .i64 (wrap64 (bt a0 7))) := (blk_cell BK108.out 2).trans rfl; have hcz114_3 : wr.cell? ⟨gb108, 3, none⟩ = some (.int .i64 x109003_1) := (blk_cell BK108.out 3).trans rfl; have hcz114_4 : wr.cell? ⟨gb108, 4, none⟩ = some (.string (a0.extract 8 24)) := (blk_cell BK108.out 4).trans rfl; have hcz114_5 : wr.cell? ⟨gb108, 5, none⟩ = some (.string (a0.extract 24 40)) := (blk_cell BK108.out 5).trans rfl; have hcz114_6 : wr.cell? ⟨gb108, 6, none⟩ = some (u109006) := (blk_cell BK108.out 6).trans rfl; have hfz114_0 := blk_frozen BK108.out 0; have hfz114_1 := blk_frozen BK108.out 1; have hfz114_2 := blk_frozen BK108.out 2; have hfz114_3 := blk_frozen BK108.out 3; have hfz114_4 := blk_frozen BK108.out 4; have hfz114_5 := blk_frozen BK108.out 5; have hfz114_6 := blk_frozen BK108.out 6; have hcz115_0 : wr.cell? ⟨gb101, 0, none⟩ = some (.int .i64 x102000_1) := (blk_cell BK101.out 0).trans rfl; have hcz115_1 : wr.cell? ⟨gb101, 1, none⟩ = some (.int .i64 x102001_1) := (blk_cell BK101.out 1).trans rfl; have hcz115_2 : wr.cell? ⟨gb101, 2, none⟩ = some (.int .i64 x102002_1) := (blk_cell BK101.out 2).trans rfl; have hcz115_3 : wr.cell? ⟨gb101, 3, none⟩ = some (.int .i64 x102003_1) := (blk_cell BK101.out 3).trans rfl; have hcz115_4 : wr.cell? ⟨gb101, 4, none⟩ = some (.string x102004_1) := (blk_cell BK101.out 4).trans rfl; have hcz115_5 : wr.cell? ⟨gb101, 5, none⟩ = some (.string x102005_1) := (blk_cell BK101.out 5).trans rfl; have hcz115_6 : wr.cell? ⟨gb101, 6, none⟩ = some (.slice none 0 0) := (blk_cell BK101.out 6).trans rfl; have hfz115_0 := blk_frozen BK101.out 0; have hfz115_1 := blk_frozen BK101.out 1; have hfz115_2 := blk_frozen BK101.out 2; have hfz115_3 := blk_frozen BK101.out 3; have hfz115_4 := blk_frozen BK101.out 4; have hfz115_5 := blk_frozen BK101.out 5; have hfz115_6 := blk_frozen BK101.out 6; obtain ⟨Ao116, co116, eo116⟩ := Kd.R_slice HO_109006.out; subst eo116))
       refine bodyPost_ret (results_ctt rfl _ _ gb101 90 #[.int .i64 (Go.bits .and .i64 (t102 / 1048576) 255), .int .i64 (Go.bits .and .i64 t102 1048575), .int .i64 (wrap64 (bt a0 7)), .int .i64 x109003_1, .string (a0.extract 8 24), .string (a0.extract 24 40), .slice Ao116 x109006_1.length co116] (0, 0) _ rfl (by (with_reducible repeat first | apply pN_ | apply pD_ | apply pA_); refine blk_put (cs := #[.int .i64 (Go.bits .and .i64 (t102 / 1048576) 255), .int .i64 (Go.bits .and .i64 t102 1048575), .int .i64 (wrap64 (bt a0 7)), .int .i64 x109003_1, .string (a0.extract 8 24), .string (a0.extract 24 40), .slice none 0 0]) ?_ 6 _ rfl; (with_reducible repeat first | apply pN_ | apply pD_ | apply pA_); refine blk_put (cs := #[.int .i64 (Go.bits .and .i64 (t102 / 1048576) 255), .int .i64 (Go.bits .and .i64 t102 1048575), .int .i64 (wrap64 (bt a0 7)), .int .i64 x109003_1, .string (a0.extract 8 24), .string x102005_1, .slice none 0 0]) ?_ 5 _ rfl; (with_reducible repeat first | apply pN_ | apply pD_ | apply pA_); refine blk_put (cs := #[.int .i64 (Go.bits .and .i64 (t102 / 1048576) 255), .int .i64 (Go.bits .and .i64 t102 1048575), .int .i64 (wrap64 (bt a0 7)), .int .i64 x109003_1, .string x102004_1, .string x102005_1, .slice none 0 0]) ?_ 4 _ rfl; (with_reducible repeat first | apply pN_ | apply pD_ | apply pA_); refine blk_put (cs := #[.int .i64 (Go.bits .and .i64 (t102 / 1048576) 255), .int .i64 (Go.bits .and .i64 t102 1048575), .int .i64 (wrap64 (bt a0 7)), .int .i64 x102003_1, .string x102004_1, .string x102005_1, .slice none 0 0]) ?_ 3 _ rfl; (with_reducible repeat first | apply pN_ | apply pD_ | apply pA_); refine blk_put (cs := #[.int .i64 (Go.bits .and .i64 (t102 / 1048576) 255), .int .i64 (Go.bits .and .i64 t102 1048575), .int .i64 x102002_1, .int .i64 x102003_1, .string x102004_1, .string x102005_1, .slice none 0 0]) ?_ 2 _ rfl; (with_reducible repeat first | apply pN_ | apply pD_ | apply pA_); refine blk_put (cs := #[.int .i64 (Go.bits .and .i64 (t102 / 1048576) 255), .int .i64 x102001_1, .int .i64 x102002_1, .int .i64 x102003_1, .string x102004_1, .string x102005_1, .slice none 0 0]) ?_ 1 _ rfl; (with_reducible repeat first | apply pN_ | apply pD_ | apply pA_); refine blk_put (cs := #[.int .i64 x102000_1, .int .i64 x102001_1, .int .i64 x102002_1, .int .i64 x102003_1, .string x102004_1, .string x102005_1, .slice none 0 0]) ?_ 0 _ rfl; (with_reducible repeat first | apply pN_ | apply pD_ | apply pA_); exact BK101.out) Try.underlying90 rfl (by kernel_rfl)) rfl ?_
       exact ⟨_, by first | rfl | (simp [errW_none, errW_some] <;> rfl) | (simp [*, errW_none, errW_some] <;> rfl), by (with_reducible repeat first | apply Kd.R_alloc | apply Kd.R_drewN | apply Kd.R_drew); exact Kd.R_mono (Kd.R_far (p := ⟨gb101, 6, none⟩) (Kd.R_far (p := ⟨gb101, 5, none⟩) (Kd.R_far (p := ⟨gb101, 4, none⟩) (Kd.R_far (p := ⟨gb101, 3, none⟩) (Kd.R_far (p := ⟨gb101, 2, none⟩) (Kd.R_far (p := ⟨gb101, 1, none⟩) (Kd.R_far (p := ⟨gb101, 0, none⟩) (Kd.R_types HO_109006.out BK101.out (by decide)) (fun _ hk => hk.2) (.int .i64 (Go.bits .and .i64 (t102 / 1048576) 255))) (fun _ hk => hk.2) (.int .i64 (Go.bits .and .i64 t102 1048575))) (fun _ hk => hk.2) (.int .i64 (wrap64 (bt a0 7)))) (fun _ hk => hk.2) (.int .i64 x109003_1)) (fun _ hk => hk.2) (.string (a0.extract 8 24))) (fun _ hk => hk.2) (.string (a0.extract 24 40))) (fun _ hk => hk.2) (.slice Ao116 x109006_1.length co116)) (fun _ hk => trivial), bU_ HB.out⟩
  ·rw [if_neg c16] at H
   have c16b0 : ((t102 / 268435456) == 6) = false := beq_eq_false_iff_ne.mpr c16
   have c16b1 : ((t102 / 268435456) != 6) = true := bne_iff_ne.mpr c16
   simp only [Option.some.injEq, Prod.mk.injEq] at H
   obtain ⟨rfl, rfl, rfl, rfl, rfl, rfl, rfl, rfl, rfl⟩ := H
   go_enter Try.func41, Try.ntmps41
   try go_wp2_with (first | ((with_reducible refine gate_dst (N := 2) rfl ?_); (try (refine gate_guard (by rfl) ?_; dsimp only)); refine bE_ (N := 2) (cs := Z12_0) (t := 90) ?_; intro gb101 hg w117 hbox hb; have n0_ := Aside0.mk (below_step (bU_ HB.out) hb); have n1_ := Aside0.mk (hbox); have n2_ := Aside0.mk (bZ_ hg (bU_ HB.out) : w.heap.size ≤ gb101); have n3_ := n2_; clear HB; have HB := n0_; have BK101 := n1_; have GW101 := n2_; have GE101 := n3_; clear n0_ n1_ n2_ n3_; clear hb hbox hg) | ((with_reducible refine gate_callee (f := 25) rfl ?_); refine gL_ (some 23) rfl rfl Try.func25 (by kernel_rfl) rfl #[.string a0, .int .i64 4] rfl ?_; (with_reducible refine (octet_Take.calls k a0 4 t102 t103 t104 _ A5.out).mono ?_); rintro e w118 ⟨rfl, hb⟩; refine ⟨_, rfl, ?_⟩; have n0_ := Aside0.mk (bB_ BK101.out hb); have n1_ := Aside0.mk (below_step (bU_ HB.out) hb); clear BK101 HB; have BK101 := n0_; have HB := n1_; clear n0_ n1_; (try clear hb); (try clear hb2); (try clear hk); (try clear hi)) | ((with_reducible refine gate_callee (f := 25) rfl ?_); refine gL_ (some 30) rfl rfl Try.func25 (by kernel_rfl) rfl #[.string (a0.extract 4 a0.size), .int .i64 2] rfl ?_; (with_reducible refine (octet_Take.calls k (a0.extract 4 a0.size) 2 t105 t106 t107 _ A7.out).mono ?_); rintro e w119 ⟨rfl, hb⟩; refine ⟨_, rfl, ?_⟩; have n0_ := Aside0.mk (bB_ BK101.out hb); have n1_ := Aside0.mk (below_step (bU_ HB.out) hb); clear BK101 HB; have BK101 := n0_; have HB := n1_; clear n0_ n1_; (try clear hb); (try clear hb2); (try clear hk); (try clear hi)))
   have n0_ := Aside0.mk (blk_drew BK101.out)
   have n1_ := Aside0.mk (below_drew1 HB.out)
   clear BK101
   clear HB
   have BK101 := n0_
   have HB := n1_
   clear n0_ n1_
   have p9 : 0 ≤ (7 : Int) := (by omega)
   have q9 : 7 < a0.size := (by have : (7 : Int) < (a0.size : Int) := oD_; omega)
   have hx9 : ∀ h : 7 < a0.size, ((a0[7]'h).toNat : Int) = bt a0 7 := bt_at a0 7
   clear p9
   have qi9 : (7 < (a0.size : Int)) = True := eq_true oD_
   replace q9 := eq_true q9
   have p11 : 0 ≤ (6 : Int) := (by omega)
   have q11 : 6 < a0.size := (by have : (6 : Int) < (a0.size : Int) := oD_; omega)
   have hx11 : ∀ h : 6 < a0.size, ((a0[6]'h).toNat : Int) = bt a0 6 := bt_at a0 6
   clear p11
   have qi11 : (6 < (a0.size : Int)) = True := eq_true oD_
   replace q11 := eq_true q11
   refine start_ (n := 18) (S := fun w' => True) (ds := []) #[false, false, false, false, false, false, false, false, false, false, false, false, false, false, false, false, false, false] (by kernel_rfl) rfl rfl trivial (fun hHeld => ?_); refine with_tabW ipsix_Take.tab5 ipsix_Take.bits5 (fun HT_ HW_ => ?_)
   generalize w119.drew = w120 at BK101 HB hHeld ⊢
   refine pure_ (i := 0) (N := some 34) (v := ?_) (a' := ?_) #[true, false, false, false, false, false, false, false, false, false, false, false, false, false, false, false, false, false] rfl rfl (any_of HT_.out (by kernel_rfl)) (fun _ _ _ h => h) (Or.inl ⟨by rfl, ?_⟩) ?_ ?_
   rotate_left
   ·intro w'; go_simp; with_reducible rfl
   rotate_left
   ·simp only [Act.put, s1_, s2_, s3_, i64_w, i32_w]; rfl
   refine pure_ (i := 1) (N := some 35) (v := ?_) (a' := ?_) #[true, true, false, false, false, false, false, false, false, false, false, false, false, false, false, false, false, false] rfl rfl (any_of HT_.out (by kernel_rfl)) (fun _ _ _ h => h) (Or.inl ⟨by rfl, ?_⟩) ?_ ?_
   rotate_left
   ·intro w'; go_simp; with_reducible rfl
   rotate_left
   ·simp only [Act.put, s1_, s2_, s3_, i64_w, i32_w]; rfl
   refine pure_ (i := 2) (N := some 36) (v := ?_) (a' := ?_) #[true, true, true, false, false, false, false, false, false, false, false, false, false, false, false, false, false, false] rfl rfl (any_of HT_.out (by kernel_rfl)) (fun _ _ _ h => h) (Or.inl ⟨by rfl, ?_⟩) ?_ ?_
   rotate_left
   ·intro w'; go_simp; with_reducible rfl
   rotate_left
   ·simp only [Act.put, s1_, s2_, s3_, i64_w, i32_w]; rfl
   refine pure_ (i := 3) (N := some 37) (v := ?_) (a' := ?_) #[true, true, true, true, false, false, false, false, false, false, false, false, false, false, false, false, false, false] rfl rfl (any_of HT_.out (by kernel_rfl)) (fun _ _ _ h => h) (Or.inl ⟨by rfl, ?_⟩) ?_ ?_
   rotate_left
   ·intro w'; go_simp; with_reducible rfl
   rotate_left
   ·simp only [Act.put, s1_, s2_, s3_, i64_w, i32_w]; rfl
   refine pure_ (i := 4) (N := some 38) (v := ?_) (a' := ?_) #[true, true, true, true, true, false, false, false, false, false, false, false, false, false, false, false, false, false] rfl rfl (any_of HT_.out (by kernel_rfl)) (fun _ _ _ h => h) (Or.inl ⟨by rfl, ?_⟩) ?_ ?_
   rotate_left
   ·intro w'; go_simp; with_reducible rfl
   rotate_left
   ·simp only [Act.put, s1_, s2_, s3_, i64_w, i32_w]; rfl
   refine pure_ (i := 5) (N := some 39) (v := ?_) (a' := ?_) #[true, true, true, true, true, true, false, false, false, false, false, false, false, false, false, false, false, false] rfl rfl (any_of HT_.out (by kernel_rfl)) (fun _ _ _ h => h) (Or.inl ⟨by rfl, ?_⟩) ?_ ?_
   rotate_left
   ·intro w'; go_simp; with_reducible rfl
   rotate_left
   ·simp only [Act.put, s1_, s2_, s3_, i64_w, i32_w]; rfl
   refine pure_ (i := 8) (N := some 42) (v := ?_) (a' := ?_) #[true, true, true, true, true, true, false, false, true, false, false, false, false, false, false, false, false, false] rfl rfl (any_of HT_.out (by kernel_rfl)) (fun _ _ _ h => h) (Or.inl ⟨by rfl, ?_⟩) ?_ ?_
   rotate_left
   ·intro w'; go_simp; with_reducible rfl
   rotate_left
   ·simp only [Act.put, s1_, s2_, s3_, i64_w, i32_w]; rfl
   refine pure_ (i := 11) (N := some 45) (v := ?_) (a' := ?_) #[true, true, true, true, true, true, false, false, true, false, false, true, false, false, false, false, false, false] rfl rfl (any_of HT_.out (by kernel_rfl)) (fun _ _ _ h => h) (Or.inl ⟨by rfl, ?_⟩) ?_ ?_
   rotate_left
   ·intro w'; go_simp; with_reducible rfl
   rotate_left
   ·simp only [Act.put, s1_, s2_, s3_, i64_w, i32_w]; rfl
   refine pure_ (i := 12) (N := some 46) (v := ?_) (a' := ?_) #[true, true, true, true, true, true, false, false, true, false, false, true, true, false, false, false, false, false] rfl rfl (any_of HT_.out (by kernel_rfl)) (fun _ _ _ h => h) (Or.inl ⟨by rfl, ?_⟩) ?_ ?_
   rotate_left
   ·intro w'; go_simp; with_reducible rfl
   rotate_left
   ·simp only [Act.put, s1_, s2_, s3_, i64_w, i32_w]; rfl
   refine pure_ (i := 13) (N := some 47) (v := ?_) (a' := ?_) #[true, true, true, true, true, true, false, false, true, false, false, true, true, true, false, false, false, false] rfl rfl (any_of HT_.out (by kernel_rfl)) (fun _ _ _ h => h) (Or.inl ⟨by rfl, ?_⟩) ?_ ?_
   rotate_left
   ·intro w'; go_simp; with_reducible rfl
   rotate_left
   ·simp only [Act.put, s1_, s2_, s3_, i64_w, i32_w]; rfl
   refine pure_ (i := 14) (N := some 48) (v := ?_) (a' := ?_) #[true, true, true, true, true, true, false, false, true, false, false, true, true, true, true, false, false, false] rfl rfl (any_of HT_.out (by kernel_rfl)) (fun _ _ _ h => h) (Or.inl ⟨by rfl, ?_⟩) ?_ ?_
   rotate_left
   ·intro w'; go_simp; with_reducible rfl
   rotate_left
   ·simp only [Act.put, s1_, s2_, s3_, i64_w, i32_w]; rfl
   refine take_ (i := 6) (N := some 40) (v := ?_) (a' := ?_) #[true, true, true, true, true, true, true, false, true, false, false, true, true, true, true, false, false, false] rfl rfl (take_ofW HT_.out HW_.out (by kernel_rfl)) (fun _ _ _ h => h) (Or.inl ⟨by rfl, ?_⟩) hHeld ?_ ?_
   rotate_left
   ·intro w' _
    go_simp
    with_reducible rfl
   rotate_left
   ·simp only [Act.put, s1_, s2_, s3_, i64_w, i32_w]; rfl
   refine pure_ (i := 7) (N := some 41) (v := ?_) (a' := ?_) #[true, true, true, true, true, true, true, true, true, false, false, true, true, true, true, false, false, false] rfl rfl (any_of HT_.out (by kernel_rfl)) (fun _ _ _ h => h) (Or.inl ⟨by rfl, ?_⟩) ?_ ?_
   rotate_left
   ·intro w'; go_simp; with_reducible rfl
   rotate_left
   ·simp only [Act.put, s1_, s2_, s3_, i64_w, i32_w]; rfl
   refine take_ (i := 9) (N := some 43) (v := ?_) (a' := ?_) #[true, true, true, true, true, true, true, true, true, true, false, true, true, true, true, false, false, false] rfl rfl (take_ofW HT_.out HW_.out (by kernel_rfl)) (fun _ _ _ h => h) (Or.inl ⟨by rfl, ?_⟩) hHeld ?_ ?_
   rotate_left
   ·intro w' _
    go_simp
    with_reducible rfl
   rotate_left
   ·simp only [Act.put, s1_, s2_, s3_, i64_w, i32_w]; rfl
   refine pure_ (i := 10) (N := some 44) (v := ?_) (a' := ?_) #[true, true, true, true, true, true, true, true, true, true, true, true, true, true, true, false, false, false] rfl rfl (any_of HT_.out (by kernel_rfl)) (fun _ _ _ h => h) (Or.inl ⟨by rfl, ?_⟩) ?_ ?_
   rotate_left
   ·intro w'; go_simp; with_reducible rfl
   rotate_left
   ·simp only [Act.put, s1_, s2_, s3_, i64_w, i32_w]; rfl
   refine pure_ (i := 15) (N := some 49) (v := ?_) (a' := ?_) #[true, true, true, true, true, true, true, true, true, true, true, true, true, true, true, true, false, false] rfl rfl (any_of HT_.out (by kernel_rfl)) (fun _ _ _ h => h) (Or.inl ⟨by rfl, ?_⟩) ?_ ?_
   rotate_left
   ·intro w'; go_simp; with_reducible rfl
   rotate_left
   ·simp only [Act.put, s1_, s2_, s3_, i64_w, i32_w]; rfl
   refine one_ (i := 16) (N := some 11) #[true, true, true, true, true, true, true, true, true, true, true, true, true, true, true, true, true, false] rfl rfl (one_of HT_.out (by kernel_rfl)) (by decide) (fun K hK => ?_)
   refine box_step ?hg (N := 11) ?hd (cs := Z12_0) (t := 90) ?hr ?_; (case hd => rfl); (case hg => rfl); (case hr => first | (go_simp; done) | (go_simp; rfl))
   intro gb108 hg w121 hbox hb
   have n0_ := Aside0.mk (bB_ BK101.out hb)
   have n1_ := Aside0.mk (below_step (bU_ HB.out) hb)
   have n2_ := Aside0.mk (hbox)
   have n3_ := Aside0.mk (bZ_ hg (bU_ HB.out) : w.heap.size ≤ gb108)
   have n4_ := Aside0.mk (bZ_ hg (bU_ HB.out) : w.heap.size ≤ gb108)
   have n5_ := Aside0.mk ((bN_ hg BK101.out : gb101 ≠ gb108))
   have n6_ := Aside0.mk ((by rw [hg]; exact Nat.ne_of_gt (blk_lt (g := gb101) (o := .cells Z12_0 90 (0, 0)) (by (with_reducible repeat first | apply pN_ | apply pD_ | apply pA_); exact BK101.out)) : gb108 ≠ gb101))
   clear BK101
   clear HB
   have BK101 := n0_
   have HB := n1_
   have BK108 := n2_
   have GW108 := n3_
   have GE108 := n4_
   have NB101_108 := n5_
   have NB108_101 := n6_
   clear n0_ n1_ n2_ n3_ n4_ n5_ n6_
   clear hb hbox hg
   refine hK.out _ _ trivial (fun hHeld => ?_)
   clear hK K
   refine norm_ (a' := ?_) ?_ ?_
   rotate_left
   ·show Act.put _ (some 11) _ = _
    simp only [Act.put, s1_, s2_, s3_, i64_w, i32_w]; rfl
   refine one_ (i := 17) (N := none) #[true, true, true, true, true, true, true, true, true, true, true, true, true, true, true, true, true, true] rfl rfl (one_of HT_.out (by kernel_rfl)) (by decide) (fun K hK => ?_)
   have hs122 : w121.cell? ⟨gb108, 0, none⟩ = some (.int .i64 0) := (blk_cell BK108.out 0).trans rfl
   have hfs122 := blk_frozen BK108.out 0
   have hns122_0 := NB101_108.out
   have hms122_0 := NB108_101.out
   have hs123 : w121.cell? ⟨gb108, 1, none⟩ = some (.int .i64 0) := (blk_cell BK108.out 1).trans rfl
   have hfs123 := blk_frozen BK108.out 1
   have hns123_0 := NB101_108.out
   have hms123_0 := NB108_101.out
   have hs124 : w121.cell? ⟨gb108, 2, none⟩ = some (.int .i64 0) := (blk_cell BK108.out 2).trans rfl
   have hfs124 := blk_frozen BK108.out 2
   have hns124_0 := NB101_108.out
   have hms124_0 := NB108_101.out
   have hs125 : w121.cell? ⟨gb108, 3, none⟩ = some (.int .i64 0) := (blk_cell BK108.out 3).trans rfl
   have hfs125 := blk_frozen BK108.out 3
   have hns125_0 := NB101_108.out
   have hms125_0 := NB108_101.out
   have hs126 : w121.cell? ⟨gb108, 4, none⟩ = some (.string ⟨#[]⟩) := (blk_cell BK108.out 4).trans rfl
   have hfs126 := blk_frozen BK108.out 4
   have hns126_0 := NB101_108.out
   have hms126_0 := NB108_101.out
   have hs127 : w121.cell? ⟨gb108, 5, none⟩ = some (.string ⟨#[]⟩) := (blk_cell BK108.out 5).trans rfl
   have hfs127 := blk_frozen BK108.out 5
   have hns127_0 := NB101_108.out
   have hms127_0 := NB108_101.out
   have hs128 : w121.cell? ⟨gb108, 6, none⟩ = some (.slice none 0 0) := (blk_cell BK108.out 6).trans rfl
   have hfs128 := blk_frozen BK108.out 6
   have hns128_0 := NB101_108.out
   have hms128_0 := NB108_101.out
   refine skip_ (w1 := ?_) (by rfl) rfl ?_ ?_
   rotate_left
   ·go_simp
    rfl
   refine hK.out _ _ trivial (fun hHeld => ?_)
   clear hK K
   refine done_ (done_of HT_.out (by kernel_rfl)) ?_
   have hnb129 := NB101_108.out
   have hnc129 := NB108_101.out
   have hcz130_0 : w121.cell? ⟨gb101, 0, none⟩ = some (.int .i64 0) := (blk_cell BK101.out 0).trans rfl
   have hcz130_1 : w121.cell? ⟨gb101, 1, none⟩ = some (.int .i64 0) := (blk_cell BK101.out 1).trans rfl
   have hcz130_2 : w121.cell? ⟨gb101, 2, none⟩ = some (.int .i64 0) := (blk_cell BK101.out 2).trans rfl
   have hcz130_3 : w121.cell? ⟨gb101, 3, none⟩ = some (.int .i64 0) := (blk_cell BK101.out 3).trans rfl
   have hcz130_4 : w121.cell? ⟨gb101, 4, none⟩ = some (.string ⟨#[]⟩) := (blk_cell BK101.out 4).trans rfl
   have hcz130_5 : w121.cell? ⟨gb101, 5, none⟩ = some (.string ⟨#[]⟩) := (blk_cell BK101.out 5).trans rfl
   have hcz130_6 : w121.cell? ⟨gb101, 6, none⟩ = some (.slice none 0 0) := (blk_cell BK101.out 6).trans rfl
   have hfz130_0 := blk_frozen BK101.out 0; have hfz130_1 := blk_frozen BK101.out 1; have hfz130_2 := blk_frozen BK101.out 2; have hfz130_3 := blk_frozen BK101.out 3; have hfz130_4 := blk_frozen BK101.out 4; have hfz130_5 := blk_frozen BK101.out 5; have hfz130_6 := blk_frozen BK101.out 6
   try go_wp2
   refine bodyPost_ret (results_ctt rfl _ _ gb101 90 #[.int .i64 0, .int .i64 0, .int .i64 0, .int .i64 0, .string ⟨#[]⟩, .string ⟨#[]⟩, .slice none 0 0] (0, 0) _ rfl (by (with_reducible repeat first | apply pN_ | apply pD_ | apply pA_); refine blk_put (cs := Z12_0) ?_ 6 _ rfl; (with_reducible repeat first | apply pN_ | apply pD_ | apply pA_); refine blk_put (cs := Z12_0) ?_ 5 _ rfl; (with_reducible repeat first | apply pN_ | apply pD_ | apply pA_); refine blk_put (cs := Z12_0) ?_ 4 _ rfl; (with_reducible repeat first | apply pN_ | apply pD_ | apply pA_); refine blk_put (cs := Z12_0) ?_ 3 _ rfl; (with_reducible repeat first | apply pN_ | apply pD_ | apply pA_); refine blk_put (cs := Z12_0) ?_ 2 _ rfl; (with_reducible repeat first | apply pN_ | apply pD_ | apply pA_); refine blk_put (cs := Z12_0) ?_ 1 _ rfl; (with_reducible repeat first | apply pN_ | apply pD_ | apply pA_); refine blk_put (cs := Z12_0) ?_ 0 _ rfl; (iterate 7 ((with_reducible repeat first | apply pN_ | apply pD_ | apply pA_); refine blk_far ?_ NB101_108.out _)); (with_reducible repeat first | apply pN_ | apply pD_ | apply pA_); exact BK101.out) Try.underlying90 rfl (by kernel_rfl)) rfl ?_
   exact ⟨_, by first | rfl | (simp [errW_none, errW_some] <;> rfl) | (simp [*, errW_none, errW_some] <;> rfl), by first | exact Kd.R_nil _ _ _ _ _ | exact Kd.N_nil _ _ _ _ _ | exact Kd.V_nil _ _ _ _ _ | exact Kd.Q_nil _ _ _ _ _ | exact Kd.S_nil _ _ _ _ _, bU_ HB.out⟩
end Go.Proofs.Ytfdhifigndmgaaa.Q
