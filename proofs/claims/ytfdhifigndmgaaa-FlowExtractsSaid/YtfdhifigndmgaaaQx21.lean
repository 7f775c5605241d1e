-- made by a program of this session (wip/print-patch.py, over the kit's print)
import Derived.Test.YtfdhifigndmgaaaQx0
import Derived.Test.YtfdhifigndmgaaaQx20
namespace Go.Proofs.Ytfdhifigndmgaaa.Q
open Go.RowKit Go.Proofs.YtfdhifigndmgaaaW.PrintWords Go.Proofs.YtfdhifigndmgaaaW.PrintLast Go.Proofs.YtfdhifigndmgaaaW.PrintMore
attribute [local go_sem] max2_int min2_int max_two min_two max_three min_three max_four min_four   -- for this text's walks alone
set_option linter.unusedVariables false
set_option linter.unusedSimpArgs false

attribute [local go_sem] cell_twice_ cell_twiceN_
abbrev Z21_0 : Array Value := #[.int .i64 0, .int .i64 0, .int .i64 0, .int .i64 0, .int .i64 0, .int .i64 0, .string ⟨#[]⟩, .string ⟨#[]⟩, .string ⟨#[]⟩]
/-! ### rillmeterref06_Take: function 29 -/
mutual
def rillmeterref06_Take.j0 : Nat → ByteArray → Int → Bool → Option (Int × Int × Int × Int × Int × Int × ByteArray × ByteArray × ByteArray × ByteArray × Int)
 | 0, _, _, _ => none
 | k + 1, x0, x5, x31 => if x31 = true then (some (0, 0, 0, 0, 0, 0, (⟨#[]⟩ : ByteArray), (⟨#[]⟩ : ByteArray), (⟨#[]⟩ : ByteArray), (⟨#[]⟩ : ByteArray), 11)) else (if 2 ≤ 4 then (if 4 ≤ (x0.size : Int) then ((rillmeterref04_Number.f k (x0.extract 2 4)).bind fun t102 => (if t102 < x5 then (rillmeterref06_Take.j1 k x0 x5 t102 true) else (rillmeterref06_Take.j1 k x0 x5 t102 (decide (t102 > (x0.size : Int)))))) else (none)) else (none))
def rillmeterref06_Take.j1 : Nat → ByteArray → Int → Int → Bool → Option (Int × Int × Int × Int × Int × Int × ByteArray × ByteArray × ByteArray × ByteArray × Int)
 | 0, _, _, _, _ => none
 | k + 1, x0, x5, x6, x44 => if x44 = true then (some (0, 0, 0, 0, 0, 0, (⟨#[]⟩ : ByteArray), (⟨#[]⟩ : ByteArray), (⟨#[]⟩ : ByteArray), (⟨#[]⟩ : ByteArray), 13)) else (if 0 ≤ x5 then (if x5 ≤ (x0.size : Int) then ((rillmeterref04_Sum.f k (x0.extract 0 (x5 : Int).toNat)).bind fun t103 => (if t103 = 0 then (if 6 ≤ 8 then (if 8 ≤ (x0.size : Int) then ((rillmeterref04_Number.f k (x0.extract 6 8)).bind fun t104 => (if 1 < (x0.size : Int) then (if 4 ≤ 6 then (if 6 ≤ (x0.size : Int) then ((rillmeterref04_Number.f k (x0.extract 4 6)).bind fun t105 => (if 8 < (x0.size : Int) then (if 9 < (x0.size : Int) then (if 12 ≤ 16 then (if 16 ≤ (x0.size : Int) then (if 16 ≤ 20 then (if 20 ≤ (x0.size : Int) then (if 20 ≤ x5 then (if x5 ≤ x6 then (if x6 ≤ (x0.size : Int) then (some (wrap64 (bt x0 1), t105, wrap64 (Int.tdiv t104 8192), Int.tmod t104 8192, wrap64 (bt x0 8), wrap64 (bt x0 9), x0.extract 12 16, x0.extract 16 20, x0.extract 20 (x5 : Int).toNat, x0.extract (x5 : Int).toNat (x6 : Int).toNat, 0)) else (none)) else (none)) else (none)) else (none)) else (none)) else (none)) else (none)) else (none)) else (none))) else (none)) else (none)) else (none))) else (none)) else (none)) else (some (0, 0, 0, 0, 0, 0, (⟨#[]⟩ : ByteArray), (⟨#[]⟩ : ByteArray), (⟨#[]⟩ : ByteArray), (⟨#[]⟩ : ByteArray), 12)))) else (none)) else (none))
end
def rillmeterref06_Take.f (k : Nat) (a0 : ByteArray) : Option (Int × Int × Int × Int × Int × Int × ByteArray × ByteArray × ByteArray × ByteArray × Int) := if (a0.size : Int) < 20 then (some (0, 0, 0, 0, 0, 0, (⟨#[]⟩ : ByteArray), (⟨#[]⟩ : ByteArray), (⟨#[]⟩ : ByteArray), (⟨#[]⟩ : ByteArray), 2)) else (if 0 < (a0.size : Int) then (if (wrap64 (Int.tdiv (wrap64 (bt a0 0)) 16)) = 4 then (if (wrap64 (4 * (Int.tmod (wrap64 (bt a0 0)) 16))) < 20 then (rillmeterref06_Take.j0 k a0 (wrap64 (4 * (Int.tmod (wrap64 (bt a0 0)) 16))) true) else (rillmeterref06_Take.j0 k a0 (wrap64 (4 * (Int.tmod (wrap64 (bt a0 0)) 16))) (decide ((wrap64 (4 * (Int.tmod (wrap64 (bt a0 0)) 16))) > (a0.size : Int))))) else (some (0, 0, 0, 0, 0, 0, (⟨#[]⟩ : ByteArray), (⟨#[]⟩ : ByteArray), (⟨#[]⟩ : ByteArray), (⟨#[]⟩ : ByteArray), 10))) else (none))
theorem rillmeterref06_Take.mono_l : ∀ k, (∀ y0 y1 y2, LeO (rillmeterref06_Take.j0 k y0 y1 y2) (rillmeterref06_Take.j0 (k + 1) y0 y1 y2)) ∧ (∀ y0 y1 y2 y3, LeO (rillmeterref06_Take.j1 k y0 y1 y2 y3) (rillmeterref06_Take.j1 (k + 1) y0 y1 y2 y3))
 | 0 => ⟨fun _ _ _ r h => by simp [rillmeterref06_Take.j0] at h, fun _ _ _ _ r h => by simp [rillmeterref06_Take.j1] at h⟩
 | k + 1 => by
  obtain ⟨ih0, ih1⟩ := rillmeterref06_Take.mono_l k
  refine ⟨?_, ?_⟩
  ·intro y0 y1 y2
   unfold rillmeterref06_Take.j0
   repeat' first
   | (with_reducible exact ih0 _ _ _)
   | (with_reducible exact ih1 _ _ _ _)
   | (with_reducible exact rillmeterref04_Number.mono _ _)
   | (with_reducible exact rillmeterref04_Sum.mono _ _)
   | (with_reducible exact LeO.refl _)
   | (with_reducible exact LeO.none _)
   | (with_reducible refine LeO.ite ?_ ?_)
   | (with_reducible refine LeO.bind ?_ (fun _ => ?_))
   | exact ih0 _ _ _
   | exact ih1 _ _ _ _
   | exact rillmeterref04_Number.mono _ _
   | exact rillmeterref04_Sum.mono _ _
   | exact LeO.none _
   | refine LeO.ite ?_ ?_
   | refine LeO.bind ?_ (fun _ => ?_)
  ·intro y0 y1 y2 y3
   unfold rillmeterref06_Take.j1
   repeat' first
   | (with_reducible exact ih0 _ _ _)
   | (with_reducible exact ih1 _ _ _ _)
   | (with_reducible exact rillmeterref04_Number.mono _ _)
   | (with_reducible exact rillmeterref04_Sum.mono _ _)
   | (with_reducible exact LeO.refl _)
   | (with_reducible exact LeO.none _)
   | (with_reducible refine LeO.ite ?_ ?_)
   | (with_reducible refine LeO.bind ?_ (fun _ => ?_))
   | exact ih0 _ _ _
   | exact ih1 _ _ _ _
   | exact rillmeterref04_Number.mono _ _
   | exact rillmeterref04_Sum.mono _ _
   | exact LeO.none _
   | refine LeO.ite ?_ ?_
   | refine LeO.bind ?_ (fun _ => ?_)
theorem rillmeterref06_Take.mono : ∀ a0 k, LeO (rillmeterref06_Take.f k a0) (rillmeterref06_Take.f (k + 1) a0) := by
 intro a0 k
 obtain ⟨ih0, ih1⟩ := rillmeterref06_Take.mono_l k
 unfold rillmeterref06_Take.f
 repeat' first
   | (with_reducible exact ih0 _ _ _)
   | (with_reducible exact ih1 _ _ _ _)
   | (with_reducible exact rillmeterref04_Number.mono _ _)
   | (with_reducible exact rillmeterref04_Sum.mono _ _)
   | (with_reducible exact LeO.refl _)
   | (with_reducible exact LeO.none _)
   | (with_reducible refine LeO.ite ?_ ?_)
   | (with_reducible refine LeO.bind ?_ (fun _ => ?_))
   | exact ih0 _ _ _
   | exact ih1 _ _ _ _
   | exact rillmeterref04_Number.mono _ _
   | exact rillmeterref04_Sum.mono _ _
   | exact LeO.none _
   | refine LeO.ite ?_ ?_
   | refine LeO.bind ?_ (fun _ => ?_)
def rillmeterref06_Take.T14 : Bool × List (List Nat × List Nat) := (true, [([], []), ([0], [0]), ([1], [1]), ([], []), ([3], [3]), ([4], [4]), ([], []), ([6], [6]), ([], []), ([8], [8]), ([], []), ([10], [10]), ([11], [11]), ([], []), ([13], [13]), ([14], [14]), ([2, 5, 7, 9, 12, 15], [2, 5, 7, 9, 12, 15]), ([], []), ([17, 16, 5, 0, 1, 2, 3, 4, 5, 6, 7, 8, 9, 10, 11, 12, 13, 14, 15, 16, 17], [16, 17])])
def rillmeterref06_Take.B14 : List Nat := [0, 1, 3, 0, 8, 24, 0, 64, 0, 256, 0, 1024, 3072, 0, 8192, 24576, 65535, 0, 262143]
theorem rillmeterref06_Take.tab14 : rtab .any (opsOf Try.f29 14) = rillmeterref06_Take.T14 := by kernel_rfl
theorem rillmeterref06_Take.bits14 : waitsOk rillmeterref06_Take.T14.2 rillmeterref06_Take.B14 = true := by kernel_rfl
def rillmeterref06_Take.T15 : Bool × List (List Nat × List Nat) := (true, [([], []), ([0], [0]), ([], []), ([2], [2]), ([], []), ([], []), ([4, 5], [4, 5]), ([0, 1], []), ([7, 1, 0, 1], [1, 7]), ([0, 1, 2, 3, 7, 8], []), ([9, 3, 8, 0, 1, 2, 3, 7, 8], [3, 9]), ([0, 1, 2, 3, 4, 5, 6, 7, 8, 9, 10], []), ([11, 6, 10, 0, 1, 2, 3, 4, 5, 6, 7, 8, 9, 10], [6, 11])])
def rillmeterref06_Take.B15 : List Nat := [0, 1, 0, 4, 0, 0, 48, 3, 131, 399, 911, 2047, 4095]
theorem rillmeterref06_Take.tab15 : rtab .any (opsOf Try.f29 15) = rillmeterref06_Take.T15 := by kernel_rfl
theorem rillmeterref06_Take.bits15 : waitsOk rillmeterref06_Take.T15.2 rillmeterref06_Take.B15 = true := by kernel_rfl
def rillmeterref06_Take.T16 : Bool × List (List Nat × List Nat) := (true, [([], []), ([], []), ([], []), ([], []), ([1, 2, 3], [1, 2, 3]), ([0, 0], [0]), ([4, 5, 0, 1, 2, 3, 4, 5], [4]), ([6, 0, 1, 2, 3, 4, 5, 6], [])])
def rillmeterref06_Take.B16 : List Nat := [0, 0, 0, 0, 14, 1, 63, 127]
theorem rillmeterref06_Take.tab16 : rtab .any (opsOf Try.f29 16) = rillmeterref06_Take.T16 := by kernel_rfl
theorem rillmeterref06_Take.bits16 : waitsOk rillmeterref06_Take.T16.2 rillmeterref06_Take.B16 = true := by kernel_rfl
set_option maxHeartbeats 8000000 in
set_option maxRecDepth 100000 in
theorem rillmeterref06_Take.calls (k : Nat) (a0 : ByteArray) (r1 : Int) (r2 : Int) (r3 : Int) (r4 : Int) (r5 : Int) (r6 : Int) (r7 : ByteArray) (r8 : ByteArray) (r9 : ByteArray) (r10 : ByteArray) (r11 : Int) (w : World) (h : rillmeterref06_Take.f k a0 = some (r1, r2, r3, r4, r5, r6, r7, r8, r9, r10, r11)) :
  Calls Try.prog 29 #[.string a0] w fun e w' => e = .returned (.tuple #[.agg #[.int .i64 r1, .int .i64 r2, .int .i64 r3, .int .i64 r4, .int .i64 r5, .int .i64 r6, .string r7, .string r8, .string r9], .string r10, .int .i64 r11]) ∧ Below w.heap.size w w' := by
 have hu66 := Try.underlying66
 have HB := Aside0.mk (Below.refl w.heap.size w)
 have H : (if (a0.size : Int) < 20 then (some (0, 0, 0, 0, 0, 0, (⟨#[]⟩ : ByteArray), (⟨#[]⟩ : ByteArray), (⟨#[]⟩ : ByteArray), (⟨#[]⟩ : ByteArray), 2)) else (if 0 < (a0.size : Int) then (if (wrap64 (Int.tdiv (wrap64 (bt a0 0)) 16)) = 4 then (if (wrap64 (4 * (Int.tmod (wrap64 (bt a0 0)) 16))) < 20 then (rillmeterref06_Take.j0 k a0 (wrap64 (4 * (Int.tmod (wrap64 (bt a0 0)) 16))) true) else (rillmeterref06_Take.j0 k a0 (wrap64 (4 * (Int.tmod (wrap64 (bt a0 0)) 16))) (decide ((wrap64 (4 * (Int.tmod (wrap64 (bt a0 0)) 16))) > (a0.size : Int))))) else (some (0, 0, 0, 0, 0, 0, (⟨#[]⟩ : ByteArray), (⟨#[]⟩ : ByteArray), (⟨#[]⟩ : ByteArray), (⟨#[]⟩ : ByteArray), 10))) else (none))) = some (r1, r2, r3, r4, r5, r6, r7, r8, r9, r10, r11) := h
 clear h
 by_cases c2 : (a0.size : Int) < 20
 ·rw [if_pos c2] at H
  have c2b0 : decide ((a0.size : Int) < 20) = true := decide_eq_true c2
  have c2b1 : decide (a0.size < 20) = true := decide_eq_true (by omega)
  clear c2
  simp only [Option.some.injEq, Prod.mk.injEq] at H
  obtain ⟨rfl, rfl, rfl, rfl, rfl, rfl, rfl, rfl, rfl, rfl, rfl⟩ := H
  go_enter Try.func29, Try.ntmps29
  go_wp2_with (first | ((with_reducible refine gate_dst (N := 2) rfl ?_); (try (refine gate_guard (by rfl) ?_; dsimp only)); refine bE_ (N := 2) (cs := Z21_0) (t := 66) ?_; intro gb101 hg w3 hbox hb; have n0_ := Aside0.mk (below_step (bU_ HB.out) hb); have n1_ := Aside0.mk (hbox); have n2_ := Aside0.mk (bZ_ hg (bU_ HB.out) : w.heap.size ≤ gb101); have n3_ := n2_; clear HB; have HB := n0_; have BK101 := n1_; have GW101 := n2_; have GE101 := n3_; clear n0_ n1_ n2_ n3_; clear hb hbox hg; have hcz4_0 : w3.cell? ⟨gb101, 0, none⟩ = some (.int .i64 0) := (blk_cell BK101.out 0).trans rfl; have hcz4_1 : w3.cell? ⟨gb101, 1, none⟩ = some (.int .i64 0) := (blk_cell BK101.out 1).trans rfl; have hcz4_2 : w3.cell? ⟨gb101, 2, none⟩ = some (.int .i64 0) := (blk_cell BK101.out 2).trans rfl; have hcz4_3 : w3.cell? ⟨gb101, 3, none⟩ = some (.int .i64 0) := (blk_cell BK101.out 3).trans rfl; have hcz4_4 : w3.cell? ⟨gb101, 4, none⟩ = some (.int .i64 0) := (blk_cell BK101.out 4).trans rfl; have hcz4_5 : w3.cell? ⟨gb101, 5, none⟩ = some (.int .i64 0) := (blk_cell BK101.out 5).trans rfl; have hcz4_6 : w3.cell? ⟨gb101, 6, none⟩ = some (.string ⟨#[]⟩) := (blk_cell BK101.out 6).trans rfl; have hcz4_7 : w3.cell? ⟨gb101, 7, none⟩ = some (.string ⟨#[]⟩) := (blk_cell BK101.out 7).trans rfl; have hcz4_8 : w3.cell? ⟨gb101, 8, none⟩ = some (.string ⟨#[]⟩) := (blk_cell BK101.out 8).trans rfl; have hfz4_0 := blk_frozen BK101.out 0; have hfz4_1 := blk_frozen BK101.out 1; have hfz4_2 := blk_frozen BK101.out 2; have hfz4_3 := blk_frozen BK101.out 3; have hfz4_4 := blk_frozen BK101.out 4; have hfz4_5 := blk_frozen BK101.out 5; have hfz4_6 := blk_frozen BK101.out 6; have hfz4_7 := blk_frozen BK101.out 7; have hfz4_8 := blk_frozen BK101.out 8))
  refine bodyPost_ret (results_ctt rfl _ _ gb101 66 #[.int .i64 0, .int .i64 0, .int .i64 0, .int .i64 0, .int .i64 0, .int .i64 0, .string ⟨#[]⟩, .string ⟨#[]⟩, .string ⟨#[]⟩] (0, 0) _ rfl (by (with_reducible repeat first | apply pN_ | apply pD_ | apply pA_); refine blk_put (cs := Z21_0) ?_ 8 _ rfl; (with_reducible repeat first | apply pN_ | apply pD_ | apply pA_); refine blk_put (cs := Z21_0) ?_ 7 _ rfl; (with_reducible repeat first | apply pN_ | apply pD_ | apply pA_); refine blk_put (cs := Z21_0) ?_ 6 _ rfl; (with_reducible repeat first | apply pN_ | apply pD_ | apply pA_); refine blk_put (cs := Z21_0) ?_ 5 _ rfl; (with_reducible repeat first | apply pN_ | apply pD_ | apply pA_); refine blk_put (cs := Z21_0) ?_ 4 _ rfl; (with_reducible repeat first | apply pN_ | apply pD_ | apply pA_); refine blk_put (cs := Z21_0) ?_ 3 _ rfl; (with_reducible repeat first | apply pN_ | apply pD_ | apply pA_); refine blk_put (cs := Z21_0) ?_ 2 _ rfl; (with_reducible repeat first | apply pN_ | apply pD_ | apply pA_); refine blk_put (cs := Z21_0) ?_ 1 _ rfl; (with_reducible repeat first | apply pN_ | apply pD_ | apply pA_); refine blk_put (cs := Z21_0) ?_ 0 _ rfl; (with_reducible repeat first | apply pN_ | apply pD_ | apply pA_); exact BK101.out) Try.underlying66 rfl (by kernel_rfl)) rfl ?_
  exact rE_ (bU_ HB.out)
 ·rw [if_neg c2] at H
  have c2b0 : decide ((a0.size : Int) < 20) = false := decide_eq_false c2
  have c2b1 : decide (a0.size < 20) = false := decide_eq_false (by omega)
  clear c2
  by_cases c5 : 0 < (a0.size : Int)
  rotate_left
  ·rw [if_neg c5] at H; exact absurd H (by simp)
  rw [if_pos c5] at H
  have c5b0 : decide (0 < (a0.size : Int)) = true := decide_eq_true c5
  have c5b1 : decide (0 < a0.size) = true := decide_eq_true (by omega)
  clear c5
  by_cases c7 : (wrap64 (Int.tdiv (wrap64 (bt a0 0)) 16)) = 4
  ·rw [if_pos c7] at H
   have c7b0 : ((wrap64 (Int.tdiv (wrap64 (bt a0 0)) 16)) == 4) = true := beq_iff_eq.mpr c7
   have c7b1 : ((wrap64 (Int.tdiv (wrap64 (bt a0 0)) 16)) != 4) = false := bne_eq_false_iff_eq.mpr c7
   clear c7
   have HC9 := Aside0.mk H
   clear H
   go_enter Try.func29, Try.ntmps29
   go_upto_region 6 with (first | ((with_reducible refine gate_dst (N := 2) rfl ?_); (try (refine gate_guard (by rfl) ?_; dsimp only)); refine bE_ (N := 2) (cs := Z21_0) (t := 66) ?_; intro gb101 hg w10 hbox hb; have n0_ := Aside0.mk (below_step (bU_ HB.out) hb); have n1_ := Aside0.mk (hbox); have n2_ := Aside0.mk (bZ_ hg (bU_ HB.out) : w.heap.size ≤ gb101); have n3_ := n2_; clear HB; have HB := n0_; have BK101 := n1_; have GW101 := n2_; have GE101 := n3_; clear n0_ n1_ n2_ n3_; clear hb hbox hg; have p6 : 0 ≤ (0 : Int) := (by omega); have q6 : 0 < a0.size := (by have : (0 : Int) < (a0.size : Int) := oD_; omega); have hx6 : ∀ h : 0 < a0.size, ((a0[0]'h).toNat : Int) = bt a0 0 := bt_at a0 0; clear p6; have qi6 : (0 < (a0.size : Int)) = True := eq_true oD_; replace q6 := eq_true q6; have p8 : 0 ≤ (0 : Int) := (by omega); have q8 : 0 < a0.size := (by have : (0 : Int) < (a0.size : Int) := oD_; omega); have hx8 : ∀ h : 0 < a0.size, ((a0[0]'h).toNat : Int) = bt a0 0 := bt_at a0 0; clear p8; have qi8 : (0 < (a0.size : Int)) = True := eq_true oD_; replace q8 := eq_true q8))
   (try simp only [Act.put, s1_, s2_, s3_])
   go_cut [31] (fun v31 wc => ∃ (kq : Nat) (x31_8 : Bool), v31 = .bool x31_8 ∧ Aside0 (rillmeterref06_Take.j0 kq a0 (wrap64 (4 * (Int.tmod (wrap64 (bt a0 0)) 16))) x31_8 = some (r1, r2, r3, r4, r5, r6, r7, r8, r9, r10, r11)) ∧ Aside0 (kq ≤ k) ∧ Aside0 (wc.heap[gb101]? = some (.cells #[.int .i64 0, .int .i64 0, .int .i64 0, .int .i64 0, .int .i64 0, .int .i64 0, .string ⟨#[]⟩, .string ⟨#[]⟩, .string ⟨#[]⟩] 66 (0, 0))) ∧ Aside0 (Below w.heap.size w wc))
   case first =>
    have H := HC9.out
    clear HC9
    by_cases c11 : (wrap64 (4 * (Int.tmod (wrap64 (bt a0 0)) 16))) < 20
    ·rw [if_pos c11] at H
     have c11b0 : decide ((wrap64 (4 * (Int.tmod (wrap64 (bt a0 0)) 16))) < 20) = true := decide_eq_true c11
     clear c11
     (first | rw [c11b0] | (simp only [i64_w, i32_w]; rw [c11b0]) | skip)
     have H' := Aside0.mk H
     clear H
     go_wp2
     go_meet
     case rel => exact ⟨_, (true), (by first | rfl | (simp; done) | (simp [*]; done)), H', ⟨by first | omega | exact Nat.le_refl _⟩, ⟨by (with_reducible repeat first | apply pN_ | apply pD_ | apply pA_); exact BK101.out⟩, ⟨bU_ HB.out⟩⟩
    ·rw [if_neg c11] at H
     have c11b0 : decide ((wrap64 (4 * (Int.tmod (wrap64 (bt a0 0)) 16))) < 20) = false := decide_eq_false c11
     clear c11
     (first | rw [c11b0] | (simp only [i64_w, i32_w]; rw [c11b0]) | skip)
     have H' := Aside0.mk H
     clear H
     go_wp2
     go_meet
     case rel => exact ⟨_, (decide ((wrap64 (4 * (Int.tmod (wrap64 (bt a0 0)) 16))) > (a0.size : Int))), (by first | rfl | (simp; done) | (simp [*]; done)), H', ⟨by first | omega | exact Nat.le_refl _⟩, ⟨by (with_reducible repeat first | apply pN_ | apply pD_ | apply pA_); exact BK101.out⟩, ⟨bU_ HB.out⟩⟩
   case rest =>
    clear HC9
    (try clear c1); (try clear c2); (try clear c2b0); (try clear c2b1); (try clear p2); (try clear c5); (try clear c5b0); (try clear c5b1); (try clear p6); (try clear q6); (try clear hx6); (try clear qi6); (try clear c7); (try clear c7b0); (try clear c7b1); (try clear p8); (try clear q8); (try clear hx8); (try clear qi8); (try clear c11); (try clear c11b0); (try clear hcz4_0); (try clear hcz4_1); (try clear hcz4_2); (try clear hcz4_3); (try clear hcz4_4); (try clear hcz4_5); (try clear hcz4_6); (try clear hcz4_7); (try clear hcz4_8); (try clear hfz4_0); (try clear hfz4_1); (try clear hfz4_2); (try clear hfz4_3); (try clear hfz4_4); (try clear hfz4_5); (try clear hfz4_6); (try clear hfz4_7); (try clear hfz4_8); (try clear p6); (try clear p8); (try clear q6); (try clear q8)
    obtain ⟨kq, x31_8, rfl, HA, HJ8, BK101, HB⟩ := hcut
    cases kq with
    | zero => exact absurd HA.out (by simp [rillmeterref06_Take.j0])
    | succ kj8 =>
     have H := HA.out
     clear HA
     simp only [rillmeterref06_Take.j0] at H
     by_cases c12 : x31_8 = true
     ·subst c12
      have H1 : (some (0, 0, 0, 0, 0, 0, (⟨#[]⟩ : ByteArray), (⟨#[]⟩ : ByteArray), (⟨#[]⟩ : ByteArray), (⟨#[]⟩ : ByteArray), 11)) = some (r1, r2, r3, r4, r5, r6, r7, r8, r9, r10, r11) := by rw [if_pos rfl] at H; exact H
      clear H
      have H := H1
      clear H1
      simp only [Option.some.injEq, Prod.mk.injEq] at H
      obtain ⟨rfl, rfl, rfl, rfl, rfl, rfl, rfl, rfl, rfl, rfl, rfl⟩ := H
      have hcz13_0 : wc.cell? ⟨gb101, 0, none⟩ = some (.int .i64 0) := (blk_cell BK101.out 0).trans rfl
      have hcz13_1 : wc.cell? ⟨gb101, 1, none⟩ = some (.int .i64 0) := (blk_cell BK101.out 1).trans rfl
      have hcz13_2 : wc.cell? ⟨gb101, 2, none⟩ = some (.int .i64 0) := (blk_cell BK101.out 2).trans rfl
      have hcz13_3 : wc.cell? ⟨gb101, 3, none⟩ = some (.int .i64 0) := (blk_cell BK101.out 3).trans rfl
      have hcz13_4 : wc.cell? ⟨gb101, 4, none⟩ = some (.int .i64 0) := (blk_cell BK101.out 4).trans rfl
      have hcz13_5 : wc.cell? ⟨gb101, 5, none⟩ = some (.int .i64 0) := (blk_cell BK101.out 5).trans rfl
      have hcz13_6 : wc.cell? ⟨gb101, 6, none⟩ = some (.string ⟨#[]⟩) := (blk_cell BK101.out 6).trans rfl
      have hcz13_7 : wc.cell? ⟨gb101, 7, none⟩ = some (.string ⟨#[]⟩) := (blk_cell BK101.out 7).trans rfl
      have hcz13_8 : wc.cell? ⟨gb101, 8, none⟩ = some (.string ⟨#[]⟩) := (blk_cell BK101.out 8).trans rfl
      have hfz13_0 := blk_frozen BK101.out 0; have hfz13_1 := blk_frozen BK101.out 1; have hfz13_2 := blk_frozen BK101.out 2; have hfz13_3 := blk_frozen BK101.out 3; have hfz13_4 := blk_frozen BK101.out 4; have hfz13_5 := blk_frozen BK101.out 5; have hfz13_6 := blk_frozen BK101.out 6; have hfz13_7 := blk_frozen BK101.out 7; have hfz13_8 := blk_frozen BK101.out 8
      go_wp2
      refine bodyPost_ret (results_ctt rfl _ _ gb101 66 #[.int .i64 0, .int .i64 0, .int .i64 0, .int .i64 0, .int .i64 0, .int .i64 0, .string ⟨#[]⟩, .string ⟨#[]⟩, .string ⟨#[]⟩] (0, 0) _ rfl (by (with_reducible repeat first | apply pN_ | apply pD_ | apply pA_); refine blk_put (cs := Z21_0) ?_ 8 _ rfl; (with_reducible repeat first | apply pN_ | apply pD_ | apply pA_); refine blk_put (cs := Z21_0) ?_ 7 _ rfl; (with_reducible repeat first | apply pN_ | apply pD_ | apply pA_); refine blk_put (cs := Z21_0) ?_ 6 _ rfl; (with_reducible repeat first | apply pN_ | apply pD_ | apply pA_); refine blk_put (cs := Z21_0) ?_ 5 _ rfl; (with_reducible repeat first | apply pN_ | apply pD_ | apply pA_); refine blk_put (cs := Z21_0) ?_ 4 _ rfl; (with_reducible repeat first | apply pN_ | apply pD_ | apply pA_); refine blk_put (cs := Z21_0) ?_ 3 _ rfl; (with_reducible repeat first | apply pN_ | apply pD_ | apply pA_); refine blk_put (cs := Z21_0) ?_ 2 _ rfl; (with_reducible repeat first | apply pN_ | apply pD_ | apply pA_); refine blk_put (cs := Z21_0) ?_ 1 _ rfl; (with_reducible repeat first | apply pN_ | apply pD_ | apply pA_); refine blk_put (cs := Z21_0) ?_ 0 _ rfl; (with_reducible repeat first | apply pN_ | apply pD_ | apply pA_); exact BK101.out) Try.underlying66 rfl (by kernel_rfl)) rfl ?_
      exact rE_ (bU_ HB.out)
     ·replace c12 := Bool.eq_false_iff.mpr c12
      subst c12
      have H1 : (if 2 ≤ 4 then (if 4 ≤ (a0.size : Int) then ((rillmeterref04_Number.f kj8 (a0.extract 2 4)).bind fun t102 => (if t102 < (wrap64 (4 * (Int.tmod (wrap64 (bt a0 0)) 16))) then (rillmeterref06_Take.j1 kj8 a0 (wrap64 (4 * (Int.tmod (wrap64 (bt a0 0)) 16))) t102 true) else (rillmeterref06_Take.j1 kj8 a0 (wrap64 (4 * (Int.tmod (wrap64 (bt a0 0)) 16))) t102 (decide (t102 > (a0.size : Int)))))) else (none)) else (none)) = some (r1, r2, r3, r4, r5, r6, r7, r8, r9, r10, r11) := by rw [if_neg (show ¬ (false = true) by decide)] at H; exact H
      clear H
      have H := H1
      clear H1
      by_cases c14 : 2 ≤ 4
      rotate_left
      ·rw [if_neg c14] at H; exact absurd H (by simp)
      rw [if_pos c14] at H
      have c14b0 := eq_true c14
      have c14b1 : decide (2 ≤ 4) = true := decide_eq_true c14
      clear c14
      by_cases c15 : 4 ≤ (a0.size : Int)
      rotate_left
      ·rw [if_neg c15] at H; exact absurd H (by simp)
      rw [if_pos c15] at H
      have c15b0 := eq_true c15
      have c15b1 : decide (4 ≤ (a0.size : Int)) = true := decide_eq_true c15
      clear c15
      replace H := Option.bind_eq_some_iff.mp H
      obtain ⟨t102, A160, H⟩ := H
      replace H : (if t102 < (wrap64 (4 * (Int.tmod (wrap64 (bt a0 0)) 16))) then (rillmeterref06_Take.j1 kj8 a0 (wrap64 (4 * (Int.tmod (wrap64 (bt a0 0)) 16))) t102 true) else (rillmeterref06_Take.j1 kj8 a0 (wrap64 (4 * (Int.tmod (wrap64 (bt a0 0)) 16))) t102 (decide (t102 > (a0.size : Int))))) = some (r1, r2, r3, r4, r5, r6, r7, r8, r9, r10, r11) := H
      have A16 := Aside0.mk A160
      clear A160
      have HC17 := Aside0.mk H
      clear H
      go_upto_region 9 with (first | ((with_reducible refine gate_callee (f := 45) rfl ?_); refine gL_ (some 35) rfl rfl Try.func45 (by kernel_rfl) rfl #[.string (a0.extract 2 4)] rfl ?_; (with_reducible refine (rillmeterref04_Number.calls kj8 (a0.extract 2 4) t102 _ A16.out).mono ?_); rintro e w' ⟨rfl, ⟨nd, rfl⟩⟩; refine ⟨_, rfl, ?_⟩))
      (try simp only [Act.put, s1_, s2_, s3_])
      go_cut [44] (fun v44 wc => ∃ (kq : Nat) (x44_16 : Bool), v44 = .bool x44_16 ∧ Aside0 (rillmeterref06_Take.j1 kq a0 (wrap64 (4 * (Int.tmod (wrap64 (bt a0 0)) 16))) t102 x44_16 = some (r1, r2, r3, r4, r5, r6, r7, r8, r9, r10, r11)) ∧ Aside0 (kq ≤ kj8) ∧ Aside0 (wc.heap[gb101]? = some (.cells #[.int .i64 0, .int .i64 0, .int .i64 0, .int .i64 0, .int .i64 0, .int .i64 0, .string ⟨#[]⟩, .string ⟨#[]⟩, .string ⟨#[]⟩] 66 (0, 0))) ∧ Aside0 (Below w.heap.size w wc))
      case first =>
       have H := HC17.out
       clear HC17
       by_cases c18 : t102 < (wrap64 (4 * (Int.tmod (wrap64 (bt a0 0)) 16)))
       ·rw [if_pos c18] at H
        have c18b0 : decide (t102 < (wrap64 (4 * (Int.tmod (wrap64 (bt a0 0)) 16)))) = true := decide_eq_true c18
        clear c18
        (first | rw [c18b0] | (simp only [i64_w, i32_w]; rw [c18b0]) | skip)
        have H' := Aside0.mk H
        clear H
        go_wp2
        go_meet
        case rel => exact ⟨_, (true), (by first | rfl | (simp; done) | (simp [*]; done)), H', ⟨by have := HJ8.out; first | omega | exact Nat.le_refl _⟩, ⟨by (with_reducible repeat first | apply pN_ | apply pD_ | apply pA_); exact BK101.out⟩, ⟨bU_ HB.out⟩⟩
       ·rw [if_neg c18] at H
        have c18b0 : decide (t102 < (wrap64 (4 * (Int.tmod (wrap64 (bt a0 0)) 16)))) = false := decide_eq_false c18
        clear c18
        (first | rw [c18b0] | (simp only [i64_w, i32_w]; rw [c18b0]) | skip)
        have H' := Aside0.mk H
        clear H
        go_wp2
        go_meet
        case rel => exact ⟨_, (decide (t102 > (a0.size : Int))), (by first | rfl | (simp; done) | (simp [*]; done)), H', ⟨by have := HJ8.out; first | omega | exact Nat.le_refl _⟩, ⟨by (with_reducible repeat first | apply pN_ | apply pD_ | apply pA_); exact BK101.out⟩, ⟨bU_ HB.out⟩⟩
      case rest =>
       clear HC17
       (try clear c1); (try clear c2); (try clear c2b0); (try clear c2b1); (try clear p2); (try clear c4); (try clear c5); (try clear c5b0); (try clear c5b1); (try clear p6); (try clear q6); (try clear hx6); (try clear qi6); (try clear c7); (try clear c7b0); (try clear c7b1); (try clear p8); (try clear q8); (try clear hx8); (try clear qi8); (try clear c11); (try clear c11b0); (try clear c12); (try clear c14); (try clear c14b0); (try clear c14b1); (try clear c15); (try clear c15b0); (try clear c15b1); (try clear c18); (try clear c18b0); (try clear hcz13_0); (try clear hcz13_1); (try clear hcz13_2); (try clear hcz13_3); (try clear hcz13_4); (try clear hcz13_5); (try clear hcz13_6); (try clear hcz13_7); (try clear hcz13_8); (try clear hcz4_0); (try clear hcz4_1); (try clear hcz4_2); (try clear hcz4_3); (try clear hcz4_4); (try clear hcz4_5); (try clear hcz4_6); (try clear hcz4_7); (try clear hcz4_8); (try clear hfz13_0); (try clear hfz13_1); (try clear hfz13_2); (try clear hfz13_3); (try clear hfz13_4); (try clear hfz13_5); (try clear hfz13_6); (try clear hfz13_7); (try clear hfz13_8); (try clear hfz4_0); (try clear hfz4_1); (try clear hfz4_2); (try clear hfz4_3); (try clear hfz4_4); (try clear hfz4_5); (try clear hfz4_6); (try clear hfz4_7); (try clear hfz4_8); (try clear p2); (try clear p6); (try clear p8); (try clear q6); (try clear q8)
       obtain ⟨kq, x44_16, rfl, HA, HJ16, BK101, HB⟩ := hcut
       cases kq with
       | zero => exact absurd HA.out (by simp [rillmeterref06_Take.j1])
       | succ kj16 =>
        have H := HA.out
        clear HA
        simp only [rillmeterref06_Take.j1] at H
        by_cases c19 : x44_16 = true
        ·subst c19
         have H1 : (some (0, 0, 0, 0, 0, 0, (⟨#[]⟩ : ByteArray), (⟨#[]⟩ : ByteArray), (⟨#[]⟩ : ByteArray), (⟨#[]⟩ : ByteArray), 13)) = some (r1, r2, r3, r4, r5, r6, r7, r8, r9, r10, r11) := by rw [if_pos rfl] at H; exact H
         clear H
         have H := H1
         clear H1
         simp only [Option.some.injEq, Prod.mk.injEq] at H
         obtain ⟨rfl, rfl, rfl, rfl, rfl, rfl, rfl, rfl, rfl, rfl, rfl⟩ := H
         have hcz20_0 : wc.cell? ⟨gb101, 0, none⟩ = some (.int .i64 0) := (blk_cell BK101.out 0).trans rfl
         have hcz20_1 : wc.cell? ⟨gb101, 1, none⟩ = some (.int .i64 0) := (blk_cell BK101.out 1).trans rfl
         have hcz20_2 : wc.cell? ⟨gb101, 2, none⟩ = some (.int .i64 0) := (blk_cell BK101.out 2).trans rfl
         have hcz20_3 : wc.cell? ⟨gb101, 3, none⟩ = some (.int .i64 0) := (blk_cell BK101.out 3).trans rfl
         have hcz20_4 : wc.cell? ⟨gb101, 4, none⟩ = some (.int .i64 0) := (blk_cell BK101.out 4).trans rfl
         have hcz20_5 : wc.cell? ⟨gb101, 5, none⟩ = some (.int .i64 0) := (blk_cell BK101.out 5).trans rfl
         have hcz20_6 : wc.cell? ⟨gb101, 6, none⟩ = some (.string ⟨#[]⟩) := (blk_cell BK101.out 6).trans rfl
         have hcz20_7 : wc.cell? ⟨gb101, 7, none⟩ = some (.string ⟨#[]⟩) := (blk_cell BK101.out 7).trans rfl
         have hcz20_8 : wc.cell? ⟨gb101, 8, none⟩ = some (.string ⟨#[]⟩) := (blk_cell BK101.out 8).trans rfl
         have hfz20_0 := blk_frozen BK101.out 0; have hfz20_1 := blk_frozen BK101.out 1; have hfz20_2 := blk_frozen BK101.out 2; have hfz20_3 := blk_frozen BK101.out 3; have hfz20_4 := blk_frozen BK101.out 4; have hfz20_5 := blk_frozen BK101.out 5; have hfz20_6 := blk_frozen BK101.out 6; have hfz20_7 := blk_frozen BK101.out 7; have hfz20_8 := blk_frozen BK101.out 8
         go_wp2
         refine bodyPost_ret (results_ctt rfl _ _ gb101 66 #[.int .i64 0, .int .i64 0, .int .i64 0, .int .i64 0, .int .i64 0, .int .i64 0, .string ⟨#[]⟩, .string ⟨#[]⟩, .string ⟨#[]⟩] (0, 0) _ rfl (by (with_reducible repeat first | apply pN_ | apply pD_ | apply pA_); refine blk_put (cs := Z21_0) ?_ 8 _ rfl; (with_reducible repeat first | apply pN_ | apply pD_ | apply pA_); refine blk_put (cs := Z21_0) ?_ 7 _ rfl; (with_reducible repeat first | apply pN_ | apply pD_ | apply pA_); refine blk_put (cs := Z21_0) ?_ 6 _ rfl; (with_reducible repeat first | apply pN_ | apply pD_ | apply pA_); refine blk_put (cs := Z21_0) ?_ 5 _ rfl; (with_reducible repeat first | apply pN_ | apply pD_ | apply pA_); refine blk_put (cs := Z21_0) ?_ 4 _ rfl; (with_reducible repeat first | apply pN_ | apply pD_ | apply pA_); refine blk_put (cs := Z21_0) ?_ 3 _ rfl; (with_reducible repeat first | apply pN_ | apply pD_ | apply pA_); refine blk_put (cs := Z21_0) ?_ 2 _ rfl; (with_reducible repeat first | apply pN_ | apply pD_ | apply pA_); refine blk_put (cs := Z21_0) ?_ 1 _ rfl; (with_reducible repeat first | apply pN_ | apply pD_ | apply pA_); refine blk_put (cs := Z21_0) ?_ 0 _ rfl; (with_reducible repeat first | apply pN_ | apply pD_ | apply pA_); exact BK101.out) Try.underlying66 rfl (by kernel_rfl)) rfl ?_
         exact rE_ (bU_ HB.out)
        ·replace c19 := Bool.eq_false_iff.mpr c19
         subst c19
         have H1 : (if 0 ≤ (wrap64 (4 * (Int.tmod (wrap64 (bt a0 0)) 16))) then (if (wrap64 (4 * (Int.tmod (wrap64 (bt a0 0)) 16))) ≤ (a0.size : Int) then ((rillmeterref04_Sum.f kj16 (a0.extract 0 ((wrap64 (4 * (Int.tmod (wrap64 (bt a0 0)) 16))) : Int).toNat)).bind fun t103 => (if t103 = 0 then (if 6 ≤ 8 then (if 8 ≤ (a0.size : Int) then ((rillmeterref04_Number.f kj16 (a0.extract 6 8)).bind fun t104 => (if 1 < (a0.size : Int) then (if 4 ≤ 6 then (if 6 ≤ (a0.size : Int) then ((rillmeterref04_Number.f kj16 (a0.extract 4 6)).bind fun t105 => (if 8 < (a0.size : Int) then (if 9 < (a0.size : Int) then (if 12 ≤ 16 then (if 16 ≤ (a0.size : Int) then (if 16 ≤ 20 then (if 20 ≤ (a0.size : Int) then (if 20 ≤ (wrap64 (4 * (Int.tmod (wrap64 (bt a0 0)) 16))) then (if (wrap64 (4 * (Int.tmod (wrap64 (bt a0 0)) 16))) ≤ t102 then (if t102 ≤ (a0.size : Int) then (some (wrap64 (bt a0 1), t105, wrap64 (Int.tdiv t104 8192), Int.tmod t104 8192, wrap64 (bt a0 8), wrap64 (bt a0 9), a0.extract 12 16, a0.extract 16 20, a0.extract 20 ((wrap64 (4 * (Int.tmod (wrap64 (bt a0 0)) 16))) : Int).toNat, a0.extract ((wrap64 (4 * (Int.tmod (wrap64 (bt a0 0)) 16))) : Int).toNat (t102 : Int).toNat, 0)) else (none)) else (none)) else (none)) else (none)) else (none)) else (none)) else (none)) else (none)) else (none))) else (none)) else (none)) else (none))) else (none)) else (none)) else (some (0, 0, 0, 0, 0, 0, (⟨#[]⟩ : ByteArray), (⟨#[]⟩ : ByteArray), (⟨#[]⟩ : ByteArray), (⟨#[]⟩ : ByteArray), 12)))) else (none)) else (none)) = some (r1, r2, r3, r4, r5, r6, r7, r8, r9, r10, r11) := by rw [if_neg (show ¬ (false = true) by decide)] at H; exact H
         clear H
         have H := H1
         clear H1
         obtain ⟨ji21, hji21⟩ : ∃ j_ : Int, (wrap64 (4 * (Int.tmod (wrap64 (bt a0 0)) 16))) = j_ := ⟨_, rfl⟩
         replace H : (if 0 ≤ (ji21) then (if (ji21) ≤ (a0.size : Int) then ((rillmeterref04_Sum.f kj16 (a0.extract 0 ((ji21) : Int).toNat)).bind fun t103 => (if t103 = 0 then (if 6 ≤ 8 then (if 8 ≤ (a0.size : Int) then ((rillmeterref04_Number.f kj16 (a0.extract 6 8)).bind fun t104 => (if 1 < (a0.size : Int) then (if 4 ≤ 6 then (if 6 ≤ (a0.size : Int) then ((rillmeterref04_Number.f kj16 (a0.extract 4 6)).bind fun t105 => (if 8 < (a0.size : Int) then (if 9 < (a0.size : Int) then (if 12 ≤ 16 then (if 16 ≤ (a0.size : Int) then (if 16 ≤ 20 then (if 20 ≤ (a0.size : Int) then (if 20 ≤ (ji21) then (if (ji21) ≤ t102 then (if t102 ≤ (a0.size : Int) then (some (wrap64 (bt a0 1), t105, wrap64 (Int.tdiv t104 8192), Int.tmod t104 8192, wrap64 (bt a0 8), wrap64 (bt a0 9), a0.extract 12 16, a0.extract 16 20, a0.extract 20 ((ji21) : Int).toNat, a0.extract ((ji21) : Int).toNat (t102 : Int).toNat, 0)) else (none)) else (none)) else (none)) else (none)) else (none)) else (none)) else (none)) else (none)) else (none))) else (none)) else (none)) else (none))) else (none)) else (none)) else (some (0, 0, 0, 0, 0, 0, (⟨#[]⟩ : ByteArray), (⟨#[]⟩ : ByteArray), (⟨#[]⟩ : ByteArray), (⟨#[]⟩ : ByteArray), 12)))) else (none)) else (none)) = some (r1, r2, r3, r4, r5, r6, r7, r8, r9, r10, r11) := by first | (rw [hji21] at H; exact H) | (simp only [hji21] at H ⊢; exact H)
         have hji21w : (IntKind.i64.wrap (4 * (Int.tmod (wrap64 (bt a0 0)) 16))) = ji21 := (i64_w _).trans hji21
         by_cases c22 : 0 ≤ (ji21)
         rotate_left
         ·rw [if_neg c22] at H; exact absurd H (by simp)
         rw [if_pos c22] at H
         have c22b0 := eq_true c22
         have c22b1 : decide (0 ≤ (ji21)) = true := decide_eq_true c22
         clear c22
         by_cases c23 : (ji21) ≤ (a0.size : Int)
         rotate_left
         ·rw [if_neg c23] at H; exact absurd H (by simp)
         rw [if_pos c23] at H
         have c23b0 := eq_true c23
         have c23b1 : decide ((ji21) ≤ (a0.size : Int)) = true := decide_eq_true c23
         clear c23
         replace H := Option.bind_eq_some_iff.mp H
         obtain ⟨t103, A240, H⟩ := H
         replace H : (if t103 = 0 then (if 6 ≤ 8 then (if 8 ≤ (a0.size : Int) then ((rillmeterref04_Number.f kj16 (a0.extract 6 8)).bind fun t104 => (if 1 < (a0.size : Int) then (if 4 ≤ 6 then (if 6 ≤ (a0.size : Int) then ((rillmeterref04_Number.f kj16 (a0.extract 4 6)).bind fun t105 => (if 8 < (a0.size : Int) then (if 9 < (a0.size : Int) then (if 12 ≤ 16 then (if 16 ≤ (a0.size : Int) then (if 16 ≤ 20 then (if 20 ≤ (a0.size : Int) then (if 20 ≤ (ji21) then (if (ji21) ≤ t102 then (if t102 ≤ (a0.size : Int) then (some (wrap64 (bt a0 1), t105, wrap64 (Int.tdiv t104 8192), Int.tmod t104 8192, wrap64 (bt a0 8), wrap64 (bt a0 9), a0.extract 12 16, a0.extract 16 20, a0.extract 20 ((ji21) : Int).toNat, a0.extract ((ji21) : Int).toNat (t102 : Int).toNat, 0)) else (none)) else (none)) else (none)) else (none)) else (none)) else (none)) else (none)) else (none)) else (none))) else (none)) else (none)) else (none))) else (none)) else (none)) else (some (0, 0, 0, 0, 0, 0, (⟨#[]⟩ : ByteArray), (⟨#[]⟩ : ByteArray), (⟨#[]⟩ : ByteArray), (⟨#[]⟩ : ByteArray), 12))) = some (r1, r2, r3, r4, r5, r6, r7, r8, r9, r10, r11) := H
         have A24 := Aside0.mk A240
         clear A240
         by_cases c25 : t103 = 0
         ·rw [if_pos c25] at H
          have c25b0 : (t103 == 0) = true := beq_iff_eq.mpr c25
          have c25b1 : (t103 != 0) = false := bne_eq_false_iff_eq.mpr c25
          clear c25
          by_cases c26 : 6 ≤ 8
          rotate_left
          ·rw [if_neg c26] at H; exact absurd H (by simp)
          rw [if_pos c26] at H
          have c26b0 := eq_true c26
          have c26b1 : decide (6 ≤ 8) = true := decide_eq_true c26
          clear c26
          by_cases c27 : 8 ≤ (a0.size : Int)
          rotate_left
          ·rw [if_neg c27] at H; exact absurd H (by simp)
          rw [if_pos c27] at H
          have c27b0 := eq_true c27
          have c27b1 : decide (8 ≤ (a0.size : Int)) = true := decide_eq_true c27
          clear c27
          replace H := Option.bind_eq_some_iff.mp H
          obtain ⟨t104, A280, H⟩ := H
          replace H : (if 1 < (a0.size : Int) then (if 4 ≤ 6 then (if 6 ≤ (a0.size : Int) then ((rillmeterref04_Number.f kj16 (a0.extract 4 6)).bind fun t105 => (if 8 < (a0.size : Int) then (if 9 < (a0.size : Int) then (if 12 ≤ 16 then (if 16 ≤ (a0.size : Int) then (if 16 ≤ 20 then (if 20 ≤ (a0.size : Int) then (if 20 ≤ (ji21) then (if (ji21) ≤ t102 then (if t102 ≤ (a0.size : Int) then (some (wrap64 (bt a0 1), t105, wrap64 (Int.tdiv t104 8192), Int.tmod t104 8192, wrap64 (bt a0 8), wrap64 (bt a0 9), a0.extract 12 16, a0.extract 16 20, a0.extract 20 ((ji21) : Int).toNat, a0.extract ((ji21) : Int).toNat (t102 : Int).toNat, 0)) else (none)) else (none)) else (none)) else (none)) else (none)) else (none)) else (none)) else (none)) else (none))) else (none)) else (none)) else (none)) = some (r1, r2, r3, r4, r5, r6, r7, r8, r9, r10, r11) := H
          have A28 := Aside0.mk A280
          clear A280
          by_cases c29 : 1 < (a0.size : Int)
          rotate_left
          ·rw [if_neg c29] at H; exact absurd H (by simp)
          rw [if_pos c29] at H
          have c29b0 : decide (1 < (a0.size : Int)) = true := decide_eq_true c29
          have c29b1 : decide (1 < a0.size) = true := decide_eq_true (by omega)
          clear c29
          by_cases c31 : 4 ≤ 6
          rotate_left
          ·rw [if_neg c31] at H; exact absurd H (by simp)
          rw [if_pos c31] at H
          have c31b0 := eq_true c31
          have c31b1 : decide (4 ≤ 6) = true := decide_eq_true c31
          clear c31
          by_cases c32 : 6 ≤ (a0.size : Int)
          rotate_left
          ·rw [if_neg c32] at H; exact absurd H (by simp)
          rw [if_pos c32] at H
          have c32b0 := eq_true c32
          have c32b1 : decide (6 ≤ (a0.size : Int)) = true := decide_eq_true c32
          clear c32
          replace H := Option.bind_eq_some_iff.mp H
          obtain ⟨t105, A330, H⟩ := H
          replace H : (if 8 < (a0.size : Int) then (if 9 < (a0.size : Int) then (if 12 ≤ 16 then (if 16 ≤ (a0.size : Int) then (if 16 ≤ 20 then (if 20 ≤ (a0.size : Int) then (if 20 ≤ (ji21) then (if (ji21) ≤ t102 then (if t102 ≤ (a0.size : Int) then (some (wrap64 (bt a0 1), t105, wrap64 (Int.tdiv t104 8192), Int.tmod t104 8192, wrap64 (bt a0 8), wrap64 (bt a0 9), a0.extract 12 16, a0.extract 16 20, a0.extract 20 ((ji21) : Int).toNat, a0.extract ((ji21) : Int).toNat (t102 : Int).toNat, 0)) else (none)) else (none)) else (none)) else (none)) else (none)) else (none)) else (none)) else (none)) else (none)) = some (r1, r2, r3, r4, r5, r6, r7, r8, r9, r10, r11) := H
          have A33 := Aside0.mk A330
          clear A330
          by_cases c34 : 8 < (a0.size : Int)
          rotate_left
          ·rw [if_neg c34] at H; exact absurd H (by simp)
          rw [if_pos c34] at H
          have c34b0 : decide (8 < (a0.size : Int)) = true := decide_eq_true c34
          have c34b1 : decide (8 < a0.size) = true := decide_eq_true (by omega)
          clear c34
          by_cases c36 : 9 < (a0.size : Int)
          rotate_left
          ·rw [if_neg c36] at H; exact absurd H (by simp)
          rw [if_pos c36] at H
          have c36b0 : decide (9 < (a0.size : Int)) = true := decide_eq_true c36
          have c36b1 : decide (9 < a0.size) = true := decide_eq_true (by omega)
          clear c36
          by_cases c38 : 12 ≤ 16
          rotate_left
          ·rw [if_neg c38] at H; exact absurd H (by simp)
          rw [if_pos c38] at H
          have c38b0 := eq_true c38
          have c38b1 : decide (12 ≤ 16) = true := decide_eq_true c38
          clear c38
          by_cases c39 : 16 ≤ (a0.size : Int)
          rotate_left
          ·rw [if_neg c39] at H; exact absurd H (by simp)
          rw [if_pos c39] at H
          have c39b0 := eq_true c39
          have c39b1 : decide (16 ≤ (a0.size : Int)) = true := decide_eq_true c39
          clear c39
          by_cases c40 : 16 ≤ 20
          rotate_left
          ·rw [if_neg c40] at H; exact absurd H (by simp)
          rw [if_pos c40] at H
          have c40b0 := eq_true c40
          have c40b1 : decide (16 ≤ 20) = true := decide_eq_true c40
          clear c40
          by_cases c41 : 20 ≤ (a0.size : Int)
          rotate_left
          ·rw [if_neg c41] at H; exact absurd H (by simp)
          rw [if_pos c41] at H
          have c41b0 := eq_true c41
          have c41b1 : decide (20 ≤ (a0.size : Int)) = true := decide_eq_true c41
          clear c41
          by_cases c42 : 20 ≤ (ji21)
          rotate_left
          ·rw [if_neg c42] at H; exact absurd H (by simp)
          rw [if_pos c42] at H
          have c42b0 := eq_true c42
          have c42b1 : decide (20 ≤ (ji21)) = true := decide_eq_true c42
          clear c42
          have c43b0 := eq_true (oD_ : (ji21) ≤ (a0.size : Int))
          have c44b0 := eq_true (oD_ : 0 ≤ (ji21))
          by_cases c45 : (ji21) ≤ t102
          rotate_left
          ·rw [if_neg c45] at H; exact absurd H (by simp)
          rw [if_pos c45] at H
          have c45b0 := eq_true c45
          have c45b1 : decide ((ji21) ≤ t102) = true := decide_eq_true c45
          clear c45
          by_cases c46 : t102 ≤ (a0.size : Int)
          rotate_left
          ·rw [if_neg c46] at H; exact absurd H (by simp)
          rw [if_pos c46] at H
          have c46b0 := eq_true c46
          have c46b1 : decide (t102 ≤ (a0.size : Int)) = true := decide_eq_true c46
          clear c46
          simp only [Option.some.injEq, Prod.mk.injEq] at H
          obtain ⟨rfl, rfl, rfl, rfl, rfl, rfl, rfl, rfl, rfl, rfl, rfl⟩ := H
          try go_wp2_with (first | ((with_reducible refine gate_callee (f := 46) rfl ?_); refine goesL_ (some 49) rfl rfl Try.func46 (by kernel_rfl) rfl #[.string (a0.extract 0 ((ji21) : Int).toNat)] rfl (by (try simp only [List.map_toArray, List.map_cons, List.map_nil]); first | done | (simp only [hji21]; rfl) | rfl | (simp only [List.length_drop, List.length_take]; rfl) | (simp only [ByteArray.size_append, ByteArray.size_extract, Nat.sub_zero, Int.natCast_add]; rfl) | (simp [ByteArray.size_append]; done)) ?_; (with_reducible refine (rillmeterref04_Sum.calls kj16 (a0.extract 0 ((ji21) : Int).toNat) t103 _ A24.out).mono ?_); rintro e w' ⟨rfl, ⟨nd, rfl⟩⟩; refine ⟨_, rfl, ?_⟩; (try (rw [drewN_self wc]; generalize hq_ : World.drewN wc _ = wc; have n0_ : Aside0 (wc.heap[gb101]? = some (.cells #[.int .i64 0, .int .i64 0, .int .i64 0, .int .i64 0, .int .i64 0, .int .i64 0, .string ⟨#[]⟩, .string ⟨#[]⟩, .string ⟨#[]⟩] 66 (0, 0))) := ⟨by rw [← hq_]; exact (by (with_reducible repeat first | apply pN_ | apply pD_ | apply pA_); exact BK101.out)⟩; have n1_ : Aside0 (Below w.heap.size w wc) := ⟨by rw [← hq_]; exact (bU_ HB.out)⟩; clear BK101 HB hq_; have BK101 := n0_; have HB := n1_; clear n0_ n1_))) | ((with_reducible refine gate_callee (f := 45) rfl ?_); refine gL_ (some 54) rfl rfl Try.func45 (by kernel_rfl) rfl #[.string (a0.extract 6 8)] rfl ?_; (with_reducible refine (rillmeterref04_Number.calls kj16 (a0.extract 6 8) t104 _ A28.out).mono ?_); rintro e w' ⟨rfl, ⟨nd, rfl⟩⟩; refine ⟨_, rfl, ?_⟩; (try (rw [drewN_self wc]; generalize hq_ : World.drewN wc _ = wc; have n0_ : Aside0 (wc.heap[gb101]? = some (.cells #[.int .i64 0, .int .i64 0, .int .i64 0, .int .i64 0, .int .i64 0, .int .i64 0, .string ⟨#[]⟩, .string ⟨#[]⟩, .string ⟨#[]⟩] 66 (0, 0))) := ⟨by rw [← hq_]; exact (by (with_reducible repeat first | apply pN_ | apply pD_ | apply pA_); exact BK101.out)⟩; have n1_ : Aside0 (Below w.heap.size w wc) := ⟨by rw [← hq_]; exact (bU_ HB.out)⟩; clear BK101 HB hq_; have BK101 := n0_; have HB := n1_; clear n0_ n1_))))
          have n0_ := Aside0.mk (blk_drew BK101.out)
          have n1_ := Aside0.mk (below_drew1 HB.out)
          clear BK101
          clear HB
          have BK101 := n0_
          have HB := n1_
          clear n0_ n1_
          have p30 : 0 ≤ (1 : Int) := (by omega)
          have q30 : 1 < a0.size := (by have : (1 : Int) < (a0.size : Int) := oD_; omega)
          have hx30 : ∀ h : 1 < a0.size, ((a0[1]'h).toNat : Int) = bt a0 1 := bt_at a0 1
          clear p30
          have qi30 : (1 < (a0.size : Int)) = True := eq_true oD_
          replace q30 := eq_true q30
          have p35 : 0 ≤ (8 : Int) := (by omega)
          have q35 : 8 < a0.size := (by have : (8 : Int) < (a0.size : Int) := oD_; omega)
          have hx35 : ∀ h : 8 < a0.size, ((a0[8]'h).toNat : Int) = bt a0 8 := bt_at a0 8
          clear p35
          have qi35 : (8 < (a0.size : Int)) = True := eq_true oD_
          replace q35 := eq_true q35
          have p37 : 0 ≤ (9 : Int) := (by omega)
          have q37 : 9 < a0.size := (by have : (9 : Int) < (a0.size : Int) := oD_; omega)
          have hx37 : ∀ h : 9 < a0.size, ((a0[9]'h).toNat : Int) = bt a0 9 := bt_at a0 9
          clear p37
          have qi37 : (9 < (a0.size : Int)) = True := eq_true oD_
          replace q37 := eq_true q37
          refine start_ (n := 19) (S := fun w' => True) (ds := []) #[false, false, false, false, false, false, false, false, false, false, false, false, false, false, false, false, false, false, false] (by kernel_rfl) rfl rfl trivial (fun hHeld => ?_); refine with_tabW rillmeterref06_Take.tab14 rillmeterref06_Take.bits14 (fun HT_ HW_ => ?_)
          generalize wc.drew = w47 at BK101 HB hHeld ⊢
          refine pure_ (i := 0) (N := some 55) (v := ?_) (a' := ?_) #[true, false, false, false, false, false, false, false, false, false, false, false, false, false, false, false, false, false, false] rfl rfl (any_of HT_.out (by kernel_rfl)) (fun _ _ _ h => h) (Or.inl ⟨by rfl, ?_⟩) ?_ ?_
          rotate_left
          ·intro w'; go_simp; with_reducible rfl
          rotate_left
          ·simp only [Act.put, s1_, s2_, s3_, i64_w, i32_w]; rfl
          refine pure_ (i := 3) (N := some 58) (v := ?_) (a' := ?_) #[true, false, false, true, false, false, false, false, false, false, false, false, false, false, false, false, false, false, false] rfl rfl (any_of HT_.out (by kernel_rfl)) (fun _ _ _ h => h) (Or.inl ⟨by rfl, ?_⟩) ?_ ?_
          rotate_left
          ·intro w'; go_simp; with_reducible rfl
          rotate_left
          ·simp only [Act.put, s1_, s2_, s3_, i64_w, i32_w]; rfl
          refine pure_ (i := 4) (N := some 59) (v := ?_) (a' := ?_) #[true, false, false, true, true, false, false, false, false, false, false, false, false, false, false, false, false, false, false] rfl rfl (any_of HT_.out (by kernel_rfl)) (fun _ _ _ h => h) (Or.inl ⟨by rfl, ?_⟩) ?_ ?_
          rotate_left
          ·intro w'; go_simp; with_reducible rfl
          rotate_left
          ·simp only [Act.put, s1_, s2_, s3_, i64_w, i32_w]; rfl
          refine pure_ (i := 6) (N := some 61) (v := ?_) (a' := ?_) #[true, false, false, true, true, false, true, false, false, false, false, false, false, false, false, false, false, false, false] rfl rfl (any_of HT_.out (by kernel_rfl)) (fun _ _ _ h => h) (Or.inl ⟨by rfl, ?_⟩) ?_ ?_
          rotate_left
          ·intro w'; go_simp; with_reducible rfl
          rotate_left
          ·simp only [Act.put, s1_, s2_, s3_, i64_w, i32_w]; rfl
          refine pure_ (i := 7) (N := some 62) (v := ?_) (a' := ?_) #[true, false, false, true, true, false, true, true, false, false, false, false, false, false, false, false, false, false, false] rfl rfl (any_of HT_.out (by kernel_rfl)) (fun _ _ _ h => h) (Or.inl ⟨by rfl, ?_⟩) ?_ ?_
          rotate_left
          ·intro w'; go_simp; with_reducible rfl
          rotate_left
          ·simp only [Act.put, s1_, s2_, s3_, i64_w, i32_w]; rfl
          refine pure_ (i := 8) (N := some 63) (v := ?_) (a' := ?_) #[true, false, false, true, true, false, true, true, true, false, false, false, false, false, false, false, false, false, false] rfl rfl (any_of HT_.out (by kernel_rfl)) (fun _ _ _ h => h) (Or.inl ⟨by rfl, ?_⟩) ?_ ?_
          rotate_left
          ·intro w'; go_simp; with_reducible rfl
          rotate_left
          ·simp only [Act.put, s1_, s2_, s3_, i64_w, i32_w]; rfl
          refine pure_ (i := 9) (N := some 64) (v := ?_) (a' := ?_) #[true, false, false, true, true, false, true, true, true, true, false, false, false, false, false, false, false, false, false] rfl rfl (any_of HT_.out (by kernel_rfl)) (fun _ _ _ h => h) (Or.inl ⟨by rfl, ?_⟩) ?_ ?_
          rotate_left
          ·intro w'; go_simp; with_reducible rfl
          rotate_left
          ·simp only [Act.put, s1_, s2_, s3_, i64_w, i32_w]; rfl
          refine pure_ (i := 10) (N := some 65) (v := ?_) (a' := ?_) #[true, false, false, true, true, false, true, true, true, true, true, false, false, false, false, false, false, false, false] rfl rfl (any_of HT_.out (by kernel_rfl)) (fun _ _ _ h => h) (Or.inl ⟨by rfl, ?_⟩) ?_ ?_
          rotate_left
          ·intro w'; go_simp; with_reducible rfl
          rotate_left
          ·simp only [Act.put, s1_, s2_, s3_, i64_w, i32_w]; rfl
          refine pure_ (i := 13) (N := some 68) (v := ?_) (a' := ?_) #[true, false, false, true, true, false, true, true, true, true, true, false, false, true, false, false, false, false, false] rfl rfl (any_of HT_.out (by kernel_rfl)) (fun _ _ _ h => h) (Or.inl ⟨by rfl, ?_⟩) ?_ ?_
          rotate_left
          ·intro w'; go_simp; with_reducible rfl
          rotate_left
          ·simp only [Act.put, s1_, s2_, s3_, i64_w, i32_w]; rfl
          refine take_ (i := 1) (N := some 56) (v := ?_) (a' := ?_) #[true, true, false, true, true, false, true, true, true, true, true, false, false, true, false, false, false, false, false] rfl rfl (take_ofW HT_.out HW_.out (by kernel_rfl)) (fun _ _ _ h => h) (Or.inl ⟨by rfl, ?_⟩) hHeld ?_ ?_
          rotate_left
          ·intro w' _
           go_simp
           with_reducible rfl
          rotate_left
          ·simp only [Act.put, s1_, s2_, s3_, i64_w, i32_w]; rfl
          refine pure_ (i := 2) (N := some 57) (v := ?_) (a' := ?_) #[true, true, true, true, true, false, true, true, true, true, true, false, false, true, false, false, false, false, false] rfl rfl (any_of HT_.out (by kernel_rfl)) (fun _ _ _ h => h) (Or.inl ⟨by rfl, ?_⟩) ?_ ?_
          rotate_left
          ·intro w'; go_simp; with_reducible rfl
          rotate_left
          ·simp only [Act.put, s1_, s2_, s3_, i64_w, i32_w]; rfl
          refine take_ (i := 11) (N := some 66) (v := ?_) (a' := ?_) #[true, true, true, true, true, false, true, true, true, true, true, true, false, true, false, false, false, false, false] rfl rfl (take_ofW HT_.out HW_.out (by kernel_rfl)) (fun _ _ _ h => h) (Or.inl ⟨by rfl, ?_⟩) hHeld ?_ ?_
          rotate_left
          ·intro w' _
           go_simp
           with_reducible rfl
          rotate_left
          ·simp only [Act.put, s1_, s2_, s3_, i64_w, i32_w]; rfl
          refine pure_ (i := 12) (N := some 67) (v := ?_) (a' := ?_) #[true, true, true, true, true, false, true, true, true, true, true, true, true, true, false, false, false, false, false] rfl rfl (any_of HT_.out (by kernel_rfl)) (fun _ _ _ h => h) (Or.inl ⟨by rfl, ?_⟩) ?_ ?_
          rotate_left
          ·intro w'; go_simp; with_reducible rfl
          rotate_left
          ·simp only [Act.put, s1_, s2_, s3_, i64_w, i32_w]; rfl
          refine take_ (i := 14) (N := some 69) (v := ?_) (a' := ?_) #[true, true, true, true, true, false, true, true, true, true, true, true, true, true, true, false, false, false, false] rfl rfl (take_ofW HT_.out HW_.out (by kernel_rfl)) (fun _ _ _ h => h) (Or.inl ⟨by rfl, ?_⟩) hHeld ?_ ?_
          rotate_left
          ·intro w' _
           go_simp
           with_reducible rfl
          rotate_left
          ·simp only [Act.put, s1_, s2_, s3_, i64_w, i32_w]; rfl
          refine pure_ (i := 15) (N := some 70) (v := ?_) (a' := ?_) #[true, true, true, true, true, false, true, true, true, true, true, true, true, true, true, true, false, false, false] rfl rfl (any_of HT_.out (by kernel_rfl)) (fun _ _ _ h => h) (Or.inl ⟨by rfl, ?_⟩) ?_ ?_
          rotate_left
          ·intro w'; go_simp; with_reducible rfl
          rotate_left
          ·simp only [Act.put, s1_, s2_, s3_, i64_w, i32_w]; rfl
          refine join_ (σ := Nat) 1 #[true, true, true, true, true, true, true, true, true, true, true, true, true, true, true, true, true, true, false] (fun s_ => [(60, .int .i64 t105), (8, .pointer (some ⟨s_, 0, none⟩)), (71, .agg #[.int .i64 (wrap64 (bt a0 1)), .int .i64 t105, .int .i64 (wrap64 (Int.tdiv t104 8192)), .int .i64 (Int.tmod t104 8192), .int .i64 (wrap64 (bt a0 8)), .int .i64 (wrap64 (bt a0 9)), .string ⟨#[]⟩, .string ⟨#[]⟩, .string ⟨#[]⟩])]) (fun s_ w' => (w'.heap[gb101]? = some (.cells #[.int .i64 0, .int .i64 0, .int .i64 0, .int .i64 0, .int .i64 0, .int .i64 0, .string ⟨#[]⟩, .string ⟨#[]⟩, .string ⟨#[]⟩] 66 (0, 0))) ∧ (w'.heap[s_]? = some (.cells #[.int .i64 0, .int .i64 0, .int .i64 0, .int .i64 0, .int .i64 0, .int .i64 0, .string ⟨#[]⟩, .string ⟨#[]⟩, .string ⟨#[]⟩] 66 (0, 0))) ∧ (w.heap.size ≤ s_) ∧ (w.heap.size ≤ s_) ∧ (gb101 ≠ s_) ∧ (s_ ≠ gb101) ∧ (Below w.heap.size w w')) ?_ ?_
          rotate_left
          ·intro hCont
           refine two_ (i := 5) (j := 17) (Ni := some 60) (Nj := some 8) #[true, true, true, true, true, true, true, true, true, true, true, true, true, true, true, true, false, false, false] #[true, true, true, true, true, false, true, true, true, true, true, true, true, true, true, true, false, true, false] rfl rfl rfl rfl (two_of HT_.out (by kernel_rfl)) (by decide) (by decide) (fun K hK => ?_) (fun K hK => ?_)
           ·skip
            refine goes_ Try.func45 (by kernel_rfl) rfl #[.string (a0.extract 4 6)] (by rfl) rfl rfl (by (try simp only [List.map_toArray, List.map_cons, List.map_nil]); first | done | rfl | (simp only [List.length_drop, List.length_take]; rfl) | (simp only [ByteArray.size_append, ByteArray.size_extract, Nat.sub_zero, Int.natCast_add]; rfl) | (simp [ByteArray.size_append]; done)) ?_
            with_reducible refine (rillmeterref04_Number.calls kj16 (a0.extract 4 6) t105 _ A33.out).mono ?_
            rintro e w' ⟨rfl, ⟨nd, rfl⟩⟩
            refine ⟨_, rfl, ?_⟩
            refine hK.out _ _ trivial (fun hHeld => ?_)
            clear hK K
            refine norm_ (a' := ?_) ?_ ?_
            rotate_left
            ·show Act.put _ (some 60) _ = _
             simp only [Act.put, s1_, s2_, s3_, i64_w, i32_w]; rfl
            refine pure_ (i := 16) (N := some 71) (v := ?_) (a' := ?_) #[true, true, true, true, true, true, true, true, true, true, true, true, true, true, true, true, true, false, false] rfl rfl (any_of HT_.out (by kernel_rfl)) (fun _ _ _ h => h) (Or.inl ⟨by rfl, ?_⟩) ?_ ?_
            rotate_left
            ·intro w'; go_simp; with_reducible rfl
            rotate_left
            ·simp only [Act.put, s1_, s2_, s3_, i64_w, i32_w]; rfl
            refine one_ (i := 17) (N := some 8) #[true, true, true, true, true, true, true, true, true, true, true, true, true, true, true, true, true, true, false] rfl rfl (one_of HT_.out (by kernel_rfl)) (by decide) (fun K hK => ?_)
            refine box_step ?hg (N := 8) ?hd (cs := Z21_0) (t := 66) ?hr ?_; (case hd => rfl); (case hg => rfl); (case hr => first | (go_simp; done) | (go_simp; rfl))
            intro gb106 hg w48 hbox hb
            have n0_ := Aside0.mk (bB_ BK101.out hb)
            have n1_ := Aside0.mk (below_step (bU_ HB.out) hb)
            have n2_ := Aside0.mk (hbox)
            have n3_ := Aside0.mk (bZ_ hg (bU_ HB.out) : w.heap.size ≤ gb106)
            have n4_ := Aside0.mk (bZ_ hg (bU_ HB.out) : w.heap.size ≤ gb106)
            have n5_ := Aside0.mk ((bN_ hg BK101.out : gb101 ≠ gb106))
            have n6_ := Aside0.mk ((by rw [hg]; exact Nat.ne_of_gt (blk_lt (g := gb101) (o := .cells Z21_0 66 (0, 0)) (by (with_reducible repeat first | apply pN_ | apply pD_ | apply pA_); exact BK101.out)) : gb106 ≠ gb101))
            clear BK101
            clear HB
            have BK101 := n0_
            have HB := n1_
            have BK106 := n2_
            have GW106 := n3_
            have GE106 := n4_
            have NB101_106 := n5_
            have NB106_101 := n6_
            clear n0_ n1_ n2_ n3_ n4_ n5_ n6_
            clear hb hbox hg
            refine hK.out _ _ trivial (fun hHeld => ?_)
            clear hK K
            refine norm_ (a' := ?_) ?_ ?_
            rotate_left
            ·show Act.put _ (some 8) _ = _
             simp only [Act.put, s1_, s2_, s3_, i64_w, i32_w]; rfl
            exact norm_ (by simp only [putAll, Act.put, s1_, s2_, s3_]) (hCont (gb106) _ ⟨(by (with_reducible repeat first | apply pN_ | apply pD_ | apply pA_); exact BK101.out), (by (with_reducible repeat first | apply pN_ | apply pD_ | apply pA_); exact BK106.out), GW106.out, GE106.out, NB101_106.out, NB106_101.out, (bU_ HB.out)⟩)
           ·skip
            refine box_step ?hg (N := 8) ?hd (cs := Z21_0) (t := 66) ?hr ?_; (case hd => rfl); (case hg => rfl); (case hr => first | (go_simp; done) | (go_simp; rfl))
            intro gb106 hg w48 hbox hb
            have n0_ := Aside0.mk (bB_ BK101.out hb)
            have n1_ := Aside0.mk (below_step (bU_ HB.out) hb)
            have n2_ := Aside0.mk (hbox)
            have n3_ := Aside0.mk (bZ_ hg (bU_ HB.out) : w.heap.size ≤ gb106)
            have n4_ := Aside0.mk (bZ_ hg (bU_ HB.out) : w.heap.size ≤ gb106)
            have n5_ := Aside0.mk ((bN_ hg BK101.out : gb101 ≠ gb106))
            have n6_ := Aside0.mk ((by rw [hg]; exact Nat.ne_of_gt (blk_lt (g := gb101) (o := .cells Z21_0 66 (0, 0)) (by (with_reducible repeat first | apply pN_ | apply pD_ | apply pA_); exact BK101.out)) : gb106 ≠ gb101))
            clear BK101
            clear HB
            have BK101 := n0_
            have HB := n1_
            have BK106 := n2_
            have GW106 := n3_
            have GE106 := n4_
            have NB101_106 := n5_
            have NB106_101 := n6_
            clear n0_ n1_ n2_ n3_ n4_ n5_ n6_
            clear hb hbox hg
            refine hK.out _ _ trivial (fun hHeld => ?_)
            clear hK K
            refine norm_ (a' := ?_) ?_ ?_
            rotate_left
            ·show Act.put _ (some 8) _ = _
             simp only [Act.put, s1_, s2_, s3_, i64_w, i32_w]; rfl
            refine one_ (i := 5) (N := some 60) #[true, true, true, true, true, true, true, true, true, true, true, true, true, true, true, true, false, true, false] rfl rfl (one_of HT_.out (by kernel_rfl)) (by decide) (fun K hK => ?_)
            refine goes_ Try.func45 (by kernel_rfl) rfl #[.string (a0.extract 4 6)] (by rfl) rfl rfl (by (try simp only [List.map_toArray, List.map_cons, List.map_nil]); first | done | rfl | (simp only [List.length_drop, List.length_take]; rfl) | (simp only [ByteArray.size_append, ByteArray.size_extract, Nat.sub_zero, Int.natCast_add]; rfl) | (simp [ByteArray.size_append]; done)) ?_
            with_reducible refine (rillmeterref04_Number.calls kj16 (a0.extract 4 6) t105 _ A33.out).mono ?_
            rintro e w' ⟨rfl, ⟨nd, rfl⟩⟩
            refine ⟨_, rfl, ?_⟩
            refine hK.out _ _ trivial (fun hHeld => ?_)
            clear hK K
            refine norm_ (a' := ?_) ?_ ?_
            rotate_left
            ·show Act.put _ (some 60) _ = _
             simp only [Act.put, s1_, s2_, s3_, i64_w, i32_w]; rfl
            refine pure_ (i := 16) (N := some 71) (v := ?_) (a' := ?_) #[true, true, true, true, true, true, true, true, true, true, true, true, true, true, true, true, true, true, false] rfl rfl (any_of HT_.out (by kernel_rfl)) (fun _ _ _ h => h) (Or.inl ⟨by rfl, ?_⟩) ?_ ?_
            rotate_left
            ·intro w'; go_simp; with_reducible rfl
            rotate_left
            ·simp only [Act.put, s1_, s2_, s3_, i64_w, i32_w]; rfl
            exact norm_ (by simp only [putAll, Act.put, s1_, s2_, s3_]) (hCont (gb106) _ ⟨(by (with_reducible repeat first | apply pN_ | apply pD_ | apply pA_); exact BK101.out), (by (with_reducible repeat first | apply pN_ | apply pD_ | apply pA_); exact BK106.out), GW106.out, GE106.out, NB101_106.out, NB106_101.out, (bU_ HB.out)⟩)
          rintro gb106 w49 ⟨h0_, h1_, h2_, h3_, h4_, h5_, h6_⟩
          have n0_ : Aside0 (w49.heap[gb101]? = some (.cells #[.int .i64 0, .int .i64 0, .int .i64 0, .int .i64 0, .int .i64 0, .int .i64 0, .string ⟨#[]⟩, .string ⟨#[]⟩, .string ⟨#[]⟩] 66 (0, 0))) := ⟨h0_⟩
          have n1_ : Aside0 (w49.heap[gb106]? = some (.cells #[.int .i64 0, .int .i64 0, .int .i64 0, .int .i64 0, .int .i64 0, .int .i64 0, .string ⟨#[]⟩, .string ⟨#[]⟩, .string ⟨#[]⟩] 66 (0, 0))) := ⟨h1_⟩
          have n2_ : Aside0 (w.heap.size ≤ gb106) := ⟨h2_⟩
          have n3_ : Aside0 (w.heap.size ≤ gb106) := ⟨h3_⟩
          have n4_ : Aside0 (gb101 ≠ gb106) := ⟨h4_⟩
          have n5_ : Aside0 (gb106 ≠ gb101) := ⟨h5_⟩
          have n6_ : Aside0 (Below w.heap.size w w49) := ⟨h6_⟩
          clear BK101
          clear HB
          clear h0_ h1_ h2_ h3_ h4_ h5_ h6_
          have BK101 := n0_
          have BK106 := n1_
          have GW106 := n2_
          have GE106 := n3_
          have NB101_106 := n4_
          have NB106_101 := n5_
          have HB := n6_
          clear n0_ n1_ n2_ n3_ n4_ n5_ n6_
          have hHeld := trivial
          refine norm_ (a' := ?_) ?_ ?_
          rotate_left
          ·simp only [putAll, Act.put, s1_, s2_, s3_]; rfl
          refine one_ (i := 18) (N := none) #[true, true, true, true, true, true, true, true, true, true, true, true, true, true, true, true, true, true, true] rfl rfl (one_of HT_.out (by kernel_rfl)) (by decide) (fun K hK => ?_)
          have hs50 : w49.cell? ⟨gb106, 0, none⟩ = some (.int .i64 0) := (blk_cell BK106.out 0).trans rfl
          have hfs50 := blk_frozen BK106.out 0
          have hns50_0 := NB101_106.out
          have hms50_0 := NB106_101.out
          have hs51 : w49.cell? ⟨gb106, 1, none⟩ = some (.int .i64 0) := (blk_cell BK106.out 1).trans rfl
          have hfs51 := blk_frozen BK106.out 1
          have hns51_0 := NB101_106.out
          have hms51_0 := NB106_101.out
          have hs52 : w49.cell? ⟨gb106, 2, none⟩ = some (.int .i64 0) := (blk_cell BK106.out 2).trans rfl
          have hfs52 := blk_frozen BK106.out 2
          have hns52_0 := NB101_106.out
          have hms52_0 := NB106_101.out
          have hs53 : w49.cell? ⟨gb106, 3, none⟩ = some (.int .i64 0) := (blk_cell BK106.out 3).trans rfl
          have hfs53 := blk_frozen BK106.out 3
          have hns53_0 := NB101_106.out
          have hms53_0 := NB106_101.out
          have hs54 : w49.cell? ⟨gb106, 4, none⟩ = some (.int .i64 0) := (blk_cell BK106.out 4).trans rfl
          have hfs54 := blk_frozen BK106.out 4
          have hns54_0 := NB101_106.out
          have hms54_0 := NB106_101.out
          have hs55 : w49.cell? ⟨gb106, 5, none⟩ = some (.int .i64 0) := (blk_cell BK106.out 5).trans rfl
          have hfs55 := blk_frozen BK106.out 5
          have hns55_0 := NB101_106.out
          have hms55_0 := NB106_101.out
          have hs56 : w49.cell? ⟨gb106, 6, none⟩ = some (.string ⟨#[]⟩) := (blk_cell BK106.out 6).trans rfl
          have hfs56 := blk_frozen BK106.out 6
          have hns56_0 := NB101_106.out
          have hms56_0 := NB106_101.out
          have hs57 : w49.cell? ⟨gb106, 7, none⟩ = some (.string ⟨#[]⟩) := (blk_cell BK106.out 7).trans rfl
          have hfs57 := blk_frozen BK106.out 7
          have hns57_0 := NB101_106.out
          have hms57_0 := NB106_101.out
          have hs58 : w49.cell? ⟨gb106, 8, none⟩ = some (.string ⟨#[]⟩) := (blk_cell BK106.out 8).trans rfl
          have hfs58 := blk_frozen BK106.out 8
          have hns58_0 := NB101_106.out
          have hms58_0 := NB106_101.out
          refine skip_ (w1 := ?_) (by rfl) rfl ?_ ?_
          rotate_left
          ·go_simp
           rfl
          refine hK.out _ _ trivial (fun hHeld => ?_)
          clear hK K
          refine done_ (done_of HT_.out (by kernel_rfl)) ?_
          try go_wp2
          have n0_ : Aside0 ((((((((((w49.setCell ⟨gb106, 0, none⟩ (.int .i64 (wrap64 (bt a0 1)))).setCell ⟨gb106, 1, none⟩ (.int .i64 t105)).setCell ⟨gb106, 2, none⟩ (.int .i64 (wrap64 (Int.tdiv t104 8192)))).setCell ⟨gb106, 3, none⟩ (.int .i64 (Int.tmod t104 8192))).setCell ⟨gb106, 4, none⟩ (.int .i64 (wrap64 (bt a0 8)))).setCell ⟨gb106, 5, none⟩ (.int .i64 (wrap64 (bt a0 9)))).setCell ⟨gb106, 6, none⟩ (.string ⟨#[]⟩)).setCell ⟨gb106, 7, none⟩ (.string ⟨#[]⟩)).setCell ⟨gb106, 8, none⟩ (.string ⟨#[]⟩)).heap[gb101]? = some (.cells #[.int .i64 0, .int .i64 0, .int .i64 0, .int .i64 0, .int .i64 0, .int .i64 0, .string ⟨#[]⟩, .string ⟨#[]⟩, .string ⟨#[]⟩] 66 (0, 0))) := ⟨by (iterate 9 ((with_reducible repeat first | apply pN_ | apply pD_ | apply pA_); refine blk_far ?_ NB101_106.out _)); (with_reducible repeat first | apply pN_ | apply pD_ | apply pA_); exact BK101.out⟩
          have n1_ : Aside0 ((((((((((w49.setCell ⟨gb106, 0, none⟩ (.int .i64 (wrap64 (bt a0 1)))).setCell ⟨gb106, 1, none⟩ (.int .i64 t105)).setCell ⟨gb106, 2, none⟩ (.int .i64 (wrap64 (Int.tdiv t104 8192)))).setCell ⟨gb106, 3, none⟩ (.int .i64 (Int.tmod t104 8192))).setCell ⟨gb106, 4, none⟩ (.int .i64 (wrap64 (bt a0 8)))).setCell ⟨gb106, 5, none⟩ (.int .i64 (wrap64 (bt a0 9)))).setCell ⟨gb106, 6, none⟩ (.string ⟨#[]⟩)).setCell ⟨gb106, 7, none⟩ (.string ⟨#[]⟩)).setCell ⟨gb106, 8, none⟩ (.string ⟨#[]⟩)).heap[gb106]? = some (.cells #[.int .i64 (wrap64 (bt a0 1)), .int .i64 t105, .int .i64 (wrap64 (Int.tdiv t104 8192)), .int .i64 (Int.tmod t104 8192), .int .i64 (wrap64 (bt a0 8)), .int .i64 (wrap64 (bt a0 9)), .string ⟨#[]⟩, .string ⟨#[]⟩, .string ⟨#[]⟩] 66 (0, 0))) := ⟨by (with_reducible repeat first | apply pN_ | apply pD_ | apply pA_); refine blk_put (cs := #[.int .i64 (wrap64 (bt a0 1)), .int .i64 t105, .int .i64 (wrap64 (Int.tdiv t104 8192)), .int .i64 (Int.tmod t104 8192), .int .i64 (wrap64 (bt a0 8)), .int .i64 (wrap64 (bt a0 9)), .string ⟨#[]⟩, .string ⟨#[]⟩, .string ⟨#[]⟩]) ?_ 8 _ rfl; (with_reducible repeat first | apply pN_ | apply pD_ | apply pA_); refine blk_put (cs := #[.int .i64 (wrap64 (bt a0 1)), .int .i64 t105, .int .i64 (wrap64 (Int.tdiv t104 8192)), .int .i64 (Int.tmod t104 8192), .int .i64 (wrap64 (bt a0 8)), .int .i64 (wrap64 (bt a0 9)), .string ⟨#[]⟩, .string ⟨#[]⟩, .string ⟨#[]⟩]) ?_ 7 _ rfl; (with_reducible repeat first | apply pN_ | apply pD_ | apply pA_); refine blk_put (cs := #[.int .i64 (wrap64 (bt a0 1)), .int .i64 t105, .int .i64 (wrap64 (Int.tdiv t104 8192)), .int .i64 (Int.tmod t104 8192), .int .i64 (wrap64 (bt a0 8)), .int .i64 (wrap64 (bt a0 9)), .string ⟨#[]⟩, .string ⟨#[]⟩, .string ⟨#[]⟩]) ?_ 6 _ rfl; (with_reducible repeat first | apply pN_ | apply pD_ | apply pA_); refine blk_put (cs := #[.int .i64 (wrap64 (bt a0 1)), .int .i64 t105, .int .i64 (wrap64 (Int.tdiv t104 8192)), .int .i64 (Int.tmod t104 8192), .int .i64 (wrap64 (bt a0 8)), .int .i64 0, .string ⟨#[]⟩, .string ⟨#[]⟩, .string ⟨#[]⟩]) ?_ 5 _ rfl; (with_reducible repeat first | apply pN_ | apply pD_ | apply pA_); refine blk_put (cs := #[.int .i64 (wrap64 (bt a0 1)), .int .i64 t105, .int .i64 (wrap64 (Int.tdiv t104 8192)), .int .i64 (Int.tmod t104 8192), .int .i64 0, .int .i64 0, .string ⟨#[]⟩, .string ⟨#[]⟩, .string ⟨#[]⟩]) ?_ 4 _ rfl; (with_reducible repeat first | apply pN_ | apply pD_ | apply pA_); refine blk_put (cs := #[.int .i64 (wrap64 (bt a0 1)), .int .i64 t105, .int .i64 (wrap64 (Int.tdiv t104 8192)), .int .i64 0, .int .i64 0, .int .i64 0, .string ⟨#[]⟩, .string ⟨#[]⟩, .string ⟨#[]⟩]) ?_ 3 _ rfl; (with_reducible repeat first | apply pN_ | apply pD_ | apply pA_); refine blk_put (cs := #[.int .i64 (wrap64 (bt a0 1)), .int .i64 t105, .int .i64 0, .int .i64 0, .int .i64 0, .int .i64 0, .string ⟨#[]⟩, .string ⟨#[]⟩, .string ⟨#[]⟩]) ?_ 2 _ rfl; (with_reducible repeat first | apply pN_ | apply pD_ | apply pA_); refine blk_put (cs := #[.int .i64 (wrap64 (bt a0 1)), .int .i64 0, .int .i64 0, .int .i64 0, .int .i64 0, .int .i64 0, .string ⟨#[]⟩, .string ⟨#[]⟩, .string ⟨#[]⟩]) ?_ 1 _ rfl; (with_reducible repeat first | apply pN_ | apply pD_ | apply pA_); refine blk_put (cs := Z21_0) ?_ 0 _ rfl; (with_reducible repeat first | apply pN_ | apply pD_ | apply pA_); exact BK106.out⟩
          have n2_ : Aside0 (Below w.heap.size w (((((((((w49.setCell ⟨gb106, 0, none⟩ (.int .i64 (wrap64 (bt a0 1)))).setCell ⟨gb106, 1, none⟩ (.int .i64 t105)).setCell ⟨gb106, 2, none⟩ (.int .i64 (wrap64 (Int.tdiv t104 8192)))).setCell ⟨gb106, 3, none⟩ (.int .i64 (Int.tmod t104 8192))).setCell ⟨gb106, 4, none⟩ (.int .i64 (wrap64 (bt a0 8)))).setCell ⟨gb106, 5, none⟩ (.int .i64 (wrap64 (bt a0 9)))).setCell ⟨gb106, 6, none⟩ (.string ⟨#[]⟩)).setCell ⟨gb106, 7, none⟩ (.string ⟨#[]⟩)).setCell ⟨gb106, 8, none⟩ (.string ⟨#[]⟩))) := ⟨bU_ HB.out⟩
          (try clear BK101)
          (try clear BK106)
          (try clear HB)
          generalize (((((((((w49.setCell ⟨gb106, 0, none⟩ (.int .i64 (wrap64 (bt a0 1)))).setCell ⟨gb106, 1, none⟩ (.int .i64 t105)).setCell ⟨gb106, 2, none⟩ (.int .i64 (wrap64 (Int.tdiv t104 8192)))).setCell ⟨gb106, 3, none⟩ (.int .i64 (Int.tmod t104 8192))).setCell ⟨gb106, 4, none⟩ (.int .i64 (wrap64 (bt a0 8)))).setCell ⟨gb106, 5, none⟩ (.int .i64 (wrap64 (bt a0 9)))).setCell ⟨gb106, 6, none⟩ (.string ⟨#[]⟩)).setCell ⟨gb106, 7, none⟩ (.string ⟨#[]⟩)).setCell ⟨gb106, 8, none⟩ (.string ⟨#[]⟩)) = w59 at n0_ n1_ n2_ ⊢
          have BK101 := n0_
          have BK106 := n1_
          have HB := n2_
          clear n0_ n1_ n2_
          have n0_ := Aside0.mk (blk_drew BK101.out)
          have n1_ := Aside0.mk (blk_drew BK106.out)
          have n2_ := Aside0.mk (below_drew1 HB.out)
          clear BK101
          clear BK106
          clear HB
          have BK101 := n0_
          have BK106 := n1_
          have HB := n2_
          clear n0_ n1_ n2_
          refine start_ (n := 13) (S := fun w' => True) (ds := []) #[false, false, false, false, false, false, false, false, false, false, false, false, false] (by kernel_rfl) rfl rfl trivial (fun hHeld => ?_); refine with_tabW rillmeterref06_Take.tab15 rillmeterref06_Take.bits15 (fun HT_ HW_ => ?_)
          generalize w59.drew = w60 at BK101 BK106 HB hHeld ⊢
          refine pure_ (i := 0) (N := some 72) (v := ?_) (a' := ?_) #[true, false, false, false, false, false, false, false, false, false, false, false, false] rfl rfl (any_of HT_.out (by kernel_rfl)) (fun _ _ _ h => h) (Or.inl ⟨by rfl, ?_⟩) ?_ ?_
          rotate_left
          ·intro w'; go_simp; with_reducible rfl
          rotate_left
          ·simp only [Act.put, s1_, s2_, s3_, i64_w, i32_w]; rfl
          refine pure_ (i := 1) (N := some 73) (v := ?_) (a' := ?_) #[true, true, false, false, false, false, false, false, false, false, false, false, false] rfl rfl (any_of HT_.out (by kernel_rfl)) (fun _ _ _ h => h) (Or.inl ⟨by rfl, ?_⟩) ?_ ?_
          rotate_left
          ·intro w'; go_simp; with_reducible rfl
          rotate_left
          ·simp only [Act.put, s1_, s2_, s3_, i64_w, i32_w]; rfl
          refine pure_ (i := 2) (N := some 74) (v := ?_) (a' := ?_) #[true, true, true, false, false, false, false, false, false, false, false, false, false] rfl rfl (any_of HT_.out (by kernel_rfl)) (fun _ _ _ h => h) (Or.inl ⟨by rfl, ?_⟩) ?_ ?_
          rotate_left
          ·intro w'; go_simp; with_reducible rfl
          rotate_left
          ·simp only [Act.put, s1_, s2_, s3_, i64_w, i32_w]; rfl
          refine pure_ (i := 3) (N := some 75) (v := ?_) (a' := ?_) #[true, true, true, true, false, false, false, false, false, false, false, false, false] rfl rfl (any_of HT_.out (by kernel_rfl)) (fun _ _ _ h => h) (Or.inl ⟨by rfl, ?_⟩) ?_ ?_
          rotate_left
          ·intro w'; go_simp; with_reducible rfl
          rotate_left
          ·simp only [Act.put, s1_, s2_, s3_, i64_w, i32_w]; rfl
          refine pure_ (i := 4) (N := some 76) (v := ?_) (a' := ?_) #[true, true, true, true, true, false, false, false, false, false, false, false, false] rfl rfl (any_of HT_.out (by kernel_rfl)) (fun _ _ _ h => h) (Or.inl ⟨by rfl, ?_⟩) ?_ ?_
          rotate_left
          ·intro w'; go_simp; with_reducible rfl
          rotate_left
          ·simp only [Act.put, s1_, s2_, s3_, i64_w, i32_w]; rfl
          refine pure_ (i := 5) (N := some 77) (v := ?_) (a' := ?_) #[true, true, true, true, true, true, false, false, false, false, false, false, false] rfl rfl (any_of HT_.out (by kernel_rfl)) (fun _ _ _ h => h) (Or.inl ⟨by rfl, ?_⟩) ?_ ?_
          rotate_left
          ·intro w'; go_simp; with_reducible rfl
          rotate_left
          ·simp only [Act.put, s1_, s2_, s3_, i64_w, i32_w]; rfl
          refine pure_ (i := 6) (N := some 78) (v := ?_) (a' := ?_) #[true, true, true, true, true, true, true, false, false, false, false, false, false] rfl rfl (any_of HT_.out (by kernel_rfl)) (fun _ _ _ h => h) (Or.inl ⟨by rfl, ?_⟩) ?_ ?_
          rotate_left
          ·intro w'; go_simp; with_reducible rfl
          rotate_left
          ·simp only [Act.put, s1_, s2_, s3_, i64_w, i32_w]; rfl
          refine pure_ (i := 7) (N := some 79) (v := ?_) (a' := ?_) #[true, true, true, true, true, true, true, true, false, false, false, false, false] rfl rfl (any_of HT_.out (by kernel_rfl)) (fun _ _ _ h => h) (Or.inl ⟨by rfl, ?_⟩) ?_ ?_
          rotate_left
          ·intro w'; go_simp; with_reducible rfl
          rotate_left
          ·simp only [Act.put, s1_, s2_, s3_, i64_w, i32_w]; rfl
          refine one_ (i := 8) (N := none) #[true, true, true, true, true, true, true, true, true, false, false, false, false] rfl rfl (one_of HT_.out (by kernel_rfl)) (by decide) (fun K hK => ?_)
          have hs61 : w60.cell? ⟨gb106, 6, none⟩ = some (.string ⟨#[]⟩) := (blk_cell BK106.out 6).trans rfl
          have hfs61 := blk_frozen BK106.out 6
          have hns61_0 := NB101_106.out
          have hms61_0 := NB106_101.out
          refine skip_ (w1 := ?_) (by rfl) rfl ?_ ?_
          rotate_left
          ·go_simp
           rfl
          refine hK.out _ _ trivial (fun hHeld => ?_)
          clear hK K
          refine pure_ (i := 9) (N := some 80) (v := ?_) (a' := ?_) #[true, true, true, true, true, true, true, true, true, true, false, false, false] rfl rfl (any_of HT_.out (by kernel_rfl)) (fun _ _ _ h => h) (Or.inl ⟨by rfl, ?_⟩) ?_ ?_
          rotate_left
          ·intro w'; go_simp; with_reducible rfl
          rotate_left
          ·simp only [Act.put, s1_, s2_, s3_, i64_w, i32_w]; rfl
          refine one_ (i := 10) (N := none) #[true, true, true, true, true, true, true, true, true, true, true, false, false] rfl rfl (one_of HT_.out (by kernel_rfl)) (by decide) (fun K hK => ?_)
          have hs62 : w60.cell? ⟨gb106, 7, none⟩ = some (.string ⟨#[]⟩) := (blk_cell BK106.out 7).trans rfl
          have hfs62 := blk_frozen BK106.out 7
          have hns62_0 := NB101_106.out
          have hms62_0 := NB106_101.out
          refine skip_ (w1 := ?_) (by rfl) rfl ?_ ?_
          rotate_left
          ·go_simp
           rfl
          refine hK.out _ _ trivial (fun hHeld => ?_)
          clear hK K
          refine pure_ (i := 11) (N := some 81) (v := ?_) (a' := ?_) #[true, true, true, true, true, true, true, true, true, true, true, true, false] rfl rfl (any_of HT_.out (by kernel_rfl)) (fun _ _ _ h => h) (Or.inl ⟨by rfl, ?_⟩) ?_ ?_
          rotate_left
          ·intro w'; go_simp; with_reducible rfl
          rotate_left
          ·simp only [Act.put, s1_, s2_, s3_, i64_w, i32_w]; rfl
          refine one_ (i := 12) (N := none) #[true, true, true, true, true, true, true, true, true, true, true, true, true] rfl rfl (one_of HT_.out (by kernel_rfl)) (by decide) (fun K hK => ?_)
          have hs63 : w60.cell? ⟨gb106, 8, none⟩ = some (.string ⟨#[]⟩) := (blk_cell BK106.out 8).trans rfl
          have hfs63 := blk_frozen BK106.out 8
          have hns63_0 := NB101_106.out
          have hms63_0 := NB106_101.out
          refine skip_ (w1 := ?_) (by rfl) rfl ?_ ?_
          rotate_left
          ·go_simp
           rfl
          refine hK.out _ _ trivial (fun hHeld => ?_)
          clear hK K
          refine done_ (done_of HT_.out (by kernel_rfl)) ?_
          try go_wp2
          have n0_ : Aside0 ((((w60.setCell ⟨gb106, 6, none⟩ (.string (a0.extract 12 16))).setCell ⟨gb106, 7, none⟩ (.string (a0.extract 16 20))).setCell ⟨gb106, 8, none⟩ (.string (a0.extract 20 ((ji21) : Int).toNat))).heap[gb101]? = some (.cells #[.int .i64 0, .int .i64 0, .int .i64 0, .int .i64 0, .int .i64 0, .int .i64 0, .string ⟨#[]⟩, .string ⟨#[]⟩, .string ⟨#[]⟩] 66 (0, 0))) := ⟨by (iterate 3 ((with_reducible repeat first | apply pN_ | apply pD_ | apply pA_); refine blk_far ?_ NB101_106.out _)); (with_reducible repeat first | apply pN_ | apply pD_ | apply pA_); exact BK101.out⟩
          have n1_ : Aside0 ((((w60.setCell ⟨gb106, 6, none⟩ (.string (a0.extract 12 16))).setCell ⟨gb106, 7, none⟩ (.string (a0.extract 16 20))).setCell ⟨gb106, 8, none⟩ (.string (a0.extract 20 ((ji21) : Int).toNat))).heap[gb106]? = some (.cells #[.int .i64 (wrap64 (bt a0 1)), .int .i64 t105, .int .i64 (wrap64 (Int.tdiv t104 8192)), .int .i64 (Int.tmod t104 8192), .int .i64 (wrap64 (bt a0 8)), .int .i64 (wrap64 (bt a0 9)), .string (a0.extract 12 16), .string (a0.extract 16 20), .string (a0.extract 20 ((ji21) : Int).toNat)] 66 (0, 0))) := ⟨by (with_reducible repeat first | apply pN_ | apply pD_ | apply pA_); refine blk_put (cs := #[.int .i64 (wrap64 (bt a0 1)), .int .i64 t105, .int .i64 (wrap64 (Int.tdiv t104 8192)), .int .i64 (Int.tmod t104 8192), .int .i64 (wrap64 (bt a0 8)), .int .i64 (wrap64 (bt a0 9)), .string (a0.extract 12 16), .string (a0.extract 16 20), .string ⟨#[]⟩]) ?_ 8 _ rfl; (with_reducible repeat first | apply pN_ | apply pD_ | apply pA_); refine blk_put (cs := #[.int .i64 (wrap64 (bt a0 1)), .int .i64 t105, .int .i64 (wrap64 (Int.tdiv t104 8192)), .int .i64 (Int.tmod t104 8192), .int .i64 (wrap64 (bt a0 8)), .int .i64 (wrap64 (bt a0 9)), .string (a0.extract 12 16), .string ⟨#[]⟩, .string ⟨#[]⟩]) ?_ 7 _ rfl; (with_reducible repeat first | apply pN_ | apply pD_ | apply pA_); refine blk_put (cs := #[.int .i64 (wrap64 (bt a0 1)), .int .i64 t105, .int .i64 (wrap64 (Int.tdiv t104 8192)), .int .i64 (Int.tmod t104 8192), .int .i64 (wrap64 (bt a0 8)), .int .i64 (wrap64 (bt a0 9)), .string ⟨#[]⟩, .string ⟨#[]⟩, .string ⟨#[]⟩]) ?_ 6 _ rfl; (with_reducible repeat first | apply pN_ | apply pD_ | apply pA_); exact BK106.out⟩
          have n2_ : Aside0 (Below w.heap.size w (((w60.setCell ⟨gb106, 6, none⟩ (.string (a0.extract 12 16))).setCell ⟨gb106, 7, none⟩ (.string (a0.extract 16 20))).setCell ⟨gb106, 8, none⟩ (.string (a0.extract 20 ((ji21) : Int).toNat)))) := ⟨bU_ HB.out⟩
          (try clear BK101)
          (try clear BK106)
          (try clear HB)
          generalize (((w60.setCell ⟨gb106, 6, none⟩ (.string (a0.extract 12 16))).setCell ⟨gb106, 7, none⟩ (.string (a0.extract 16 20))).setCell ⟨gb106, 8, none⟩ (.string (a0.extract 20 ((ji21) : Int).toNat))) = w64 at n0_ n1_ n2_ ⊢
          have BK101 := n0_
          have BK106 := n1_
          have HB := n2_
          clear n0_ n1_ n2_
          have n0_ := Aside0.mk (blk_drew BK101.out)
          have n1_ := Aside0.mk (blk_drew BK106.out)
          have n2_ := Aside0.mk (below_drew1 HB.out)
          clear BK101
          clear BK106
          clear HB
          have BK101 := n0_
          have BK106 := n1_
          have HB := n2_
          clear n0_ n1_ n2_
          refine start_ (n := 8) (S := fun w' => w'.cell? ⟨gb106, 0, none⟩ = some (.int .i64 (wrap64 (bt a0 1))) ∧ w'.cell? ⟨gb106, 1, none⟩ = some (.int .i64 t105) ∧ w'.cell? ⟨gb106, 2, none⟩ = some (.int .i64 (wrap64 (Int.tdiv t104 8192))) ∧ w'.cell? ⟨gb106, 3, none⟩ = some (.int .i64 (Int.tmod t104 8192)) ∧ w'.cell? ⟨gb106, 4, none⟩ = some (.int .i64 (wrap64 (bt a0 8))) ∧ w'.cell? ⟨gb106, 5, none⟩ = some (.int .i64 (wrap64 (bt a0 9))) ∧ w'.cell? ⟨gb106, 6, none⟩ = some (.string (a0.extract 12 16)) ∧ w'.cell? ⟨gb106, 7, none⟩ = some (.string (a0.extract 16 20)) ∧ w'.cell? ⟨gb106, 8, none⟩ = some (.string (a0.extract 20 ((ji21) : Int).toNat))) (ds := []) #[false, false, false, false, false, false, false, false] (by kernel_rfl) rfl rfl ⟨(blk_cell BK106.out 0).trans rfl, (blk_cell BK106.out 1).trans rfl, (blk_cell BK106.out 2).trans rfl, (blk_cell BK106.out 3).trans rfl, (blk_cell BK106.out 4).trans rfl, (blk_cell BK106.out 5).trans rfl, (blk_cell BK106.out 6).trans rfl, (blk_cell BK106.out 7).trans rfl, (blk_cell BK106.out 8).trans rfl⟩ (fun hHeld => ?_); refine with_tabW rillmeterref06_Take.tab16 rillmeterref06_Take.bits16 (fun HT_ HW_ => ?_)
          generalize w64.drew = w65 at BK101 BK106 HB hHeld ⊢
          refine pure_ (i := 1) (N := some 83) (v := ?_) (a' := ?_) #[false, true, false, false, false, false, false, false] rfl rfl (any_of HT_.out (by kernel_rfl)) (fun _ _ _ h => h) (Or.inl ⟨by rfl, ?_⟩) ?_ ?_
          rotate_left
          ·intro w'; go_simp; with_reducible rfl
          rotate_left
          ·simp only [Act.put, s1_, s2_, s3_, i64_w, i32_w]; rfl
          refine pure_ (i := 2) (N := some 84) (v := ?_) (a' := ?_) #[false, true, true, false, false, false, false, false] rfl rfl (any_of HT_.out (by kernel_rfl)) (fun _ _ _ h => h) (Or.inl ⟨by rfl, ?_⟩) ?_ ?_
          rotate_left
          ·intro w'; go_simp; with_reducible rfl
          rotate_left
          ·simp only [Act.put, s1_, s2_, s3_, i64_w, i32_w]; rfl
          refine pure_ (i := 3) (N := some 85) (v := ?_) (a' := ?_) #[false, true, true, true, false, false, false, false] rfl rfl (any_of HT_.out (by kernel_rfl)) (fun _ _ _ h => h) (Or.inl ⟨by rfl, ?_⟩) ?_ ?_
          rotate_left
          ·intro w'; go_simp; with_reducible rfl
          rotate_left
          ·simp only [Act.put, s1_, s2_, s3_, i64_w, i32_w]; rfl
          refine pure_ (i := 4) (N := some 86) (v := ?_) (a' := ?_) #[false, true, true, true, true, false, false, false] rfl rfl (any_of HT_.out (by kernel_rfl)) (fun _ _ _ h => h) (Or.inl ⟨by rfl, ?_⟩) ?_ ?_
          rotate_left
          ·intro w'; go_simp; with_reducible rfl
          rotate_left
          ·simp only [Act.put, s1_, s2_, s3_, i64_w, i32_w]; rfl
          refine take_ (i := 0) (N := some 82) (v := ?_) (a' := ?_) #[true, true, true, true, true, false, false, false] rfl rfl (take_ofW HT_.out HW_.out (by kernel_rfl)) (fun _ _ _ h => h) (Or.inl ⟨by rfl, ?_⟩) hHeld ?_ ?_
          rotate_left
          ·rintro w' ⟨s0, s1, s2, s3, s4, s5, s6, s7, s8⟩
           go_simp
           with_reducible rfl
          rotate_left
          ·simp only [Act.put, s1_, s2_, s3_, i64_w, i32_w]; rfl
          refine one_ (i := 5) (N := none) #[true, true, true, true, true, true, false, false] rfl rfl (one_of HT_.out (by kernel_rfl)) (by decide) (fun K hK => ?_)
          have hs66 : w65.cell? ⟨gb101, 0, none⟩ = some (.int .i64 0) := (blk_cell BK101.out 0).trans rfl
          have hfs66 := blk_frozen BK101.out 0
          have hns66_1 := NB106_101.out
          have hms66_1 := NB101_106.out
          have hs67 : w65.cell? ⟨gb101, 1, none⟩ = some (.int .i64 0) := (blk_cell BK101.out 1).trans rfl
          have hfs67 := blk_frozen BK101.out 1
          have hns67_1 := NB106_101.out
          have hms67_1 := NB101_106.out
          have hs68 : w65.cell? ⟨gb101, 2, none⟩ = some (.int .i64 0) := (blk_cell BK101.out 2).trans rfl
          have hfs68 := blk_frozen BK101.out 2
          have hns68_1 := NB106_101.out
          have hms68_1 := NB101_106.out
          have hs69 : w65.cell? ⟨gb101, 3, none⟩ = some (.int .i64 0) := (blk_cell BK101.out 3).trans rfl
          have hfs69 := blk_frozen BK101.out 3
          have hns69_1 := NB106_101.out
          have hms69_1 := NB101_106.out
          have hs70 : w65.cell? ⟨gb101, 4, none⟩ = some (.int .i64 0) := (blk_cell BK101.out 4).trans rfl
          have hfs70 := blk_frozen BK101.out 4
          have hns70_1 := NB106_101.out
          have hms70_1 := NB101_106.out
          have hs71 : w65.cell? ⟨gb101, 5, none⟩ = some (.int .i64 0) := (blk_cell BK101.out 5).trans rfl
          have hfs71 := blk_frozen BK101.out 5
          have hns71_1 := NB106_101.out
          have hms71_1 := NB101_106.out
          have hs72 : w65.cell? ⟨gb101, 6, none⟩ = some (.string ⟨#[]⟩) := (blk_cell BK101.out 6).trans rfl
          have hfs72 := blk_frozen BK101.out 6
          have hns72_1 := NB106_101.out
          have hms72_1 := NB101_106.out
          have hs73 : w65.cell? ⟨gb101, 7, none⟩ = some (.string ⟨#[]⟩) := (blk_cell BK101.out 7).trans rfl
          have hfs73 := blk_frozen BK101.out 7
          have hns73_1 := NB106_101.out
          have hms73_1 := NB101_106.out
          have hs74 : w65.cell? ⟨gb101, 8, none⟩ = some (.string ⟨#[]⟩) := (blk_cell BK101.out 8).trans rfl
          have hfs74 := blk_frozen BK101.out 8
          have hns74_1 := NB106_101.out
          have hms74_1 := NB101_106.out
          refine skip_ (w1 := ?_) (by rfl) rfl ?_ ?_
          rotate_left
          ·go_simp
           rfl
          refine hK.out _ _ ⟨((cell_far (p := ⟨gb101, _, none⟩) NB106_101.out _).trans (((cell_far (p := ⟨gb101, _, none⟩) NB106_101.out _).trans (((cell_far (p := ⟨gb101, _, none⟩) NB106_101.out _).trans (((cell_far (p := ⟨gb101, _, none⟩) NB106_101.out _).trans (((cell_far (p := ⟨gb101, _, none⟩) NB106_101.out _).trans (((cell_far (p := ⟨gb101, _, none⟩) NB106_101.out _).trans (((cell_far (p := ⟨gb101, _, none⟩) NB106_101.out _).trans (((cell_far (p := ⟨gb101, _, none⟩) NB106_101.out _).trans (((cell_far (p := ⟨gb101, _, none⟩) NB106_101.out _).trans (hHeld.1)))))))))))))))))), ((cell_far (p := ⟨gb101, _, none⟩) NB106_101.out _).trans (((cell_far (p := ⟨gb101, _, none⟩) NB106_101.out _).trans (((cell_far (p := ⟨gb101, _, none⟩) NB106_101.out _).trans (((cell_far (p := ⟨gb101, _, none⟩) NB106_101.out _).trans (((cell_far (p := ⟨gb101, _, none⟩) NB106_101.out _).trans (((cell_far (p := ⟨gb101, _, none⟩) NB106_101.out _).trans (((cell_far (p := ⟨gb101, _, none⟩) NB106_101.out _).trans (((cell_far (p := ⟨gb101, _, none⟩) NB106_101.out _).trans (((cell_far (p := ⟨gb101, _, none⟩) NB106_101.out _).trans (hHeld.2.1)))))))))))))))))), ((cell_far (p := ⟨gb101, _, none⟩) NB106_101.out _).trans (((cell_far (p := ⟨gb101, _, none⟩) NB106_101.out _).trans (((cell_far (p := ⟨gb101, _, none⟩) NB106_101.out _).trans (((cell_far (p := ⟨gb101, _, none⟩) NB106_101.out _).trans (((cell_far (p := ⟨gb101, _, none⟩) NB106_101.out _).trans (((cell_far (p := ⟨gb101, _, none⟩) NB106_101.out _).trans (((cell_far (p := ⟨gb101, _, none⟩) NB106_101.out _).trans (((cell_far (p := ⟨gb101, _, none⟩) NB106_101.out _).trans (((cell_far (p := ⟨gb101, _, none⟩) NB106_101.out _).trans (hHeld.2.2.1)))))))))))))))))), ((cell_far (p := ⟨gb101, _, none⟩) NB106_101.out _).trans (((cell_far (p := ⟨gb101, _, none⟩) NB106_101.out _).trans (((cell_far (p := ⟨gb101, _, none⟩) NB106_101.out _).trans (((cell_far (p := ⟨gb101, _, none⟩) NB106_101.out _).trans (((cell_far (p := ⟨gb101, _, none⟩) NB106_101.out _).trans (((cell_far (p := ⟨gb101, _, none⟩) NB106_101.out _).trans (((cell_far (p := ⟨gb101, _, none⟩) NB106_101.out _).trans (((cell_far (p := ⟨gb101, _, none⟩) NB106_101.out _).trans (((cell_far (p := ⟨gb101, _, none⟩) NB106_101.out _).trans (hHeld.2.2.2.1)))))))))))))))))), ((cell_far (p := ⟨gb101, _, none⟩) NB106_101.out _).trans (((cell_far (p := ⟨gb101, _, none⟩) NB106_101.out _).trans (((cell_far (p := ⟨gb101, _, none⟩) NB106_101.out _).trans (((cell_far (p := ⟨gb101, _, none⟩) NB106_101.out _).trans (((cell_far (p := ⟨gb101, _, none⟩) NB106_101.out _).trans (((cell_far (p := ⟨gb101, _, none⟩) NB106_101.out _).trans (((cell_far (p := ⟨gb101, _, none⟩) NB106_101.out _).trans (((cell_far (p := ⟨gb101, _, none⟩) NB106_101.out _).trans (((cell_far (p := ⟨gb101, _, none⟩) NB106_101.out _).trans (hHeld.2.2.2.2.1)))))))))))))))))), ((cell_far (p := ⟨gb101, _, none⟩) NB106_101.out _).trans (((cell_far (p := ⟨gb101, _, none⟩) NB106_101.out _).trans (((cell_far (p := ⟨gb101, _, none⟩) NB106_101.out _).trans (((cell_far (p := ⟨gb101, _, none⟩) NB106_101.out _).trans (((cell_far (p := ⟨gb101, _, none⟩) NB106_101.out _).trans (((cell_far (p := ⟨gb101, _, none⟩) NB106_101.out _).trans (((cell_far (p := ⟨gb101, _, none⟩) NB106_101.out _).trans (((cell_far (p := ⟨gb101, _, none⟩) NB106_101.out _).trans (((cell_far (p := ⟨gb101, _, none⟩) NB106_101.out _).trans (hHeld.2.2.2.2.2.1)))))))))))))))))), ((cell_far (p := ⟨gb101, _, none⟩) NB106_101.out _).trans (((cell_far (p := ⟨gb101, _, none⟩) NB106_101.out _).trans (((cell_far (p := ⟨gb101, _, none⟩) NB106_101.out _).trans (((cell_far (p := ⟨gb101, _, none⟩) NB106_101.out _).trans (((cell_far (p := ⟨gb101, _, none⟩) NB106_101.out _).trans (((cell_far (p := ⟨gb101, _, none⟩) NB106_101.out _).trans (((cell_far (p := ⟨gb101, _, none⟩) NB106_101.out _).trans (((cell_far (p := ⟨gb101, _, none⟩) NB106_101.out _).trans (((cell_far (p := ⟨gb101, _, none⟩) NB106_101.out _).trans (hHeld.2.2.2.2.2.2.1)))))))))))))))))), ((cell_far (p := ⟨gb101, _, none⟩) NB106_101.out _).trans (((cell_far (p := ⟨gb101, _, none⟩) NB106_101.out _).trans (((cell_far (p := ⟨gb101, _, none⟩) NB106_101.out _).trans (((cell_far (p := ⟨gb101, _, none⟩) NB106_101.out _).trans (((cell_far (p := ⟨gb101, _, none⟩) NB106_101.out _).trans (((cell_far (p := ⟨gb101, _, none⟩) NB106_101.out _).trans (((cell_far (p := ⟨gb101, _, none⟩) NB106_101.out _).trans (((cell_far (p := ⟨gb101, _, none⟩) NB106_101.out _).trans (((cell_far (p := ⟨gb101, _, none⟩) NB106_101.out _).trans (hHeld.2.2.2.2.2.2.2.1)))))))))))))))))), ((cell_far (p := ⟨gb101, _, none⟩) NB106_101.out _).trans (((cell_far (p := ⟨gb101, _, none⟩) NB106_101.out _).trans (((cell_far (p := ⟨gb101, _, none⟩) NB106_101.out _).trans (((cell_far (p := ⟨gb101, _, none⟩) NB106_101.out _).trans (((cell_far (p := ⟨gb101, _, none⟩) NB106_101.out _).trans (((cell_far (p := ⟨gb101, _, none⟩) NB106_101.out _).trans (((cell_far (p := ⟨gb101, _, none⟩) NB106_101.out _).trans (((cell_far (p := ⟨gb101, _, none⟩) NB106_101.out _).trans (((cell_far (p := ⟨gb101, _, none⟩) NB106_101.out _).trans (hHeld.2.2.2.2.2.2.2.2))))))))))))))))))⟩ (fun hHeld => ?_)
          clear hK K
          refine pure_ (i := 6) (N := some 3) (v := ?_) (a' := ?_) #[true, true, true, true, true, true, true, false] rfl rfl (any_of HT_.out (by kernel_rfl)) (fun _ _ _ h => h) (Or.inl ⟨by rfl, ?_⟩) ?_ ?_
          rotate_left
          ·intro w'; go_simp; with_reducible rfl
          rotate_left
          ·simp only [Act.put, s1_, s2_, s3_, i64_w, i32_w]; rfl
          refine pure_ (i := 7) (N := some 4) (v := ?_) (a' := ?_) #[true, true, true, true, true, true, true, true] rfl rfl (any_of HT_.out (by kernel_rfl)) (fun _ _ _ h => h) (Or.inl ⟨by rfl, ?_⟩) ?_ ?_
          rotate_left
          ·intro w'; go_simp; with_reducible rfl
          rotate_left
          ·simp only [Act.put, s1_, s2_, s3_, i64_w, i32_w]; rfl
          refine done_ (done_of HT_.out (by kernel_rfl)) ?_
          try go_wp2
          refine bodyPost_ret (results_ctt rfl _ _ gb101 66 #[.int .i64 (wrap64 (bt a0 1)), .int .i64 t105, .int .i64 (wrap64 (Int.tdiv t104 8192)), .int .i64 (Int.tmod t104 8192), .int .i64 (wrap64 (bt a0 8)), .int .i64 (wrap64 (bt a0 9)), .string (a0.extract 12 16), .string (a0.extract 16 20), .string (a0.extract 20 ((ji21) : Int).toNat)] (0, 0) _ rfl (by (with_reducible repeat first | apply pN_ | apply pD_ | apply pA_); refine blk_put (cs := #[.int .i64 (wrap64 (bt a0 1)), .int .i64 t105, .int .i64 (wrap64 (Int.tdiv t104 8192)), .int .i64 (Int.tmod t104 8192), .int .i64 (wrap64 (bt a0 8)), .int .i64 (wrap64 (bt a0 9)), .string (a0.extract 12 16), .string (a0.extract 16 20), .string ⟨#[]⟩]) ?_ 8 _ rfl; (with_reducible repeat first | apply pN_ | apply pD_ | apply pA_); refine blk_put (cs := #[.int .i64 (wrap64 (bt a0 1)), .int .i64 t105, .int .i64 (wrap64 (Int.tdiv t104 8192)), .int .i64 (Int.tmod t104 8192), .int .i64 (wrap64 (bt a0 8)), .int .i64 (wrap64 (bt a0 9)), .string (a0.extract 12 16), .string ⟨#[]⟩, .string ⟨#[]⟩]) ?_ 7 _ rfl; (with_reducible repeat first | apply pN_ | apply pD_ | apply pA_); refine blk_put (cs := #[.int .i64 (wrap64 (bt a0 1)), .int .i64 t105, .int .i64 (wrap64 (Int.tdiv t104 8192)), .int .i64 (Int.tmod t104 8192), .int .i64 (wrap64 (bt a0 8)), .int .i64 (wrap64 (bt a0 9)), .string ⟨#[]⟩, .string ⟨#[]⟩, .string ⟨#[]⟩]) ?_ 6 _ rfl; (with_reducible repeat first | apply pN_ | apply pD_ | apply pA_); refine blk_put (cs := #[.int .i64 (wrap64 (bt a0 1)), .int .i64 t105, .int .i64 (wrap64 (Int.tdiv t104 8192)), .int .i64 (Int.tmod t104 8192), .int .i64 (wrap64 (bt a0 8)), .int .i64 0, .string ⟨#[]⟩, .string ⟨#[]⟩, .string ⟨#[]⟩]) ?_ 5 _ rfl; (with_reducible repeat first | apply pN_ | apply pD_ | apply pA_); refine blk_put (cs := #[.int .i64 (wrap64 (bt a0 1)), .int .i64 t105, .int .i64 (wrap64 (Int.tdiv t104 8192)), .int .i64 (Int.tmod t104 8192), .int .i64 0, .int .i64 0, .string ⟨#[]⟩, .string ⟨#[]⟩, .string ⟨#[]⟩]) ?_ 4 _ rfl; (with_reducible repeat first | apply pN_ | apply pD_ | apply pA_); refine blk_put (cs := #[.int .i64 (wrap64 (bt a0 1)), .int .i64 t105, .int .i64 (wrap64 (Int.tdiv t104 8192)), .int .i64 0, .int .i64 0, .int .i64 0, .string ⟨#[]⟩, .string ⟨#[]⟩, .string ⟨#[]⟩]) ?_ 3 _ rfl; (with_reducible repeat first | apply pN_ | apply pD_ | apply pA_); refine blk_put (cs := #[.int .i64 (wrap64 (bt a0 1)), .int .i64 t105, .int .i64 0, .int .i64 0, .int .i64 0, .int .i64 0, .string ⟨#[]⟩, .string ⟨#[]⟩, .string ⟨#[]⟩]) ?_ 2 _ rfl; (with_reducible repeat first | apply pN_ | apply pD_ | apply pA_); refine blk_put (cs := #[.int .i64 (wrap64 (bt a0 1)), .int .i64 0, .int .i64 0, .int .i64 0, .int .i64 0, .int .i64 0, .string ⟨#[]⟩, .string ⟨#[]⟩, .string ⟨#[]⟩]) ?_ 1 _ rfl; (with_reducible repeat first | apply pN_ | apply pD_ | apply pA_); refine blk_put (cs := Z21_0) ?_ 0 _ rfl; (with_reducible repeat first | apply pN_ | apply pD_ | apply pA_); exact BK101.out) Try.underlying66 rfl (by kernel_rfl)) rfl ?_
          exact ⟨by first | rfl | (simp [errW_none, errW_some] <;> rfl) | (simp only [← hji21]; first | rfl | (simp [errW_none, errW_some] <;> rfl)) | (simp [*, errW_none, errW_some] <;> rfl), bU_ HB.out⟩
         ·rw [if_neg c25] at H
          have c25b0 : (t103 == 0) = false := beq_eq_false_iff_ne.mpr c25
          have c25b1 : (t103 != 0) = true := bne_iff_ne.mpr c25
          simp only [Option.some.injEq, Prod.mk.injEq] at H
          obtain ⟨rfl, rfl, rfl, rfl, rfl, rfl, rfl, rfl, rfl, rfl, rfl⟩ := H
          go_wp2_with (first | ((with_reducible refine gate_callee (f := 46) rfl ?_); refine goesL_ (some 49) rfl rfl Try.func46 (by kernel_rfl) rfl #[.string (a0.extract 0 ((ji21) : Int).toNat)] rfl (by (try simp only [List.map_toArray, List.map_cons, List.map_nil]); first | done | (simp only [hji21]; rfl) | rfl | (simp only [List.length_drop, List.length_take]; rfl) | (simp only [ByteArray.size_append, ByteArray.size_extract, Nat.sub_zero, Int.natCast_add]; rfl) | (simp [ByteArray.size_append]; done)) ?_; (with_reducible refine (rillmeterref04_Sum.calls kj16 (a0.extract 0 ((ji21) : Int).toNat) t103 _ A24.out).mono ?_); rintro e w' ⟨rfl, ⟨nd, rfl⟩⟩; refine ⟨_, rfl, ?_⟩; (try (rw [drewN_self wc]; generalize hq_ : World.drewN wc _ = wc; have n0_ : Aside0 (wc.heap[gb101]? = some (.cells #[.int .i64 0, .int .i64 0, .int .i64 0, .int .i64 0, .int .i64 0, .int .i64 0, .string ⟨#[]⟩, .string ⟨#[]⟩, .string ⟨#[]⟩] 66 (0, 0))) := ⟨by rw [← hq_]; exact (by (with_reducible repeat first | apply pN_ | apply pD_ | apply pA_); exact BK101.out)⟩; have n1_ : Aside0 (Below w.heap.size w wc) := ⟨by rw [← hq_]; exact (bU_ HB.out)⟩; clear BK101 HB hq_; have BK101 := n0_; have HB := n1_; clear n0_ n1_)); have hcz75_0 : wc.cell? ⟨gb101, 0, none⟩ = some (.int .i64 0) := (blk_cell BK101.out 0).trans rfl; have hcz75_1 : wc.cell? ⟨gb101, 1, none⟩ = some (.int .i64 0) := (blk_cell BK101.out 1).trans rfl; have hcz75_2 : wc.cell? ⟨gb101, 2, none⟩ = some (.int .i64 0) := (blk_cell BK101.out 2).trans rfl; have hcz75_3 : wc.cell? ⟨gb101, 3, none⟩ = some (.int .i64 0) := (blk_cell BK101.out 3).trans rfl; have hcz75_4 : wc.cell? ⟨gb101, 4, none⟩ = some (.int .i64 0) := (blk_cell BK101.out 4).trans rfl; have hcz75_5 : wc.cell? ⟨gb101, 5, none⟩ = some (.int .i64 0) := (blk_cell BK101.out 5).trans rfl; have hcz75_6 : wc.cell? ⟨gb101, 6, none⟩ = some (.string ⟨#[]⟩) := (blk_cell BK101.out 6).trans rfl; have hcz75_7 : wc.cell? ⟨gb101, 7, none⟩ = some (.string ⟨#[]⟩) := (blk_cell BK101.out 7).trans rfl; have hcz75_8 : wc.cell? ⟨gb101, 8, none⟩ = some (.string ⟨#[]⟩) := (blk_cell BK101.out 8).trans rfl; have hfz75_0 := blk_frozen BK101.out 0; have hfz75_1 := blk_frozen BK101.out 1; have hfz75_2 := blk_frozen BK101.out 2; have hfz75_3 := blk_frozen BK101.out 3; have hfz75_4 := blk_frozen BK101.out 4; have hfz75_5 := blk_frozen BK101.out 5; have hfz75_6 := blk_frozen BK101.out 6; have hfz75_7 := blk_frozen BK101.out 7; have hfz75_8 := blk_frozen BK101.out 8))
          refine bodyPost_ret (results_ctt rfl _ _ gb101 66 #[.int .i64 0, .int .i64 0, .int .i64 0, .int .i64 0, .int .i64 0, .int .i64 0, .string ⟨#[]⟩, .string ⟨#[]⟩, .string ⟨#[]⟩] (0, 0) _ rfl (by (with_reducible repeat first | apply pN_ | apply pD_ | apply pA_); refine blk_put (cs := Z21_0) ?_ 8 _ rfl; (with_reducible repeat first | apply pN_ | apply pD_ | apply pA_); refine blk_put (cs := Z21_0) ?_ 7 _ rfl; (with_reducible repeat first | apply pN_ | apply pD_ | apply pA_); refine blk_put (cs := Z21_0) ?_ 6 _ rfl; (with_reducible repeat first | apply pN_ | apply pD_ | apply pA_); refine blk_put (cs := Z21_0) ?_ 5 _ rfl; (with_reducible repeat first | apply pN_ | apply pD_ | apply pA_); refine blk_put (cs := Z21_0) ?_ 4 _ rfl; (with_reducible repeat first | apply pN_ | apply pD_ | apply pA_); refine blk_put (cs := Z21_0) ?_ 3 _ rfl; (with_reducible repeat first | apply pN_ | apply pD_ | apply pA_); refine blk_put (cs := Z21_0) ?_ 2 _ rfl; (with_reducible repeat first | apply pN_ | apply pD_ | apply pA_); refine blk_put (cs := Z21_0) ?_ 1 _ rfl; (with_reducible repeat first | apply pN_ | apply pD_ | apply pA_); refine blk_put (cs := Z21_0) ?_ 0 _ rfl; (with_reducible repeat first | apply pN_ | apply pD_ | apply pA_); exact BK101.out) Try.underlying66 rfl (by kernel_rfl)) rfl ?_
          exact ⟨by first | rfl | (simp [errW_none, errW_some] <;> rfl) | (simp only [← hji21]; first | rfl | (simp [errW_none, errW_some] <;> rfl)) | (simp [*, errW_none, errW_some] <;> rfl), bU_ HB.out⟩
  ·rw [if_neg c7] at H
   have c7b0 : ((wrap64 (Int.tdiv (wrap64 (bt a0 0)) 16)) == 4) = false := beq_eq_false_iff_ne.mpr c7
   have c7b1 : ((wrap64 (Int.tdiv (wrap64 (bt a0 0)) 16)) != 4) = true := bne_iff_ne.mpr c7
   simp only [Option.some.injEq, Prod.mk.injEq] at H
   obtain ⟨rfl, rfl, rfl, rfl, rfl, rfl, rfl, rfl, rfl, rfl, rfl⟩ := H
   go_enter Try.func29, Try.ntmps29
   go_wp2_with (first | ((with_reducible refine gate_dst (N := 2) rfl ?_); (try (refine gate_guard (by rfl) ?_; dsimp only)); refine bE_ (N := 2) (cs := Z21_0) (t := 66) ?_; intro gb101 hg w76 hbox hb; have n0_ := Aside0.mk (below_step (bU_ HB.out) hb); have n1_ := Aside0.mk (hbox); have n2_ := Aside0.mk (bZ_ hg (bU_ HB.out) : w.heap.size ≤ gb101); have n3_ := n2_; clear HB; have HB := n0_; have BK101 := n1_; have GW101 := n2_; have GE101 := n3_; clear n0_ n1_ n2_ n3_; clear hb hbox hg; have p6 : 0 ≤ (0 : Int) := (by omega); have q6 : 0 < a0.size := (by have : (0 : Int) < (a0.size : Int) := oD_; omega); have hx6 : ∀ h : 0 < a0.size, ((a0[0]'h).toNat : Int) = bt a0 0 := bt_at a0 0; clear p6; have qi6 : (0 < (a0.size : Int)) = True := eq_true oD_; replace q6 := eq_true q6; have hcz77_0 : w76.cell? ⟨gb101, 0, none⟩ = some (.int .i64 0) := (blk_cell BK101.out 0).trans rfl; have hcz77_1 : w76.cell? ⟨gb101, 1, none⟩ = some (.int .i64 0) := (blk_cell BK101.out 1).trans rfl; have hcz77_2 : w76.cell? ⟨gb101, 2, none⟩ = some (.int .i64 0) := (blk_cell BK101.out 2).trans rfl; have hcz77_3 : w76.cell? ⟨gb101, 3, none⟩ = some (.int .i64 0) := (blk_cell BK101.out 3).trans rfl; have hcz77_4 : w76.cell? ⟨gb101, 4, none⟩ = some (.int .i64 0) := (blk_cell BK101.out 4).trans rfl; have hcz77_5 : w76.cell? ⟨gb101, 5, none⟩ = some (.int .i64 0) := (blk_cell BK101.out 5).trans rfl; have hcz77_6 : w76.cell? ⟨gb101, 6, none⟩ = some (.string ⟨#[]⟩) := (blk_cell BK101.out 6).trans rfl; have hcz77_7 : w76.cell? ⟨gb101, 7, none⟩ = some (.string ⟨#[]⟩) := (blk_cell BK101.out 7).trans rfl; have hcz77_8 : w76.cell? ⟨gb101, 8, none⟩ = some (.string ⟨#[]⟩) := (blk_cell BK101.out 8).trans rfl; have hfz77_0 := blk_frozen BK101.out 0; have hfz77_1 := blk_frozen BK101.out 1; have hfz77_2 := blk_frozen BK101.out 2; have hfz77_3 := blk_frozen BK101.out 3; have hfz77_4 := blk_frozen BK101.out 4; have hfz77_5 := blk_frozen BK101.out 5; have hfz77_6 := blk_frozen BK101.out 6; have hfz77_7 := blk_frozen BK101.out 7; have hfz77_8 := blk_frozen BK101.out 8))
   refine bodyPost_ret (results_ctt rfl _ _ gb101 66 #[.int .i64 0, .int .i64 0, .int .i64 0, .int .i64 0, .int .i64 0, .int .i64 0, .string ⟨#[]⟩, .string ⟨#[]⟩, .string ⟨#[]⟩] (0, 0) _ rfl (by (with_reducible repeat first | apply pN_ | apply pD_ | apply pA_); refine blk_put (cs := Z21_0) ?_ 8 _ rfl; (with_reducible repeat first | apply pN_ | apply pD_ | apply pA_); refine blk_put (cs := Z21_0) ?_ 7 _ rfl; (with_reducible repeat first | apply pN_ | apply pD_ | apply pA_); refine blk_put (cs := Z21_0) ?_ 6 _ rfl; (with_reducible repeat first | apply pN_ | apply pD_ | apply pA_); refine blk_put (cs := Z21_0) ?_ 5 _ rfl; (with_reducible repeat first | apply pN_ | apply pD_ | apply pA_); refine blk_put (cs := Z21_0) ?_ 4 _ rfl; (with_reducible repeat first | apply pN_ | apply pD_ | apply pA_); refine blk_put (cs := Z21_0) ?_ 3 _ rfl; (with_reducible repeat first | apply pN_ | apply pD_ | apply pA_); refine blk_put (cs := Z21_0) ?_ 2 _ rfl; (with_reducible repeat first | apply pN_ | apply pD_ | apply pA_); refine blk_put (cs := Z21_0) ?_ 1 _ rfl; (with_reducible repeat first | apply pN_ | apply pD_ | apply pA_); refine blk_put (cs := Z21_0) ?_ 0 _ rfl; (with_reducible repeat first | apply pN_ | apply pD_ | apply pA_); exact BK101.out) Try.underlying66 rfl (by kernel_rfl)) rfl ?_
   exact rE_ (bU_ HB.out)
end Go.Proofs.Ytfdhifigndmgaaa.Q
