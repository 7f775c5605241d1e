-- made by a program of this session (wip/print-patch.py, over the kit's print)
import Derived.Test.YtfdhifigndmgaaaQx0
import Derived.Test.YtfdhifigndmgaaaQx20
import Derived.Test.YtfdhifigndmgaaaQx22
namespace Go.Proofs.Ytfdhifigndmgaaa.Q
open Go.RowKit Go.Proofs.YtfdhifigndmgaaaW.PrintWords Go.Proofs.YtfdhifigndmgaaaW.PrintLast Go.Proofs.YtfdhifigndmgaaaW.PrintMore
attribute [local go_sem] max2_int min2_int max_two min_two max_three min_three max_four min_four   -- for this text's walks alone
set_option linter.unusedVariables false
set_option linter.unusedSimpArgs false

attribute [local go_sem] cell_twice_ cell_twiceN_
abbrev Z23_0 : Array Value := #[.int .i64 0, .int .i64 0, .int .i64 0, .int .i64 0, .string ⟨#[]⟩, .string ⟨#[]⟩, .slice none 0 0]
/-! ### rillmeterref07_Take: function 30 -/
mutual
def rillmeterref07_Take.l0 : Nat → ByteArray → Int → Int → Int → Int → ByteArray → ByteArray → List (S97) → Option (Int × Int × Int × Int × ByteArray × ByteArray × (List (S97)) × ByteArray × Int)
 | 0, _, _, _, _, _, _, _, _ => none
 | k + 1, x8, x105000, x105001, x105002, x105003, x105004, x105005, x105006 => (rillmeterref07_extension.f x105003).bind fun t105 => (if t105 = true then (if (x8.size : Int) < 8 then (rillmeterref07_Take.j1 k x8 true x105000 x105001 x105002 x105003 x105004 x105005 x105006) else (if (x105006.length : Int) > 7 then (rillmeterref07_Take.j1 k x8 true x105000 x105001 x105002 x105003 x105004 x105005 x105006) else (if x105003 = 0 then (rillmeterref07_Take.j1 k x8 (decide ((x105006.length : Int) > 0)) x105000 x105001 x105002 x105003 x105004 x105005 x105006) else (rillmeterref07_Take.j1 k x8 false x105000 x105001 x105002 x105003 x105004 x105005 x105006)))) else (some (x105000, x105001, x105002, x105003, x105004, x105005, x105006, x8, 0)))
def rillmeterref07_Take.j1 : Nat → ByteArray → Bool → Int → Int → Int → Int → ByteArray → ByteArray → List (S97) → Option (Int × Int × Int × Int × ByteArray × ByteArray × (List (S97)) × ByteArray × Int)
 | 0, _, _, _, _, _, _, _, _, _ => none
 | k + 1, x8, x75, x105000, x105001, x105002, x105003, x105004, x105005, x105006 => if x75 = true then (some (0, 0, 0, 0, (⟨#[]⟩ : ByteArray), (⟨#[]⟩ : ByteArray), ([] : List (S97)), (⟨#[]⟩ : ByteArray), 15)) else (if x105003 = 44 then (if 1 ≤ 8 then (if 8 ≤ (x8.size : Int) then (if 0 < (x8.size : Int) then (if x105006.length < 5864062014805 then (rillmeterref07_Take.l0 k (x8.extract 8 x8.size) x105000 x105001 x105002 (wrap64 (bt x8 0)) x105004 x105005 (x105006 ++ [(⟨x105003, x8.extract 1 8⟩ : S97)])) else (none)) else (none)) else (none)) else (none)) else (if 1 < (x8.size : Int) then (if (wrap64 (8 * (wrap64 ((wrap64 (bt x8 1)) + 1)))) > (x8.size : Int) then (some (0, 0, 0, 0, (⟨#[]⟩ : ByteArray), (⟨#[]⟩ : ByteArray), ([] : List (S97)), (⟨#[]⟩ : ByteArray), 15)) else (if 2 ≤ (wrap64 (8 * (wrap64 ((wrap64 (bt x8 1)) + 1)))) then (if (wrap64 (8 * (wrap64 ((wrap64 (bt x8 1)) + 1)))) ≤ (x8.size : Int) then (if 0 < (x8.size : Int) then (if x105006.length < 5864062014805 then (if 0 ≤ (wrap64 (8 * (wrap64 ((wrap64 (bt x8 1)) + 1)))) then (rillmeterref07_Take.l0 k (x8.extract ((wrap64 (8 * (wrap64 ((wrap64 (bt x8 1)) + 1)))) : Int).toNat x8.size) x105000 x105001 x105002 (wrap64 (bt x8 0)) x105004 x105005 (x105006 ++ [(⟨x105003, x8.extract 2 ((wrap64 (8 * (wrap64 ((wrap64 (bt x8 1)) + 1)))) : Int).toNat⟩ : S97)])) else (none)) else (none)) else (none)) else (none)) else (none))) else (none)))
end
def rillmeterref07_Take.f (k : Nat) (a0 : ByteArray) : Option (Int × Int × Int × Int × ByteArray × ByteArray × (List (S97)) × ByteArray × Int) := if (a0.size : Int) < 40 then (some (0, 0, 0, 0, (⟨#[]⟩ : ByteArray), (⟨#[]⟩ : ByteArray), ([] : List (S97)), (⟨#[]⟩ : ByteArray), 2)) else (if 0 < (a0.size : Int) then (if (wrap64 (Int.tdiv (wrap64 (bt a0 0)) 16)) = 6 then (if 4 ≤ 6 then (if 6 ≤ (a0.size : Int) then ((rillmeterref04_Number.f k (a0.extract 4 6)).bind fun t102 => (if (wrap64 (40 + t102)) > (a0.size : Int) then (some (0, 0, 0, 0, (⟨#[]⟩ : ByteArray), (⟨#[]⟩ : ByteArray), ([] : List (S97)), (⟨#[]⟩ : ByteArray), 13)) else (if 0 ≤ 4 then (if 4 ≤ (a0.size : Int) then ((rillmeterref04_Number.f k (a0.extract 0 4)).bind fun t103 => (if 7 < (a0.size : Int) then (if 6 < (a0.size : Int) then (if 8 ≤ 24 then (if 24 ≤ (a0.size : Int) then (if 24 ≤ 40 then (if 40 ≤ (a0.size : Int) then (if 40 ≤ (wrap64 (40 + t102)) then (if (wrap64 (40 + t102)) ≤ (a0.size : Int) then (rillmeterref07_Take.l0 k (a0.extract 40 ((wrap64 (40 + t102)) : Int).toNat) (Int.tmod (wrap64 (Int.tdiv t103 1048576)) 256) (Int.tmod t103 1048576) (wrap64 (bt a0 7)) (wrap64 (bt a0 6)) (a0.extract 8 24) (a0.extract 24 40) ([] : List (S97))) else (none)) else (none)) else (none)) else (none)) else (none)) else (none)) else (none)) else (none))) else (none)) else (none)))) else (none)) else (none)) else (some (0, 0, 0, 0, (⟨#[]⟩ : ByteArray), (⟨#[]⟩ : ByteArray), ([] : List (S97)), (⟨#[]⟩ : ByteArray), 10))) else (none))
theorem rillmeterref07_Take.mono_l : ∀ k, (∀ y0 y1 y2 y3 y4 y5 y6 y7, LeO (rillmeterref07_Take.l0 k y0 y1 y2 y3 y4 y5 y6 y7) (rillmeterref07_Take.l0 (k + 1) y0 y1 y2 y3 y4 y5 y6 y7)) ∧ (∀ y0 y1 y2 y3 y4 y5 y6 y7 y8, LeO (rillmeterref07_Take.j1 k y0 y1 y2 y3 y4 y5 y6 y7 y8) (rillmeterref07_Take.j1 (k + 1) y0 y1 y2 y3 y4 y5 y6 y7 y8))
 | 0 => ⟨fun _ _ _ _ _ _ _ _ r h => by simp [rillmeterref07_Take.l0] at h, fun _ _ _ _ _ _ _ _ _ r h => by simp [rillmeterref07_Take.j1] at h⟩
 | k + 1 => by
  obtain ⟨ih0, ih1⟩ := rillmeterref07_Take.mono_l k
  refine ⟨?_, ?_⟩
  ·intro y0 y1 y2 y3 y4 y5 y6 y7
   unfold rillmeterref07_Take.l0
   repeat' first
   | (with_reducible exact ih0 _ _ _ _ _ _ _ _)
   | (with_reducible exact ih1 _ _ _ _ _ _ _ _ _)
   | (with_reducible exact rillmeterref04_Number.mono _ _)
   | (with_reducible exact LeO.refl _)
   | (with_reducible exact LeO.none _)
   | (with_reducible refine LeO.ite ?_ ?_)
   | (with_reducible refine LeO.bind ?_ (fun _ => ?_))
   | exact ih0 _ _ _ _ _ _ _ _
   | exact ih1 _ _ _ _ _ _ _ _ _
   | exact rillmeterref04_Number.mono _ _
   | exact LeO.none _
   | refine LeO.ite ?_ ?_
   | refine LeO.bind ?_ (fun _ => ?_)
  ·intro y0 y1 y2 y3 y4 y5 y6 y7 y8
   unfold rillmeterref07_Take.j1
   repeat' first
   | (with_reducible exact ih0 _ _ _ _ _ _ _ _)
   | (with_reducible exact ih1 _ _ _ _ _ _ _ _ _)
   | (with_reducible exact rillmeterref04_Number.mono _ _)
   | (with_reducible exact LeO.refl _)
   | (with_reducible exact LeO.none _)
   | (with_reducible refine LeO.ite ?_ ?_)
   | (with_reducible refine LeO.bind ?_ (fun _ => ?_))
   | exact ih0 _ _ _ _ _ _ _ _
   | exact ih1 _ _ _ _ _ _ _ _ _
   | exact rillmeterref04_Number.mono _ _
   | exact LeO.none _
   | refine LeO.ite ?_ ?_
   | refine LeO.bind ?_ (fun _ => ?_)
theorem rillmeterref07_Take.mono : ∀ a0 k, LeO (rillmeterref07_Take.f k a0) (rillmeterref07_Take.f (k + 1) a0) := by
 intro a0 k
 obtain ⟨ih0, ih1⟩ := rillmeterref07_Take.mono_l k
 unfold rillmeterref07_Take.f
 repeat' first
   | (with_reducible exact ih0 _ _ _ _ _ _ _ _)
   | (with_reducible exact ih1 _ _ _ _ _ _ _ _ _)
   | (with_reducible exact rillmeterref04_Number.mono _ _)
   | (with_reducible exact LeO.refl _)
   | (with_reducible exact LeO.none _)
   | (with_reducible refine LeO.ite ?_ ?_)
   | (with_reducible refine LeO.bind ?_ (fun _ => ?_))
   | exact ih0 _ _ _ _ _ _ _ _
   | exact ih1 _ _ _ _ _ _ _ _ _
   | exact rillmeterref04_Number.mono _ _
   | exact LeO.none _
   | refine LeO.ite ?_ ?_
   | refine LeO.bind ?_ (fun _ => ?_)
def rillmeterref07_Take.T9 : Bool × List (List Nat × List Nat) := (true, [([], []), ([0], [0]), ([1], [1]), ([], []), ([3], [3]), ([], []), ([5], [5]), ([6], [6]), ([], []), ([8], [8]), ([9], [9]), ([], []), ([11], [11]), ([], []), ([13], [13]), ([2, 4, 7, 10, 12, 14], [2, 4, 7, 10, 12, 14]), ([], []), ([16, 15, 0, 1, 2, 3, 4, 5, 6, 7, 8, 9, 10, 11, 12, 13, 14, 15, 16], [15, 16])])
def rillmeterref07_Take.B9 : List Nat := [0, 1, 3, 0, 8, 0, 32, 96, 0, 256, 768, 0, 2048, 0, 8192, 32767, 0, 131071]
theorem rillmeterref07_Take.tab9 : rtab .any (opsOf Try.f30 9) = rillmeterref07_Take.T9 := by kernel_rfl
theorem rillmeterref07_Take.bits9 : waitsOk rillmeterref07_Take.T9.2 rillmeterref07_Take.B9 = true := by kernel_rfl
set_option maxHeartbeats 8000000 in
set_option maxRecDepth 100000 in
theorem rillmeterref07_Take.calls (k : Nat) (a0 : ByteArray) (r1 : Int) (r2 : Int) (r3 : Int) (r4 : Int) (r5 : ByteArray) (r6 : ByteArray) (r7 : List (S97)) (r8 : ByteArray) (r9 : Int) (w : World) (h : rillmeterref07_Take.f k a0 = some (r1, r2, r3, r4, r5, r6, r7, r8, r9)) :
  Calls Try.prog 30 #[.string a0] w fun e w' => ∃ v6_ : Value, e = .returned (.tuple #[.agg #[.int .i64 r1, .int .i64 r2, .int .i64 r3, .int .i64 r4, .string r5, .string r6, v6_], .string r8, .int .i64 r9]) ∧ Kd.R k97 97 w' w.heap.size (fun _ => True) v6_ r7 ∧ Below w.heap.size w w' := by
 have hu71 := Try.underlying71
 have hu97 := Try.underlying97
 have HB := Aside0.mk (Below.refl w.heap.size w)
 have H : (if (a0.size : Int) < 40 then (some (0, 0, 0, 0, (⟨#[]⟩ : ByteArray), (⟨#[]⟩ : ByteArray), ([] : List (S97)), (⟨#[]⟩ : ByteArray), 2)) else (if 0 < (a0.size : Int) then (if (wrap64 (Int.tdiv (wrap64 (bt a0 0)) 16)) = 6 then (if 4 ≤ 6 then (if 6 ≤ (a0.size : Int) then ((rillmeterref04_Number.f k (a0.extract 4 6)).bind fun t102 => (if (wrap64 (40 + t102)) > (a0.size : Int) then (some (0, 0, 0, 0, (⟨#[]⟩ : ByteArray), (⟨#[]⟩ : ByteArray), ([] : List (S97)), (⟨#[]⟩ : ByteArray), 13)) else (if 0 ≤ 4 then (if 4 ≤ (a0.size : Int) then ((rillmeterref04_Number.f k (a0.extract 0 4)).bind fun t103 => (if 7 < (a0.size : Int) then (if 6 < (a0.size : Int) then (if 8 ≤ 24 then (if 24 ≤ (a0.size : Int) then (if 24 ≤ 40 then (if 40 ≤ (a0.size : Int) then (if 40 ≤ (wrap64 (40 + t102)) then (if (wrap64 (40 + t102)) ≤ (a0.size : Int) then (rillmeterref07_Take.l0 k (a0.extract 40 ((wrap64 (40 + t102)) : Int).toNat) (Int.tmod (wrap64 (Int.tdiv t103 1048576)) 256) (Int.tmod t103 1048576) (wrap64 (bt a0 7)) (wrap64 (bt a0 6)) (a0.extract 8 24) (a0.extract 24 40) ([] : List (S97))) else (none)) else (none)) else (none)) else (none)) else (none)) else (none)) else (none)) else (none))) else (none)) else (none)))) else (none)) else (none)) else (some (0, 0, 0, 0, (⟨#[]⟩ : ByteArray), (⟨#[]⟩ : ByteArray), ([] : List (S97)), (⟨#[]⟩ : ByteArray), 10))) else (none))) = some (r1, r2, r3, r4, r5, r6, r7, r8, r9) := h
 clear h
 by_cases c2 : (a0.size : Int) < 40
 ·rw [if_pos c2] at H
  have c2b0 : decide ((a0.size : Int) < 40) = true := decide_eq_true c2
  have c2b1 : decide (a0.size < 40) = true := decide_eq_true (by omega)
  clear c2
  simp only [Option.some.injEq, Prod.mk.injEq] at H
  obtain ⟨rfl, rfl, rfl, rfl, rfl, rfl, rfl, rfl, rfl⟩ := H
  go_enter Try.func30, Try.ntmps30
  go_wp2_with (first | ((with_reducible refine gate_dst (N := 2) rfl ?_); (try (refine gate_guard (by rfl) ?_; dsimp only)); refine bE_ (N := 2) (cs := Z23_0) (t := 71) ?_; intro gb101 hg w3 hbox hb; have n0_ := Aside0.mk (below_step (bU_ HB.out) hb); have n1_ := Aside0.mk (hbox); have n2_ := Aside0.mk (bZ_ hg (bU_ HB.out) : w.heap.size ≤ gb101); have n3_ := n2_; clear HB; have HB := n0_; have BK101 := n1_; have GW101 := n2_; have GE101 := n3_; clear n0_ n1_ n2_ n3_; clear hb hbox hg; have hcz4_0 : w3.cell? ⟨gb101, 0, none⟩ = some (.int .i64 0) := (blk_cell BK101.out 0).trans rfl; have hcz4_1 : w3.cell? ⟨gb101, 1, none⟩ = some (.int .i64 0) := (blk_cell BK101.out 1).trans rfl; have hcz4_2 : w3.cell? ⟨gb101, 2, none⟩ = some (.int .i64 0) := (blk_cell BK101.out 2).trans rfl; have hcz4_3 : w3.cell? ⟨gb101, 3, none⟩ = some (.int .i64 0) := (blk_cell BK101.out 3).trans rfl; have hcz4_4 : w3.cell? ⟨gb101, 4, none⟩ = some (.string ⟨#[]⟩) := (blk_cell BK101.out 4).trans rfl; have hcz4_5 : w3.cell? ⟨gb101, 5, none⟩ = some (.string ⟨#[]⟩) := (blk_cell BK101.out 5).trans rfl; have hcz4_6 : w3.cell? ⟨gb101, 6, none⟩ = some (.slice none 0 0) := (blk_cell BK101.out 6).trans rfl; have hfz4_0 := blk_frozen BK101.out 0; have hfz4_1 := blk_frozen BK101.out 1; have hfz4_2 := blk_frozen BK101.out 2; have hfz4_3 := blk_frozen BK101.out 3; have hfz4_4 := blk_frozen BK101.out 4; have hfz4_5 := blk_frozen BK101.out 5; have hfz4_6 := blk_frozen BK101.out 6))
  refine bodyPost_ret (results_ctt rfl _ _ gb101 71 #[.int .i64 0, .int .i64 0, .int .i64 0, .int .i64 0, .string ⟨#[]⟩, .string ⟨#[]⟩, .slice none 0 0] (0, 0) _ rfl (by (with_reducible repeat first | apply pN_ | apply pD_ | apply pA_); refine blk_put (cs := Z23_0) ?_ 6 _ rfl; (with_reducible repeat first | apply pN_ | apply pD_ | apply pA_); refine blk_put (cs := Z23_0) ?_ 5 _ rfl; (with_reducible repeat first | apply pN_ | apply pD_ | apply pA_); refine blk_put (cs := Z23_0) ?_ 4 _ rfl; (with_reducible repeat first | apply pN_ | apply pD_ | apply pA_); refine blk_put (cs := Z23_0) ?_ 3 _ rfl; (with_reducible repeat first | apply pN_ | apply pD_ | apply pA_); refine blk_put (cs := Z23_0) ?_ 2 _ rfl; (with_reducible repeat first | apply pN_ | apply pD_ | apply pA_); refine blk_put (cs := Z23_0) ?_ 1 _ rfl; (with_reducible repeat first | apply pN_ | apply pD_ | apply pA_); refine blk_put (cs := Z23_0) ?_ 0 _ rfl; (with_reducible repeat first | apply pN_ | apply pD_ | apply pA_); exact BK101.out) Try.underlying71 rfl (by kernel_rfl)) rfl ?_
  exact ⟨_, by first | rfl | (simp [errW_none, errW_some] <;> rfl) | (simp [*, errW_none, errW_some] <;> rfl), by first | exact Kd.R_nil _ _ _ _ _ | exact Kd.N_nil _ _ _ _ _ | exact Kd.V_nil _ _ _ _ _ | exact Kd.Q_nil _ _ _ _ _ | exact Kd.S_nil _ _ _ _ _, bU_ HB.out⟩
 ·rw [if_neg c2] at H
  have c2b0 : decide ((a0.size : Int) < 40) = false := decide_eq_false c2
  have c2b1 : decide (a0.size < 40) = false := decide_eq_false (by omega)
  clear c2
  by_cases c5 : 0 < (a0.size : Int)
  rotate_left
  ·rw [if_neg c5] at H; exact absurd H (by simp)
  rw [if_pos c5] at H
  have c5b0 : decide (0 < (a0.size : Int)) = true := decide_eq_true c5
  have c5b1 : decide (0 < a0.size) = true := decide_eq_true (by omega)
  clear c5
  by_cases c7 : (wrap64 (Int.tdiv (wrap64 (bt a0 0)) 16)) = 6
  ·rw [if_pos c7] at H
   have c7b0 : ((wrap64 (Int.tdiv (wrap64 (bt a0 0)) 16)) == 6) = true := beq_iff_eq.mpr c7
   have c7b1 : ((wrap64 (Int.tdiv (wrap64 (bt a0 0)) 16)) != 6) = false := bne_eq_false_iff_eq.mpr c7
   clear c7
   by_cases c8 : 4 ≤ 6
   rotate_left
   ·rw [if_neg c8] at H; exact absurd H (by simp)
   rw [if_pos c8] at H
   have c8b0 := eq_true c8
   have c8b1 : decide (4 ≤ 6) = true := decide_eq_true c8
   clear c8
   by_cases c9 : 6 ≤ (a0.size : Int)
   rotate_left
   ·rw [if_neg c9] at H; exact absurd H (by simp)
   rw [if_pos c9] at H
   have c9b0 := eq_true c9
   have c9b1 : decide (6 ≤ (a0.size : Int)) = true := decide_eq_true c9
   clear c9
   replace H := Option.bind_eq_some_iff.mp H
   obtain ⟨t102, A100, H⟩ := H
   replace H : (if (wrap64 (40 + t102)) > (a0.size : Int) then (some (0, 0, 0, 0, (⟨#[]⟩ : ByteArray), (⟨#[]⟩ : ByteArray), ([] : List (S97)), (⟨#[]⟩ : ByteArray), 13)) else (if 0 ≤ 4 then (if 4 ≤ (a0.size : Int) then ((rillmeterref04_Number.f k (a0.extract 0 4)).bind fun t103 => (if 7 < (a0.size : Int) then (if 6 < (a0.size : Int) then (if 8 ≤ 24 then (if 24 ≤ (a0.size : Int) then (if 24 ≤ 40 then (if 40 ≤ (a0.size : Int) then (if 40 ≤ (wrap64 (40 + t102)) then (if (wrap64 (40 + t102)) ≤ (a0.size : Int) then (rillmeterref07_Take.l0 k (a0.extract 40 ((wrap64 (40 + t102)) : Int).toNat) (Int.tmod (wrap64 (Int.tdiv t103 1048576)) 256) (Int.tmod t103 1048576) (wrap64 (bt a0 7)) (wrap64 (bt a0 6)) (a0.extract 8 24) (a0.extract 24 40) ([] : List (S97))) else (none)) else (none)) else (none)) else (none)) else (none)) else (none)) else (none)) else (none))) else (none)) else (none))) = some (r1, r2, r3, r4, r5, r6, r7, r8, r9) := H
   have A10 := Aside0.mk A100
   clear A100
   by_cases c11 : (wrap64 (40 + t102)) > (a0.size : Int)
   ·rw [if_pos c11] at H
    have c11b0 : decide ((a0.size : Int) < (wrap64 (40 + t102))) = true := decide_eq_true c11
    clear c11
    simp only [Option.some.injEq, Prod.mk.injEq] at H
    obtain ⟨rfl, rfl, rfl, rfl, rfl, rfl, rfl, rfl, rfl⟩ := H
    go_enter Try.func30, Try.ntmps30
    go_wp2_with (first | ((with_reducible refine gate_dst (N := 2) rfl ?_); (try (refine gate_guard (by rfl) ?_; dsimp only)); refine bE_ (N := 2) (cs := Z23_0) (t := 71) ?_; intro gb101 hg w12 hbox hb; have n0_ := Aside0.mk (below_step (bU_ HB.out) hb); have n1_ := Aside0.mk (hbox); have n2_ := Aside0.mk (bZ_ hg (bU_ HB.out) : w.heap.size ≤ gb101); have n3_ := n2_; clear HB; have HB := n0_; have BK101 := n1_; have GW101 := n2_; have GE101 := n3_; clear n0_ n1_ n2_ n3_; clear hb hbox hg; have p6 : 0 ≤ (0 : Int) := (by omega); have q6 : 0 < a0.size := (by have : (0 : Int) < (a0.size : Int) := oD_; omega); have hx6 : ∀ h : 0 < a0.size, ((a0[0]'h).toNat : Int) = bt a0 0 := bt_at a0 0; clear p6; have qi6 : (0 < (a0.size : Int)) = True := eq_true oD_; replace q6 := eq_true q6) | ((with_reducible refine gate_callee (f := 45) rfl ?_); refine gL_ (some 23) rfl rfl Try.func45 (by kernel_rfl) rfl #[.string (a0.extract 4 6)] rfl ?_; (with_reducible refine (rillmeterref04_Number.calls k (a0.extract 4 6) t102 _ A10.out).mono ?_); rintro e w' ⟨rfl, ⟨nd, rfl⟩⟩; refine ⟨_, rfl, ?_⟩; (try (rw [drewN_self w12]; generalize hq_ : World.drewN w12 _ = w12; have n0_ : Aside0 (w12.heap[gb101]? = some (.cells #[.int .i64 0, .int .i64 0, .int .i64 0, .int .i64 0, .string ⟨#[]⟩, .string ⟨#[]⟩, .slice none 0 0] 71 (0, 0))) := ⟨by rw [← hq_]; exact (by (with_reducible repeat first | apply pN_ | apply pD_ | apply pA_); exact BK101.out)⟩; have n1_ : Aside0 (Below w.heap.size w w12) := ⟨by rw [← hq_]; exact (bU_ HB.out)⟩; clear BK101 HB hq_; have BK101 := n0_; have HB := n1_; clear n0_ n1_)); have hcz13_0 : w12.cell? ⟨gb101, 0, none⟩ = some (.int .i64 0) := (blk_cell BK101.out 0).trans rfl; have hcz13_1 : w12.cell? ⟨gb101, 1, none⟩ = some (.int .i64 0) := (blk_cell BK101.out 1).trans rfl; have hcz13_2 : w12.cell? ⟨gb101, 2, none⟩ = some (.int .i64 0) := (blk_cell BK101.out 2).trans rfl; have hcz13_3 : w12.cell? ⟨gb101, 3, none⟩ = some (.int .i64 0) := (blk_cell BK101.out 3).trans rfl; have hcz13_4 : w12.cell? ⟨gb101, 4, none⟩ = some (.string ⟨#[]⟩) := (blk_cell BK101.out 4).trans rfl; have hcz13_5 : w12.cell? ⟨gb101, 5, none⟩ = some (.string ⟨#[]⟩) := (blk_cell BK101.out 5).trans rfl; have hcz13_6 : w12.cell? ⟨gb101, 6, none⟩ = some (.slice none 0 0) := (blk_cell BK101.out 6).trans rfl; have hfz13_0 := blk_frozen BK101.out 0; have hfz13_1 := blk_frozen BK101.out 1; have hfz13_2 := blk_frozen BK101.out 2; have hfz13_3 := blk_frozen BK101.out 3; have hfz13_4 := blk_frozen BK101.out 4; have hfz13_5 := blk_frozen BK101.out 5; have hfz13_6 := blk_frozen BK101.out 6))
    refine bodyPost_ret (results_ctt rfl _ _ gb101 71 #[.int .i64 0, .int .i64 0, .int .i64 0, .int .i64 0, .string ⟨#[]⟩, .string ⟨#[]⟩, .slice none 0 0] (0, 0) _ rfl (by (with_reducible repeat first | apply pN_ | apply pD_ | apply pA_); refine blk_put (cs := Z23_0) ?_ 6 _ rfl; (with_reducible repeat first | apply pN_ | apply pD_ | apply pA_); refine blk_put (cs := Z23_0) ?_ 5 _ rfl; (with_reducible repeat first | apply pN_ | apply pD_ | apply pA_); refine blk_put (cs := Z23_0) ?_ 4 _ rfl; (with_reducible repeat first | apply pN_ | apply pD_ | apply pA_); refine blk_put (cs := Z23_0) ?_ 3 _ rfl; (with_reducible repeat first | apply pN_ | apply pD_ | apply pA_); refine blk_put (cs := Z23_0) ?_ 2 _ rfl; (with_reducible repeat first | apply pN_ | apply pD_ | apply pA_); refine blk_put (cs := Z23_0) ?_ 1 _ rfl; (with_reducible repeat first | apply pN_ | apply pD_ | apply pA_); refine blk_put (cs := Z23_0) ?_ 0 _ rfl; (with_reducible repeat first | apply pN_ | apply pD_ | apply pA_); exact BK101.out) Try.underlying71 rfl (by kernel_rfl)) rfl ?_
    exact ⟨_, by first | rfl | (simp [errW_none, errW_some] <;> rfl) | (simp [*, errW_none, errW_some] <;> rfl), by first | exact Kd.R_nil _ _ _ _ _ | exact Kd.N_nil _ _ _ _ _ | exact Kd.V_nil _ _ _ _ _ | exact Kd.Q_nil _ _ _ _ _ | exact Kd.S_nil _ _ _ _ _, bU_ HB.out⟩
   ·rw [if_neg c11] at H
    have c11b0 : decide ((a0.size : Int) < (wrap64 (40 + t102))) = false := decide_eq_false c11
    clear c11
    by_cases c14 : 0 ≤ 4
    rotate_left
    ·rw [if_neg c14] at H; exact absurd H (by simp)
    rw [if_pos c14] at H
    have c14b0 := eq_true c14
    have c14b1 : decide (0 ≤ 4) = true := decide_eq_true c14
    clear c14
    by_cases c15 : 4 ≤ (a0.size : Int)
    rotate_left
    ·rw [if_neg c15] at H; exact absurd H (by simp)
    rw [if_pos c15] at H
    have c15b0 := eq_true c15
    have c15b1 : decide (4 ≤ (a0.size : Int)) = true := decide_eq_true c15
    clear c15
    replace H := Option.bind_eq_some_iff.mp H
    obtain ⟨t103, A160, H⟩ := H
    replace H : (if 7 < (a0.size : Int) then (if 6 < (a0.size : Int) then (if 8 ≤ 24 then (if 24 ≤ (a0.size : Int) then (if 24 ≤ 40 then (if 40 ≤ (a0.size : Int) then (if 40 ≤ (wrap64 (40 + t102)) then (if (wrap64 (40 + t102)) ≤ (a0.size : Int) then (rillmeterref07_Take.l0 k (a0.extract 40 ((wrap64 (40 + t102)) : Int).toNat) (Int.tmod (wrap64 (Int.tdiv t103 1048576)) 256) (Int.tmod t103 1048576) (wrap64 (bt a0 7)) (wrap64 (bt a0 6)) (a0.extract 8 24) (a0.extract 24 40) ([] : List (S97))) else (none)) else (none)) else (none)) else (none)) else (none)) else (none)) else (none)) else (none)) = some (r1, r2, r3, r4, r5, r6, r7, r8, r9) := H
    have A16 := Aside0.mk A160
    clear A160
    by_cases c17 : 7 < (a0.size : Int)
    rotate_left
    ·rw [if_neg c17] at H; exact absurd H (by simp)
    rw [if_pos c17] at H
    have c17b0 : decide (7 < (a0.size : Int)) = true := decide_eq_true c17
    have c17b1 : decide (7 < a0.size) = true := decide_eq_true (by omega)
    clear c17
    by_cases c19 : 6 < (a0.size : Int)
    rotate_left
    ·rw [if_neg c19] at H; exact absurd H (by simp)
    rw [if_pos c19] at H
    have c19b0 : decide (6 < (a0.size : Int)) = true := decide_eq_true c19
    have c19b1 : decide (6 < a0.size) = true := decide_eq_true (by omega)
    clear c19
    by_cases c21 : 8 ≤ 24
    rotate_left
    ·rw [if_neg c21] at H; exact absurd H (by simp)
    rw [if_pos c21] at H
    have c21b0 := eq_true c21
    have c21b1 : decide (8 ≤ 24) = true := decide_eq_true c21
    clear c21
    by_cases c22 : 24 ≤ (a0.size : Int)
    rotate_left
    ·rw [if_neg c22] at H; exact absurd H (by simp)
    rw [if_pos c22] at H
    have c22b0 := eq_true c22
    have c22b1 : decide (24 ≤ (a0.size : Int)) = true := decide_eq_true c22
    clear c22
    by_cases c23 : 24 ≤ 40
    rotate_left
    ·rw [if_neg c23] at H; exact absurd H (by simp)
    rw [if_pos c23] at H
    have c23b0 := eq_true c23
    have c23b1 : decide (24 ≤ 40) = true := decide_eq_true c23
    clear c23
    by_cases c24 : 40 ≤ (a0.size : Int)
    rotate_left
    ·rw [if_neg c24] at H; exact absurd H (by simp)
    rw [if_pos c24] at H
    have c24b0 := eq_true c24
    have c24b1 : decide (40 ≤ (a0.size : Int)) = true := decide_eq_true c24
    clear c24
    by_cases c25 : 40 ≤ (wrap64 (40 + t102))
    rotate_left
    ·rw [if_neg c25] at H; exact absurd H (by simp)
    rw [if_pos c25] at H
    have c25b0 := eq_true c25
    have c25b1 : decide (40 ≤ (wrap64 (40 + t102))) = true := decide_eq_true c25
    by_cases c26 : (wrap64 (40 + t102)) ≤ (a0.size : Int)
    rotate_left
    ·rw [if_neg c26] at H; exact absurd H (by simp)
    rw [if_pos c26] at H
    have c26b0 := eq_true c26
    have c26b1 : decide ((wrap64 (40 + t102)) ≤ (a0.size : Int)) = true := decide_eq_true c26
    have H' := Aside0.mk H
    clear H
    go_enter Try.func30, Try.ntmps30
    try go_wp2_with (first | ((with_reducible refine gate_dst (N := 2) rfl ?_); (try (refine gate_guard (by rfl) ?_; dsimp only)); refine bE_ (N := 2) (cs := Z23_0) (t := 71) ?_; intro gb101 hg w27 hbox hb; have n0_ := Aside0.mk (below_step (bU_ HB.out) hb); have n1_ := Aside0.mk (hbox); have n2_ := Aside0.mk (bZ_ hg (bU_ HB.out) : w.heap.size ≤ gb101); have n3_ := n2_; clear HB; have HB := n0_; have BK101 := n1_; have GW101 := n2_; have GE101 := n3_; clear n0_ n1_ n2_ n3_; clear hb hbox hg; have p6 : 0 ≤ (0 : Int) := (by omega); have q6 : 0 < a0.size := (by have : (0 : Int) < (a0.size : Int) := oD_; omega); have hx6 : ∀ h : 0 < a0.size, ((a0[0]'h).toNat : Int) = bt a0 0 := bt_at a0 0; clear p6; have qi6 : (0 < (a0.size : Int)) = True := eq_true oD_; replace q6 := eq_true q6) | ((with_reducible refine gate_callee (f := 45) rfl ?_); refine gL_ (some 23) rfl rfl Try.func45 (by kernel_rfl) rfl #[.string (a0.extract 4 6)] rfl ?_; (with_reducible refine (rillmeterref04_Number.calls k (a0.extract 4 6) t102 _ A10.out).mono ?_); rintro e w' ⟨rfl, ⟨nd, rfl⟩⟩; refine ⟨_, rfl, ?_⟩; (try (rw [drewN_self w27]; generalize hq_ : World.drewN w27 _ = w27; have n0_ : Aside0 (w27.heap[gb101]? = some (.cells #[.int .i64 0, .int .i64 0, .int .i64 0, .int .i64 0, .string ⟨#[]⟩, .string ⟨#[]⟩, .slice none 0 0] 71 (0, 0))) := ⟨by rw [← hq_]; exact (by (with_reducible repeat first | apply pN_ | apply pD_ | apply pA_); exact BK101.out)⟩; have n1_ : Aside0 (Below w.heap.size w w27) := ⟨by rw [← hq_]; exact (bU_ HB.out)⟩; clear BK101 HB hq_; have BK101 := n0_; have HB := n1_; clear n0_ n1_))) | ((with_reducible refine gate_callee (f := 45) rfl ?_); refine gL_ (some 32) rfl rfl Try.func45 (by kernel_rfl) rfl #[.string (a0.extract 0 4)] rfl ?_; (with_reducible refine (rillmeterref04_Number.calls k (a0.extract 0 4) t103 _ A16.out).mono ?_); rintro e w' ⟨rfl, ⟨nd, rfl⟩⟩; refine ⟨_, rfl, ?_⟩; (try (rw [drewN_self w27]; generalize hq_ : World.drewN w27 _ = w27; have n0_ : Aside0 (w27.heap[gb101]? = some (.cells #[.int .i64 0, .int .i64 0, .int .i64 0, .int .i64 0, .string ⟨#[]⟩, .string ⟨#[]⟩, .slice none 0 0] 71 (0, 0))) := ⟨by rw [← hq_]; exact (by (with_reducible repeat first | apply pN_ | apply pD_ | apply pA_); exact BK101.out)⟩; have n1_ : Aside0 (Below w.heap.size w w27) := ⟨by rw [← hq_]; exact (bU_ HB.out)⟩; clear BK101 HB hq_; have BK101 := n0_; have HB := n1_; clear n0_ n1_))))
    have n0_ := Aside0.mk (blk_drew BK101.out)
    have n1_ := Aside0.mk (below_drew1 HB.out)
    clear BK101
    clear HB
    have BK101 := n0_
    have HB := n1_
    clear n0_ n1_
    have p18 : 0 ≤ (7 : Int) := (by omega)
    have q18 : 7 < a0.size := (by have : (7 : Int) < (a0.size : Int) := oD_; omega)
    have hx18 : ∀ h : 7 < a0.size, ((a0[7]'h).toNat : Int) = bt a0 7 := bt_at a0 7
    clear p18
    have qi18 : (7 < (a0.size : Int)) = True := eq_true oD_
    replace q18 := eq_true q18
    have p20 : 0 ≤ (6 : Int) := (by omega)
    have q20 : 6 < a0.size := (by have : (6 : Int) < (a0.size : Int) := oD_; omega)
    have hx20 : ∀ h : 6 < a0.size, ((a0[6]'h).toNat : Int) = bt a0 6 := bt_at a0 6
    clear p20
    have qi20 : (6 < (a0.size : Int)) = True := eq_true oD_
    replace q20 := eq_true q20
    refine start_ (n := 18) (S := fun w' => True) (ds := []) #[false, false, false, false, false, false, false, false, false, false, false, false, false, false, false, false, false, false] (by kernel_rfl) rfl rfl trivial (fun hHeld => ?_); refine with_tabW rillmeterref07_Take.tab9 rillmeterref07_Take.bits9 (fun HT_ HW_ => ?_)
    generalize w27.drew = w28 at BK101 HB hHeld ⊢
    refine pure_ (i := 0) (N := some 33) (v := ?_) (a' := ?_) #[true, false, false, false, false, false, false, false, false, false, false, false, false, false, false, false, false, false] rfl rfl (any_of HT_.out (by kernel_rfl)) (fun _ _ _ h => h) (Or.inl ⟨by rfl, ?_⟩) ?_ ?_
    rotate_left
    ·intro w'; go_simp; with_reducible rfl
    rotate_left
    ·simp only [Act.put, s1_, s2_, s3_, i64_w, i32_w]; rfl
    refine pure_ (i := 1) (N := some 34) (v := ?_) (a' := ?_) #[true, true, false, false, false, false, false, false, false, false, false, false, false, false, false, false, false, false] rfl rfl (any_of HT_.out (by kernel_rfl)) (fun _ _ _ h => h) (Or.inl ⟨by rfl, ?_⟩) ?_ ?_
    rotate_left
    ·intro w'; go_simp; with_reducible rfl
    rotate_left
    ·simp only [Act.put, s1_, s2_, s3_, i64_w, i32_w]; rfl
    refine pure_ (i := 2) (N := some 35) (v := ?_) (a' := ?_) #[true, true, true, false, false, false, false, false, false, false, false, false, false, false, false, false, false, false] rfl rfl (any_of HT_.out (by kernel_rfl)) (fun _ _ _ h => h) (Or.inl ⟨by rfl, ?_⟩) ?_ ?_
    rotate_left
    ·intro w'; go_simp; with_reducible rfl
    rotate_left
    ·simp only [Act.put, s1_, s2_, s3_, i64_w, i32_w]; rfl
    refine pure_ (i := 3) (N := some 36) (v := ?_) (a' := ?_) #[true, true, true, true, false, false, false, false, false, false, false, false, false, false, false, false, false, false] rfl rfl (any_of HT_.out (by kernel_rfl)) (fun _ _ _ h => h) (Or.inl ⟨by rfl, ?_⟩) ?_ ?_
    rotate_left
    ·intro w'; go_simp; with_reducible rfl
    rotate_left
    ·simp only [Act.put, s1_, s2_, s3_, i64_w, i32_w]; rfl
    refine pure_ (i := 4) (N := some 37) (v := ?_) (a' := ?_) #[true, true, true, true, true, false, false, false, false, false, false, false, false, false, false, false, false, false] rfl rfl (any_of HT_.out (by kernel_rfl)) (fun _ _ _ h => h) (Or.inl ⟨by rfl, ?_⟩) ?_ ?_
    rotate_left
    ·intro w'; go_simp; with_reducible rfl
    rotate_left
    ·simp only [Act.put, s1_, s2_, s3_, i64_w, i32_w]; rfl
    refine pure_ (i := 5) (N := some 38) (v := ?_) (a' := ?_) #[true, true, true, true, true, true, false, false, false, false, false, false, false, false, false, false, false, false] rfl rfl (any_of HT_.out (by kernel_rfl)) (fun _ _ _ h => h) (Or.inl ⟨by rfl, ?_⟩) ?_ ?_
    rotate_left
    ·intro w'; go_simp; with_reducible rfl
    rotate_left
    ·simp only [Act.put, s1_, s2_, s3_, i64_w, i32_w]; rfl
    refine pure_ (i := 8) (N := some 41) (v := ?_) (a' := ?_) #[true, true, true, true, true, true, false, false, true, false, false, false, false, false, false, false, false, false] rfl rfl (any_of HT_.out (by kernel_rfl)) (fun _ _ _ h => h) (Or.inl ⟨by rfl, ?_⟩) ?_ ?_
    rotate_left
    ·intro w'; go_simp; with_reducible rfl
    rotate_left
    ·simp only [Act.put, s1_, s2_, s3_, i64_w, i32_w]; rfl
    refine pure_ (i := 11) (N := some 44) (v := ?_) (a' := ?_) #[true, true, true, true, true, true, false, false, true, false, false, true, false, false, false, false, false, false] rfl rfl (any_of HT_.out (by kernel_rfl)) (fun _ _ _ h => h) (Or.inl ⟨by rfl, ?_⟩) ?_ ?_
    rotate_left
    ·intro w'; go_simp; with_reducible rfl
    rotate_left
    ·simp only [Act.put, s1_, s2_, s3_, i64_w, i32_w]; rfl
    refine pure_ (i := 12) (N := some 45) (v := ?_) (a' := ?_) #[true, true, true, true, true, true, false, false, true, false, false, true, true, false, false, false, false, false] rfl rfl (any_of HT_.out (by kernel_rfl)) (fun _ _ _ h => h) (Or.inl ⟨by rfl, ?_⟩) ?_ ?_
    rotate_left
    ·intro w'; go_simp; with_reducible rfl
    rotate_left
    ·simp only [Act.put, s1_, s2_, s3_, i64_w, i32_w]; rfl
    refine pure_ (i := 13) (N := some 46) (v := ?_) (a' := ?_) #[true, true, true, true, true, true, false, false, true, false, false, true, true, true, false, false, false, false] rfl rfl (any_of HT_.out (by kernel_rfl)) (fun _ _ _ h => h) (Or.inl ⟨by rfl, ?_⟩) ?_ ?_
    rotate_left
    ·intro w'; go_simp; with_reducible rfl
    rotate_left
    ·simp only [Act.put, s1_, s2_, s3_, i64_w, i32_w]; rfl
    refine pure_ (i := 14) (N := some 47) (v := ?_) (a' := ?_) #[true, true, true, true, true, true, false, false, true, false, false, true, true, true, true, false, false, false] rfl rfl (any_of HT_.out (by kernel_rfl)) (fun _ _ _ h => h) (Or.inl ⟨by rfl, ?_⟩) ?_ ?_
    rotate_left
    ·intro w'; go_simp; with_reducible rfl
    rotate_left
    ·simp only [Act.put, s1_, s2_, s3_, i64_w, i32_w]; rfl
    refine take_ (i := 6) (N := some 39) (v := ?_) (a' := ?_) #[true, true, true, true, true, true, true, false, true, false, false, true, true, true, true, false, false, false] rfl rfl (take_ofW HT_.out HW_.out (by kernel_rfl)) (fun _ _ _ h => h) (Or.inl ⟨by rfl, ?_⟩) hHeld ?_ ?_
    rotate_left
    ·intro w' _
     go_simp
     with_reducible rfl
    rotate_left
    ·simp only [Act.put, s1_, s2_, s3_, i64_w, i32_w]; rfl
    refine pure_ (i := 7) (N := some 40) (v := ?_) (a' := ?_) #[true, true, true, true, true, true, true, true, true, false, false, true, true, true, true, false, false, false] rfl rfl (any_of HT_.out (by kernel_rfl)) (fun _ _ _ h => h) (Or.inl ⟨by rfl, ?_⟩) ?_ ?_
    rotate_left
    ·intro w'; go_simp; with_reducible rfl
    rotate_left
    ·simp only [Act.put, s1_, s2_, s3_, i64_w, i32_w]; rfl
    refine take_ (i := 9) (N := some 42) (v := ?_) (a' := ?_) #[true, true, true, true, true, true, true, true, true, true, false, true, true, true, true, false, false, false] rfl rfl (take_ofW HT_.out HW_.out (by kernel_rfl)) (fun _ _ _ h => h) (Or.inl ⟨by rfl, ?_⟩) hHeld ?_ ?_
    rotate_left
    ·intro w' _
     go_simp
     with_reducible rfl
    rotate_left
    ·simp only [Act.put, s1_, s2_, s3_, i64_w, i32_w]; rfl
    refine pure_ (i := 10) (N := some 43) (v := ?_) (a' := ?_) #[true, true, true, true, true, true, true, true, true, true, true, true, true, true, true, false, false, false] rfl rfl (any_of HT_.out (by kernel_rfl)) (fun _ _ _ h => h) (Or.inl ⟨by rfl, ?_⟩) ?_ ?_
    rotate_left
    ·intro w'; go_simp; with_reducible rfl
    rotate_left
    ·simp only [Act.put, s1_, s2_, s3_, i64_w, i32_w]; rfl
    refine pure_ (i := 15) (N := some 48) (v := ?_) (a' := ?_) #[true, true, true, true, true, true, true, true, true, true, true, true, true, true, true, true, false, false] rfl rfl (any_of HT_.out (by kernel_rfl)) (fun _ _ _ h => h) (Or.inl ⟨by rfl, ?_⟩) ?_ ?_
    rotate_left
    ·intro w'; go_simp; with_reducible rfl
    rotate_left
    ·simp only [Act.put, s1_, s2_, s3_, i64_w, i32_w]; rfl
    refine one_ (i := 16) (N := some 7) #[true, true, true, true, true, true, true, true, true, true, true, true, true, true, true, true, true, false] rfl rfl (one_of HT_.out (by kernel_rfl)) (by decide) (fun K hK => ?_)
    refine box_step ?hg (N := 7) ?hd (cs := Z23_0) (t := 71) ?hr ?_; (case hd => rfl); (case hg => rfl); (case hr => first | (go_simp; done) | (go_simp; rfl))
    intro gb104 hg w29 hbox hb
    have n0_ := Aside0.mk (bB_ BK101.out hb)
    have n1_ := Aside0.mk (below_step (bU_ HB.out) hb)
    have n2_ := Aside0.mk (hbox)
    have n3_ := Aside0.mk (bZ_ hg (bU_ HB.out) : w.heap.size ≤ gb104)
    have n4_ := Aside0.mk (bZ_ hg (bU_ HB.out) : w.heap.size ≤ gb104)
    have n5_ := Aside0.mk ((bN_ hg BK101.out : gb101 ≠ gb104))
    have n6_ := Aside0.mk ((by rw [hg]; exact Nat.ne_of_gt (blk_lt (g := gb101) (o := .cells Z23_0 71 (0, 0)) (by (with_reducible repeat first | apply pN_ | apply pD_ | apply pA_); exact BK101.out)) : gb104 ≠ gb101))
    clear BK101
    clear HB
    have BK101 := n0_
    have HB := n1_
    have BK104 := n2_
    have GW104 := n3_
    have GE104 := n4_
    have NB101_104 := n5_
    have NB104_101 := n6_
    clear n0_ n1_ n2_ n3_ n4_ n5_ n6_
    clear hb hbox hg
    refine hK.out _ _ trivial (fun hHeld => ?_)
    clear hK K
    refine norm_ (a' := ?_) ?_ ?_
    rotate_left
    ·show Act.put _ (some 7) _ = _
     simp only [Act.put, s1_, s2_, s3_, i64_w, i32_w]; rfl
    refine one_ (i := 17) (N := none) #[true, true, true, true, true, true, true, true, true, true, true, true, true, true, true, true, true, true] rfl rfl (one_of HT_.out (by kernel_rfl)) (by decide) (fun K hK => ?_)
    have hs30 : w29.cell? ⟨gb104, 0, none⟩ = some (.int .i64 0) := (blk_cell BK104.out 0).trans rfl
    have hfs30 := blk_frozen BK104.out 0
    have hns30_0 := NB101_104.out
    have hms30_0 := NB104_101.out
    have hs31 : w29.cell? ⟨gb104, 1, none⟩ = some (.int .i64 0) := (blk_cell BK104.out 1).trans rfl
    have hfs31 := blk_frozen BK104.out 1
    have hns31_0 := NB101_104.out
    have hms31_0 := NB104_101.out
    have hs32 : w29.cell? ⟨gb104, 2, none⟩ = some (.int .i64 0) := (blk_cell BK104.out 2).trans rfl
    have hfs32 := blk_frozen BK104.out 2
    have hns32_0 := NB101_104.out
    have hms32_0 := NB104_101.out
    have hs33 : w29.cell? ⟨gb104, 3, none⟩ = some (.int .i64 0) := (blk_cell BK104.out 3).trans rfl
    have hfs33 := blk_frozen BK104.out 3
    have hns33_0 := NB101_104.out
    have hms33_0 := NB104_101.out
    have hs34 : w29.cell? ⟨gb104, 4, none⟩ = some (.string ⟨#[]⟩) := (blk_cell BK104.out 4).trans rfl
    have hfs34 := blk_frozen BK104.out 4
    have hns34_0 := NB101_104.out
    have hms34_0 := NB104_101.out
    have hs35 : w29.cell? ⟨gb104, 5, none⟩ = some (.string ⟨#[]⟩) := (blk_cell BK104.out 5).trans rfl
    have hfs35 := blk_frozen BK104.out 5
    have hns35_0 := NB101_104.out
    have hms35_0 := NB104_101.out
    have hs36 : w29.cell? ⟨gb104, 6, none⟩ = some (.slice none 0 0) := (blk_cell BK104.out 6).trans rfl
    have hfs36 := blk_frozen BK104.out 6
    have hns36_0 := NB101_104.out
    have hms36_0 := NB104_101.out
    refine skip_ (w1 := ?_) (by rfl) rfl ?_ ?_
    rotate_left
    ·go_simp
     rfl
    refine hK.out _ _ trivial (fun hHeld => ?_)
    clear hK K
    refine done_ (done_of HT_.out (by kernel_rfl)) ?_
    try go_wp2
    go_loopg [8] k (fun kq v8 w' => ∃ (x8_1 : ByteArray) (x102000_1 : Int) (x102001_1 : Int) (x102002_1 : Int) (x102003_1 : Int) (x102004_1 : ByteArray) (x102005_1 : ByteArray) (x105003_1 : Int) (x105006_1 : List (S97)) (u105006 : Value), v8 = .string x8_1 ∧ Aside0 (rillmeterref07_Take.l0 kq x8_1 (Int.tmod (wrap64 (Int.tdiv t103 1048576)) 256) (Int.tmod t103 1048576) (wrap64 (bt a0 7)) x105003_1 (a0.extract 8 24) (a0.extract 24 40) x105006_1 = some (r1, r2, r3, r4, r5, r6, r7, r8, r9)) ∧ Aside0 (kq ≤ k) ∧ Aside0 (Kd.R k97 97 w' w.heap.size (fun _ => True) u105006 x105006_1) ∧ Aside0 (w'.heap[gb101]? = some (.cells #[.int .i64 x102000_1, .int .i64 x102001_1, .int .i64 x102002_1, .int .i64 x102003_1, .string x102004_1, .string x102005_1, (.slice none 0 0)] 71 (0, 0))) ∧ Aside0 (w'.heap[gb104]? = some (.cells #[.int .i64 (Int.tmod (wrap64 (Int.tdiv t103 1048576)) 256), .int .i64 (Int.tmod t103 1048576), .int .i64 (wrap64 (bt a0 7)), .int .i64 x105003_1, .string (a0.extract 8 24), .string (a0.extract 24 40), u105006] 71 (0, 0))) ∧ Aside0 (Below w.heap.size w w'))
    case atStart => exact ⟨(a0.extract 40 ((wrap64 (40 + t102)) : Int).toNat), (0), (0), (0), (0), ((⟨#[]⟩ : ByteArray)), ((⟨#[]⟩ : ByteArray)), (wrap64 (bt a0 6)), (([] : List (S97))), (.slice none 0 0), (by first | rfl | (simp; done) | (simp [*]; done)), H', ⟨Nat.le_refl _⟩, ⟨by first | exact Kd.R_nil _ _ _ _ _ | exact Kd.N_nil _ _ _ _ _ | exact Kd.V_nil _ _ _ _ _ | exact Kd.Q_nil _ _ _ _ _ | exact Kd.S_nil _ _ _ _ _⟩, ⟨by (iterate 7 ((with_reducible repeat first | apply pN_ | apply pD_ | apply pA_); refine blk_far ?_ NB101_104.out _)); (with_reducible repeat first | apply pN_ | apply pD_ | apply pA_); exact BK101.out⟩, ⟨by (with_reducible repeat first | apply pN_ | apply pD_ | apply pA_); refine blk_put (cs := #[.int .i64 (Int.tmod (wrap64 (Int.tdiv t103 1048576)) 256), .int .i64 (Int.tmod t103 1048576), .int .i64 (wrap64 (bt a0 7)), .int .i64 (wrap64 (bt a0 6)), .string (a0.extract 8 24), .string (a0.extract 24 40), .slice none 0 0]) ?_ 6 _ rfl; (with_reducible repeat first | apply pN_ | apply pD_ | apply pA_); refine blk_put (cs := #[.int .i64 (Int.tmod (wrap64 (Int.tdiv t103 1048576)) 256), .int .i64 (Int.tmod t103 1048576), .int .i64 (wrap64 (bt a0 7)), .int .i64 (wrap64 (bt a0 6)), .string (a0.extract 8 24), .string ⟨#[]⟩, .slice none 0 0]) ?_ 5 _ rfl; (with_reducible repeat first | apply pN_ | apply pD_ | apply pA_); refine blk_put (cs := #[.int .i64 (Int.tmod (wrap64 (Int.tdiv t103 1048576)) 256), .int .i64 (Int.tmod t103 1048576), .int .i64 (wrap64 (bt a0 7)), .int .i64 (wrap64 (bt a0 6)), .string ⟨#[]⟩, .string ⟨#[]⟩, .slice none 0 0]) ?_ 4 _ rfl; (with_reducible repeat first | apply pN_ | apply pD_ | apply pA_); refine blk_put (cs := #[.int .i64 (Int.tmod (wrap64 (Int.tdiv t103 1048576)) 256), .int .i64 (Int.tmod t103 1048576), .int .i64 (wrap64 (bt a0 7)), .int .i64 0, .string ⟨#[]⟩, .string ⟨#[]⟩, .slice none 0 0]) ?_ 3 _ rfl; (with_reducible repeat first | apply pN_ | apply pD_ | apply pA_); refine blk_put (cs := #[.int .i64 (Int.tmod (wrap64 (Int.tdiv t103 1048576)) 256), .int .i64 (Int.tmod t103 1048576), .int .i64 0, .int .i64 0, .string ⟨#[]⟩, .string ⟨#[]⟩, .slice none 0 0]) ?_ 2 _ rfl; (with_reducible repeat first | apply pN_ | apply pD_ | apply pA_); refine blk_put (cs := #[.int .i64 (Int.tmod (wrap64 (Int.tdiv t103 1048576)) 256), .int .i64 0, .int .i64 0, .int .i64 0, .string ⟨#[]⟩, .string ⟨#[]⟩, .slice none 0 0]) ?_ 1 _ rfl; (with_reducible repeat first | apply pN_ | apply pD_ | apply pA_); refine blk_put (cs := Z23_0) ?_ 0 _ rfl; (with_reducible repeat first | apply pN_ | apply pD_ | apply pA_); exact BK104.out⟩, ⟨bU_ HB.out⟩⟩
    case round =>
     clear H'
     (try clear c1); (try clear p1); (try clear q1); (try clear hx1); (try clear qi1); (try clear c2); (try clear c2b0); (try clear c2b1); (try clear p2); (try clear q2); (try clear hx2); (try clear qi2); (try clear c3); (try clear c4); (try clear c5); (try clear c5b0); (try clear c5b1); (try clear p6); (try clear q6); (try clear hx6); (try clear qi6); (try clear c7); (try clear c7b0); (try clear c7b1); (try clear c8); (try clear c8b0); (try clear c8b1); (try clear c9); (try clear c9b0); (try clear c9b1); (try clear c11); (try clear c11b0); (try clear c14); (try clear c14b0); (try clear c14b1); (try clear c15); (try clear c15b0); (try clear c15b1); (try clear c17); (try clear c17b0); (try clear c17b1); (try clear p18); (try clear q18); (try clear hx18); (try clear qi18); (try clear c19); (try clear c19b0); (try clear c19b1); (try clear p20); (try clear q20); (try clear hx20); (try clear qi20); (try clear c21); (try clear c21b0); (try clear c21b1); (try clear c22); (try clear c22b0); (try clear c22b1); (try clear c23); (try clear c23b0); (try clear c23b1); (try clear c24); (try clear c24b0); (try clear c24b1); (try clear c25); (try clear c25b0); (try clear c25b1); (try clear c26); (try clear c26b0); (try clear c26b1); (try clear c30); (try clear hcz13_0); (try clear hcz13_1); (try clear hcz13_2); (try clear hcz13_3); (try clear hcz13_4); (try clear hcz13_5); (try clear hcz13_6); (try clear hcz4_0); (try clear hcz4_1); (try clear hcz4_2); (try clear hcz4_3); (try clear hcz4_4); (try clear hcz4_5); (try clear hcz4_6); (try clear hfz13_0); (try clear hfz13_1); (try clear hfz13_2); (try clear hfz13_3); (try clear hfz13_4); (try clear hfz13_5); (try clear hfz13_6); (try clear hfz4_0); (try clear hfz4_1); (try clear hfz4_2); (try clear hfz4_3); (try clear hfz4_4); (try clear hfz4_5); (try clear hfz4_6); (try clear p18); (try clear p20); (try clear p6); (try clear q18); (try clear q20); (try clear q6)
     obtain ⟨x8_1, x102000_1, x102001_1, x102002_1, x102003_1, x102004_1, x102005_1, x105003_1, x105006_1, u105006, rfl, HA, HK1, HO_105006, BK101, BK104, HB⟩ := hrel
     cases gk with
     | zero => exact absurd HA.out (by simp [rillmeterref07_Take.l0])
     | succ k1 =>
      have H := HA.out
      clear HA
      simp only [rillmeterref07_Take.l0] at H
      replace H := Option.bind_eq_some_iff.mp H
      obtain ⟨t105, A370, H⟩ := H
      replace H : (if t105 = true then (if (x8_1.size : Int) < 8 then (rillmeterref07_Take.j1 k1 x8_1 true (Int.tmod (wrap64 (Int.tdiv t103 1048576)) 256) (Int.tmod t103 1048576) (wrap64 (bt a0 7)) x105003_1 (a0.extract 8 24) (a0.extract 24 40) x105006_1) else (if (x105006_1.length : Int) > 7 then (rillmeterref07_Take.j1 k1 x8_1 true (Int.tmod (wrap64 (Int.tdiv t103 1048576)) 256) (Int.tmod t103 1048576) (wrap64 (bt a0 7)) x105003_1 (a0.extract 8 24) (a0.extract 24 40) x105006_1) else (if x105003_1 = 0 then (rillmeterref07_Take.j1 k1 x8_1 (decide ((x105006_1.length : Int) > 0)) (Int.tmod (wrap64 (Int.tdiv t103 1048576)) 256) (Int.tmod t103 1048576) (wrap64 (bt a0 7)) x105003_1 (a0.extract 8 24) (a0.extract 24 40) x105006_1) else (rillmeterref07_Take.j1 k1 x8_1 false (Int.tmod (wrap64 (Int.tdiv t103 1048576)) 256) (Int.tmod t103 1048576) (wrap64 (bt a0 7)) x105003_1 (a0.extract 8 24) (a0.extract 24 40) x105006_1)))) else (some ((Int.tmod (wrap64 (Int.tdiv t103 1048576)) 256), (Int.tmod t103 1048576), (wrap64 (bt a0 7)), x105003_1, (a0.extract 8 24), (a0.extract 24 40), x105006_1, x8_1, 0))) = some (r1, r2, r3, r4, r5, r6, r7, r8, r9) := H
      have A37 := Aside0.mk A370
      clear A370
      by_cases c38 : t105 = true
      ·subst c38
       have H1 : (if (x8_1.size : Int) < 8 then (rillmeterref07_Take.j1 k1 x8_1 true (Int.tmod (wrap64 (Int.tdiv t103 1048576)) 256) (Int.tmod t103 1048576) (wrap64 (bt a0 7)) x105003_1 (a0.extract 8 24) (a0.extract 24 40) x105006_1) else (if (x105006_1.length : Int) > 7 then (rillmeterref07_Take.j1 k1 x8_1 true (Int.tmod (wrap64 (Int.tdiv t103 1048576)) 256) (Int.tmod t103 1048576) (wrap64 (bt a0 7)) x105003_1 (a0.extract 8 24) (a0.extract 24 40) x105006_1) else (if x105003_1 = 0 then (rillmeterref07_Take.j1 k1 x8_1 (decide ((x105006_1.length : Int) > 0)) (Int.tmod (wrap64 (Int.tdiv t103 1048576)) 256) (Int.tmod t103 1048576) (wrap64 (bt a0 7)) x105003_1 (a0.extract 8 24) (a0.extract 24 40) x105006_1) else (rillmeterref07_Take.j1 k1 x8_1 false (Int.tmod (wrap64 (Int.tdiv t103 1048576)) 256) (Int.tmod t103 1048576) (wrap64 (bt a0 7)) x105003_1 (a0.extract 8 24) (a0.extract 24 40) x105006_1)))) = some (r1, r2, r3, r4, r5, r6, r7, r8, r9) := by rw [if_pos rfl] at H; exact H
       clear H
       have H := H1
       clear H1
       have HC39 := Aside0.mk H
       clear H
       have hnb40 := NB104_101.out
       have hnc40 := NB101_104.out
       have hcz41_0 : wr.cell? ⟨gb104, 0, none⟩ = some (.int .i64 (Int.tmod (wrap64 (Int.tdiv t103 1048576)) 256)) := (blk_cell BK104.out 0).trans rfl
       have hcz41_1 : wr.cell? ⟨gb104, 1, none⟩ = some (.int .i64 (Int.tmod t103 1048576)) := (blk_cell BK104.out 1).trans rfl
       have hcz41_2 : wr.cell? ⟨gb104, 2, none⟩ = some (.int .i64 (wrap64 (bt a0 7))) := (blk_cell BK104.out 2).trans rfl
       have hcz41_3 : wr.cell? ⟨gb104, 3, none⟩ = some (.int .i64 x105003_1) := (blk_cell BK104.out 3).trans rfl
       have hcz41_4 : wr.cell? ⟨gb104, 4, none⟩ = some (.string (a0.extract 8 24)) := (blk_cell BK104.out 4).trans rfl
       have hcz41_5 : wr.cell? ⟨gb104, 5, none⟩ = some (.string (a0.extract 24 40)) := (blk_cell BK104.out 5).trans rfl
       have hcz41_6 : wr.cell? ⟨gb104, 6, none⟩ = some (u105006) := (blk_cell BK104.out 6).trans rfl
       have hfz41_0 := blk_frozen BK104.out 0; have hfz41_1 := blk_frozen BK104.out 1; have hfz41_2 := blk_frozen BK104.out 2; have hfz41_3 := blk_frozen BK104.out 3; have hfz41_4 := blk_frozen BK104.out 4; have hfz41_5 := blk_frozen BK104.out 5; have hfz41_6 := blk_frozen BK104.out 6
       go_upto_region 12 with (first | ((with_reducible refine gate_callee (f := 47) rfl ?_); refine gL_ (some 55) rfl rfl Try.func47 (by kernel_rfl) rfl #[.int .i64 x105003_1] rfl ?_; (with_reducible refine (rillmeterref07_extension.calls x105003_1 true _ A37.out).mono ?_); rintro e w' ⟨rfl, ⟨nd, rfl⟩⟩; refine ⟨_, rfl, ?_⟩))
       (try simp only [Act.put, s1_, s2_, s3_])
       go_cut [75] (fun v75 wc => ∃ (kq : Nat) (x75_38 : Bool), v75 = .bool x75_38 ∧ Aside0 (rillmeterref07_Take.j1 kq x8_1 x75_38 (Int.tmod (wrap64 (Int.tdiv t103 1048576)) 256) (Int.tmod t103 1048576) (wrap64 (bt a0 7)) x105003_1 (a0.extract 8 24) (a0.extract 24 40) x105006_1 = some (r1, r2, r3, r4, r5, r6, r7, r8, r9)) ∧ Aside0 (kq ≤ k1) ∧ Aside0 (Kd.R k97 97 wc w.heap.size (fun _ => True) u105006 x105006_1) ∧ Aside0 (wc.heap[gb101]? = some (.cells #[.int .i64 x102000_1, .int .i64 x102001_1, .int .i64 x102002_1, .int .i64 x102003_1, .string x102004_1, .string x102005_1, (.slice none 0 0)] 71 (0, 0))) ∧ Aside0 (wc.heap[gb104]? = some (.cells #[.int .i64 (Int.tmod (wrap64 (Int.tdiv t103 1048576)) 256), .int .i64 (Int.tmod t103 1048576), .int .i64 (wrap64 (bt a0 7)), .int .i64 x105003_1, .string (a0.extract 8 24), .string (a0.extract 24 40), u105006] 71 (0, 0))) ∧ Aside0 (Below w.heap.size w wc))
       case first =>
        have H := HC39.out
        clear HC39
        by_cases c42 : (x8_1.size : Int) < 8
        ·rw [if_pos c42] at H
         have c42b0 : decide ((x8_1.size : Int) < 8) = true := decide_eq_true c42
         have c42b1 : decide (x8_1.size < 8) = true := decide_eq_true (by omega)
         clear c42
         (first | rw [c42b0] | (simp only [i64_w, i32_w]; rw [c42b0]) | skip)
         have H' := Aside0.mk H
         clear H
         go_wp2
         go_meet
         case rel => exact ⟨_, (true), (by first | rfl | (simp; done) | (simp [*]; done)), H', ⟨by have := HK1.out; first | omega | exact Nat.le_refl _⟩, ⟨by (with_reducible repeat first | apply Kd.R_alloc | apply Kd.R_drewN | apply Kd.R_drew); exact HO_105006.out⟩, ⟨by (with_reducible repeat first | apply pN_ | apply pD_ | apply pA_); exact BK101.out⟩, ⟨by (with_reducible repeat first | apply pN_ | apply pD_ | apply pA_); exact BK104.out⟩, ⟨bU_ HB.out⟩⟩
        ·rw [if_neg c42] at H
         have c42b0 : decide ((x8_1.size : Int) < 8) = false := decide_eq_false c42
         have c42b1 : decide (x8_1.size < 8) = false := decide_eq_false (by omega)
         clear c42
         (first | rw [c42b0] | (simp only [i64_w, i32_w]; rw [c42b0]) | skip)
         by_cases c43 : (x105006_1.length : Int) > 7
         ·rw [if_pos c43] at H
          have c43b0 : decide (7 < (x105006_1.length : Int)) = true := decide_eq_true c43
          have c43b1 : decide (7 < x105006_1.length) = true := decide_eq_true (by omega)
          clear c43
          have H' := Aside0.mk H
          clear H
          have hnb44 := NB104_101.out
          have hnc44 := NB101_104.out
          have hcz45_0 : wr.cell? ⟨gb104, 0, none⟩ = some (.int .i64 (Int.tmod (wrap64 (Int.tdiv t103 1048576)) 256)) := (blk_cell BK104.out 0).trans rfl
          have hcz45_1 : wr.cell? ⟨gb104, 1, none⟩ = some (.int .i64 (Int.tmod t103 1048576)) := (blk_cell BK104.out 1).trans rfl
          have hcz45_2 : wr.cell? ⟨gb104, 2, none⟩ = some (.int .i64 (wrap64 (bt a0 7))) := (blk_cell BK104.out 2).trans rfl
          have hcz45_3 : wr.cell? ⟨gb104, 3, none⟩ = some (.int .i64 x105003_1) := (blk_cell BK104.out 3).trans rfl
          have hcz45_4 : wr.cell? ⟨gb104, 4, none⟩ = some (.string (a0.extract 8 24)) := (blk_cell BK104.out 4).trans rfl
          have hcz45_5 : wr.cell? ⟨gb104, 5, none⟩ = some (.string (a0.extract 24 40)) := (blk_cell BK104.out 5).trans rfl
          have hcz45_6 : wr.cell? ⟨gb104, 6, none⟩ = some (u105006) := (blk_cell BK104.out 6).trans rfl
          have hfz45_0 := blk_frozen BK104.out 0; have hfz45_1 := blk_frozen BK104.out 1; have hfz45_2 := blk_frozen BK104.out 2; have hfz45_3 := blk_frozen BK104.out 3; have hfz45_4 := blk_frozen BK104.out 4; have hfz45_5 := blk_frozen BK104.out 5; have hfz45_6 := blk_frozen BK104.out 6
          obtain ⟨Ao46, co46, eo46⟩ := Kd.R_slice HO_105006.out
          subst eo46
          go_wp2
          go_meet
          case rel => exact ⟨_, (true), (by first | rfl | (simp; done) | (simp [*]; done)), H', ⟨by have := HK1.out; first | omega | exact Nat.le_refl _⟩, ⟨by (with_reducible repeat first | apply Kd.R_alloc | apply Kd.R_drewN | apply Kd.R_drew); exact HO_105006.out⟩, ⟨by (with_reducible repeat first | apply pN_ | apply pD_ | apply pA_); exact BK101.out⟩, ⟨by (with_reducible repeat first | apply pN_ | apply pD_ | apply pA_); exact BK104.out⟩, ⟨bU_ HB.out⟩⟩
         ·rw [if_neg c43] at H
          have c43b0 : decide (7 < (x105006_1.length : Int)) = false := decide_eq_false c43
          have c43b1 : decide (7 < x105006_1.length) = false := decide_eq_false (by omega)
          clear c43
          by_cases c47 : x105003_1 = 0
          ·rw [if_pos c47] at H
           have c47b0 : (x105003_1 == 0) = true := beq_iff_eq.mpr c47
           have c47b1 : (x105003_1 != 0) = false := bne_eq_false_iff_eq.mpr c47
           clear c47
           have H' := Aside0.mk H
           clear H
           have hnb48 := NB104_101.out
           have hnc48 := NB101_104.out
           have hcz49_0 : wr.cell? ⟨gb104, 0, none⟩ = some (.int .i64 (Int.tmod (wrap64 (Int.tdiv t103 1048576)) 256)) := (blk_cell BK104.out 0).trans rfl
           have hcz49_1 : wr.cell? ⟨gb104, 1, none⟩ = some (.int .i64 (Int.tmod t103 1048576)) := (blk_cell BK104.out 1).trans rfl
           have hcz49_2 : wr.cell? ⟨gb104, 2, none⟩ = some (.int .i64 (wrap64 (bt a0 7))) := (blk_cell BK104.out 2).trans rfl
           have hcz49_3 : wr.cell? ⟨gb104, 3, none⟩ = some (.int .i64 x105003_1) := (blk_cell BK104.out 3).trans rfl
           have hcz49_4 : wr.cell? ⟨gb104, 4, none⟩ = some (.string (a0.extract 8 24)) := (blk_cell BK104.out 4).trans rfl
           have hcz49_5 : wr.cell? ⟨gb104, 5, none⟩ = some (.string (a0.extract 24 40)) := (blk_cell BK104.out 5).trans rfl
           have hcz49_6 : wr.cell? ⟨gb104, 6, none⟩ = some (u105006) := (blk_cell BK104.out 6).trans rfl
           have hfz49_0 := blk_frozen BK104.out 0; have hfz49_1 := blk_frozen BK104.out 1; have hfz49_2 := blk_frozen BK104.out 2; have hfz49_3 := blk_frozen BK104.out 3; have hfz49_4 := blk_frozen BK104.out 4; have hfz49_5 := blk_frozen BK104.out 5; have hfz49_6 := blk_frozen BK104.out 6
           obtain ⟨Ao50, co50, eo50⟩ := Kd.R_slice HO_105006.out
           subst eo50
           go_wp2
           go_meet
           case rel => exact ⟨_, (decide ((x105006_1.length : Int) > 0)), (by first | rfl | (simp; done) | (simp [*]; done)), H', ⟨by have := HK1.out; first | omega | exact Nat.le_refl _⟩, ⟨by (with_reducible repeat first | apply Kd.R_alloc | apply Kd.R_drewN | apply Kd.R_drew); exact HO_105006.out⟩, ⟨by (with_reducible repeat first | apply pN_ | apply pD_ | apply pA_); exact BK101.out⟩, ⟨by (with_reducible repeat first | apply pN_ | apply pD_ | apply pA_); exact BK104.out⟩, ⟨bU_ HB.out⟩⟩
          ·rw [if_neg c47] at H
           have c47b0 : (x105003_1 == 0) = false := beq_eq_false_iff_ne.mpr c47
           have c47b1 : (x105003_1 != 0) = true := bne_iff_ne.mpr c47
           have H' := Aside0.mk H
           clear H
           have hnb51 := NB104_101.out
           have hnc51 := NB101_104.out
           have hcz52_0 : wr.cell? ⟨gb104, 0, none⟩ = some (.int .i64 (Int.tmod (wrap64 (Int.tdiv t103 1048576)) 256)) := (blk_cell BK104.out 0).trans rfl
           have hcz52_1 : wr.cell? ⟨gb104, 1, none⟩ = some (.int .i64 (Int.tmod t103 1048576)) := (blk_cell BK104.out 1).trans rfl
           have hcz52_2 : wr.cell? ⟨gb104, 2, none⟩ = some (.int .i64 (wrap64 (bt a0 7))) := (blk_cell BK104.out 2).trans rfl
           have hcz52_3 : wr.cell? ⟨gb104, 3, none⟩ = some (.int .i64 x105003_1) := (blk_cell BK104.out 3).trans rfl
           have hcz52_4 : wr.cell? ⟨gb104, 4, none⟩ = some (.string (a0.extract 8 24)) := (blk_cell BK104.out 4).trans rfl
           have hcz52_5 : wr.cell? ⟨gb104, 5, none⟩ = some (.string (a0.extract 24 40)) := (blk_cell BK104.out 5).trans rfl
           have hcz52_6 : wr.cell? ⟨gb104, 6, none⟩ = some (u105006) := (blk_cell BK104.out 6).trans rfl
           have hfz52_0 := blk_frozen BK104.out 0; have hfz52_1 := blk_frozen BK104.out 1; have hfz52_2 := blk_frozen BK104.out 2; have hfz52_3 := blk_frozen BK104.out 3; have hfz52_4 := blk_frozen BK104.out 4; have hfz52_5 := blk_frozen BK104.out 5; have hfz52_6 := blk_frozen BK104.out 6
           obtain ⟨Ao53, co53, eo53⟩ := Kd.R_slice HO_105006.out
           subst eo53
           go_wp2
           go_meet
           case rel => exact ⟨_, (false), (by first | rfl | (simp; done) | (simp [*]; done)), H', ⟨by have := HK1.out; first | omega | exact Nat.le_refl _⟩, ⟨by (with_reducible repeat first | apply Kd.R_alloc | apply Kd.R_drewN | apply Kd.R_drew); exact HO_105006.out⟩, ⟨by (with_reducible repeat first | apply pN_ | apply pD_ | apply pA_); exact BK101.out⟩, ⟨by (with_reducible repeat first | apply pN_ | apply pD_ | apply pA_); exact BK104.out⟩, ⟨bU_ HB.out⟩⟩
       case rest =>
        clear HC39
        (try clear c1); (try clear p1); (try clear q1); (try clear hx1); (try clear qi1); (try clear c2); (try clear c2b0); (try clear c2b1); (try clear p2); (try clear q2); (try clear hx2); (try clear qi2); (try clear c3); (try clear c4); (try clear c5); (try clear c5b0); (try clear c5b1); (try clear p6); (try clear q6); (try clear hx6); (try clear qi6); (try clear c7); (try clear c7b0); (try clear c7b1); (try clear c8); (try clear c8b0); (try clear c8b1); (try clear c9); (try clear c9b0); (try clear c9b1); (try clear c11); (try clear c11b0); (try clear c14); (try clear c14b0); (try clear c14b1); (try clear c15); (try clear c15b0); (try clear c15b1); (try clear c17); (try clear c17b0); (try clear c17b1); (try clear p18); (try clear q18); (try clear hx18); (try clear qi18); (try clear c19); (try clear c19b0); (try clear c19b1); (try clear p20); (try clear q20); (try clear hx20); (try clear qi20); (try clear c21); (try clear c21b0); (try clear c21b1); (try clear c22); (try clear c22b0); (try clear c22b1); (try clear c23); (try clear c23b0); (try clear c23b1); (try clear c24); (try clear c24b0); (try clear c24b1); (try clear c25); (try clear c25b0); (try clear c25b1); (try clear c26); (try clear c26b0); (try clear c26b1); (try clear c30); (try clear c38); (try clear c40); (try clear c42); (try clear c42b0); (try clear c42b1); (try clear c43); (try clear c43b0); (try clear c43b1); (try clear c44); (try clear c45); (try clear c47); (try clear c47b0); (try clear c47b1); (try clear c48); (try clear c51); (try clear hcz13_0); (try clear hcz13_1); (try clear hcz13_2); (try clear hcz13_3); (try clear hcz13_4); (try clear hcz13_5); (try clear hcz13_6); (try clear hcz41_0); (try clear hcz41_1); (try clear hcz41_2); (try clear hcz41_3); (try clear hcz41_4); (try clear hcz41_5); (try clear hcz41_6); (try clear hcz45_0); (try clear hcz45_1); (try clear hcz45_2); (try clear hcz45_3); (try clear hcz45_4); (try clear hcz45_5); (try clear hcz45_6); (try clear hcz49_0); (try clear hcz49_1); (try clear hcz49_2); (try clear hcz49_3); (try clear hcz49_4); (try clear hcz49_5); (try clear hcz49_6); (try clear hcz4_0); (try clear hcz4_1); (try clear hcz4_2); (try clear hcz4_3); (try clear hcz4_4); (try clear hcz4_5); (try clear hcz4_6); (try clear hcz52_0); (try clear hcz52_1); (try clear hcz52_2); (try clear hcz52_3); (try clear hcz52_4); (try clear hcz52_5); (try clear hcz52_6); (try clear hfz13_0); (try clear hfz13_1); (try clear hfz13_2); (try clear hfz13_3); (try clear hfz13_4); (try clear hfz13_5); (try clear hfz13_6); (try clear hfz41_0); (try clear hfz41_1); (try clear hfz41_2); (try clear hfz41_3); (try clear hfz41_4); (try clear hfz41_5); (try clear hfz41_6); (try clear hfz45_0); (try clear hfz45_1); (try clear hfz45_2); (try clear hfz45_3); (try clear hfz45_4); (try clear hfz45_5); (try clear hfz45_6); (try clear hfz49_0); (try clear hfz49_1); (try clear hfz49_2); (try clear hfz49_3); (try clear hfz49_4); (try clear hfz49_5); (try clear hfz49_6); (try clear hfz4_0); (try clear hfz4_1); (try clear hfz4_2); (try clear hfz4_3); (try clear hfz4_4); (try clear hfz4_5); (try clear hfz4_6); (try clear hfz52_0); (try clear hfz52_1); (try clear hfz52_2); (try clear hfz52_3); (try clear hfz52_4); (try clear hfz52_5); (try clear hfz52_6); (try clear p1); (try clear p18); (try clear p2); (try clear p20); (try clear p6); (try clear q1); (try clear q18); (try clear q2); (try clear q20); (try clear q6)
        obtain ⟨kq, x75_38, rfl, HA, HJ38, HO_105006, BK101, BK104, HB⟩ := hcut
        cases kq with
        | zero => exact absurd HA.out (by simp [rillmeterref07_Take.j1])
        | succ kj38 =>
         have H := HA.out
         clear HA
         simp only [rillmeterref07_Take.j1] at H
         by_cases c54 : x75_38 = true
         ·subst c54
          have H1 : (some (0, 0, 0, 0, (⟨#[]⟩ : ByteArray), (⟨#[]⟩ : ByteArray), ([] : List (S97)), (⟨#[]⟩ : ByteArray), 15)) = some (r1, r2, r3, r4, r5, r6, r7, r8, r9) := by rw [if_pos rfl] at H; exact H
          clear H
          have H := H1
          clear H1
          simp only [Option.some.injEq, Prod.mk.injEq] at H
          obtain ⟨rfl, rfl, rfl, rfl, rfl, rfl, rfl, rfl, rfl⟩ := H
          have hnb55 := NB101_104.out
          have hnc55 := NB104_101.out
          have hcz56_0 : wc.cell? ⟨gb101, 0, none⟩ = some (.int .i64 x102000_1) := (blk_cell BK101.out 0).trans rfl
          have hcz56_1 : wc.cell? ⟨gb101, 1, none⟩ = some (.int .i64 x102001_1) := (blk_cell BK101.out 1).trans rfl
          have hcz56_2 : wc.cell? ⟨gb101, 2, none⟩ = some (.int .i64 x102002_1) := (blk_cell BK101.out 2).trans rfl
          have hcz56_3 : wc.cell? ⟨gb101, 3, none⟩ = some (.int .i64 x102003_1) := (blk_cell BK101.out 3).trans rfl
          have hcz56_4 : wc.cell? ⟨gb101, 4, none⟩ = some (.string x102004_1) := (blk_cell BK101.out 4).trans rfl
          have hcz56_5 : wc.cell? ⟨gb101, 5, none⟩ = some (.string x102005_1) := (blk_cell BK101.out 5).trans rfl
          have hcz56_6 : wc.cell? ⟨gb101, 6, none⟩ = some (.slice none 0 0) := (blk_cell BK101.out 6).trans rfl
          have hfz56_0 := blk_frozen BK101.out 0; have hfz56_1 := blk_frozen BK101.out 1; have hfz56_2 := blk_frozen BK101.out 2; have hfz56_3 := blk_frozen BK101.out 3; have hfz56_4 := blk_frozen BK101.out 4; have hfz56_5 := blk_frozen BK101.out 5; have hfz56_6 := blk_frozen BK101.out 6
          go_wp2
          refine bodyPost_ret (results_ctt rfl _ _ gb101 71 #[.int .i64 0, .int .i64 0, .int .i64 0, .int .i64 0, .string ⟨#[]⟩, .string ⟨#[]⟩, .slice none 0 0] (0, 0) _ rfl (by (with_reducible repeat first | apply pN_ | apply pD_ | apply pA_); refine blk_put (cs := Z23_0) ?_ 6 _ rfl; (with_reducible repeat first | apply pN_ | apply pD_ | apply pA_); refine blk_put (cs := #[.int .i64 0, .int .i64 0, .int .i64 0, .int .i64 0, .string ⟨#[]⟩, .string x102005_1, .slice none 0 0]) ?_ 5 _ rfl; (with_reducible repeat first | apply pN_ | apply pD_ | apply pA_); refine blk_put (cs := #[.int .i64 0, .int .i64 0, .int .i64 0, .int .i64 0, .string x102004_1, .string x102005_1, .slice none 0 0]) ?_ 4 _ rfl; (with_reducible repeat first | apply pN_ | apply pD_ | apply pA_); refine blk_put (cs := #[.int .i64 0, .int .i64 0, .int .i64 0, .int .i64 x102003_1, .string x102004_1, .string x102005_1, .slice none 0 0]) ?_ 3 _ rfl; (with_reducible repeat first | apply pN_ | apply pD_ | apply pA_); refine blk_put (cs := #[.int .i64 0, .int .i64 0, .int .i64 x102002_1, .int .i64 x102003_1, .string x102004_1, .string x102005_1, .slice none 0 0]) ?_ 2 _ rfl; (with_reducible repeat first | apply pN_ | apply pD_ | apply pA_); refine blk_put (cs := #[.int .i64 0, .int .i64 x102001_1, .int .i64 x102002_1, .int .i64 x102003_1, .string x102004_1, .string x102005_1, .slice none 0 0]) ?_ 1 _ rfl; (with_reducible repeat first | apply pN_ | apply pD_ | apply pA_); refine blk_put (cs := #[.int .i64 x102000_1, .int .i64 x102001_1, .int .i64 x102002_1, .int .i64 x102003_1, .string x102004_1, .string x102005_1, .slice none 0 0]) ?_ 0 _ rfl; (with_reducible repeat first | apply pN_ | apply pD_ | apply pA_); exact BK101.out) Try.underlying71 rfl (by kernel_rfl)) rfl ?_
          exact ⟨_, by first | rfl | (simp [errW_none, errW_some] <;> rfl) | (simp [*, errW_none, errW_some] <;> rfl), by first | exact Kd.R_nil _ _ _ _ _ | exact Kd.N_nil _ _ _ _ _ | exact Kd.V_nil _ _ _ _ _ | exact Kd.Q_nil _ _ _ _ _ | exact Kd.S_nil _ _ _ _ _, bU_ HB.out⟩
         ·replace c54 := Bool.eq_false_iff.mpr c54
          subst c54
          have H1 : (if x105003_1 = 44 then (if 1 ≤ 8 then (if 8 ≤ (x8_1.size : Int) then (if 0 < (x8_1.size : Int) then (if x105006_1.length < 5864062014805 then (rillmeterref07_Take.l0 kj38 (x8_1.extract 8 x8_1.size) (Int.tmod (wrap64 (Int.tdiv t103 1048576)) 256) (Int.tmod t103 1048576) (wrap64 (bt a0 7)) (wrap64 (bt x8_1 0)) (a0.extract 8 24) (a0.extract 24 40) (x105006_1 ++ [(⟨x105003_1, x8_1.extract 1 8⟩ : S97)])) else (none)) else (none)) else (none)) else (none)) else (if 1 < (x8_1.size : Int) then (if (wrap64 (8 * (wrap64 ((wrap64 (bt x8_1 1)) + 1)))) > (x8_1.size : Int) then (some (0, 0, 0, 0, (⟨#[]⟩ : ByteArray), (⟨#[]⟩ : ByteArray), ([] : List (S97)), (⟨#[]⟩ : ByteArray), 15)) else (if 2 ≤ (wrap64 (8 * (wrap64 ((wrap64 (bt x8_1 1)) + 1)))) then (if (wrap64 (8 * (wrap64 ((wrap64 (bt x8_1 1)) + 1)))) ≤ (x8_1.size : Int) then (if 0 < (x8_1.size : Int) then (if x105006_1.length < 5864062014805 then (if 0 ≤ (wrap64 (8 * (wrap64 ((wrap64 (bt x8_1 1)) + 1)))) then (rillmeterref07_Take.l0 kj38 (x8_1.extract ((wrap64 (8 * (wrap64 ((wrap64 (bt x8_1 1)) + 1)))) : Int).toNat x8_1.size) (Int.tmod (wrap64 (Int.tdiv t103 1048576)) 256) (Int.tmod t103 1048576) (wrap64 (bt a0 7)) (wrap64 (bt x8_1 0)) (a0.extract 8 24) (a0.extract 24 40) (x105006_1 ++ [(⟨x105003_1, x8_1.extract 2 ((wrap64 (8 * (wrap64 ((wrap64 (bt x8_1 1)) + 1)))) : Int).toNat⟩ : S97)])) else (none)) else (none)) else (none)) else (none)) else (none))) else (none))) = some (r1, r2, r3, r4, r5, r6, r7, r8, r9) := by rw [if_neg (show ¬ (false = true) by decide)] at H; exact H
          clear H
          have H := H1
          clear H1
          by_cases c57 : x105003_1 = 44
          ·rw [if_pos c57] at H
           have c57b0 : (x105003_1 == 44) = true := beq_iff_eq.mpr c57
           have c57b1 : (x105003_1 != 44) = false := bne_eq_false_iff_eq.mpr c57
           clear c57
           by_cases c58 : 1 ≤ 8
           rotate_left
           ·rw [if_neg c58] at H; exact absurd H (by simp)
           rw [if_pos c58] at H
           have c58b0 := eq_true c58
           have c58b1 : decide (1 ≤ 8) = true := decide_eq_true c58
           clear c58
           by_cases c59 : 8 ≤ (x8_1.size : Int)
           rotate_left
           ·rw [if_neg c59] at H; exact absurd H (by simp)
           rw [if_pos c59] at H
           have c59b0 := eq_true c59
           have c59b1 : decide (8 ≤ (x8_1.size : Int)) = true := decide_eq_true c59
           clear c59
           by_cases c60 : 0 < (x8_1.size : Int)
           rotate_left
           ·rw [if_neg c60] at H; exact absurd H (by simp)
           rw [if_pos c60] at H
           have c60b0 : decide (0 < (x8_1.size : Int)) = true := decide_eq_true c60
           have c60b1 : decide (0 < x8_1.size) = true := decide_eq_true (by omega)
           clear c60
           by_cases c62 : x105006_1.length < 5864062014805
           rotate_left
           ·rw [if_neg c62] at H; exact absurd H (by simp)
           rw [if_pos c62] at H
           have LMc62 := Aside0.mk c62
           clear c62
           obtain ⟨y107, hy107⟩ : ∃ y_ : List (S97), y_ = (x105006_1 ++ [(⟨x105003_1, x8_1.extract 1 8⟩ : S97)]) := ⟨_, rfl⟩
           replace H : (rillmeterref07_Take.l0 kj38 (x8_1.extract 8 x8_1.size) (Int.tmod (wrap64 (Int.tdiv t103 1048576)) 256) (Int.tmod t103 1048576) (wrap64 (bt a0 7)) (wrap64 (bt x8_1 0)) (a0.extract 8 24) (a0.extract 24 40) y107) = some (r1, r2, r3, r4, r5, r6, r7, r8, r9) := by first | (rw [hy107]; with_reducible exact H) | (have H2_ := (Option.bind_some _ _).symm.trans H; rw [hy107]; with_reducible exact H2_) | (have H2_ := (Option.bind_some _ _).symm.trans H; with_reducible exact H2_) | with_reducible exact H | (rw [hy107]; exact H) | exact H
           have Ny107 := Aside0.mk hy107
           clear hy107
           have c63b0 := eq_true (oD_ : 8 ≤ (x8_1.size : Int))
           have H' := Aside0.mk H
           clear H
           have hnb64 := NB104_101.out
           have hnc64 := NB101_104.out
           have hcz65_0 : wc.cell? ⟨gb104, 0, none⟩ = some (.int .i64 (Int.tmod (wrap64 (Int.tdiv t103 1048576)) 256)) := (blk_cell BK104.out 0).trans rfl
           have hcz65_1 : wc.cell? ⟨gb104, 1, none⟩ = some (.int .i64 (Int.tmod t103 1048576)) := (blk_cell BK104.out 1).trans rfl
           have hcz65_2 : wc.cell? ⟨gb104, 2, none⟩ = some (.int .i64 (wrap64 (bt a0 7))) := (blk_cell BK104.out 2).trans rfl
           have hcz65_3 : wc.cell? ⟨gb104, 3, none⟩ = some (.int .i64 x105003_1) := (blk_cell BK104.out 3).trans rfl
           have hcz65_4 : wc.cell? ⟨gb104, 4, none⟩ = some (.string (a0.extract 8 24)) := (blk_cell BK104.out 4).trans rfl
           have hcz65_5 : wc.cell? ⟨gb104, 5, none⟩ = some (.string (a0.extract 24 40)) := (blk_cell BK104.out 5).trans rfl
           have hcz65_6 : wc.cell? ⟨gb104, 6, none⟩ = some (u105006) := (blk_cell BK104.out 6).trans rfl
           have hfz65_0 := blk_frozen BK104.out 0; have hfz65_1 := blk_frozen BK104.out 1; have hfz65_2 := blk_frozen BK104.out 2; have hfz65_3 := blk_frozen BK104.out 3; have hfz65_4 := blk_frozen BK104.out 4; have hfz65_5 := blk_frozen BK104.out 5; have hfz65_6 := blk_frozen BK104.out 6
           go_wp2_with (first | ((with_reducible refine gate_dst (N := 9) rfl ?_); (try (refine gate_guard (by rfl) ?_; dsimp only)); refine bE_ (N := 9) (cs := #[.int .i64 0, .string ⟨#[]⟩]) (t := 97) ?_; intro gb106 hg w66 hbox hb; have n0_ := Aside0.mk (Kd.R_below (Kd.R_elderB (by (with_reducible repeat first | apply Kd.R_alloc | apply Kd.R_drewN | apply Kd.R_drew); exact HO_105006.out) gb106 (Nat.le_of_eq hg.symm)) hb); have n1_ := Aside0.mk (bB_ BK101.out hb); have n2_ := Aside0.mk (blk_below (g := gb104) (o := .cells #[.int .i64 (Int.tmod (wrap64 (Int.tdiv t103 1048576)) 256), .int .i64 (Int.tmod t103 1048576), .int .i64 (wrap64 (bt a0 7)), .int .i64 x105003_1, .string (a0.extract 8 24), .string (a0.extract 24 40), u105006] 71 (0, 0)) (by (with_reducible repeat first | apply pN_ | apply pD_ | apply pA_); exact BK104.out) hb); have n3_ := Aside0.mk (below_step (bU_ HB.out) hb); have n4_ := Aside0.mk (hbox); have n5_ := Aside0.mk (bZ_ hg (bU_ HB.out) : w.heap.size ≤ gb106); have n6_ := n5_; have n7_ := Aside0.mk ((bN_ hg BK101.out : gb101 ≠ gb106)); have n8_ := Aside0.mk (Ne.symm n7_.out); have n9_ := Aside0.mk ((by rw [hg]; exact Nat.ne_of_lt (blk_lt (g := gb104) (o := .cells #[.int .i64 (Int.tmod (wrap64 (Int.tdiv t103 1048576)) 256), .int .i64 (Int.tmod t103 1048576), .int .i64 (wrap64 (bt a0 7)), .int .i64 x105003_1, .string (a0.extract 8 24), .string (a0.extract 24 40), u105006] 71 (0, 0)) (by (with_reducible repeat first | apply pN_ | apply pD_ | apply pA_); exact BK104.out)) : gb104 ≠ gb106)); have n10_ := Aside0.mk (Ne.symm n9_.out); clear HO_105006 BK101 BK104 HB; have HO_105006 := n0_; have BK101 := n1_; have BK104 := n2_; have HB := n3_; have BK106 := n4_; have GW106 := n5_; have GE106 := n6_; have NB101_106 := n7_; have NB106_101 := n8_; have NB104_106 := n9_; have NB106_104 := n10_; clear n0_ n1_ n2_ n3_ n4_ n5_ n6_ n7_ n8_ n9_ n10_; clear hb hbox hg; have hnb67 := NB106_101.out; have hnc67 := NB101_106.out; have hnb68 := NB106_104.out; have hnc68 := NB104_106.out; have hcz69_0 : w66.cell? ⟨gb106, 0, none⟩ = some (.int .i64 0) := (blk_cell BK106.out 0).trans rfl; have hcz69_1 : w66.cell? ⟨gb106, 1, none⟩ = some (.string ⟨#[]⟩) := (blk_cell BK106.out 1).trans rfl; have hfz69_0 := blk_frozen BK106.out 0; have hfz69_1 := blk_frozen BK106.out 1; have p61 : 0 ≤ (0 : Int) := (by omega); have q61 : 0 < x8_1.size := (by have : (0 : Int) < (x8_1.size : Int) := oD_; omega); have hx61 : ∀ h : 0 < x8_1.size, ((x8_1[0]'h).toNat : Int) = bt x8_1 0 := bt_at x8_1 0; clear p61; have qi61 : (0 < (x8_1.size : Int)) = True := eq_true oD_; replace q61 := eq_true q61; have hcz70_0 : w66.cell? ⟨gb104, 0, none⟩ = some (.int .i64 (Int.tmod (wrap64 (Int.tdiv t103 1048576)) 256)) := (blk_cell BK104.out 0).trans rfl; have hcz70_1 : w66.cell? ⟨gb104, 1, none⟩ = some (.int .i64 (Int.tmod t103 1048576)) := (blk_cell BK104.out 1).trans rfl; have hcz70_2 : w66.cell? ⟨gb104, 2, none⟩ = some (.int .i64 (wrap64 (bt a0 7))) := (blk_cell BK104.out 2).trans rfl; have hcz70_3 : w66.cell? ⟨gb104, 3, none⟩ = some (.int .i64 x105003_1) := (blk_cell BK104.out 3).trans rfl; have hcz70_4 : w66.cell? ⟨gb104, 4, none⟩ = some (.string (a0.extract 8 24)) := (blk_cell BK104.out 4).trans rfl; have hcz70_5 : w66.cell? ⟨gb104, 5, none⟩ = some (.string (a0.extract 24 40)) := (blk_cell BK104.out 5).trans rfl; have hcz70_6 : w66.cell? ⟨gb104, 6, none⟩ = some (u105006) := (blk_cell BK104.out 6).trans rfl; have hfz70_0 := blk_frozen BK104.out 0; have hfz70_1 := blk_frozen BK104.out 1; have hfz70_2 := blk_frozen BK104.out 2; have hfz70_3 := blk_frozen BK104.out 3; have hfz70_4 := blk_frozen BK104.out 4; have hfz70_5 := blk_frozen BK104.out 5; have hfz70_6 := blk_frozen BK104.out 6) | ((with_reducible refine gate_builtin (b := .append) (xs := #[.tmp 105, .tmp 107]) rfl ?_); (try (refine gate_guard (by rfl) ?_; dsimp only)); at_builtin; refine Kd.R_append k97 (w0 := w) w.heap.size rfl (.tmp 105) (.tmp 107) 69 97 (.agg #[(.int .i64 0), (.string ⟨#[]⟩)]) 24 rfl Try.underlying69 info97 rfl (by decide) (by omega) u105006 x105006_1 (⟨x105003_1, x8_1.extract 1 8⟩ : S97) [.int .i64 x105003_1, .string (x8_1.extract 1 8)] (fun k_ => k_ ≠ gb106) (fun _ => False) rfl (by first | (go_simp; done) | (go_simp; rfl)) ?aP (fun _ hk => hk.elim) ?aF ?aO ?aB ?aS ?aL ?_; (case aP => exact k97_mkM _ _ _ (⟨x105003_1, x8_1.extract 1 8⟩ : S97)); (case aB => exact (bU_ HB.out)); (case aF => exact (fun k_ hk => Kd.freshB (g := gb106) (o := .cells #[.int .i64 x105003_1, .string (x8_1.extract 1 8)] 97 (0, 0)) (by (with_reducible repeat first | apply pN_ | apply pD_ | apply pA_); refine blk_far ?_ NB106_104.out _; (with_reducible repeat first | apply pN_ | apply pD_ | apply pA_); refine blk_put (cs := #[.int .i64 x105003_1, .string ⟨#[]⟩]) ?_ 1 _ rfl; (with_reducible repeat first | apply pN_ | apply pD_ | apply pA_); refine blk_put (cs := #[.int .i64 x105003_1, .string ⟨#[]⟩]) ?_ 1 _ rfl; (with_reducible repeat first | apply pN_ | apply pD_ | apply pA_); refine blk_put (cs := #[.int .i64 0, .string ⟨#[]⟩]) ?_ 0 _ rfl; (with_reducible repeat first | apply pN_ | apply pD_ | apply pA_); exact BK106.out) k_ hk)); (case aO => exact (by (with_reducible repeat first | apply Kd.R_alloc | apply Kd.R_drewN | apply Kd.R_drew); exact Kd.R_mono (Kd.R_far (p := ⟨gb104, 3, none⟩) (Kd.R_far (p := ⟨gb106, 1, none⟩) (Kd.R_far (p := ⟨gb106, 1, none⟩) (Kd.R_far (p := ⟨gb106, 0, none⟩) (Kd.R_types (Kd.R_mono HO_105006.out (fun k_ hk => (⟨hk, hk.2⟩ : _ ∧ k_ ≠ gb106))) BK104.out (by decide)) (fun _ hk => hk.1.2) (.int .i64 x105003_1)) (fun _ hk => hk.1.2) (.string ⟨#[]⟩)) (fun _ hk => hk.1.2) (.string (x8_1.extract 1 8))) (fun _ hk => hk.2) (.int .i64 (wrap64 (bt x8_1 0)))) (fun _ hk => hk.1.1.2))); (case aS => exact (below_size (bU_ HB.out))); (case aL => have := LMc62.out; omega); intro v108 w71 ho hb hg hat; rw [← Ny107.out] at ho; have n0_ := Aside0.mk (blk_grown (g := gb101) (o := .cells #[.int .i64 x102000_1, .int .i64 x102001_1, .int .i64 x102002_1, .int .i64 x102003_1, .string x102004_1, .string x102005_1, .slice none 0 0] 71 (0, 0)) (by (with_reducible repeat first | apply pN_ | apply pD_ | apply pA_); refine blk_far ?_ NB101_104.out _; (iterate 3 ((with_reducible repeat first | apply pN_ | apply pD_ | apply pA_); refine blk_far ?_ NB101_106.out _)); (with_reducible repeat first | apply pN_ | apply pD_ | apply pA_); exact BK101.out) hg (Kd.R_ne HO_105006.out BK101.out (by decide))); have n1_ := Aside0.mk (blk_grown (g := gb104) (o := .cells #[.int .i64 (Int.tmod (wrap64 (Int.tdiv t103 1048576)) 256), .int .i64 (Int.tmod t103 1048576), .int .i64 (wrap64 (bt a0 7)), .int .i64 (wrap64 (bt x8_1 0)), .string (a0.extract 8 24), .string (a0.extract 24 40), u105006] 71 (0, 0)) (by (with_reducible repeat first | apply pN_ | apply pD_ | apply pA_); refine blk_put (cs := #[.int .i64 (Int.tmod (wrap64 (Int.tdiv t103 1048576)) 256), .int .i64 (Int.tmod t103 1048576), .int .i64 (wrap64 (bt a0 7)), .int .i64 x105003_1, .string (a0.extract 8 24), .string (a0.extract 24 40), u105006]) ?_ 3 _ rfl; (iterate 3 ((with_reducible repeat first | apply pN_ | apply pD_ | apply pA_); refine blk_far ?_ NB104_106.out _)); (with_reducible repeat first | apply pN_ | apply pD_ | apply pA_); exact BK104.out) hg (Kd.R_ne HO_105006.out BK104.out (by decide))); have n2_ := Aside0.mk (blk_grown (g := gb106) (o := .cells #[.int .i64 x105003_1, .string (x8_1.extract 1 8)] 97 (0, 0)) (by (with_reducible repeat first | apply pN_ | apply pD_ | apply pA_); refine blk_far ?_ NB106_104.out _; (with_reducible repeat first | apply pN_ | apply pD_ | apply pA_); refine blk_put (cs := #[.int .i64 x105003_1, .string ⟨#[]⟩]) ?_ 1 _ rfl; (with_reducible repeat first | apply pN_ | apply pD_ | apply pA_); refine blk_put (cs := #[.int .i64 x105003_1, .string ⟨#[]⟩]) ?_ 1 _ rfl; (with_reducible repeat first | apply pN_ | apply pD_ | apply pA_); refine blk_put (cs := #[.int .i64 0, .string ⟨#[]⟩]) ?_ 0 _ rfl; (with_reducible repeat first | apply pN_ | apply pD_ | apply pA_); exact BK106.out) hg (Kd.R_away HO_105006.out (fun _ hk => hk.2))); have n3_ := Aside0.mk (hb); have n4_ := Aside0.mk (ho); clear BK101 BK104 BK106 HB HO_105006; have BK101 := n0_; have BK104 := n1_; have BK106 := n2_; have HB := n3_; have HO109 := n4_; clear n0_ n1_ n2_ n3_ n4_; clear ho hb hg hat; obtain ⟨Ao72, co72, eo72⟩ := Kd.R_slice HO109.out; subst eo72; have hcz73_0 : w71.cell? ⟨gb104, 0, none⟩ = some (.int .i64 (Int.tmod (wrap64 (Int.tdiv t103 1048576)) 256)) := (blk_cell BK104.out 0).trans rfl; have hcz73_1 : w71.cell? ⟨gb104, 1, none⟩ = some (.int .i64 (Int.tmod t103 1048576)) := (blk_cell BK104.out 1).trans rfl; have hcz73_2 : w71.cell? ⟨gb104, 2, none⟩ = some (.int .i64 (wrap64 (bt a0 7))) := (blk_cell BK104.out 2).trans rfl; have hcz73_3 : w71.cell? ⟨gb104, 3, none⟩ = some (.int .i64 (wrap64 (bt x8_1 0))) := (blk_cell BK104.out 3).trans rfl; have hcz73_4 : w71.cell? ⟨gb104, 4, none⟩ = some (.string (a0.extract 8 24)) := (blk_cell BK104.out 4).trans rfl; have hcz73_5 : w71.cell? ⟨gb104, 5, none⟩ = some (.string (a0.extract 24 40)) := (blk_cell BK104.out 5).trans rfl; have hcz73_6 : w71.cell? ⟨gb104, 6, none⟩ = some (u105006) := (blk_cell BK104.out 6).trans rfl; have hfz73_0 := blk_frozen BK104.out 0; have hfz73_1 := blk_frozen BK104.out 1; have hfz73_2 := blk_frozen BK104.out 2; have hfz73_3 := blk_frozen BK104.out 3; have hfz73_4 := blk_frozen BK104.out 4; have hfz73_5 := blk_frozen BK104.out 5; have hfz73_6 := blk_frozen BK104.out 6))
           go_roundg kj38
           case measure => have := HK1.out; have := HJ38.out; omega
           case rel => exact ⟨(x8_1.extract 8 x8_1.size), (x102000_1), (x102001_1), (x102002_1), (x102003_1), (x102004_1), (x102005_1), (wrap64 (bt x8_1 0)), (y107), (.slice Ao72 y107.length co72), (by first | rfl | (simp; done) | (simp [*]; done)), H', ⟨by have := HK1.out; have := HJ38.out; omega⟩, ⟨by (with_reducible repeat first | apply Kd.R_alloc | apply Kd.R_drewN | apply Kd.R_drew); exact Kd.R_mono (Kd.R_far (p := ⟨gb104, 6, none⟩) (Kd.R_types HO109.out BK104.out (by decide)) (fun _ hk => hk.2) (.slice Ao72 y107.length co72)) (fun _ hk => trivial)⟩, ⟨by (with_reducible repeat first | apply pN_ | apply pD_ | apply pA_); refine blk_far ?_ NB101_104.out _; (with_reducible repeat first | apply pN_ | apply pD_ | apply pA_); exact BK101.out⟩, ⟨by (with_reducible repeat first | apply pN_ | apply pD_ | apply pA_); refine blk_put (cs := #[.int .i64 (Int.tmod (wrap64 (Int.tdiv t103 1048576)) 256), .int .i64 (Int.tmod t103 1048576), .int .i64 (wrap64 (bt a0 7)), .int .i64 (wrap64 (bt x8_1 0)), .string (a0.extract 8 24), .string (a0.extract 24 40), u105006]) ?_ 6 _ rfl; (with_reducible repeat first | apply pN_ | apply pD_ | apply pA_); exact BK104.out⟩, ⟨bU_ HB.out⟩⟩
          ·rw [if_neg c57] at H
           have c57b0 : (x105003_1 == 44) = false := beq_eq_false_iff_ne.mpr c57
           have c57b1 : (x105003_1 != 44) = true := bne_iff_ne.mpr c57
           by_cases c74 : 1 < (x8_1.size : Int)
           rotate_left
           ·rw [if_neg c74] at H; exact absurd H (by simp)
           rw [if_pos c74] at H
           have c74b0 : decide (1 < (x8_1.size : Int)) = true := decide_eq_true c74
           have c74b1 : decide (1 < x8_1.size) = true := decide_eq_true (by omega)
           clear c74
           by_cases c76 : (wrap64 (8 * (wrap64 ((wrap64 (bt x8_1 1)) + 1)))) > (x8_1.size : Int)
           ·rw [if_pos c76] at H
            have c76b0 : decide ((x8_1.size : Int) < (wrap64 (8 * (wrap64 ((wrap64 (bt x8_1 1)) + 1))))) = true := decide_eq_true c76
            clear c76
            simp only [Option.some.injEq, Prod.mk.injEq] at H
            obtain ⟨rfl, rfl, rfl, rfl, rfl, rfl, rfl, rfl, rfl⟩ := H
            have hnb77 := NB104_101.out
            have hnc77 := NB101_104.out
            have hcz78_0 : wc.cell? ⟨gb104, 0, none⟩ = some (.int .i64 (Int.tmod (wrap64 (Int.tdiv t103 1048576)) 256)) := (blk_cell BK104.out 0).trans rfl
            have hcz78_1 : wc.cell? ⟨gb104, 1, none⟩ = some (.int .i64 (Int.tmod t103 1048576)) := (blk_cell BK104.out 1).trans rfl
            have hcz78_2 : wc.cell? ⟨gb104, 2, none⟩ = some (.int .i64 (wrap64 (bt a0 7))) := (blk_cell BK104.out 2).trans rfl
            have hcz78_3 : wc.cell? ⟨gb104, 3, none⟩ = some (.int .i64 x105003_1) := (blk_cell BK104.out 3).trans rfl
            have hcz78_4 : wc.cell? ⟨gb104, 4, none⟩ = some (.string (a0.extract 8 24)) := (blk_cell BK104.out 4).trans rfl
            have hcz78_5 : wc.cell? ⟨gb104, 5, none⟩ = some (.string (a0.extract 24 40)) := (blk_cell BK104.out 5).trans rfl
            have hcz78_6 : wc.cell? ⟨gb104, 6, none⟩ = some (u105006) := (blk_cell BK104.out 6).trans rfl
            have hfz78_0 := blk_frozen BK104.out 0; have hfz78_1 := blk_frozen BK104.out 1; have hfz78_2 := blk_frozen BK104.out 2; have hfz78_3 := blk_frozen BK104.out 3; have hfz78_4 := blk_frozen BK104.out 4; have hfz78_5 := blk_frozen BK104.out 5; have hfz78_6 := blk_frozen BK104.out 6
            go_wp2_with (first | ((with_reducible refine gate_dst (N := 9) rfl ?_); (try (refine gate_guard (by rfl) ?_; dsimp only)); refine bE_ (N := 9) (cs := #[.int .i64 0, .string ⟨#[]⟩]) (t := 97) ?_; intro gb106 hg w79 hbox hb; have n0_ := Aside0.mk (Kd.R_below (Kd.R_elderB (by (with_reducible repeat first | apply Kd.R_alloc | apply Kd.R_drewN | apply Kd.R_drew); exact HO_105006.out) gb106 (Nat.le_of_eq hg.symm)) hb); have n1_ := Aside0.mk (bB_ BK101.out hb); have n2_ := Aside0.mk (blk_below (g := gb104) (o := .cells #[.int .i64 (Int.tmod (wrap64 (Int.tdiv t103 1048576)) 256), .int .i64 (Int.tmod t103 1048576), .int .i64 (wrap64 (bt a0 7)), .int .i64 x105003_1, .string (a0.extract 8 24), .string (a0.extract 24 40), u105006] 71 (0, 0)) (by (with_reducible repeat first | apply pN_ | apply pD_ | apply pA_); exact BK104.out) hb); have n3_ := Aside0.mk (below_step (bU_ HB.out) hb); have n4_ := Aside0.mk (hbox); have n5_ := Aside0.mk (bZ_ hg (bU_ HB.out) : w.heap.size ≤ gb106); have n6_ := n5_; have n7_ := Aside0.mk ((bN_ hg BK101.out : gb101 ≠ gb106)); have n8_ := Aside0.mk (Ne.symm n7_.out); have n9_ := Aside0.mk ((by rw [hg]; exact Nat.ne_of_lt (blk_lt (g := gb104) (o := .cells #[.int .i64 (Int.tmod (wrap64 (Int.tdiv t103 1048576)) 256), .int .i64 (Int.tmod t103 1048576), .int .i64 (wrap64 (bt a0 7)), .int .i64 x105003_1, .string (a0.extract 8 24), .string (a0.extract 24 40), u105006] 71 (0, 0)) (by (with_reducible repeat first | apply pN_ | apply pD_ | apply pA_); exact BK104.out)) : gb104 ≠ gb106)); have n10_ := Aside0.mk (Ne.symm n9_.out); clear HO_105006 BK101 BK104 HB; have HO_105006 := n0_; have BK101 := n1_; have BK104 := n2_; have HB := n3_; have BK106 := n4_; have GW106 := n5_; have GE106 := n6_; have NB101_106 := n7_; have NB106_101 := n8_; have NB104_106 := n9_; have NB106_104 := n10_; clear n0_ n1_ n2_ n3_ n4_ n5_ n6_ n7_ n8_ n9_ n10_; clear hb hbox hg; have hnb80 := NB106_101.out; have hnc80 := NB101_106.out; have hnb81 := NB106_104.out; have hnc81 := NB104_106.out; have hcz82_0 : w79.cell? ⟨gb106, 0, none⟩ = some (.int .i64 0) := (blk_cell BK106.out 0).trans rfl; have hcz82_1 : w79.cell? ⟨gb106, 1, none⟩ = some (.string ⟨#[]⟩) := (blk_cell BK106.out 1).trans rfl; have hfz82_0 := blk_frozen BK106.out 0; have hfz82_1 := blk_frozen BK106.out 1; have p75 : 0 ≤ (1 : Int) := (by omega); have q75 : 1 < x8_1.size := (by have : (1 : Int) < (x8_1.size : Int) := oD_; omega); have hx75 : ∀ h : 1 < x8_1.size, ((x8_1[1]'h).toNat : Int) = bt x8_1 1 := bt_at x8_1 1; clear p75; have qi75 : (1 < (x8_1.size : Int)) = True := eq_true oD_; replace q75 := eq_true q75; have hcz83_0 : w79.cell? ⟨gb101, 0, none⟩ = some (.int .i64 x102000_1) := (blk_cell BK101.out 0).trans rfl; have hcz83_1 : w79.cell? ⟨gb101, 1, none⟩ = some (.int .i64 x102001_1) := (blk_cell BK101.out 1).trans rfl; have hcz83_2 : w79.cell? ⟨gb101, 2, none⟩ = some (.int .i64 x102002_1) := (blk_cell BK101.out 2).trans rfl; have hcz83_3 : w79.cell? ⟨gb101, 3, none⟩ = some (.int .i64 x102003_1) := (blk_cell BK101.out 3).trans rfl; have hcz83_4 : w79.cell? ⟨gb101, 4, none⟩ = some (.string x102004_1) := (blk_cell BK101.out 4).trans rfl; have hcz83_5 : w79.cell? ⟨gb101, 5, none⟩ = some (.string x102005_1) := (blk_cell BK101.out 5).trans rfl; have hcz83_6 : w79.cell? ⟨gb101, 6, none⟩ = some (.slice none 0 0) := (blk_cell BK101.out 6).trans rfl; have hfz83_0 := blk_frozen BK101.out 0; have hfz83_1 := blk_frozen BK101.out 1; have hfz83_2 := blk_frozen BK101.out 2; have hfz83_3 := blk_frozen BK101.out 3; have hfz83_4 := blk_frozen BK101.out 4; have hfz83_5 := blk_frozen BK101.out 5; have hfz83_6 := blk_frozen BK101.out 6))
            refine bodyPost_ret (results_ctt rfl _ _ gb101 71 #[.int .i64 0, .int .i64 0, .int .i64 0, .int .i64 0, .string ⟨#[]⟩, .string ⟨#[]⟩, .slice none 0 0] (0, 0) _ rfl (by (with_reducible repeat first | apply pN_ | apply pD_ | apply pA_); refine blk_put (cs := Z23_0) ?_ 6 _ rfl; (with_reducible repeat first | apply pN_ | apply pD_ | apply pA_); refine blk_put (cs := #[.int .i64 0, .int .i64 0, .int .i64 0, .int .i64 0, .string ⟨#[]⟩, .string x102005_1, .slice none 0 0]) ?_ 5 _ rfl; (with_reducible repeat first | apply pN_ | apply pD_ | apply pA_); refine blk_put (cs := #[.int .i64 0, .int .i64 0, .int .i64 0, .int .i64 0, .string x102004_1, .string x102005_1, .slice none 0 0]) ?_ 4 _ rfl; (with_reducible repeat first | apply pN_ | apply pD_ | apply pA_); refine blk_put (cs := #[.int .i64 0, .int .i64 0, .int .i64 0, .int .i64 x102003_1, .string x102004_1, .string x102005_1, .slice none 0 0]) ?_ 3 _ rfl; (with_reducible repeat first | apply pN_ | apply pD_ | apply pA_); refine blk_put (cs := #[.int .i64 0, .int .i64 0, .int .i64 x102002_1, .int .i64 x102003_1, .string x102004_1, .string x102005_1, .slice none 0 0]) ?_ 2 _ rfl; (with_reducible repeat first | apply pN_ | apply pD_ | apply pA_); refine blk_put (cs := #[.int .i64 0, .int .i64 x102001_1, .int .i64 x102002_1, .int .i64 x102003_1, .string x102004_1, .string x102005_1, .slice none 0 0]) ?_ 1 _ rfl; (with_reducible repeat first | apply pN_ | apply pD_ | apply pA_); refine blk_put (cs := #[.int .i64 x102000_1, .int .i64 x102001_1, .int .i64 x102002_1, .int .i64 x102003_1, .string x102004_1, .string x102005_1, .slice none 0 0]) ?_ 0 _ rfl; (iterate 2 ((with_reducible repeat first | apply pN_ | apply pD_ | apply pA_); refine blk_far ?_ NB101_106.out _)); (with_reducible repeat first | apply pN_ | apply pD_ | apply pA_); exact BK101.out) Try.underlying71 rfl (by kernel_rfl)) rfl ?_
            exact ⟨_, by first | rfl | (simp [errW_none, errW_some] <;> rfl) | (simp [*, errW_none, errW_some] <;> rfl), by first | exact Kd.R_nil _ _ _ _ _ | exact Kd.N_nil _ _ _ _ _ | exact Kd.V_nil _ _ _ _ _ | exact Kd.Q_nil _ _ _ _ _ | exact Kd.S_nil _ _ _ _ _, bU_ HB.out⟩
           ·rw [if_neg c76] at H
            have c76b0 : decide ((x8_1.size : Int) < (wrap64 (8 * (wrap64 ((wrap64 (bt x8_1 1)) + 1))))) = false := decide_eq_false c76
            clear c76
            by_cases c84 : 2 ≤ (wrap64 (8 * (wrap64 ((wrap64 (bt x8_1 1)) + 1))))
            rotate_left
            ·rw [if_neg c84] at H; exact absurd H (by simp)
            rw [if_pos c84] at H
            have c84b0 := eq_true c84
            have c84b1 : decide (2 ≤ (wrap64 (8 * (wrap64 ((wrap64 (bt x8_1 1)) + 1))))) = true := decide_eq_true c84
            by_cases c85 : (wrap64 (8 * (wrap64 ((wrap64 (bt x8_1 1)) + 1)))) ≤ (x8_1.size : Int)
            rotate_left
            ·rw [if_neg c85] at H; exact absurd H (by simp)
            rw [if_pos c85] at H
            have c85b0 := eq_true c85
            have c85b1 : decide ((wrap64 (8 * (wrap64 ((wrap64 (bt x8_1 1)) + 1)))) ≤ (x8_1.size : Int)) = true := decide_eq_true c85
            by_cases c86 : 0 < (x8_1.size : Int)
            rotate_left
            ·rw [if_neg c86] at H; exact absurd H (by simp)
            rw [if_pos c86] at H
            have c86b0 : decide (0 < (x8_1.size : Int)) = true := decide_eq_true c86
            have c86b1 : decide (0 < x8_1.size) = true := decide_eq_true (by omega)
            clear c86
            by_cases c88 : x105006_1.length < 5864062014805
            rotate_left
            ·rw [if_neg c88] at H; exact absurd H (by simp)
            rw [if_pos c88] at H
            have LMc88 := Aside0.mk c88
            clear c88
            obtain ⟨y110, hy110⟩ : ∃ y_ : List (S97), y_ = (x105006_1 ++ [(⟨x105003_1, x8_1.extract 2 ((wrap64 (8 * (wrap64 ((wrap64 (bt x8_1 1)) + 1)))) : Int).toNat⟩ : S97)]) := ⟨_, rfl⟩
            replace H : (if 0 ≤ (wrap64 (8 * (wrap64 ((wrap64 (bt x8_1 1)) + 1)))) then (rillmeterref07_Take.l0 kj38 (x8_1.extract ((wrap64 (8 * (wrap64 ((wrap64 (bt x8_1 1)) + 1)))) : Int).toNat x8_1.size) (Int.tmod (wrap64 (Int.tdiv t103 1048576)) 256) (Int.tmod t103 1048576) (wrap64 (bt a0 7)) (wrap64 (bt x8_1 0)) (a0.extract 8 24) (a0.extract 24 40) y110) else (none)) = some (r1, r2, r3, r4, r5, r6, r7, r8, r9) := by first | (rw [hy110]; with_reducible exact H) | (have H2_ := (Option.bind_some _ _).symm.trans H; rw [hy110]; with_reducible exact H2_) | (have H2_ := (Option.bind_some _ _).symm.trans H; with_reducible exact H2_) | with_reducible exact H | (rw [hy110]; exact H) | exact H
            have Ny110 := Aside0.mk hy110
            clear hy110
            obtain ⟨ji89, hji89⟩ : ∃ j_ : Int, (wrap64 (8 * (wrap64 ((wrap64 (bt x8_1 1)) + 1)))) = j_ := ⟨_, rfl⟩
            replace H : (if 0 ≤ (ji89) then (rillmeterref07_Take.l0 kj38 (x8_1.extract ((ji89) : Int).toNat x8_1.size) (Int.tmod (wrap64 (Int.tdiv t103 1048576)) 256) (Int.tmod t103 1048576) (wrap64 (bt a0 7)) (wrap64 (bt x8_1 0)) (a0.extract 8 24) (a0.extract 24 40) y110) else (none)) = some (r1, r2, r3, r4, r5, r6, r7, r8, r9) := by first | (rw [hji89] at H; exact H) | (simp only [hji89] at H ⊢; exact H)
            (try rw [hji89] at c76b0)
            (try rw [hji89] at c84b0)
            (try rw [hji89] at c84b1)
            (try rw [hji89] at c84)
            (try rw [hji89] at c85b0)
            (try rw [hji89] at c85b1)
            (try rw [hji89] at c85)
            (try rw [hji89] at Ny110)
            (try rw [hji89] at Ny110)
            have hji89w : (IntKind.i64.wrap (8 * (wrap64 ((wrap64 (bt x8_1 1)) + 1)))) = ji89 := (i64_w _).trans hji89
            by_cases c90 : 0 ≤ (ji89)
            rotate_left
            ·rw [if_neg c90] at H; exact absurd H (by simp)
            rw [if_pos c90] at H
            have c90b0 := eq_true c90
            have c90b1 : decide (0 ≤ (ji89)) = true := decide_eq_true c90
            clear c90
            have c91b0 := eq_true (oD_ : (ji89) ≤ (x8_1.size : Int))
            have H' := Aside0.mk H
            clear H
            have hnb92 := NB104_101.out
            have hnc92 := NB101_104.out
            have hcz93_0 : wc.cell? ⟨gb104, 0, none⟩ = some (.int .i64 (Int.tmod (wrap64 (Int.tdiv t103 1048576)) 256)) := (blk_cell BK104.out 0).trans rfl
            have hcz93_1 : wc.cell? ⟨gb104, 1, none⟩ = some (.int .i64 (Int.tmod t103 1048576)) := (blk_cell BK104.out 1).trans rfl
            have hcz93_2 : wc.cell? ⟨gb104, 2, none⟩ = some (.int .i64 (wrap64 (bt a0 7))) := (blk_cell BK104.out 2).trans rfl
            have hcz93_3 : wc.cell? ⟨gb104, 3, none⟩ = some (.int .i64 x105003_1) := (blk_cell BK104.out 3).trans rfl
            have hcz93_4 : wc.cell? ⟨gb104, 4, none⟩ = some (.string (a0.extract 8 24)) := (blk_cell BK104.out 4).trans rfl
            have hcz93_5 : wc.cell? ⟨gb104, 5, none⟩ = some (.string (a0.extract 24 40)) := (blk_cell BK104.out 5).trans rfl
            have hcz93_6 : wc.cell? ⟨gb104, 6, none⟩ = some (u105006) := (blk_cell BK104.out 6).trans rfl
            have hfz93_0 := blk_frozen BK104.out 0; have hfz93_1 := blk_frozen BK104.out 1; have hfz93_2 := blk_frozen BK104.out 2; have hfz93_3 := blk_frozen BK104.out 3; have hfz93_4 := blk_frozen BK104.out 4; have hfz93_5 := blk_frozen BK104.out 5; have hfz93_6 := blk_frozen BK104.out 6
            go_wp2_with (first | ((with_reducible refine gate_dst (N := 9) rfl ?_); (try (refine gate_guard (by rfl) ?_; dsimp only)); refine bE_ (N := 9) (cs := #[.int .i64 0, .string ⟨#[]⟩]) (t := 97) ?_; intro gb106 hg w94 hbox hb; have n0_ := Aside0.mk (Kd.R_below (Kd.R_elderB (by (with_reducible repeat first | apply Kd.R_alloc | apply Kd.R_drewN | apply Kd.R_drew); exact HO_105006.out) gb106 (Nat.le_of_eq hg.symm)) hb); have n1_ := Aside0.mk (bB_ BK101.out hb); have n2_ := Aside0.mk (blk_below (g := gb104) (o := .cells #[.int .i64 (Int.tmod (wrap64 (Int.tdiv t103 1048576)) 256), .int .i64 (Int.tmod t103 1048576), .int .i64 (wrap64 (bt a0 7)), .int .i64 x105003_1, .string (a0.extract 8 24), .string (a0.extract 24 40), u105006] 71 (0, 0)) (by (with_reducible repeat first | apply pN_ | apply pD_ | apply pA_); exact BK104.out) hb); have n3_ := Aside0.mk (below_step (bU_ HB.out) hb); have n4_ := Aside0.mk (hbox); have n5_ := Aside0.mk (bZ_ hg (bU_ HB.out) : w.heap.size ≤ gb106); have n6_ := n5_; have n7_ := Aside0.mk ((bN_ hg BK101.out : gb101 ≠ gb106)); have n8_ := Aside0.mk (Ne.symm n7_.out); have n9_ := Aside0.mk ((by rw [hg]; exact Nat.ne_of_lt (blk_lt (g := gb104) (o := .cells #[.int .i64 (Int.tmod (wrap64 (Int.tdiv t103 1048576)) 256), .int .i64 (Int.tmod t103 1048576), .int .i64 (wrap64 (bt a0 7)), .int .i64 x105003_1, .string (a0.extract 8 24), .string (a0.extract 24 40), u105006] 71 (0, 0)) (by (with_reducible repeat first | apply pN_ | apply pD_ | apply pA_); exact BK104.out)) : gb104 ≠ gb106)); have n10_ := Aside0.mk (Ne.symm n9_.out); clear HO_105006 BK101 BK104 HB; have HO_105006 := n0_; have BK101 := n1_; have BK104 := n2_; have HB := n3_; have BK106 := n4_; have GW106 := n5_; have GE106 := n6_; have NB101_106 := n7_; have NB106_101 := n8_; have NB104_106 := n9_; have NB106_104 := n10_; clear n0_ n1_ n2_ n3_ n4_ n5_ n6_ n7_ n8_ n9_ n10_; clear hb hbox hg; have hnb95 := NB106_101.out; have hnc95 := NB101_106.out; have hnb96 := NB106_104.out; have hnc96 := NB104_106.out; have hcz97_0 : w94.cell? ⟨gb106, 0, none⟩ = some (.int .i64 0) := (blk_cell BK106.out 0).trans rfl; have hcz97_1 : w94.cell? ⟨gb106, 1, none⟩ = some (.string ⟨#[]⟩) := (blk_cell BK106.out 1).trans rfl; have hfz97_0 := blk_frozen BK106.out 0; have hfz97_1 := blk_frozen BK106.out 1; have p75 : 0 ≤ (1 : Int) := (by omega); have q75 : 1 < x8_1.size := (by have : (1 : Int) < (x8_1.size : Int) := oD_; omega); have hx75 : ∀ h : 1 < x8_1.size, ((x8_1[1]'h).toNat : Int) = bt x8_1 1 := bt_at x8_1 1; clear p75; have qi75 : (1 < (x8_1.size : Int)) = True := eq_true oD_; replace q75 := eq_true q75; have p87 : 0 ≤ (0 : Int) := (by omega); have q87 : 0 < x8_1.size := (by have : (0 : Int) < (x8_1.size : Int) := oD_; omega); have hx87 : ∀ h : 0 < x8_1.size, ((x8_1[0]'h).toNat : Int) = bt x8_1 0 := bt_at x8_1 0; clear p87; have qi87 : (0 < (x8_1.size : Int)) = True := eq_true oD_; replace q87 := eq_true q87; have hcz98_0 : w94.cell? ⟨gb104, 0, none⟩ = some (.int .i64 (Int.tmod (wrap64 (Int.tdiv t103 1048576)) 256)) := (blk_cell BK104.out 0).trans rfl; have hcz98_1 : w94.cell? ⟨gb104, 1, none⟩ = some (.int .i64 (Int.tmod t103 1048576)) := (blk_cell BK104.out 1).trans rfl; have hcz98_2 : w94.cell? ⟨gb104, 2, none⟩ = some (.int .i64 (wrap64 (bt a0 7))) := (blk_cell BK104.out 2).trans rfl; have hcz98_3 : w94.cell? ⟨gb104, 3, none⟩ = some (.int .i64 x105003_1) := (blk_cell BK104.out 3).trans rfl; have hcz98_4 : w94.cell? ⟨gb104, 4, none⟩ = some (.string (a0.extract 8 24)) := (blk_cell BK104.out 4).trans rfl; have hcz98_5 : w94.cell? ⟨gb104, 5, none⟩ = some (.string (a0.extract 24 40)) := (blk_cell BK104.out 5).trans rfl; have hcz98_6 : w94.cell? ⟨gb104, 6, none⟩ = some (u105006) := (blk_cell BK104.out 6).trans rfl; have hfz98_0 := blk_frozen BK104.out 0; have hfz98_1 := blk_frozen BK104.out 1; have hfz98_2 := blk_frozen BK104.out 2; have hfz98_3 := blk_frozen BK104.out 3; have hfz98_4 := blk_frozen BK104.out 4; have hfz98_5 := blk_frozen BK104.out 5; have hfz98_6 := blk_frozen BK104.out 6) | ((with_reducible refine gate_builtin (b := .append) (xs := #[.tmp 105, .tmp 107]) rfl ?_); (try (refine gate_guard (by rfl) ?_; dsimp only)); at_builtin; refine Kd.R_append k97 (w0 := w) w.heap.size rfl (.tmp 105) (.tmp 107) 69 97 (.agg #[(.int .i64 0), (.string ⟨#[]⟩)]) 24 rfl Try.underlying69 info97 rfl (by decide) (by omega) u105006 x105006_1 (⟨x105003_1, x8_1.extract 2 ((ji89) : Int).toNat⟩ : S97) [.int .i64 x105003_1, .string (x8_1.extract 2 ((ji89) : Int).toNat)] (fun k_ => k_ ≠ gb106) (fun _ => False) rfl (by first | (go_simp; done) | (go_simp; rfl)) ?aP (fun _ hk => hk.elim) ?aF ?aO ?aB ?aS ?aL ?_; (case aP => exact k97_mkM _ _ _ (⟨x105003_1, x8_1.extract 2 ((ji89) : Int).toNat⟩ : S97)); (case aB => exact (bU_ HB.out)); (case aF => exact (fun k_ hk => Kd.freshB (g := gb106) (o := .cells #[.int .i64 x105003_1, .string (x8_1.extract 2 ((ji89) : Int).toNat)] 97 (0, 0)) (by (with_reducible repeat first | apply pN_ | apply pD_ | apply pA_); refine blk_far ?_ NB106_104.out _; (with_reducible repeat first | apply pN_ | apply pD_ | apply pA_); refine blk_put (cs := #[.int .i64 x105003_1, .string ⟨#[]⟩]) ?_ 1 _ rfl; (with_reducible repeat first | apply pN_ | apply pD_ | apply pA_); refine blk_put (cs := #[.int .i64 x105003_1, .string ⟨#[]⟩]) ?_ 1 _ rfl; (with_reducible repeat first | apply pN_ | apply pD_ | apply pA_); refine blk_put (cs := #[.int .i64 0, .string ⟨#[]⟩]) ?_ 0 _ rfl; (with_reducible repeat first | apply pN_ | apply pD_ | apply pA_); exact BK106.out) k_ hk)); (case aO => exact (by (with_reducible repeat first | apply Kd.R_alloc | apply Kd.R_drewN | apply Kd.R_drew); exact Kd.R_mono (Kd.R_far (p := ⟨gb104, 3, none⟩) (Kd.R_far (p := ⟨gb106, 1, none⟩) (Kd.R_far (p := ⟨gb106, 1, none⟩) (Kd.R_far (p := ⟨gb106, 0, none⟩) (Kd.R_types (Kd.R_mono HO_105006.out (fun k_ hk => (⟨hk, hk.2⟩ : _ ∧ k_ ≠ gb106))) BK104.out (by decide)) (fun _ hk => hk.1.2) (.int .i64 x105003_1)) (fun _ hk => hk.1.2) (.string ⟨#[]⟩)) (fun _ hk => hk.1.2) (.string (x8_1.extract 2 ((ji89) : Int).toNat))) (fun _ hk => hk.2) (.int .i64 (wrap64 (bt x8_1 0)))) (fun _ hk => hk.1.1.2))); (case aS => exact (below_size (bU_ HB.out))); (case aL => have := LMc88.out; omega); intro v111 w99 ho hb hg hat; rw [← Ny110.out] at ho; have n0_ := Aside0.mk (blk_grown (g := gb101) (o := .cells #[.int .i64 x102000_1, .int .i64 x102001_1, .int .i64 x102002_1, .int .i64 x102003_1, .string x102004_1, .string x102005_1, .slice none 0 0] 71 (0, 0)) (by (with_reducible repeat first | apply pN_ | apply pD_ | apply pA_); refine blk_far ?_ NB101_104.out _; (iterate 3 ((with_reducible repeat first | apply pN_ | apply pD_ | apply pA_); refine blk_far ?_ NB101_106.out _)); (with_reducible repeat first | apply pN_ | apply pD_ | apply pA_); exact BK101.out) hg (Kd.R_ne HO_105006.out BK101.out (by decide))); have n1_ := Aside0.mk (blk_grown (g := gb104) (o := .cells #[.int .i64 (Int.tmod (wrap64 (Int.tdiv t103 1048576)) 256), .int .i64 (Int.tmod t103 1048576), .int .i64 (wrap64 (bt a0 7)), .int .i64 (wrap64 (bt x8_1 0)), .string (a0.extract 8 24), .string (a0.extract 24 40), u105006] 71 (0, 0)) (by (with_reducible repeat first | apply pN_ | apply pD_ | apply pA_); refine blk_put (cs := #[.int .i64 (Int.tmod (wrap64 (Int.tdiv t103 1048576)) 256), .int .i64 (Int.tmod t103 1048576), .int .i64 (wrap64 (bt a0 7)), .int .i64 x105003_1, .string (a0.extract 8 24), .string (a0.extract 24 40), u105006]) ?_ 3 _ rfl; (iterate 3 ((with_reducible repeat first | apply pN_ | apply pD_ | apply pA_); refine blk_far ?_ NB104_106.out _)); (with_reducible repeat first | apply pN_ | apply pD_ | apply pA_); exact BK104.out) hg (Kd.R_ne HO_105006.out BK104.out (by decide))); have n2_ := Aside0.mk (blk_grown (g := gb106) (o := .cells #[.int .i64 x105003_1, .string (x8_1.extract 2 ((ji89) : Int).toNat)] 97 (0, 0)) (by (with_reducible repeat first | apply pN_ | apply pD_ | apply pA_); refine blk_far ?_ NB106_104.out _; (with_reducible repeat first | apply pN_ | apply pD_ | apply pA_); refine blk_put (cs := #[.int .i64 x105003_1, .string ⟨#[]⟩]) ?_ 1 _ rfl; (with_reducible repeat first | apply pN_ | apply pD_ | apply pA_); refine blk_put (cs := #[.int .i64 x105003_1, .string ⟨#[]⟩]) ?_ 1 _ rfl; (with_reducible repeat first | apply pN_ | apply pD_ | apply pA_); refine blk_put (cs := #[.int .i64 0, .string ⟨#[]⟩]) ?_ 0 _ rfl; (with_reducible repeat first | apply pN_ | apply pD_ | apply pA_); exact BK106.out) hg (Kd.R_away HO_105006.out (fun _ hk => hk.2))); have n3_ := Aside0.mk (hb); have n4_ := Aside0.mk (ho); clear BK101 BK104 BK106 HB HO_105006; have BK101 := n0_; have BK104 := n1_; have BK106 := n2_; have HB := n3_; have HO112 := n4_; clear n0_ n1_ n2_ n3_ n4_; clear ho hb hg hat; obtain ⟨Ao100, co100, eo100⟩ := Kd.R_slice HO112.out; subst eo100; have hcz101_0 : w99.cell? ⟨gb104, 0, none⟩ = some (.int .i64 (Int.tmod (wrap64 (Int.tdiv t103 1048576)) 256)) := (blk_cell BK104.out 0).trans rfl; have hcz101_1 : w99.cell? ⟨gb104, 1, none⟩ = some (.int .i64 (Int.tmod t103 1048576)) := (blk_cell BK104.out 1).trans rfl; have hcz101_2 : w99.cell? ⟨gb104, 2, none⟩ = some (.int .i64 (wrap64 (bt a0 7))) := (blk_cell BK104.out 2).trans rfl; have hcz101_3 : w99.cell? ⟨gb104, 3, none⟩ = some (.int .i64 (wrap64 (bt x8_1 0))) := (blk_cell BK104.out 3).trans rfl; have hcz101_4 : w99.cell? ⟨gb104, 4, none⟩ = some (.string (a0.extract 8 24)) := (blk_cell BK104.out 4).trans rfl; have hcz101_5 : w99.cell? ⟨gb104, 5, none⟩ = some (.string (a0.extract 24 40)) := (blk_cell BK104.out 5).trans rfl; have hcz101_6 : w99.cell? ⟨gb104, 6, none⟩ = some (u105006) := (blk_cell BK104.out 6).trans rfl; have hfz101_0 := blk_frozen BK104.out 0; have hfz101_1 := blk_frozen BK104.out 1; have hfz101_2 := blk_frozen BK104.out 2; have hfz101_3 := blk_frozen BK104.out 3; have hfz101_4 := blk_frozen BK104.out 4; have hfz101_5 := blk_frozen BK104.out 5; have hfz101_6 := blk_frozen BK104.out 6))
            go_roundg kj38
            case measure => have := HK1.out; have := HJ38.out; omega
            case rel => exact ⟨(x8_1.extract ((ji89) : Int).toNat x8_1.size), (x102000_1), (x102001_1), (x102002_1), (x102003_1), (x102004_1), (x102005_1), (wrap64 (bt x8_1 0)), (y110), (.slice Ao100 y110.length co100), (by first | rfl | (simp; done) | (simp only [← hji89] <;> (first | rfl | simp)) | (simp [*]; done)), H', ⟨by have := HK1.out; have := HJ38.out; omega⟩, ⟨by (with_reducible repeat first | apply Kd.R_alloc | apply Kd.R_drewN | apply Kd.R_drew); exact Kd.R_mono (Kd.R_far (p := ⟨gb104, 6, none⟩) (Kd.R_types HO112.out BK104.out (by decide)) (fun _ hk => hk.2) (.slice Ao100 y110.length co100)) (fun _ hk => trivial)⟩, ⟨by (with_reducible repeat first | apply pN_ | apply pD_ | apply pA_); refine blk_far ?_ NB101_104.out _; (with_reducible repeat first | apply pN_ | apply pD_ | apply pA_); exact BK101.out⟩, ⟨by (with_reducible repeat first | apply pN_ | apply pD_ | apply pA_); refine blk_put (cs := #[.int .i64 (Int.tmod (wrap64 (Int.tdiv t103 1048576)) 256), .int .i64 (Int.tmod t103 1048576), .int .i64 (wrap64 (bt a0 7)), .int .i64 (wrap64 (bt x8_1 0)), .string (a0.extract 8 24), .string (a0.extract 24 40), u105006]) ?_ 6 _ rfl; (with_reducible repeat first | apply pN_ | apply pD_ | apply pA_); exact BK104.out⟩, ⟨bU_ HB.out⟩⟩
      ·replace c38 := Bool.eq_false_iff.mpr c38
       subst c38
       have H1 : (some ((Int.tmod (wrap64 (Int.tdiv t103 1048576)) 256), (Int.tmod t103 1048576), (wrap64 (bt a0 7)), x105003_1, (a0.extract 8 24), (a0.extract 24 40), x105006_1, x8_1, 0)) = some (r1, r2, r3, r4, r5, r6, r7, r8, r9) := by rw [if_neg (show ¬ (false = true) by decide)] at H; exact H
       clear H
       have H := H1
       clear H1
       simp only [Option.some.injEq, Prod.mk.injEq] at H
       obtain ⟨rfl, rfl, rfl, rfl, rfl, rfl, rfl, rfl, rfl⟩ := H
       have hnb102 := NB104_101.out
       have hnc102 := NB101_104.out
       have hcz103_0 : wr.cell? ⟨gb104, 0, none⟩ = some (.int .i64 (Int.tmod (wrap64 (Int.tdiv t103 1048576)) 256)) := (blk_cell BK104.out 0).trans rfl
       have hcz103_1 : wr.cell? ⟨gb104, 1, none⟩ = some (.int .i64 (Int.tmod t103 1048576)) := (blk_cell BK104.out 1).trans rfl
       have hcz103_2 : wr.cell? ⟨gb104, 2, none⟩ = some (.int .i64 (wrap64 (bt a0 7))) := (blk_cell BK104.out 2).trans rfl
       have hcz103_3 : wr.cell? ⟨gb104, 3, none⟩ = some (.int .i64 x105003_1) := (blk_cell BK104.out 3).trans rfl
       have hcz103_4 : wr.cell? ⟨gb104, 4, none⟩ = some (.string (a0.extract 8 24)) := (blk_cell BK104.out 4).trans rfl
       have hcz103_5 : wr.cell? ⟨gb104, 5, none⟩ = some (.string (a0.extract 24 40)) := (blk_cell BK104.out 5).trans rfl
       have hcz103_6 : wr.cell? ⟨gb104, 6, none⟩ = some (u105006) := (blk_cell BK104.out 6).trans rfl
       have hfz103_0 := blk_frozen BK104.out 0; have hfz103_1 := blk_frozen BK104.out 1; have hfz103_2 := blk_frozen BK104.out 2; have hfz103_3 := blk_frozen BK104.out 3; have hfz103_4 := blk_frozen BK104.out 4; have hfz103_5 := blk_frozen BK104.out 5; have hfz103_6 := blk_frozen BK104.out 6
       go_wp2_with (first | ((with_reducible refine gate_callee (f := 47) rfl ?_); refine gL_ (some 55) rfl rfl Try.func47 (by kernel_rfl) rfl #[.int .i64 x105003_1] rfl ?_; (with_reducible refine (rillmeterref07_extension.calls x105003_1 false _ A37.out).mono ?_); rintro e w' ⟨rfl, ⟨nd, rfl⟩⟩; refine ⟨_, rfl, ?_⟩; (try (rw [drewN_self wr]; generalize hq_ : World.drewN wr _ = wr; have n0_ : Aside0 (Kd.R k97 97 wr w.heap.size (fun _ => True) u105006 x105006_1) := ⟨by rw [← hq_]; exact (by (with_reducible repeat first | apply Kd.R_alloc | apply Kd.R_drewN | apply Kd.R_drew); exact HO_105006.out)⟩; have n1_ : Aside0 (wr.heap[gb101]? = some (.cells #[.int .i64 x102000_1, .int .i64 x102001_1, .int .i64 x102002_1, .int .i64 x102003_1, .string x102004_1, .string x102005_1, .slice none 0 0] 71 (0, 0))) := ⟨by rw [← hq_]; exact (by (with_reducible repeat first | apply pN_ | apply pD_ | apply pA_); exact BK101.out)⟩; have n2_ : Aside0 (wr.heap[gb104]? = some (.cells #[.int .i64 (Int.tmod (wrap64 (Int.tdiv t103 1048576)) 256), .int .i64 (Int.tmod t103 1048576), .int .i64 (wrap64 (bt a0 7)), .int .i64 x105003_1, .string (a0.extract 8 24), .string (a0.extract 24 40), u105006] 71 (0, 0))) := ⟨by rw [← hq_]; exact (by (with_reducible repeat first | apply pN_ | apply pD_ | apply pA_); exact BK104.out)⟩; have n3_ : Aside0 (Below w.heap.size w wr) := ⟨by rw [← hq_]; exact (bU_ HB.out)⟩; clear HO_105006 BK101 BK104 HB hq_; have HO_105006 := n0_; have BK101 := n1_; have BK104 := n2_; have HB := n3_; clear n0_ n1_ n2_ n3_)); have hcz104_0 : wr.cell? ⟨gb104, 0, none⟩ = some (.int .i64 (Int.tmod (wrap64 (Int.tdiv t103 1048576)) 256)) := (blk_cell BK104.out 0).trans rfl; have hcz104_1 : wr.cell? ⟨gb104, 1, none⟩ = some (.int .i64 (Int.tmod t103 1048576)) := (blk_cell BK104.out 1).trans rfl; have hcz104_2 : wr.cell? ⟨gb104, 2, none⟩ = some (.int .i64 (wrap64 (bt a0 7))) := (blk_cell BK104.out 2).trans rfl; have hcz104_3 : wr.cell? ⟨gb104, 3, none⟩ = some (.int .i64 x105003_1) := (blk_cell BK104.out 3).trans rfl; have hcz104_4 : wr.cell? ⟨gb104, 4, none⟩ = some (.string (a0.extract 8 24)) := (blk_cell BK104.out 4).trans rfl; have hcz104_5 : wr.cell? ⟨gb104, 5, none⟩ = some (.string (a0.extract 24 40)) := (blk_cell BK104.out 5).trans rfl; have hcz104_6 : wr.cell? ⟨gb104, 6, none⟩ = some (u105006) := (blk_cell BK104.out 6).trans rfl; have hfz104_0 := blk_frozen BK104.out 0; have hfz104_1 := blk_frozen BK104.out 1; have hfz104_2 := blk_frozen BK104.out 2; have hfz104_3 := blk_frozen BK104.out 3; have hfz104_4 := blk_frozen BK104.out 4; have hfz104_5 := blk_frozen BK104.out 5; have hfz104_6 := blk_frozen BK104.out 6; have hcz105_0 : wr.cell? ⟨gb101, 0, none⟩ = some (.int .i64 x102000_1) := (blk_cell BK101.out 0).trans rfl; have hcz105_1 : wr.cell? ⟨gb101, 1, none⟩ = some (.int .i64 x102001_1) := (blk_cell BK101.out 1).trans rfl; have hcz105_2 : wr.cell? ⟨gb101, 2, none⟩ = some (.int .i64 x102002_1) := (blk_cell BK101.out 2).trans rfl; have hcz105_3 : wr.cell? ⟨gb101, 3, none⟩ = some (.int .i64 x102003_1) := (blk_cell BK101.out 3).trans rfl; have hcz105_4 : wr.cell? ⟨gb101, 4, none⟩ = some (.string x102004_1) := (blk_cell BK101.out 4).trans rfl; have hcz105_5 : wr.cell? ⟨gb101, 5, none⟩ = some (.string x102005_1) := (blk_cell BK101.out 5).trans rfl; have hcz105_6 : wr.cell? ⟨gb101, 6, none⟩ = some (.slice none 0 0) := (blk_cell BK101.out 6).trans rfl; have hfz105_0 := blk_frozen BK101.out 0; have hfz105_1 := blk_frozen BK101.out 1; have hfz105_2 := blk_frozen BK101.out 2; have hfz105_3 := blk_frozen BK101.out 3; have hfz105_4 := blk_frozen BK101.out 4; have hfz105_5 := blk_frozen BK101.out 5; have hfz105_6 := blk_frozen BK101.out 6; obtain ⟨Ao106, co106, eo106⟩ := Kd.R_slice HO_105006.out; subst eo106))
       refine bodyPost_ret (results_ctt rfl _ _ gb101 71 #[.int .i64 (Int.tmod (wrap64 (Int.tdiv t103 1048576)) 256), .int .i64 (Int.tmod t103 1048576), .int .i64 (wrap64 (bt a0 7)), .int .i64 x105003_1, .string (a0.extract 8 24), .string (a0.extract 24 40), .slice Ao106 x105006_1.length co106] (0, 0) _ rfl (by (with_reducible repeat first | apply pN_ | apply pD_ | apply pA_); refine blk_put (cs := #[.int .i64 (Int.tmod (wrap64 (Int.tdiv t103 1048576)) 256), .int .i64 (Int.tmod t103 1048576), .int .i64 (wrap64 (bt a0 7)), .int .i64 x105003_1, .string (a0.extract 8 24), .string (a0.extract 24 40), .slice none 0 0]) ?_ 6 _ rfl; (with_reducible repeat first | apply pN_ | apply pD_ | apply pA_); refine blk_put (cs := #[.int .i64 (Int.tmod (wrap64 (Int.tdiv t103 1048576)) 256), .int .i64 (Int.tmod t103 1048576), .int .i64 (wrap64 (bt a0 7)), .int .i64 x105003_1, .string (a0.extract 8 24), .string x102005_1, .slice none 0 0]) ?_ 5 _ rfl; (with_reducible repeat first | apply pN_ | apply pD_ | apply pA_); refine blk_put (cs := #[.int .i64 (Int.tmod (wrap64 (Int.tdiv t103 1048576)) 256), .int .i64 (Int.tmod t103 1048576), .int .i64 (wrap64 (bt a0 7)), .int .i64 x105003_1, .string x102004_1, .string x102005_1, .slice none 0 0]) ?_ 4 _ rfl; (with_reducible repeat first | apply pN_ | apply pD_ | apply pA_); refine blk_put (cs := #[.int .i64 (Int.tmod (wrap64 (Int.tdiv t103 1048576)) 256), .int .i64 (Int.tmod t103 1048576), .int .i64 (wrap64 (bt a0 7)), .int .i64 x102003_1, .string x102004_1, .string x102005_1, .slice none 0 0]) ?_ 3 _ rfl; (with_reducible repeat first | apply pN_ | apply pD_ | apply pA_); refine blk_put (cs := #[.int .i64 (Int.tmod (wrap64 (Int.tdiv t103 1048576)) 256), .int .i64 (Int.tmod t103 1048576), .int .i64 x102002_1, .int .i64 x102003_1, .string x102004_1, .string x102005_1, .slice none 0 0]) ?_ 2 _ rfl; (with_reducible repeat first | apply pN_ | apply pD_ | apply pA_); refine blk_put (cs := #[.int .i64 (Int.tmod (wrap64 (Int.tdiv t103 1048576)) 256), .int .i64 x102001_1, .int .i64 x102002_1, .int .i64 x102003_1, .string x102004_1, .string x102005_1, .slice none 0 0]) ?_ 1 _ rfl; (with_reducible repeat first | apply pN_ | apply pD_ | apply pA_); refine blk_put (cs := #[.int .i64 x102000_1, .int .i64 x102001_1, .int .i64 x102002_1, .int .i64 x102003_1, .string x102004_1, .string x102005_1, .slice none 0 0]) ?_ 0 _ rfl; (with_reducible repeat first | apply pN_ | apply pD_ | apply pA_); exact BK101.out) Try.underlying71 rfl (by kernel_rfl)) rfl ?_
       exact ⟨_, by first | rfl | (simp [errW_none, errW_some] <;> rfl) | (simp [*, errW_none, errW_some] <;> rfl), by (with_reducible repeat first | apply Kd.R_alloc | apply Kd.R_drewN | apply Kd.R_drew); exact Kd.R_mono (Kd.R_far (p := ⟨gb101, 6, none⟩) (Kd.R_far (p := ⟨gb101, 5, none⟩) (Kd.R_far (p := ⟨gb101, 4, none⟩) (Kd.R_far (p := ⟨gb101, 3, none⟩) (Kd.R_far (p := ⟨gb101, 2, none⟩) (Kd.R_far (p := ⟨gb101, 1, none⟩) (Kd.R_far (p := ⟨gb101, 0, none⟩) (Kd.R_types HO_105006.out BK101.out (by decide)) (fun _ hk => hk.2) (.int .i64 (Int.tmod (wrap64 (Int.tdiv t103 1048576)) 256))) (fun _ hk => hk.2) (.int .i64 (Int.tmod t103 1048576))) (fun _ hk => hk.2) (.int .i64 (wrap64 (bt a0 7)))) (fun _ hk => hk.2) (.int .i64 x105003_1)) (fun _ hk => hk.2) (.string (a0.extract 8 24))) (fun _ hk => hk.2) (.string (a0.extract 24 40))) (fun _ hk => hk.2) (.slice Ao106 x105006_1.length co106)) (fun _ hk => trivial), bU_ HB.out⟩
  ·rw [if_neg c7] at H
   have c7b0 : ((wrap64 (Int.tdiv (wrap64 (bt a0 0)) 16)) == 6) = false := beq_eq_false_iff_ne.mpr c7
   have c7b1 : ((wrap64 (Int.tdiv (wrap64 (bt a0 0)) 16)) != 6) = true := bne_iff_ne.mpr c7
   simp only [Option.some.injEq, Prod.mk.injEq] at H
   obtain ⟨rfl, rfl, rfl, rfl, rfl, rfl, rfl, rfl, rfl⟩ := H
   go_enter Try.func30, Try.ntmps30
   go_wp2_with (first | ((with_reducible refine gate_dst (N := 2) rfl ?_); (try (refine gate_guard (by rfl) ?_; dsimp only)); refine bE_ (N := 2) (cs := Z23_0) (t := 71) ?_; intro gb101 hg w107 hbox hb; have n0_ := Aside0.mk (below_step (bU_ HB.out) hb); have n1_ := Aside0.mk (hbox); have n2_ := Aside0.mk (bZ_ hg (bU_ HB.out) : w.heap.size ≤ gb101); have n3_ := n2_; clear HB; have HB := n0_; have BK101 := n1_; have GW101 := n2_; have GE101 := n3_; clear n0_ n1_ n2_ n3_; clear hb hbox hg; have p6 : 0 ≤ (0 : Int) := (by omega); have q6 : 0 < a0.size := (by have : (0 : Int) < (a0.size : Int) := oD_; omega); have hx6 : ∀ h : 0 < a0.size, ((a0[0]'h).toNat : Int) = bt a0 0 := bt_at a0 0; clear p6; have qi6 : (0 < (a0.size : Int)) = True := eq_true oD_; replace q6 := eq_true q6; have hcz108_0 : w107.cell? ⟨gb101, 0, none⟩ = some (.int .i64 0) := (blk_cell BK101.out 0).trans rfl; have hcz108_1 : w107.cell? ⟨gb101, 1, none⟩ = some (.int .i64 0) := (blk_cell BK101.out 1).trans rfl; have hcz108_2 : w107.cell? ⟨gb101, 2, none⟩ = some (.int .i64 0) := (blk_cell BK101.out 2).trans rfl; have hcz108_3 : w107.cell? ⟨gb101, 3, none⟩ = some (.int .i64 0) := (blk_cell BK101.out 3).trans rfl; have hcz108_4 : w107.cell? ⟨gb101, 4, none⟩ = some (.string ⟨#[]⟩) := (blk_cell BK101.out 4).trans rfl; have hcz108_5 : w107.cell? ⟨gb101, 5, none⟩ = some (.string ⟨#[]⟩) := (blk_cell BK101.out 5).trans rfl; have hcz108_6 : w107.cell? ⟨gb101, 6, none⟩ = some (.slice none 0 0) := (blk_cell BK101.out 6).trans rfl; have hfz108_0 := blk_frozen BK101.out 0; have hfz108_1 := blk_frozen BK101.out 1; have hfz108_2 := blk_frozen BK101.out 2; have hfz108_3 := blk_frozen BK101.out 3; have hfz108_4 := blk_frozen BK101.out 4; have hfz108_5 := blk_frozen BK101.out 5; have hfz108_6 := blk_frozen BK101.out 6))
   refine bodyPost_ret (results_ctt rfl _ _ gb101 71 #[.int .i64 0, .int .i64 0, .int .i64 0, .int .i64 0, .string ⟨#[]⟩, .string ⟨#[]⟩, .slice none 0 0] (0, 0) _ rfl (by (with_reducible repeat first | apply pN_ | apply pD_ | apply pA_); refine blk_put (cs := Z23_0) ?_ 6 _ rfl; (with_reducible repeat first | apply pN_ | apply pD_ | apply pA_); refine blk_put (cs := Z23_0) ?_ 5 _ rfl; (with_reducible repeat first | apply pN_ | apply pD_ | apply pA_); refine blk_put (cs := Z23_0) ?_ 4 _ rfl; (with_reducible repeat first | apply pN_ | apply pD_ | apply pA_); refine blk_put (cs := Z23_0) ?_ 3 _ rfl; (with_reducible repeat first | apply pN_ | apply pD_ | apply pA_); refine blk_put (cs := Z23_0) ?_ 2 _ rfl; (with_reducible repeat first | apply pN_ | apply pD_ | apply pA_); refine blk_put (cs := Z23_0) ?_ 1 _ rfl; (with_reducible repeat first | apply pN_ | apply pD_ | apply pA_); refine blk_put (cs := Z23_0) ?_ 0 _ rfl; (with_reducible repeat first | apply pN_ | apply pD_ | apply pA_); exact BK101.out) Try.underlying71 rfl (by kernel_rfl)) rfl ?_
   exact ⟨_, by first | rfl | (simp [errW_none, errW_some] <;> rfl) | (simp [*, errW_none, errW_some] <;> rfl), by first | exact Kd.R_nil _ _ _ _ _ | exact Kd.N_nil _ _ _ _ _ | exact Kd.V_nil _ _ _ _ _ | exact Kd.Q_nil _ _ _ _ _ | exact Kd.S_nil _ _ _ _ _, bU_ HB.out⟩
end Go.Proofs.Ytfdhifigndmgaaa.Q
