-- made by a program of this session (wip/print-patch.py, over the kit's print)
import Derived.Test.YtfdhifigndmgaaaQx0
import Derived.Test.YtfdhifigndmgaaaQx19
import Derived.Test.YtfdhifigndmgaaaQx21
import Derived.Test.YtfdhifigndmgaaaQx23
import Derived.Test.YtfdhifigndmgaaaQx24
import Derived.Test.YtfdhifigndmgaaaQx25
namespace Go.Proofs.Ytfdhifigndmgaaa.Q
open Go.RowKit Go.Proofs.YtfdhifigndmgaaaW.PrintWords Go.Proofs.YtfdhifigndmgaaaW.PrintLast Go.Proofs.YtfdhifigndmgaaaW.PrintMore
attribute [local go_sem] max2_int min2_int max_two min_two max_three min_three max_four min_four   -- for this text's walks alone
set_option linter.unusedVariables false
set_option linter.unusedSimpArgs false

attribute [local go_sem] cell_twice_ cell_twiceN_
abbrev Z26_0 : Array Value := #[.string ⟨#[]⟩, .string ⟨#[]⟩, .int .i64 0, .int .i64 0, .int .i64 0]
abbrev Z26_1 : Array Value := #[.string ⟨#[]⟩, .string ⟨#[]⟩, .slice none 0 0, .int .i64 0]
/-! ### rillmeterref09_Extract: function 19 -/
mutual
def rillmeterref09_Extract.j0 : Nat → ByteArray → ByteArray → ByteArray → Int → Int → Int → Option (ByteArray × ByteArray × Int × Int × Int × Int)
 | 0, _, _, _, _, _, _ => none
 | k + 1, x8, x112000, x112001, x112002, x112003, x112004 => if x112002 = 6 then (rillmeterref09_Extract.j1 k x8 true x112000 x112001 x112002 x112003 x112004) else (rillmeterref09_Extract.j1 k x8 (x112002 == 17) x112000 x112001 x112002 x112003 x112004)
def rillmeterref09_Extract.j1 : Nat → ByteArray → Bool → ByteArray → ByteArray → Int → Int → Int → Option (ByteArray × ByteArray × Int × Int × Int × Int)
 | 0, _, _, _, _, _, _, _ => none
 | k + 1, x8, x105, x112000, x112001, x112002, x112003, x112004 => if x105 = true then ((rillmeterref08_Take.f k x112002 x8).bind fun bt143 => (if bt143.2.2.2 = 0 then (some (x112000, x112001, x112002, bt143.1, bt143.2.1, 0)) else (some ((⟨#[]⟩ : ByteArray), (⟨#[]⟩ : ByteArray), 0, 0, 0, bt143.2.2.2)))) else (some (x112000, x112001, x112002, x112003, x112004, 0))
end
def rillmeterref09_Extract.f (k : Nat) (a0 : ByteArray) : Option (ByteArray × ByteArray × Int × Int × Int × Int) := if (a0.size : Int) > 2048 then (some ((⟨#[]⟩ : ByteArray), (⟨#[]⟩ : ByteArray), 0, 0, 0, 4)) else ((rillmeterref05_Take.f k a0).bind fun bt102 => (if bt102.2.2.2.2.2 = 0 then (if bt102.2.2.2.1 = 2048 then ((rillmeterref06_Take.f k bt102.2.2.2.2.1).bind fun bt112 => (if bt112.2.2.2.2.2.2.2.2.2.2 = 0 then (if bt112.2.2.2.1 > 0 then (some ((⟨#[]⟩ : ByteArray), (⟨#[]⟩ : ByteArray), 0, 0, 0, 14)) else (if 10 ≤ 281474976710656 then ((some (List.replicate 10 0 : List Int)).bind fun y124 => ((some (([255, 255] : List Int) : List Int)).bind fun y127 => (if (strOfNums y124).size + (strOfNums y127).size ≤ 9223372036854775807 then (if ((strOfNums y124) ++ (strOfNums y127)).size + bt112.2.2.2.2.2.2.1.size ≤ 9223372036854775807 then (if ((strOfNums y124) ++ (strOfNums y127)).size + bt112.2.2.2.2.2.2.2.1.size ≤ 9223372036854775807 then (rillmeterref09_Extract.j0 k bt112.2.2.2.2.2.2.2.2.2.1 (((strOfNums y124) ++ (strOfNums y127)) ++ bt112.2.2.2.2.2.2.1) (((strOfNums y124) ++ (strOfNums y127)) ++ bt112.2.2.2.2.2.2.2.1) bt112.2.2.2.2.2.1 0 0) else (none)) else (none)) else (none)))) else (none))) else (some ((⟨#[]⟩ : ByteArray), (⟨#[]⟩ : ByteArray), 0, 0, 0, bt112.2.2.2.2.2.2.2.2.2.2)))) else (if bt102.2.2.2.1 = 34525 then ((rillmeterref07_Take.f k bt102.2.2.2.2.1).bind fun bt130 => (if bt130.2.2.2.2.2.2.2.2 = 0 then ((rillmeterref07_Piece.f k bt130.1 bt130.2.1 bt130.2.2.1 bt130.2.2.2.1 bt130.2.2.2.2.1 bt130.2.2.2.2.2.1 bt130.2.2.2.2.2.2.1).bind fun t142 => (if t142 = true then (some ((⟨#[]⟩ : ByteArray), (⟨#[]⟩ : ByteArray), 0, 0, 0, 14)) else (rillmeterref09_Extract.j0 k bt130.2.2.2.2.2.2.2.1 bt130.2.2.2.2.1 bt130.2.2.2.2.2.1 bt130.2.2.2.1 0 0))) else (some ((⟨#[]⟩ : ByteArray), (⟨#[]⟩ : ByteArray), 0, 0, 0, bt130.2.2.2.2.2.2.2.2)))) else (some ((⟨#[]⟩ : ByteArray), (⟨#[]⟩ : ByteArray), 0, 0, 0, 8)))) else (some ((⟨#[]⟩ : ByteArray), (⟨#[]⟩ : ByteArray), 0, 0, 0, bt102.2.2.2.2.2))))
theorem rillmeterref09_Extract.mono_l : ∀ k, (∀ y0 y1 y2 y3 y4 y5, LeO (rillmeterref09_Extract.j0 k y0 y1 y2 y3 y4 y5) (rillmeterref09_Extract.j0 (k + 1) y0 y1 y2 y3 y4 y5)) ∧ (∀ y0 y1 y2 y3 y4 y5 y6, LeO (rillmeterref09_Extract.j1 k y0 y1 y2 y3 y4 y5 y6) (rillmeterref09_Extract.j1 (k + 1) y0 y1 y2 y3 y4 y5 y6))
 | 0 => ⟨fun _ _ _ _ _ _ r h => by simp [rillmeterref09_Extract.j0] at h, fun _ _ _ _ _ _ _ r h => by simp [rillmeterref09_Extract.j1] at h⟩
 | k + 1 => by
  obtain ⟨ih0, ih1⟩ := rillmeterref09_Extract.mono_l k
  refine ⟨?_, ?_⟩
  ·intro y0 y1 y2 y3 y4 y5
   unfold rillmeterref09_Extract.j0
   repeat' first
   | (with_reducible exact ih0 _ _ _ _ _ _)
   | (with_reducible exact ih1 _ _ _ _ _ _ _)
   | (with_reducible exact rillmeterref05_Take.mono _ _)
   | (with_reducible exact rillmeterref06_Take.mono _ _)
   | (with_reducible exact rillmeterref07_Piece.mono _ _ _ _ _ _ _ _)
   | (with_reducible exact rillmeterref07_Take.mono _ _)
   | (with_reducible exact rillmeterref08_Take.mono _ _ _)
   | (with_reducible exact LeO.refl _)
   | (with_reducible exact LeO.none _)
   | (with_reducible refine LeO.ite ?_ ?_)
   | (with_reducible refine LeO.bind ?_ (fun _ => ?_))
   | exact ih0 _ _ _ _ _ _
   | exact ih1 _ _ _ _ _ _ _
   | exact rillmeterref05_Take.mono _ _
   | exact rillmeterref06_Take.mono _ _
   | exact rillmeterref07_Piece.mono _ _ _ _ _ _ _ _
   | exact rillmeterref07_Take.mono _ _
   | exact rillmeterref08_Take.mono _ _ _
   | exact LeO.none _
   | refine LeO.ite ?_ ?_
   | refine LeO.bind ?_ (fun _ => ?_)
  ·intro y0 y1 y2 y3 y4 y5 y6
   unfold rillmeterref09_Extract.j1
   repeat' first
   | (with_reducible exact ih0 _ _ _ _ _ _)
   | (with_reducible exact ih1 _ _ _ _ _ _ _)
   | (with_reducible exact rillmeterref05_Take.mono _ _)
   | (with_reducible exact rillmeterref06_Take.mono _ _)
   | (with_reducible exact rillmeterref07_Piece.mono _ _ _ _ _ _ _ _)
   | (with_reducible exact rillmeterref07_Take.mono _ _)
   | (with_reducible exact rillmeterref08_Take.mono _ _ _)
   | (with_reducible exact LeO.refl _)
   | (with_reducible exact LeO.none _)
   | (with_reducible refine LeO.ite ?_ ?_)
   | (with_reducible refine LeO.bind ?_ (fun _ => ?_))
   | exact ih0 _ _ _ _ _ _
   | exact ih1 _ _ _ _ _ _ _
   | exact rillmeterref05_Take.mono _ _
   | exact rillmeterref06_Take.mono _ _
   | exact rillmeterref07_Piece.mono _ _ _ _ _ _ _ _
   | exact rillmeterref07_Take.mono _ _
   | exact rillmeterref08_Take.mono _ _ _
   | exact LeO.none _
   | refine LeO.ite ?_ ?_
   | refine LeO.bind ?_ (fun _ => ?_)
theorem rillmeterref09_Extract.mono : ∀ a0 k, LeO (rillmeterref09_Extract.f k a0) (rillmeterref09_Extract.f (k + 1) a0) := by
 intro a0 k
 obtain ⟨ih0, ih1⟩ := rillmeterref09_Extract.mono_l k
 unfold rillmeterref09_Extract.f
 repeat' first
   | (with_reducible exact ih0 _ _ _ _ _ _)
   | (with_reducible exact ih1 _ _ _ _ _ _ _)
   | (with_reducible exact rillmeterref05_Take.mono _ _)
   | (with_reducible exact rillmeterref06_Take.mono _ _)
   | (with_reducible exact rillmeterref07_Piece.mono _ _ _ _ _ _ _ _)
   | (with_reducible exact rillmeterref07_Take.mono _ _)
   | (with_reducible exact rillmeterref08_Take.mono _ _ _)
   | (with_reducible exact LeO.refl _)
   | (with_reducible exact LeO.none _)
   | (with_reducible refine LeO.ite ?_ ?_)
   | (with_reducible refine LeO.bind ?_ (fun _ => ?_))
   | exact ih0 _ _ _ _ _ _
   | exact ih1 _ _ _ _ _ _ _
   | exact rillmeterref05_Take.mono _ _
   | exact rillmeterref06_Take.mono _ _
   | exact rillmeterref07_Piece.mono _ _ _ _ _ _ _ _
   | exact rillmeterref07_Take.mono _ _
   | exact rillmeterref08_Take.mono _ _ _
   | exact LeO.none _
   | refine LeO.ite ?_ ?_
   | refine LeO.bind ?_ (fun _ => ?_)
def rillmeterref09_Extract.T17 : Bool × List (List Nat × List Nat) := (true, [([], []), ([], []), ([1], [1]), ([0, 2], [0, 2]), ([], []), ([], []), ([5], [5]), ([4, 6], [4, 6]), ([], []), ([8], [8]), ([0, 1, 2, 3], []), ([10, 3, 0, 1, 2, 3], [3, 10]), ([0, 1, 2, 3, 4, 5, 6, 7, 10, 11], []), ([12, 7, 11, 0, 1, 2, 3, 4, 5, 6, 7, 10, 11], [7, 12]), ([0, 1, 2, 3, 4, 5, 6, 7, 8, 9, 10, 11, 12, 13], []), ([14, 9, 13, 0, 1, 2, 3, 4, 5, 6, 7, 8, 9, 10, 11, 12, 13], [9, 14])])
def rillmeterref09_Extract.B17 : List Nat := [0, 0, 2, 7, 0, 0, 32, 112, 0, 256, 15, 1039, 3327, 7423, 16383, 32767]
theorem rillmeterref09_Extract.tab17 : rtab .any (opsOf Try.f19 17) = rillmeterref09_Extract.T17 := by kernel_rfl
theorem rillmeterref09_Extract.bits17 : waitsOk rillmeterref09_Extract.T17.2 rillmeterref09_Extract.B17 = true := by kernel_rfl
def rillmeterref09_Extract.T25 : Bool × List (List Nat × List Nat) := (true, [([], []), ([0], [0]), ([], []), ([2], [2]), ([], []), ([4], [4]), ([0, 1], []), ([6, 1, 0, 1], [1, 6]), ([0, 1, 2, 3, 6, 7], []), ([8, 3, 7, 0, 1, 2, 3, 6, 7], [3, 8]), ([0, 1, 2, 3, 4, 5, 6, 7, 8, 9], []), ([10, 5, 9, 0, 1, 2, 3, 4, 5, 6, 7, 8, 9], [5, 10])])
def rillmeterref09_Extract.B25 : List Nat := [0, 1, 0, 4, 0, 16, 3, 67, 207, 463, 1023, 2047]
theorem rillmeterref09_Extract.tab25 : rtab .any (opsOf Try.f19 25) = rillmeterref09_Extract.T25 := by kernel_rfl
theorem rillmeterref09_Extract.bits25 : waitsOk rillmeterref09_Extract.T25.2 rillmeterref09_Extract.B25 = true := by kernel_rfl
set_option maxHeartbeats 8000000 in
set_option maxRecDepth 100000 in
theorem rillmeterref09_Extract.calls (k : Nat) (a0 : ByteArray) (r1 : ByteArray) (r2 : ByteArray) (r3 : Int) (r4 : Int) (r5 : Int) (r6 : Int) (w : World) (h : rillmeterref09_Extract.f k a0 = some (r1, r2, r3, r4, r5, r6)) :
  Calls Try.prog 19 #[.string a0] w fun e w' => e = .returned (.tuple #[.agg #[.string r1, .string r2, .int .i64 r3, .int .i64 r4, .int .i64 r5], .int .i64 r6]) ∧ Below w.heap.size w w' := by
 have hu23 := Try.underlying23
 have hu63 := Try.underlying63
 have hu66 := Try.underlying66
 have hu71 := Try.underlying71
 have HB := Aside0.mk (Below.refl w.heap.size w)
 have H : (if (a0.size : Int) > 2048 then (some ((⟨#[]⟩ : ByteArray), (⟨#[]⟩ : ByteArray), 0, 0, 0, 4)) else ((rillmeterref05_Take.f k a0).bind fun bt102 => (if bt102.2.2.2.2.2 = 0 then (if bt102.2.2.2.1 = 2048 then ((rillmeterref06_Take.f k bt102.2.2.2.2.1).bind fun bt112 => (if bt112.2.2.2.2.2.2.2.2.2.2 = 0 then (if bt112.2.2.2.1 > 0 then (some ((⟨#[]⟩ : ByteArray), (⟨#[]⟩ : ByteArray), 0, 0, 0, 14)) else (if 10 ≤ 281474976710656 then ((some (List.replicate 10 0 : List Int)).bind fun y124 => ((some (([255, 255] : List Int) : List Int)).bind fun y127 => (if (strOfNums y124).size + (strOfNums y127).size ≤ 9223372036854775807 then (if ((strOfNums y124) ++ (strOfNums y127)).size + bt112.2.2.2.2.2.2.1.size ≤ 9223372036854775807 then (if ((strOfNums y124) ++ (strOfNums y127)).size + bt112.2.2.2.2.2.2.2.1.size ≤ 9223372036854775807 then (rillmeterref09_Extract.j0 k bt112.2.2.2.2.2.2.2.2.2.1 (((strOfNums y124) ++ (strOfNums y127)) ++ bt112.2.2.2.2.2.2.1) (((strOfNums y124) ++ (strOfNums y127)) ++ bt112.2.2.2.2.2.2.2.1) bt112.2.2.2.2.2.1 0 0) else (none)) else (none)) else (none)))) else (none))) else (some ((⟨#[]⟩ : ByteArray), (⟨#[]⟩ : ByteArray), 0, 0, 0, bt112.2.2.2.2.2.2.2.2.2.2)))) else (if bt102.2.2.2.1 = 34525 then ((rillmeterref07_Take.f k bt102.2.2.2.2.1).bind fun bt130 => (if bt130.2.2.2.2.2.2.2.2 = 0 then ((rillmeterref07_Piece.f k bt130.1 bt130.2.1 bt130.2.2.1 bt130.2.2.2.1 bt130.2.2.2.2.1 bt130.2.2.2.2.2.1 bt130.2.2.2.2.2.2.1).bind fun t142 => (if t142 = true then (some ((⟨#[]⟩ : ByteArray), (⟨#[]⟩ : ByteArray), 0, 0, 0, 14)) else (rillmeterref09_Extract.j0 k bt130.2.2.2.2.2.2.2.1 bt130.2.2.2.2.1 bt130.2.2.2.2.2.1 bt130.2.2.2.1 0 0))) else (some ((⟨#[]⟩ : ByteArray), (⟨#[]⟩ : ByteArray), 0, 0, 0, bt130.2.2.2.2.2.2.2.2)))) else (some ((⟨#[]⟩ : ByteArray), (⟨#[]⟩ : ByteArray), 0, 0, 0, 8)))) else (some ((⟨#[]⟩ : ByteArray), (⟨#[]⟩ : ByteArray), 0, 0, 0, bt102.2.2.2.2.2))))) = some (r1, r2, r3, r4, r5, r6) := h
 clear h
 by_cases c2 : (a0.size : Int) > 2048
 ·rw [if_pos c2] at H
  have c2b0 : decide (2048 < (a0.size : Int)) = true := decide_eq_true c2
  have c2b1 : decide (2048 < a0.size) = true := decide_eq_true (by omega)
  clear c2
  simp only [Option.some.injEq, Prod.mk.injEq] at H
  obtain ⟨rfl, rfl, rfl, rfl, rfl, rfl⟩ := H
  go_enter Try.func19, Try.ntmps19
  go_wp2_with (first | ((with_reducible refine gate_dst (N := 2) rfl ?_); refine bE_ (N := 2) (cs := Z26_0) (t := 23) ?_; intro gb101 hg w3 hbox hb; have n0_ := Aside0.mk (below_step (bU_ HB.out) hb); have n1_ := Aside0.mk (hbox); have n2_ := Aside0.mk (bZ_ hg (bU_ HB.out) : w.heap.size ≤ gb101); have n3_ := n2_; clear HB; have HB := n0_; have BK101 := n1_; have GW101 := n2_; have GE101 := n3_; clear n0_ n1_ n2_ n3_; clear hb hbox hg; have hcz4_0 : w3.cell? ⟨gb101, 0, none⟩ = some (.string ⟨#[]⟩) := (blk_cell BK101.out 0).trans rfl; have hcz4_1 : w3.cell? ⟨gb101, 1, none⟩ = some (.string ⟨#[]⟩) := (blk_cell BK101.out 1).trans rfl; have hcz4_2 : w3.cell? ⟨gb101, 2, none⟩ = some (.int .i64 0) := (blk_cell BK101.out 2).trans rfl; have hcz4_3 : w3.cell? ⟨gb101, 3, none⟩ = some (.int .i64 0) := (blk_cell BK101.out 3).trans rfl; have hcz4_4 : w3.cell? ⟨gb101, 4, none⟩ = some (.int .i64 0) := (blk_cell BK101.out 4).trans rfl; have hfz4_0 := blk_frozen BK101.out 0; have hfz4_1 := blk_frozen BK101.out 1; have hfz4_2 := blk_frozen BK101.out 2; have hfz4_3 := blk_frozen BK101.out 3; have hfz4_4 := blk_frozen BK101.out 4))
  refine bodyPost_ret (results_ct rfl _ _ gb101 23 #[.string ⟨#[]⟩, .string ⟨#[]⟩, .int .i64 0, .int .i64 0, .int .i64 0] (0, 0) _ rfl (by (with_reducible repeat first | apply pN_ | apply pD_ | apply pA_); refine blk_put (cs := Z26_0) ?_ 4 _ rfl; (with_reducible repeat first | apply pN_ | apply pD_ | apply pA_); refine blk_put (cs := Z26_0) ?_ 3 _ rfl; (with_reducible repeat first | apply pN_ | apply pD_ | apply pA_); refine blk_put (cs := Z26_0) ?_ 2 _ rfl; (with_reducible repeat first | apply pN_ | apply pD_ | apply pA_); refine blk_put (cs := Z26_0) ?_ 1 _ rfl; (with_reducible repeat first | apply pN_ | apply pD_ | apply pA_); refine blk_put (cs := Z26_0) ?_ 0 _ rfl; (with_reducible repeat first | apply pN_ | apply pD_ | apply pA_); exact BK101.out) Try.underlying23 rfl (by kernel_rfl)) rfl ?_
  exact rE_ (bU_ HB.out)
 ·rw [if_neg c2] at H
  have c2b0 : decide (2048 < (a0.size : Int)) = false := decide_eq_false c2
  have c2b1 : decide (2048 < a0.size) = false := decide_eq_false (by omega)
  clear c2
  replace H := Option.bind_eq_some_iff.mp H
  obtain ⟨⟨t102, t103, t104, t107, t108, t109⟩, A50, H⟩ := H
  replace H : (if t109 = 0 then (if t107 = 2048 then ((rillmeterref06_Take.f k t108).bind fun bt112 => (if bt112.2.2.2.2.2.2.2.2.2.2 = 0 then (if bt112.2.2.2.1 > 0 then (some ((⟨#[]⟩ : ByteArray), (⟨#[]⟩ : ByteArray), 0, 0, 0, 14)) else (if 10 ≤ 281474976710656 then ((some (List.replicate 10 0 : List Int)).bind fun y124 => ((some (([255, 255] : List Int) : List Int)).bind fun y127 => (if (strOfNums y124).size + (strOfNums y127).size ≤ 9223372036854775807 then (if ((strOfNums y124) ++ (strOfNums y127)).size + bt112.2.2.2.2.2.2.1.size ≤ 9223372036854775807 then (if ((strOfNums y124) ++ (strOfNums y127)).size + bt112.2.2.2.2.2.2.2.1.size ≤ 9223372036854775807 then (rillmeterref09_Extract.j0 k bt112.2.2.2.2.2.2.2.2.2.1 (((strOfNums y124) ++ (strOfNums y127)) ++ bt112.2.2.2.2.2.2.1) (((strOfNums y124) ++ (strOfNums y127)) ++ bt112.2.2.2.2.2.2.2.1) bt112.2.2.2.2.2.1 0 0) else (none)) else (none)) else (none)))) else (none))) else (some ((⟨#[]⟩ : ByteArray), (⟨#[]⟩ : ByteArray), 0, 0, 0, bt112.2.2.2.2.2.2.2.2.2.2)))) else (if t107 = 34525 then ((rillmeterref07_Take.f k t108).bind fun bt130 => (if bt130.2.2.2.2.2.2.2.2 = 0 then ((rillmeterref07_Piece.f k bt130.1 bt130.2.1 bt130.2.2.1 bt130.2.2.2.1 bt130.2.2.2.2.1 bt130.2.2.2.2.2.1 bt130.2.2.2.2.2.2.1).bind fun t142 => (if t142 = true then (some ((⟨#[]⟩ : ByteArray), (⟨#[]⟩ : ByteArray), 0, 0, 0, 14)) else (rillmeterref09_Extract.j0 k bt130.2.2.2.2.2.2.2.1 bt130.2.2.2.2.1 bt130.2.2.2.2.2.1 bt130.2.2.2.1 0 0))) else (some ((⟨#[]⟩ : ByteArray), (⟨#[]⟩ : ByteArray), 0, 0, 0, bt130.2.2.2.2.2.2.2.2)))) else (some ((⟨#[]⟩ : ByteArray), (⟨#[]⟩ : ByteArray), 0, 0, 0, 8)))) else (some ((⟨#[]⟩ : ByteArray), (⟨#[]⟩ : ByteArray), 0, 0, 0, t109))) = some (r1, r2, r3, r4, r5, r6) := H
  have A5 := Aside0.mk A50
  clear A50
  have HC6 := Aside0.mk H
  clear H
  go_enter Try.func19, Try.ntmps19
  go_upto_if 31 with (first | ((with_reducible refine gate_dst (N := 2) rfl ?_); refine bE_ (N := 2) (cs := Z26_0) (t := 23) ?_; intro gb101 hg w7 hbox hb; have n0_ := Aside0.mk (below_step (bU_ HB.out) hb); have n1_ := Aside0.mk (hbox); have n2_ := Aside0.mk (bZ_ hg (bU_ HB.out) : w.heap.size ≤ gb101); have n3_ := n2_; clear HB; have HB := n0_; have BK101 := n1_; have GW101 := n2_; have GE101 := n3_; clear n0_ n1_ n2_ n3_; clear hb hbox hg) | ((with_reducible refine gate_callee (f := 28) rfl ?_); refine gL_ (some 26) rfl rfl Try.func28 (by kernel_rfl) rfl #[.string a0] rfl ?_; (with_reducible refine (rillmeterref05_Take.calls k a0 t102 t103 t104 t107 t108 t109 _ A5.out).mono ?_); rintro e w8 ⟨v105, rfl, ho0, hb⟩; refine ⟨_, rfl, ?_⟩; have n0_ := Aside0.mk (Kd.R_lower ho0 (below_size (bU_ HB.out))); have n1_ := Aside0.mk (bB_ BK101.out hb); have n2_ := Aside0.mk (below_step (bU_ HB.out) hb); clear BK101 HB; have HO106 := n0_; have BK101 := n1_; have HB := n2_; clear n0_ n1_ n2_; (try clear hb); (try clear hb2); (try clear hk); (try clear hi); (try clear ho0)) | ((with_reducible refine gate_dst (N := 4) rfl ?_); refine bE_ (N := 4) (cs := Z26_1) (t := 63) ?_; intro gb110 hg w9 hbox hb; have n0_ := Aside0.mk (rB_ HO106.out hb); have n1_ := Aside0.mk (bB_ BK101.out hb); have n2_ := Aside0.mk (below_step (bU_ HB.out) hb); have n3_ := Aside0.mk (hbox); have n4_ := Aside0.mk (bZ_ hg (bU_ HB.out) : w.heap.size ≤ gb110); have n5_ := n4_; have n6_ := Aside0.mk ((bN_ hg BK101.out : gb101 ≠ gb110)); have n7_ := Aside0.mk (Ne.symm n6_.out); clear HO106 BK101 HB; have HO106 := n0_; have BK101 := n1_; have HB := n2_; have BK110 := n3_; have GW110 := n4_; have GE110 := n5_; have NB101_110 := n6_; have NB110_101 := n7_; clear n0_ n1_ n2_ n3_ n4_ n5_ n6_ n7_; clear hb hbox hg; have hnb10 := NB110_101.out; have hnc10 := NB101_110.out; have hcz11_0 : w9.cell? ⟨gb110, 0, none⟩ = some (.string ⟨#[]⟩) := (blk_cell BK110.out 0).trans rfl; have hcz11_1 : w9.cell? ⟨gb110, 1, none⟩ = some (.string ⟨#[]⟩) := (blk_cell BK110.out 1).trans rfl; have hcz11_2 : w9.cell? ⟨gb110, 2, none⟩ = some (.slice none 0 0) := (blk_cell BK110.out 2).trans rfl; have hcz11_3 : w9.cell? ⟨gb110, 3, none⟩ = some (.int .i64 0) := (blk_cell BK110.out 3).trans rfl; have hfz11_0 := blk_frozen BK110.out 0; have hfz11_1 := blk_frozen BK110.out 1; have hfz11_2 := blk_frozen BK110.out 2; have hfz11_3 := blk_frozen BK110.out 3; obtain ⟨Ao12, co12, eo12⟩ := Kd.R_slice HO106.out; subst eo12))
  (try simp only [Act.put, s1_, s2_, s3_])
  have H := HC6.out
  clear HC6
  by_cases c13 : t109 = 0
  ·rw [if_pos c13] at H
   have c13b0 : (t109 == 0) = true := beq_iff_eq.mpr c13
   have c13b1 : (t109 != 0) = false := bne_eq_false_iff_eq.mpr c13
   clear c13
   (first | rw [c13b0] | (simp only [i64_w, i32_w]; rw [c13b0]) | skip)
   have HC14 := Aside0.mk H
   clear H
   go_upto_block 0 with (first | ((with_reducible refine gate_dst (N := 7) rfl ?_); refine bE_ (N := 7) (cs := Z26_0) (t := 23) ?_; intro gb111 hg w15 hbox hb; have n0_ := Aside0.mk (Kd.R_below (by (with_reducible repeat first | apply Kd.R_alloc | apply Kd.R_drewN | apply Kd.R_drew); exact (Kd.R_mono (Kd.R_far (p := ⟨gb110, 3, none⟩) (Kd.R_far (p := ⟨gb110, 2, none⟩) (Kd.R_far (p := ⟨gb110, 1, none⟩) (Kd.R_far (p := ⟨gb110, 0, none⟩) (Kd.R_types HO106.out BK110.out (by decide)) (fun _ hk => hk.2) (.string t102)) (fun _ hk => hk.2) (.string t103)) (fun _ hk => hk.2) (.slice Ao12 t104.length co12)) (fun _ hk => hk.2) (.int .i64 t107)) (fun _ h_ => h_.1))) hb); have n1_ := Aside0.mk (blk_below (g := gb101) (o := .cells Z26_0 23 (0, 0)) (by (iterate 4 ((with_reducible repeat first | apply pN_ | apply pD_ | apply pA_); refine blk_far ?_ NB101_110.out _)); (with_reducible repeat first | apply pN_ | apply pD_ | apply pA_); exact BK101.out) hb); have n2_ := Aside0.mk (blk_below (g := gb110) (o := .cells #[.string t102, .string t103, .slice Ao12 t104.length co12, .int .i64 t107] 63 (0, 0)) (by (with_reducible repeat first | apply pN_ | apply pD_ | apply pA_); refine blk_put (cs := #[.string t102, .string t103, .slice Ao12 t104.length co12, .int .i64 0]) ?_ 3 _ rfl; (with_reducible repeat first | apply pN_ | apply pD_ | apply pA_); refine blk_put (cs := #[.string t102, .string t103, .slice none 0 0, .int .i64 0]) ?_ 2 _ rfl; (with_reducible repeat first | apply pN_ | apply pD_ | apply pA_); refine blk_put (cs := #[.string t102, .string ⟨#[]⟩, .slice none 0 0, .int .i64 0]) ?_ 1 _ rfl; (with_reducible repeat first | apply pN_ | apply pD_ | apply pA_); refine blk_put (cs := Z26_1) ?_ 0 _ rfl; (with_reducible repeat first | apply pN_ | apply pD_ | apply pA_); exact BK110.out) hb); have n3_ := Aside0.mk (below_step (bU_ HB.out) hb); have n4_ := Aside0.mk (hbox); have n5_ := Aside0.mk (bZ_ hg (bU_ HB.out) : w.heap.size ≤ gb111); have n6_ := n5_; have n7_ := Aside0.mk ((by rw [hg]; exact Nat.ne_of_lt (blk_lt (g := gb101) (o := .cells Z26_0 23 (0, 0)) (by (iterate 4 ((with_reducible repeat first | apply pN_ | apply pD_ | apply pA_); refine blk_far ?_ NB101_110.out _)); (with_reducible repeat first | apply pN_ | apply pD_ | apply pA_); exact BK101.out)) : gb101 ≠ gb111)); have n8_ := Aside0.mk (Ne.symm n7_.out); have n9_ := Aside0.mk ((by rw [hg]; exact Nat.ne_of_lt (blk_lt (g := gb110) (o := .cells #[.string t102, .string t103, .slice Ao12 t104.length co12, .int .i64 t107] 63 (0, 0)) (by (with_reducible repeat first | apply pN_ | apply pD_ | apply pA_); refine blk_put (cs := #[.string t102, .string t103, .slice Ao12 t104.length co12, .int .i64 0]) ?_ 3 _ rfl; (with_reducible repeat first | apply pN_ | apply pD_ | apply pA_); refine blk_put (cs := #[.string t102, .string t103, .slice none 0 0, .int .i64 0]) ?_ 2 _ rfl; (with_reducible repeat first | apply pN_ | apply pD_ | apply pA_); refine blk_put (cs := #[.string t102, .string ⟨#[]⟩, .slice none 0 0, .int .i64 0]) ?_ 1 _ rfl; (with_reducible repeat first | apply pN_ | apply pD_ | apply pA_); refine blk_put (cs := Z26_1) ?_ 0 _ rfl; (with_reducible repeat first | apply pN_ | apply pD_ | apply pA_); exact BK110.out)) : gb110 ≠ gb111)); have n10_ := Aside0.mk (Ne.symm n9_.out); clear HO106 BK101 BK110 HB; have HO106 := n0_; have BK101 := n1_; have BK110 := n2_; have HB := n3_; have BK111 := n4_; have GW111 := n5_; have GE111 := n6_; have NB101_111 := n7_; have NB111_101 := n8_; have NB110_111 := n9_; have NB111_110 := n10_; clear n0_ n1_ n2_ n3_ n4_ n5_ n6_ n7_ n8_ n9_ n10_; clear hb hbox hg; have hnb16 := NB111_101.out; have hnc16 := NB101_111.out; have hnb17 := NB111_110.out; have hnc17 := NB110_111.out; have hcz18_0 : w15.cell? ⟨gb111, 0, none⟩ = some (.string ⟨#[]⟩) := (blk_cell BK111.out 0).trans rfl; have hcz18_1 : w15.cell? ⟨gb111, 1, none⟩ = some (.string ⟨#[]⟩) := (blk_cell BK111.out 1).trans rfl; have hcz18_2 : w15.cell? ⟨gb111, 2, none⟩ = some (.int .i64 0) := (blk_cell BK111.out 2).trans rfl; have hcz18_3 : w15.cell? ⟨gb111, 3, none⟩ = some (.int .i64 0) := (blk_cell BK111.out 3).trans rfl; have hcz18_4 : w15.cell? ⟨gb111, 4, none⟩ = some (.int .i64 0) := (blk_cell BK111.out 4).trans rfl; have hfz18_0 := blk_frozen BK111.out 0; have hfz18_1 := blk_frozen BK111.out 1; have hfz18_2 := blk_frozen BK111.out 2; have hfz18_3 := blk_frozen BK111.out 3; have hfz18_4 := blk_frozen BK111.out 4; have hnb19 := NB110_101.out; have hnc19 := NB101_110.out; have hcz20_0 : w15.cell? ⟨gb110, 0, none⟩ = some (.string t102) := (blk_cell BK110.out 0).trans rfl; have hcz20_1 : w15.cell? ⟨gb110, 1, none⟩ = some (.string t103) := (blk_cell BK110.out 1).trans rfl; have hcz20_2 : w15.cell? ⟨gb110, 2, none⟩ = some (.slice Ao12 t104.length co12) := (blk_cell BK110.out 2).trans rfl; have hcz20_3 : w15.cell? ⟨gb110, 3, none⟩ = some (.int .i64 t107) := (blk_cell BK110.out 3).trans rfl; have hfz20_0 := blk_frozen BK110.out 0; have hfz20_1 := blk_frozen BK110.out 1; have hfz20_2 := blk_frozen BK110.out 2; have hfz20_3 := blk_frozen BK110.out 3))
   (try simp only [Act.put, s1_, s2_, s3_])
   go_cut [8] (fun v8 wc => ∃ (kq : Nat) (x8_13 : ByteArray) (x102000_13 : ByteArray) (x102001_13 : ByteArray) (x102002_13 : Int) (x102003_13 : Int) (x102004_13 : Int) (x112000_13 : ByteArray) (x112001_13 : ByteArray) (x112002_13 : Int), v8 = .string x8_13 ∧ Aside0 (rillmeterref09_Extract.j0 kq x8_13 x112000_13 x112001_13 x112002_13 0 0 = some (r1, r2, r3, r4, r5, r6)) ∧ Aside0 (kq ≤ k) ∧ Aside0 (Kd.R k95 95 wc w.heap.size (fun _ => True) (.slice Ao12 t104.length co12) t104) ∧ Aside0 (wc.heap[gb101]? = some (.cells #[.string x102000_13, .string x102001_13, .int .i64 x102002_13, .int .i64 x102003_13, .int .i64 x102004_13] 23 (0, 0))) ∧ Aside0 (wc.heap[gb110]? = some (.cells #[.string t102, .string t103, (.slice Ao12 t104.length co12), .int .i64 t107] 63 (0, 0))) ∧ Aside0 (wc.heap[gb111]? = some (.cells #[.string x112000_13, .string x112001_13, .int .i64 x112002_13, .int .i64 0, .int .i64 0] 23 (0, 0))) ∧ Aside0 (Below w.heap.size w wc))
   case first =>
    have H := HC14.out
    clear HC14
    by_cases c21 : t107 = 2048
    ·rw [if_pos c21] at H
     have c21b0 : (t107 == 2048) = true := beq_iff_eq.mpr c21
     have c21b1 : (t107 != 2048) = false := bne_eq_false_iff_eq.mpr c21
     clear c21
     (first | rw [c21b0] | (simp only [i64_w, i32_w]; rw [c21b0]) | skip)
     replace H := Option.bind_eq_some_iff.mp H
     obtain ⟨⟨t112, t113, t114, t115, t116, t117, t118, t119, t120, t121, t122⟩, A220, H⟩ := H
     replace H : (if t122 = 0 then (if t115 > 0 then (some ((⟨#[]⟩ : ByteArray), (⟨#[]⟩ : ByteArray), 0, 0, 0, 14)) else (if 10 ≤ 281474976710656 then ((some (List.replicate 10 0 : List Int)).bind fun y124 => ((some (([255, 255] : List Int) : List Int)).bind fun y127 => (if (strOfNums y124).size + (strOfNums y127).size ≤ 9223372036854775807 then (if ((strOfNums y124) ++ (strOfNums y127)).size + t118.size ≤ 9223372036854775807 then (if ((strOfNums y124) ++ (strOfNums y127)).size + t119.size ≤ 9223372036854775807 then (rillmeterref09_Extract.j0 k t121 (((strOfNums y124) ++ (strOfNums y127)) ++ t118) (((strOfNums y124) ++ (strOfNums y127)) ++ t119) t117 0 0) else (none)) else (none)) else (none)))) else (none))) else (some ((⟨#[]⟩ : ByteArray), (⟨#[]⟩ : ByteArray), 0, 0, 0, t122))) = some (r1, r2, r3, r4, r5, r6) := H
     have A22 := Aside0.mk A220
     clear A220
     have HC23 := Aside0.mk H
     clear H
     go_upto_if 47 with (first | ((with_reducible refine gate_callee (f := 29) rfl ?_); refine gL_ (some 42) rfl rfl Try.func29 (by kernel_rfl) rfl #[.string t108] rfl ?_; (with_reducible refine (rillmeterref06_Take.calls k t108 t112 t113 t114 t115 t116 t117 t118 t119 t120 t121 t122 _ A22.out).mono ?_); rintro e w24 ⟨rfl, hb⟩; refine ⟨_, rfl, ?_⟩; have n0_ := Aside0.mk (Kd.R_below (by (with_reducible repeat first | apply Kd.R_alloc | apply Kd.R_drewN | apply Kd.R_drew); exact (Kd.R_mono (Kd.R_far (p := ⟨gb111, 4, none⟩) (Kd.R_far (p := ⟨gb111, 3, none⟩) (Kd.R_far (p := ⟨gb111, 2, none⟩) (Kd.R_far (p := ⟨gb111, 1, none⟩) (Kd.R_far (p := ⟨gb111, 0, none⟩) (Kd.R_types HO106.out BK111.out (by decide)) (fun _ hk => hk.2) (.string ⟨#[]⟩)) (fun _ hk => hk.2) (.string ⟨#[]⟩)) (fun _ hk => hk.2) (.int .i64 0)) (fun _ hk => hk.2) (.int .i64 0)) (fun _ hk => hk.2) (.int .i64 0)) (fun _ h_ => h_.1))) hb); have n1_ := Aside0.mk (blk_below (g := gb101) (o := .cells Z26_0 23 (0, 0)) (by (iterate 5 ((with_reducible repeat first | apply pN_ | apply pD_ | apply pA_); refine blk_far ?_ NB101_111.out _)); (with_reducible repeat first | apply pN_ | apply pD_ | apply pA_); exact BK101.out) hb); have n2_ := Aside0.mk (blk_below (g := gb110) (o := .cells #[.string t102, .string t103, .slice Ao12 t104.length co12, .int .i64 t107] 63 (0, 0)) (by (iterate 5 ((with_reducible repeat first | apply pN_ | apply pD_ | apply pA_); refine blk_far ?_ NB110_111.out _)); (with_reducible repeat first | apply pN_ | apply pD_ | apply pA_); exact BK110.out) hb); have n3_ := Aside0.mk (blk_below (g := gb111) (o := .cells Z26_0 23 (0, 0)) (by (with_reducible repeat first | apply pN_ | apply pD_ | apply pA_); refine blk_put (cs := Z26_0) ?_ 4 _ rfl; (with_reducible repeat first | apply pN_ | apply pD_ | apply pA_); refine blk_put (cs := Z26_0) ?_ 3 _ rfl; (with_reducible repeat first | apply pN_ | apply pD_ | apply pA_); refine blk_put (cs := Z26_0) ?_ 2 _ rfl; (with_reducible repeat first | apply pN_ | apply pD_ | apply pA_); refine blk_put (cs := Z26_0) ?_ 1 _ rfl; (with_reducible repeat first | apply pN_ | apply pD_ | apply pA_); refine blk_put (cs := Z26_0) ?_ 0 _ rfl; (with_reducible repeat first | apply pN_ | apply pD_ | apply pA_); exact BK111.out) hb); have n4_ := Aside0.mk (below_step (bU_ HB.out) hb); clear HO106 BK101 BK110 BK111 HB; have HO106 := n0_; have BK101 := n1_; have BK110 := n2_; have BK111 := n3_; have HB := n4_; clear n0_ n1_ n2_ n3_ n4_; (try clear hb); (try clear hb2); (try clear hk); (try clear hi)) | ((with_reducible refine gate_dst (N := 9) rfl ?_); refine bE_ (N := 9) (cs := #[.int .i64 0, .int .i64 0, .int .i64 0, .int .i64 0, .int .i64 0, .int .i64 0, .string ⟨#[]⟩, .string ⟨#[]⟩, .string ⟨#[]⟩]) (t := 66) ?_; intro gb123 hg w25 hbox hb; have n0_ := Aside0.mk (rB_ HO106.out hb); have n1_ := Aside0.mk (bB_ BK101.out hb); have n2_ := Aside0.mk (bB_ BK110.out hb); have n3_ := Aside0.mk (bB_ BK111.out hb); have n4_ := Aside0.mk (below_step (bU_ HB.out) hb); have n5_ := Aside0.mk (hbox); have n6_ := Aside0.mk (bZ_ hg (bU_ HB.out) : w.heap.size ≤ gb123); have n7_ := n6_; have n8_ := Aside0.mk ((bN_ hg BK101.out : gb101 ≠ gb123)); have n9_ := Aside0.mk (Ne.symm n8_.out); have n10_ := Aside0.mk ((bN_ hg BK110.out : gb110 ≠ gb123)); have n11_ := Aside0.mk (Ne.symm n10_.out); have n12_ := Aside0.mk ((bN_ hg BK111.out : gb111 ≠ gb123)); have n13_ := Aside0.mk (Ne.symm n12_.out); clear HO106 BK101 BK110 BK111 HB; have HO106 := n0_; have BK101 := n1_; have BK110 := n2_; have BK111 := n3_; have HB := n4_; have BK123 := n5_; have GW123 := n6_; have GE123 := n7_; have NB101_123 := n8_; have NB123_101 := n9_; have NB110_123 := n10_; have NB123_110 := n11_; have NB111_123 := n12_; have NB123_111 := n13_; clear n0_ n1_ n2_ n3_ n4_ n5_ n6_ n7_ n8_ n9_ n10_ n11_ n12_ n13_; clear hb hbox hg; have hnb26 := NB123_101.out; have hnc26 := NB101_123.out; have hnb27 := NB123_110.out; have hnc27 := NB110_123.out; have hnb28 := NB123_111.out; have hnc28 := NB111_123.out; have hcz29_0 : w25.cell? ⟨gb123, 0, none⟩ = some (.int .i64 0) := (blk_cell BK123.out 0).trans rfl; have hcz29_1 : w25.cell? ⟨gb123, 1, none⟩ = some (.int .i64 0) := (blk_cell BK123.out 1).trans rfl; have hcz29_2 : w25.cell? ⟨gb123, 2, none⟩ = some (.int .i64 0) := (blk_cell BK123.out 2).trans rfl; have hcz29_3 : w25.cell? ⟨gb123, 3, none⟩ = some (.int .i64 0) := (blk_cell BK123.out 3).trans rfl; have hcz29_4 : w25.cell? ⟨gb123, 4, none⟩ = some (.int .i64 0) := (blk_cell BK123.out 4).trans rfl; have hcz29_5 : w25.cell? ⟨gb123, 5, none⟩ = some (.int .i64 0) := (blk_cell BK123.out 5).trans rfl; have hcz29_6 : w25.cell? ⟨gb123, 6, none⟩ = some (.string ⟨#[]⟩) := (blk_cell BK123.out 6).trans rfl; have hcz29_7 : w25.cell? ⟨gb123, 7, none⟩ = some (.string ⟨#[]⟩) := (blk_cell BK123.out 7).trans rfl; have hcz29_8 : w25.cell? ⟨gb123, 8, none⟩ = some (.string ⟨#[]⟩) := (blk_cell BK123.out 8).trans rfl; have hfz29_0 := blk_frozen BK123.out 0; have hfz29_1 := blk_frozen BK123.out 1; have hfz29_2 := blk_frozen BK123.out 2; have hfz29_3 := blk_frozen BK123.out 3; have hfz29_4 := blk_frozen BK123.out 4; have hfz29_5 := blk_frozen BK123.out 5; have hfz29_6 := blk_frozen BK123.out 6; have hfz29_7 := blk_frozen BK123.out 7; have hfz29_8 := blk_frozen BK123.out 8))
     (try simp only [Act.put, s1_, s2_, s3_])
     have H := HC23.out
     clear HC23
     by_cases c30 : t122 = 0
     ·rw [if_pos c30] at H
      have c30b0 : (t122 == 0) = true := beq_iff_eq.mpr c30
      have c30b1 : (t122 != 0) = false := bne_eq_false_iff_eq.mpr c30
      clear c30
      (first | rw [c30b0] | (simp only [i64_w, i32_w]; rw [c30b0]) | skip)
      by_cases c31 : t115 > 0
      ·rw [if_pos c31] at H
       have c31b0 : decide (0 < t115) = true := decide_eq_true c31
       clear c31
       simp only [Option.some.injEq, Prod.mk.injEq] at H
       obtain ⟨rfl, rfl, rfl, rfl, rfl, rfl⟩ := H
       have hnb32 := NB123_101.out
       have hnc32 := NB101_123.out
       have hnb33 := NB123_110.out
       have hnc33 := NB110_123.out
       have hnb34 := NB123_111.out
       have hnc34 := NB111_123.out
       have hcz35_0 : w25.cell? ⟨gb123, 0, none⟩ = some (.int .i64 0) := (blk_cell BK123.out 0).trans rfl
       have hcz35_1 : w25.cell? ⟨gb123, 1, none⟩ = some (.int .i64 0) := (blk_cell BK123.out 1).trans rfl
       have hcz35_2 : w25.cell? ⟨gb123, 2, none⟩ = some (.int .i64 0) := (blk_cell BK123.out 2).trans rfl
       have hcz35_3 : w25.cell? ⟨gb123, 3, none⟩ = some (.int .i64 0) := (blk_cell BK123.out 3).trans rfl
       have hcz35_4 : w25.cell? ⟨gb123, 4, none⟩ = some (.int .i64 0) := (blk_cell BK123.out 4).trans rfl
       have hcz35_5 : w25.cell? ⟨gb123, 5, none⟩ = some (.int .i64 0) := (blk_cell BK123.out 5).trans rfl
       have hcz35_6 : w25.cell? ⟨gb123, 6, none⟩ = some (.string ⟨#[]⟩) := (blk_cell BK123.out 6).trans rfl
       have hcz35_7 : w25.cell? ⟨gb123, 7, none⟩ = some (.string ⟨#[]⟩) := (blk_cell BK123.out 7).trans rfl
       have hcz35_8 : w25.cell? ⟨gb123, 8, none⟩ = some (.string ⟨#[]⟩) := (blk_cell BK123.out 8).trans rfl
       have hfz35_0 := blk_frozen BK123.out 0; have hfz35_1 := blk_frozen BK123.out 1; have hfz35_2 := blk_frozen BK123.out 2; have hfz35_3 := blk_frozen BK123.out 3; have hfz35_4 := blk_frozen BK123.out 4; have hfz35_5 := blk_frozen BK123.out 5; have hfz35_6 := blk_frozen BK123.out 6; have hfz35_7 := blk_frozen BK123.out 7; have hfz35_8 := blk_frozen BK123.out 8
       have hnb36 := NB111_101.out
       have hnc36 := NB101_111.out
       have hnb37 := NB111_110.out
       have hnc37 := NB110_111.out
       have hcz38_0 : w25.cell? ⟨gb111, 0, none⟩ = some (.string ⟨#[]⟩) := (blk_cell BK111.out 0).trans rfl
       have hcz38_1 : w25.cell? ⟨gb111, 1, none⟩ = some (.string ⟨#[]⟩) := (blk_cell BK111.out 1).trans rfl
       have hcz38_2 : w25.cell? ⟨gb111, 2, none⟩ = some (.int .i64 0) := (blk_cell BK111.out 2).trans rfl
       have hcz38_3 : w25.cell? ⟨gb111, 3, none⟩ = some (.int .i64 0) := (blk_cell BK111.out 3).trans rfl
       have hcz38_4 : w25.cell? ⟨gb111, 4, none⟩ = some (.int .i64 0) := (blk_cell BK111.out 4).trans rfl
       have hfz38_0 := blk_frozen BK111.out 0; have hfz38_1 := blk_frozen BK111.out 1; have hfz38_2 := blk_frozen BK111.out 2; have hfz38_3 := blk_frozen BK111.out 3; have hfz38_4 := blk_frozen BK111.out 4
       have hnb39 := NB101_110.out
       have hnc39 := NB110_101.out
       have hcz40_0 : w25.cell? ⟨gb101, 0, none⟩ = some (.string ⟨#[]⟩) := (blk_cell BK101.out 0).trans rfl
       have hcz40_1 : w25.cell? ⟨gb101, 1, none⟩ = some (.string ⟨#[]⟩) := (blk_cell BK101.out 1).trans rfl
       have hcz40_2 : w25.cell? ⟨gb101, 2, none⟩ = some (.int .i64 0) := (blk_cell BK101.out 2).trans rfl
       have hcz40_3 : w25.cell? ⟨gb101, 3, none⟩ = some (.int .i64 0) := (blk_cell BK101.out 3).trans rfl
       have hcz40_4 : w25.cell? ⟨gb101, 4, none⟩ = some (.int .i64 0) := (blk_cell BK101.out 4).trans rfl
       have hfz40_0 := blk_frozen BK101.out 0; have hfz40_1 := blk_frozen BK101.out 1; have hfz40_2 := blk_frozen BK101.out 2; have hfz40_3 := blk_frozen BK101.out 3; have hfz40_4 := blk_frozen BK101.out 4
       go_wp2
       refine bodyPost_ret (results_ct rfl _ _ gb101 23 #[.string ⟨#[]⟩, .string ⟨#[]⟩, .int .i64 0, .int .i64 0, .int .i64 0] (0, 0) _ rfl (by (with_reducible repeat first | apply pN_ | apply pD_ | apply pA_); refine blk_put (cs := Z26_0) ?_ 4 _ rfl; (with_reducible repeat first | apply pN_ | apply pD_ | apply pA_); refine blk_put (cs := Z26_0) ?_ 3 _ rfl; (with_reducible repeat first | apply pN_ | apply pD_ | apply pA_); refine blk_put (cs := Z26_0) ?_ 2 _ rfl; (with_reducible repeat first | apply pN_ | apply pD_ | apply pA_); refine blk_put (cs := Z26_0) ?_ 1 _ rfl; (with_reducible repeat first | apply pN_ | apply pD_ | apply pA_); refine blk_put (cs := Z26_0) ?_ 0 _ rfl; (iterate 9 ((with_reducible repeat first | apply pN_ | apply pD_ | apply pA_); refine blk_far ?_ NB101_123.out _)); (with_reducible repeat first | apply pN_ | apply pD_ | apply pA_); exact BK101.out) Try.underlying23 rfl (by kernel_rfl)) rfl ?_
       exact rE_ (bU_ HB.out)
      ·rw [if_neg c31] at H
       have c31b0 : decide (0 < t115) = false := decide_eq_false c31
       clear c31
       by_cases c41 : 10 ≤ 281474976710656
       rotate_left
       ·rw [if_neg c41] at H; exact absurd H (by simp)
       rw [if_pos c41] at H
       have c41b0 := eq_true c41
       have c41b1 : decide (10 ≤ 281474976710656) = true := decide_eq_true c41
       clear c41
       obtain ⟨y124, hy124⟩ : ∃ y_ : List Int, y_ = (List.replicate 10 0) := ⟨_, rfl⟩
       replace H : ((some (([255, 255] : List Int) : List Int)).bind fun y127 => (if (strOfNums y124).size + (strOfNums y127).size ≤ 9223372036854775807 then (if ((strOfNums y124) ++ (strOfNums y127)).size + t118.size ≤ 9223372036854775807 then (if ((strOfNums y124) ++ (strOfNums y127)).size + t119.size ≤ 9223372036854775807 then (rillmeterref09_Extract.j0 k t121 (((strOfNums y124) ++ (strOfNums y127)) ++ t118) (((strOfNums y124) ++ (strOfNums y127)) ++ t119) t117 0 0) else (none)) else (none)) else (none))) = some (r1, r2, r3, r4, r5, r6) := by first | (rw [hy124]; with_reducible exact H) | (have H2_ := (Option.bind_some _ _).symm.trans H; rw [hy124]; with_reducible exact H2_) | (have H2_ := (Option.bind_some _ _).symm.trans H; with_reducible exact H2_) | with_reducible exact H | (rw [hy124]; exact H) | exact H
       have Ny124 := Aside0.mk hy124
       clear hy124
       obtain ⟨y127, hy127⟩ : ∃ y_ : List Int, y_ = (([255, 255] : List Int)) := ⟨_, rfl⟩
       replace H : (if (strOfNums y124).size + (strOfNums y127).size ≤ 9223372036854775807 then (if ((strOfNums y124) ++ (strOfNums y127)).size + t118.size ≤ 9223372036854775807 then (if ((strOfNums y124) ++ (strOfNums y127)).size + t119.size ≤ 9223372036854775807 then (rillmeterref09_Extract.j0 k t121 (((strOfNums y124) ++ (strOfNums y127)) ++ t118) (((strOfNums y124) ++ (strOfNums y127)) ++ t119) t117 0 0) else (none)) else (none)) else (none)) = some (r1, r2, r3, r4, r5, r6) := by first | (rw [hy127]; with_reducible exact H) | (have H2_ := (Option.bind_some _ _).symm.trans H; rw [hy127]; with_reducible exact H2_) | (have H2_ := (Option.bind_some _ _).symm.trans H; with_reducible exact H2_) | with_reducible exact H | (rw [hy127]; exact H) | exact H
       have Ny127 := Aside0.mk hy127
       clear hy127
       by_cases c42 : (strOfNums y124).size + (strOfNums y127).size ≤ 9223372036854775807
       rotate_left
       ·rw [if_neg c42] at H; exact absurd H (by simp)
       rw [if_pos c42] at H
       have c42b0 := eq_true c42
       have c42b1 : decide ((strOfNums y124).size + (strOfNums y127).size ≤ 9223372036854775807) = true := decide_eq_true c42
       try have c42b2 : (9223372036854775807 < (strOfNums y124).size + (strOfNums y127).size) = False := eq_false (Nat.not_lt.2 c42)
       try (have c42b3 := c42; simp only [ByteArray.size_append, ByteArray.size_extract, Nat.sub_zero, Nat.min_self] at c42b3; have c42b4 := eq_false (Nat.not_lt.2 c42b3))
       by_cases c43 : ((strOfNums y124) ++ (strOfNums y127)).size + t118.size ≤ 9223372036854775807
       rotate_left
       ·rw [if_neg c43] at H; exact absurd H (by simp)
       rw [if_pos c43] at H
       have c43b0 := eq_true c43
       have c43b1 : decide (((strOfNums y124) ++ (strOfNums y127)).size + t118.size ≤ 9223372036854775807) = true := decide_eq_true c43
       try have c43b2 : (9223372036854775807 < ((strOfNums y124) ++ (strOfNums y127)).size + t118.size) = False := eq_false (Nat.not_lt.2 c43)
       try (have c43b3 := c43; simp only [ByteArray.size_append, ByteArray.size_extract, Nat.sub_zero, Nat.min_self] at c43b3; have c43b4 := eq_false (Nat.not_lt.2 c43b3))
       by_cases c44 : ((strOfNums y124) ++ (strOfNums y127)).size + t119.size ≤ 9223372036854775807
       rotate_left
       ·rw [if_neg c44] at H; exact absurd H (by simp)
       rw [if_pos c44] at H
       have c44b0 := eq_true c44
       have c44b1 : decide (((strOfNums y124) ++ (strOfNums y127)).size + t119.size ≤ 9223372036854775807) = true := decide_eq_true c44
       try have c44b2 : (9223372036854775807 < ((strOfNums y124) ++ (strOfNums y127)).size + t119.size) = False := eq_false (Nat.not_lt.2 c44)
       try (have c44b3 := c44; simp only [ByteArray.size_append, ByteArray.size_extract, Nat.sub_zero, Nat.min_self] at c44b3; have c44b4 := eq_false (Nat.not_lt.2 c44b3))
       have H' := Aside0.mk H
       clear H
       have hnb45 := NB123_101.out
       have hnc45 := NB101_123.out
       have hnb46 := NB123_110.out
       have hnc46 := NB110_123.out
       have hnb47 := NB123_111.out
       have hnc47 := NB111_123.out
       have hcz48_0 : w25.cell? ⟨gb123, 0, none⟩ = some (.int .i64 0) := (blk_cell BK123.out 0).trans rfl
       have hcz48_1 : w25.cell? ⟨gb123, 1, none⟩ = some (.int .i64 0) := (blk_cell BK123.out 1).trans rfl
       have hcz48_2 : w25.cell? ⟨gb123, 2, none⟩ = some (.int .i64 0) := (blk_cell BK123.out 2).trans rfl
       have hcz48_3 : w25.cell? ⟨gb123, 3, none⟩ = some (.int .i64 0) := (blk_cell BK123.out 3).trans rfl
       have hcz48_4 : w25.cell? ⟨gb123, 4, none⟩ = some (.int .i64 0) := (blk_cell BK123.out 4).trans rfl
       have hcz48_5 : w25.cell? ⟨gb123, 5, none⟩ = some (.int .i64 0) := (blk_cell BK123.out 5).trans rfl
       have hcz48_6 : w25.cell? ⟨gb123, 6, none⟩ = some (.string ⟨#[]⟩) := (blk_cell BK123.out 6).trans rfl
       have hcz48_7 : w25.cell? ⟨gb123, 7, none⟩ = some (.string ⟨#[]⟩) := (blk_cell BK123.out 7).trans rfl
       have hcz48_8 : w25.cell? ⟨gb123, 8, none⟩ = some (.string ⟨#[]⟩) := (blk_cell BK123.out 8).trans rfl
       have hfz48_0 := blk_frozen BK123.out 0; have hfz48_1 := blk_frozen BK123.out 1; have hfz48_2 := blk_frozen BK123.out 2; have hfz48_3 := blk_frozen BK123.out 3; have hfz48_4 := blk_frozen BK123.out 4; have hfz48_5 := blk_frozen BK123.out 5; have hfz48_6 := blk_frozen BK123.out 6; have hfz48_7 := blk_frozen BK123.out 7; have hfz48_8 := blk_frozen BK123.out 8
       try go_wp2
       have n0_ : Aside0 (Kd.R k95 95 (((((((((w25.setCell ⟨gb123, 0, none⟩ (.int .i64 t112)).setCell ⟨gb123, 1, none⟩ (.int .i64 t113)).setCell ⟨gb123, 2, none⟩ (.int .i64 t114)).setCell ⟨gb123, 3, none⟩ (.int .i64 t115)).setCell ⟨gb123, 4, none⟩ (.int .i64 t116)).setCell ⟨gb123, 5, none⟩ (.int .i64 t117)).setCell ⟨gb123, 6, none⟩ (.string t118)).setCell ⟨gb123, 7, none⟩ (.string t119)).setCell ⟨gb123, 8, none⟩ (.string t120)) w.heap.size (fun _ => True) (.slice Ao12 t104.length co12) t104) := ⟨by (with_reducible repeat first | apply Kd.R_alloc | apply Kd.R_drewN | apply Kd.R_drew); exact Kd.R_mono (Kd.R_far (p := ⟨gb123, 8, none⟩) (Kd.R_far (p := ⟨gb123, 7, none⟩) (Kd.R_far (p := ⟨gb123, 6, none⟩) (Kd.R_far (p := ⟨gb123, 5, none⟩) (Kd.R_far (p := ⟨gb123, 4, none⟩) (Kd.R_far (p := ⟨gb123, 3, none⟩) (Kd.R_far (p := ⟨gb123, 2, none⟩) (Kd.R_far (p := ⟨gb123, 1, none⟩) (Kd.R_far (p := ⟨gb123, 0, none⟩) (Kd.R_types HO106.out BK123.out (by decide)) (fun _ hk => hk.2) (.int .i64 t112)) (fun _ hk => hk.2) (.int .i64 t113)) (fun _ hk => hk.2) (.int .i64 t114)) (fun _ hk => hk.2) (.int .i64 t115)) (fun _ hk => hk.2) (.int .i64 t116)) (fun _ hk => hk.2) (.int .i64 t117)) (fun _ hk => hk.2) (.string t118)) (fun _ hk => hk.2) (.string t119)) (fun _ hk => hk.2) (.string t120)) (fun _ hk => trivial)⟩
       have n1_ : Aside0 ((((((((((w25.setCell ⟨gb123, 0, none⟩ (.int .i64 t112)).setCell ⟨gb123, 1, none⟩ (.int .i64 t113)).setCell ⟨gb123, 2, none⟩ (.int .i64 t114)).setCell ⟨gb123, 3, none⟩ (.int .i64 t115)).setCell ⟨gb123, 4, none⟩ (.int .i64 t116)).setCell ⟨gb123, 5, none⟩ (.int .i64 t117)).setCell ⟨gb123, 6, none⟩ (.string t118)).setCell ⟨gb123, 7, none⟩ (.string t119)).setCell ⟨gb123, 8, none⟩ (.string t120)).heap[gb101]? = some (.cells #[.string ⟨#[]⟩, .string ⟨#[]⟩, .int .i64 0, .int .i64 0, .int .i64 0] 23 (0, 0))) := ⟨by (iterate 9 ((with_reducible repeat first | apply pN_ | apply pD_ | apply pA_); refine blk_far ?_ NB101_123.out _)); (with_reducible repeat first | apply pN_ | apply pD_ | apply pA_); exact BK101.out⟩
       have n2_ : Aside0 ((((((((((w25.setCell ⟨gb123, 0, none⟩ (.int .i64 t112)).setCell ⟨gb123, 1, none⟩ (.int .i64 t113)).setCell ⟨gb123, 2, none⟩ (.int .i64 t114)).setCell ⟨gb123, 3, none⟩ (.int .i64 t115)).setCell ⟨gb123, 4, none⟩ (.int .i64 t116)).setCell ⟨gb123, 5, none⟩ (.int .i64 t117)).setCell ⟨gb123, 6, none⟩ (.string t118)).setCell ⟨gb123, 7, none⟩ (.string t119)).setCell ⟨gb123, 8, none⟩ (.string t120)).heap[gb110]? = some (.cells #[.string t102, .string t103, .slice Ao12 t104.length co12, .int .i64 t107] 63 (0, 0))) := ⟨by (iterate 9 ((with_reducible repeat first | apply pN_ | apply pD_ | apply pA_); refine blk_far ?_ NB110_123.out _)); (with_reducible repeat first | apply pN_ | apply pD_ | apply pA_); exact BK110.out⟩
       have n3_ : Aside0 ((((((((((w25.setCell ⟨gb123, 0, none⟩ (.int .i64 t112)).setCell ⟨gb123, 1, none⟩ (.int .i64 t113)).setCell ⟨gb123, 2, none⟩ (.int .i64 t114)).setCell ⟨gb123, 3, none⟩ (.int .i64 t115)).setCell ⟨gb123, 4, none⟩ (.int .i64 t116)).setCell ⟨gb123, 5, none⟩ (.int .i64 t117)).setCell ⟨gb123, 6, none⟩ (.string t118)).setCell ⟨gb123, 7, none⟩ (.string t119)).setCell ⟨gb123, 8, none⟩ (.string t120)).heap[gb111]? = some (.cells #[.string ⟨#[]⟩, .string ⟨#[]⟩, .int .i64 0, .int .i64 0, .int .i64 0] 23 (0, 0))) := ⟨by (iterate 9 ((with_reducible repeat first | apply pN_ | apply pD_ | apply pA_); refine blk_far ?_ NB111_123.out _)); (with_reducible repeat first | apply pN_ | apply pD_ | apply pA_); exact BK111.out⟩
       have n4_ : Aside0 ((((((((((w25.setCell ⟨gb123, 0, none⟩ (.int .i64 t112)).setCell ⟨gb123, 1, none⟩ (.int .i64 t113)).setCell ⟨gb123, 2, none⟩ (.int .i64 t114)).setCell ⟨gb123, 3, none⟩ (.int .i64 t115)).setCell ⟨gb123, 4, none⟩ (.int .i64 t116)).setCell ⟨gb123, 5, none⟩ (.int .i64 t117)).setCell ⟨gb123, 6, none⟩ (.string t118)).setCell ⟨gb123, 7, none⟩ (.string t119)).setCell ⟨gb123, 8, none⟩ (.string t120)).heap[gb123]? = some (.cells #[.int .i64 t112, .int .i64 t113, .int .i64 t114, .int .i64 t115, .int .i64 t116, .int .i64 t117, .string t118, .string t119, .string t120] 66 (0, 0))) := ⟨by (with_reducible repeat first | apply pN_ | apply pD_ | apply pA_); refine blk_put (cs := #[.int .i64 t112, .int .i64 t113, .int .i64 t114, .int .i64 t115, .int .i64 t116, .int .i64 t117, .string t118, .string t119, .string ⟨#[]⟩]) ?_ 8 _ rfl; (with_reducible repeat first | apply pN_ | apply pD_ | apply pA_); refine blk_put (cs := #[.int .i64 t112, .int .i64 t113, .int .i64 t114, .int .i64 t115, .int .i64 t116, .int .i64 t117, .string t118, .string ⟨#[]⟩, .string ⟨#[]⟩]) ?_ 7 _ rfl; (with_reducible repeat first | apply pN_ | apply pD_ | apply pA_); refine blk_put (cs := #[.int .i64 t112, .int .i64 t113, .int .i64 t114, .int .i64 t115, .int .i64 t116, .int .i64 t117, .string ⟨#[]⟩, .string ⟨#[]⟩, .string ⟨#[]⟩]) ?_ 6 _ rfl; (with_reducible repeat first | apply pN_ | apply pD_ | apply pA_); refine blk_put (cs := #[.int .i64 t112, .int .i64 t113, .int .i64 t114, .int .i64 t115, .int .i64 t116, .int .i64 0, .string ⟨#[]⟩, .string ⟨#[]⟩, .string ⟨#[]⟩]) ?_ 5 _ rfl; (with_reducible repeat first | apply pN_ | apply pD_ | apply pA_); refine blk_put (cs := #[.int .i64 t112, .int .i64 t113, .int .i64 t114, .int .i64 t115, .int .i64 0, .int .i64 0, .string ⟨#[]⟩, .string ⟨#[]⟩, .string ⟨#[]⟩]) ?_ 4 _ rfl; (with_reducible repeat first | apply pN_ | apply pD_ | apply pA_); refine blk_put (cs := #[.int .i64 t112, .int .i64 t113, .int .i64 t114, .int .i64 0, .int .i64 0, .int .i64 0, .string ⟨#[]⟩, .string ⟨#[]⟩, .string ⟨#[]⟩]) ?_ 3 _ rfl; (with_reducible repeat first | apply pN_ | apply pD_ | apply pA_); refine blk_put (cs := #[.int .i64 t112, .int .i64 t113, .int .i64 0, .int .i64 0, .int .i64 0, .int .i64 0, .string ⟨#[]⟩, .string ⟨#[]⟩, .string ⟨#[]⟩]) ?_ 2 _ rfl; (with_reducible repeat first | apply pN_ | apply pD_ | apply pA_); refine blk_put (cs := #[.int .i64 t112, .int .i64 0, .int .i64 0, .int .i64 0, .int .i64 0, .int .i64 0, .string ⟨#[]⟩, .string ⟨#[]⟩, .string ⟨#[]⟩]) ?_ 1 _ rfl; (with_reducible repeat first | apply pN_ | apply pD_ | apply pA_); refine blk_put (cs := #[.int .i64 0, .int .i64 0, .int .i64 0, .int .i64 0, .int .i64 0, .int .i64 0, .string ⟨#[]⟩, .string ⟨#[]⟩, .string ⟨#[]⟩]) ?_ 0 _ rfl; (with_reducible repeat first | apply pN_ | apply pD_ | apply pA_); exact BK123.out⟩
       have n5_ : Aside0 (Below w.heap.size w (((((((((w25.setCell ⟨gb123, 0, none⟩ (.int .i64 t112)).setCell ⟨gb123, 1, none⟩ (.int .i64 t113)).setCell ⟨gb123, 2, none⟩ (.int .i64 t114)).setCell ⟨gb123, 3, none⟩ (.int .i64 t115)).setCell ⟨gb123, 4, none⟩ (.int .i64 t116)).setCell ⟨gb123, 5, none⟩ (.int .i64 t117)).setCell ⟨gb123, 6, none⟩ (.string t118)).setCell ⟨gb123, 7, none⟩ (.string t119)).setCell ⟨gb123, 8, none⟩ (.string t120))) := ⟨bU_ HB.out⟩
       (try clear HO106)
       (try clear BK101)
       (try clear BK110)
       (try clear BK111)
       (try clear BK123)
       (try clear HB)
       generalize (((((((((w25.setCell ⟨gb123, 0, none⟩ (.int .i64 t112)).setCell ⟨gb123, 1, none⟩ (.int .i64 t113)).setCell ⟨gb123, 2, none⟩ (.int .i64 t114)).setCell ⟨gb123, 3, none⟩ (.int .i64 t115)).setCell ⟨gb123, 4, none⟩ (.int .i64 t116)).setCell ⟨gb123, 5, none⟩ (.int .i64 t117)).setCell ⟨gb123, 6, none⟩ (.string t118)).setCell ⟨gb123, 7, none⟩ (.string t119)).setCell ⟨gb123, 8, none⟩ (.string t120)) = w49 at n0_ n1_ n2_ n3_ n4_ n5_ ⊢
       have HO106 := n0_
       have BK101 := n1_
       have BK110 := n2_
       have BK111 := n3_
       have BK123 := n4_
       have HB := n5_
       clear n0_ n1_ n2_ n3_ n4_ n5_
       have n0_ := Aside0.mk (Kd.R_drew HO106.out)
       have n1_ := Aside0.mk (blk_drew BK101.out)
       have n2_ := Aside0.mk (blk_drew BK110.out)
       have n3_ := Aside0.mk (blk_drew BK111.out)
       have n4_ := Aside0.mk (blk_drew BK123.out)
       have n5_ := Aside0.mk (below_drew1 HB.out)
       clear HO106
       clear BK101
       clear BK110
       clear BK111
       clear BK123
       clear HB
       have HO106 := n0_
       have BK101 := n1_
       have BK110 := n2_
       have BK111 := n3_
       have BK123 := n4_
       have HB := n5_
       clear n0_ n1_ n2_ n3_ n4_ n5_
       refine start_ (n := 6) (S := fun w' => True) (ds := []) #[false, false, false, false, false, false] (by kernel_rfl) rfl rfl trivial (fun hHeld => ?_)
       generalize w49.drew = w50 at HO106 BK101 BK110 BK111 BK123 HB hHeld ⊢
       refine join_ (σ := Value × Value) 2 #[true, true, true, true, false, false] (fun s_ => [(54, s_.1), (55, .string (strOfNums y124)), (56, s_.2), (57, .string (strOfNums y127))]) (fun s_ w' => (Kd.R k95 95 w' w.heap.size (fun _ => True) (.slice Ao12 t104.length co12) t104) ∧ (Kd.R (Kd.int .u8) 5 w' w.heap.size (fun k_ => some k_ ≠ (s_.2 : Value).ownBlock) s_.1 y124) ∧ (Kd.R (Kd.int .u8) 5 w' w.heap.size (fun k_ => some k_ ≠ (s_.1 : Value).ownBlock) s_.2 y127) ∧ (w'.heap[gb101]? = some (.cells #[.string ⟨#[]⟩, .string ⟨#[]⟩, .int .i64 0, .int .i64 0, .int .i64 0] 23 (0, 0))) ∧ (w'.heap[gb110]? = some (.cells #[.string t102, .string t103, .slice Ao12 t104.length co12, .int .i64 t107] 63 (0, 0))) ∧ (w'.heap[gb111]? = some (.cells #[.string ⟨#[]⟩, .string ⟨#[]⟩, .int .i64 0, .int .i64 0, .int .i64 0] 23 (0, 0))) ∧ (w'.heap[gb123]? = some (.cells #[.int .i64 t112, .int .i64 t113, .int .i64 t114, .int .i64 t115, .int .i64 t116, .int .i64 t117, .string t118, .string t119, .string t120] 66 (0, 0))) ∧ (Below w.heap.size w w')) ?_ ?_
       rotate_left
       ·intro hJ0_1_2_3
        refine join_ (σ := Value × Value) 3 #[true, true, true, false, false, false] (fun s_ => [(54, s_.1), (55, .string (strOfNums y124)), (56, s_.2)]) (fun s_ w' => (Kd.R k95 95 w' w.heap.size (fun _ => True) (.slice Ao12 t104.length co12) t104) ∧ (Kd.R (Kd.int .u8) 5 w' w.heap.size (fun k_ => some k_ ≠ (s_.2 : Value).ownBlock) s_.1 y124) ∧ (Kd.R (Kd.int .u8) 5 w' w.heap.size (fun k_ => some k_ ≠ (s_.1 : Value).ownBlock) s_.2 y127) ∧ (w'.heap[gb101]? = some (.cells #[.string ⟨#[]⟩, .string ⟨#[]⟩, .int .i64 0, .int .i64 0, .int .i64 0] 23 (0, 0))) ∧ (w'.heap[gb110]? = some (.cells #[.string t102, .string t103, .slice Ao12 t104.length co12, .int .i64 t107] 63 (0, 0))) ∧ (w'.heap[gb111]? = some (.cells #[.string ⟨#[]⟩, .string ⟨#[]⟩, .int .i64 0, .int .i64 0, .int .i64 0] 23 (0, 0))) ∧ (w'.heap[gb123]? = some (.cells #[.int .i64 t112, .int .i64 t113, .int .i64 t114, .int .i64 t115, .int .i64 t116, .int .i64 t117, .string t118, .string t119, .string t120] 66 (0, 0))) ∧ (Below w.heap.size w w')) ?_ ?_
        rotate_left
        ·intro hJ0_1_2
         refine join_ (σ := Value × Value) 3 #[true, false, true, true, false, false] (fun s_ => [(54, s_.1), (56, s_.2), (57, .string (strOfNums y127))]) (fun s_ w' => (Kd.R k95 95 w' w.heap.size (fun _ => True) (.slice Ao12 t104.length co12) t104) ∧ (Kd.R (Kd.int .u8) 5 w' w.heap.size (fun k_ => some k_ ≠ (s_.2 : Value).ownBlock) s_.1 y124) ∧ (Kd.R (Kd.int .u8) 5 w' w.heap.size (fun k_ => some k_ ≠ (s_.1 : Value).ownBlock) s_.2 y127) ∧ (w'.heap[gb101]? = some (.cells #[.string ⟨#[]⟩, .string ⟨#[]⟩, .int .i64 0, .int .i64 0, .int .i64 0] 23 (0, 0))) ∧ (w'.heap[gb110]? = some (.cells #[.string t102, .string t103, .slice Ao12 t104.length co12, .int .i64 t107] 63 (0, 0))) ∧ (w'.heap[gb111]? = some (.cells #[.string ⟨#[]⟩, .string ⟨#[]⟩, .int .i64 0, .int .i64 0, .int .i64 0] 23 (0, 0))) ∧ (w'.heap[gb123]? = some (.cells #[.int .i64 t112, .int .i64 t113, .int .i64 t114, .int .i64 t115, .int .i64 t116, .int .i64 t117, .string t118, .string t119, .string t120] 66 (0, 0))) ∧ (Below w.heap.size w w')) ?_ ?_
         rotate_left
         ·intro hJ0_2_3
          refine join_ (σ := Value) 4 #[true, true, false, false, false, false] (fun s_ => [(54, s_), (55, .string (strOfNums y124))]) (fun s_ w' => (Kd.R k95 95 w' w.heap.size (fun _ => True) (.slice Ao12 t104.length co12) t104) ∧ (Kd.R (Kd.int .u8) 5 w' w.heap.size (fun _ => True) s_ y124) ∧ (w'.heap[gb101]? = some (.cells #[.string ⟨#[]⟩, .string ⟨#[]⟩, .int .i64 0, .int .i64 0, .int .i64 0] 23 (0, 0))) ∧ (w'.heap[gb110]? = some (.cells #[.string t102, .string t103, .slice Ao12 t104.length co12, .int .i64 t107] 63 (0, 0))) ∧ (w'.heap[gb111]? = some (.cells #[.string ⟨#[]⟩, .string ⟨#[]⟩, .int .i64 0, .int .i64 0, .int .i64 0] 23 (0, 0))) ∧ (w'.heap[gb123]? = some (.cells #[.int .i64 t112, .int .i64 t113, .int .i64 t114, .int .i64 t115, .int .i64 t116, .int .i64 t117, .string t118, .string t119, .string t120] 66 (0, 0))) ∧ (Below w.heap.size w w')) ?_ ?_
          rotate_left
          ·intro hJ0_1
           refine join_ (σ := Value × Value) 4 #[true, false, true, false, false, false] (fun s_ => [(54, s_.1), (56, s_.2)]) (fun s_ w' => (Kd.R k95 95 w' w.heap.size (fun _ => True) (.slice Ao12 t104.length co12) t104) ∧ (Kd.R (Kd.int .u8) 5 w' w.heap.size (fun k_ => some k_ ≠ (s_.2 : Value).ownBlock) s_.1 y124) ∧ (Kd.R (Kd.int .u8) 5 w' w.heap.size (fun k_ => some k_ ≠ (s_.1 : Value).ownBlock) s_.2 y127) ∧ (w'.heap[gb101]? = some (.cells #[.string ⟨#[]⟩, .string ⟨#[]⟩, .int .i64 0, .int .i64 0, .int .i64 0] 23 (0, 0))) ∧ (w'.heap[gb110]? = some (.cells #[.string t102, .string t103, .slice Ao12 t104.length co12, .int .i64 t107] 63 (0, 0))) ∧ (w'.heap[gb111]? = some (.cells #[.string ⟨#[]⟩, .string ⟨#[]⟩, .int .i64 0, .int .i64 0, .int .i64 0] 23 (0, 0))) ∧ (w'.heap[gb123]? = some (.cells #[.int .i64 t112, .int .i64 t113, .int .i64 t114, .int .i64 t115, .int .i64 t116, .int .i64 t117, .string t118, .string t119, .string t120] 66 (0, 0))) ∧ (Below w.heap.size w w')) ?_ ?_
           rotate_left
           ·intro hJ0_2
            refine join_ (σ := Value) 4 #[false, false, true, true, false, false] (fun s_ => [(56, s_), (57, .string (strOfNums y127))]) (fun s_ w' => (Kd.R k95 95 w' w.heap.size (fun _ => True) (.slice Ao12 t104.length co12) t104) ∧ (Kd.R (Kd.int .u8) 5 w' w.heap.size (fun _ => True) s_ y127) ∧ (w'.heap[gb101]? = some (.cells #[.string ⟨#[]⟩, .string ⟨#[]⟩, .int .i64 0, .int .i64 0, .int .i64 0] 23 (0, 0))) ∧ (w'.heap[gb110]? = some (.cells #[.string t102, .string t103, .slice Ao12 t104.length co12, .int .i64 t107] 63 (0, 0))) ∧ (w'.heap[gb111]? = some (.cells #[.string ⟨#[]⟩, .string ⟨#[]⟩, .int .i64 0, .int .i64 0, .int .i64 0] 23 (0, 0))) ∧ (w'.heap[gb123]? = some (.cells #[.int .i64 t112, .int .i64 t113, .int .i64 t114, .int .i64 t115, .int .i64 t116, .int .i64 t117, .string t118, .string t119, .string t120] 66 (0, 0))) ∧ (Below w.heap.size w w')) ?_ ?_
            rotate_left
            ·intro hJ2_3
             refine join_ (σ := Value) 5 #[true, false, false, false, false, false] (fun s_ => [(54, s_)]) (fun s_ w' => (Kd.R k95 95 w' w.heap.size (fun _ => True) (.slice Ao12 t104.length co12) t104) ∧ (Kd.R (Kd.int .u8) 5 w' w.heap.size (fun _ => True) s_ y124) ∧ (w'.heap[gb101]? = some (.cells #[.string ⟨#[]⟩, .string ⟨#[]⟩, .int .i64 0, .int .i64 0, .int .i64 0] 23 (0, 0))) ∧ (w'.heap[gb110]? = some (.cells #[.string t102, .string t103, .slice Ao12 t104.length co12, .int .i64 t107] 63 (0, 0))) ∧ (w'.heap[gb111]? = some (.cells #[.string ⟨#[]⟩, .string ⟨#[]⟩, .int .i64 0, .int .i64 0, .int .i64 0] 23 (0, 0))) ∧ (w'.heap[gb123]? = some (.cells #[.int .i64 t112, .int .i64 t113, .int .i64 t114, .int .i64 t115, .int .i64 t116, .int .i64 t117, .string t118, .string t119, .string t120] 66 (0, 0))) ∧ (Below w.heap.size w w')) ?_ ?_
             rotate_left
             ·intro hJ0
              refine join_ (σ := Value) 5 #[false, false, true, false, false, false] (fun s_ => [(56, s_)]) (fun s_ w' => (Kd.R k95 95 w' w.heap.size (fun _ => True) (.slice Ao12 t104.length co12) t104) ∧ (Kd.R (Kd.int .u8) 5 w' w.heap.size (fun _ => True) s_ y127) ∧ (w'.heap[gb101]? = some (.cells #[.string ⟨#[]⟩, .string ⟨#[]⟩, .int .i64 0, .int .i64 0, .int .i64 0] 23 (0, 0))) ∧ (w'.heap[gb110]? = some (.cells #[.string t102, .string t103, .slice Ao12 t104.length co12, .int .i64 t107] 63 (0, 0))) ∧ (w'.heap[gb111]? = some (.cells #[.string ⟨#[]⟩, .string ⟨#[]⟩, .int .i64 0, .int .i64 0, .int .i64 0] 23 (0, 0))) ∧ (w'.heap[gb123]? = some (.cells #[.int .i64 t112, .int .i64 t113, .int .i64 t114, .int .i64 t115, .int .i64 t116, .int .i64 t117, .string t118, .string t119, .string t120] 66 (0, 0))) ∧ (Below w.heap.size w w')) ?_ ?_
              rotate_left
              ·intro hJ2
               refine two_ (i := 0) (j := 2) (Ni := some 54) (Nj := some 56) #[true, false, false, false, false, false] #[false, false, true, false, false, false] rfl rfl rfl rfl (by kernel_rfl) (by decide) (by decide) (fun K hK => ?_) (fun K hK => ?_)
               ·skip
                refine Kd.R_make_step (Kd.int .u8) _ 5 (by rfl) (N := 54) rfl 45 _ _ rfl 10 rfl rfl Try.underlying45 (.int .u8 0) 1 info5 rfl (by decide) (by omega) 0 (ok := fun _ => True) (okp := fun _ => True) rfl (fun _ hk => hk) trivial (by omega) (by omega) (Below.refl _ _) (Nat.le_refl _) ?_
                intro v125 w51 ho52 hb hg_ hnew_
                clear hg_ hnew_
                (first | rw [← Ny124.out] at ho52 | (simp only [Int.reduceToNat] at ho52; rw [← Ny124.out] at ho52))
                have n0_ := Aside0.mk (rB_ HO106.out hb)
                have n1_ := Aside0.mk (Kd.R_lower ho52 (below_size (bU_ HB.out)))
                have n2_ := Aside0.mk (bB_ BK101.out hb)
                have n3_ := Aside0.mk (bB_ BK110.out hb)
                have n4_ := Aside0.mk (bB_ BK111.out hb)
                have n5_ := Aside0.mk (bB_ BK123.out hb)
                have n6_ := Aside0.mk (below_step (bU_ HB.out) hb)
                clear HO106
                clear BK101
                clear BK110
                clear BK111
                clear BK123
                clear HB
                have HO106 := n0_
                have HO126 := n1_
                have BK101 := n2_
                have BK110 := n3_
                have BK111 := n4_
                have BK123 := n5_
                have HB := n6_
                clear n0_ n1_ n2_ n3_ n4_ n5_ n6_
                clear hb ho52
                refine hK.out _ _ trivial (fun hHeld => ?_)
                clear hK K
                refine norm_ (a' := ?_) ?_ ?_
                rotate_left
                ·show Act.put _ (some 54) _ = _
                 simp only [Act.put, s1_, s2_, s3_, i64_w, i32_w]; rfl
                exact norm_ (by first | (simp only [putAll, Act.put, s1_, s2_, s3_]; done) | (simp only [putAll, Act.put, s1_, s2_, s3_]; rfl)) (hJ0 (v125) _ ⟨(by (with_reducible repeat first | apply Kd.R_alloc | apply Kd.R_drewN | apply Kd.R_drew); exact HO106.out), (by (with_reducible repeat first | apply Kd.R_alloc | apply Kd.R_drewN | apply Kd.R_drew); exact HO126.out), (by (with_reducible repeat first | apply pN_ | apply pD_ | apply pA_); exact BK101.out), (by (with_reducible repeat first | apply pN_ | apply pD_ | apply pA_); exact BK110.out), (by (with_reducible repeat first | apply pN_ | apply pD_ | apply pA_); exact BK111.out), (by (with_reducible repeat first | apply pN_ | apply pD_ | apply pA_); exact BK123.out), (bU_ HB.out)⟩)
               ·skip
                refine Kd.R_lit_step (Kd.int .u8) _ 5 ?hg (N := 56) ?hd (xs := ([255, 255] : List Int)) (inner := [.int .u8 255, .int .u8 255]) (ok := fun _ => True) (okp := fun _ => True) ?hr ?hp (fun _ hk => hk) trivial (Below.refl _ _) (Nat.le_refl _) (by simp) ?_; (case hd => rfl); (case hg => rfl); (case hr => first | (go_simp; done) | (go_simp; simp only [IntKind.wrap_u8]; done) | (go_simp; rfl)); (case hp => exact (Reps.one (show Kd.M (Kd.int .u8) _ _ _ 255 [.int .u8 255] from rfl) (Reps.one (show Kd.M (Kd.int .u8) _ _ _ 255 [.int .u8 255] from rfl) (Reps.none _ _))))
                intro v128 w51 ho52 hb hg_ hnew_
                clear hg_ hnew_
                (first | rw [← Ny127.out] at ho52 | (simp only [Int.reduceToNat] at ho52; rw [← Ny127.out] at ho52))
                have n0_ := Aside0.mk (rB_ HO106.out hb)
                have n1_ := Aside0.mk (Kd.R_lower ho52 (below_size (bU_ HB.out)))
                have n2_ := Aside0.mk (bB_ BK101.out hb)
                have n3_ := Aside0.mk (bB_ BK110.out hb)
                have n4_ := Aside0.mk (bB_ BK111.out hb)
                have n5_ := Aside0.mk (bB_ BK123.out hb)
                have n6_ := Aside0.mk (below_step (bU_ HB.out) hb)
                clear HO106
                clear BK101
                clear BK110
                clear BK111
                clear BK123
                clear HB
                have HO106 := n0_
                have HO129 := n1_
                have BK101 := n2_
                have BK110 := n3_
                have BK111 := n4_
                have BK123 := n5_
                have HB := n6_
                clear n0_ n1_ n2_ n3_ n4_ n5_ n6_
                clear hb ho52
                refine hK.out _ _ trivial (fun hHeld => ?_)
                clear hK K
                refine norm_ (a' := ?_) ?_ ?_
                rotate_left
                ·show Act.put _ (some 56) _ = _
                 simp only [Act.put, s1_, s2_, s3_, i64_w, i32_w]; rfl
                exact norm_ (by first | (simp only [putAll, Act.put, s1_, s2_, s3_]; done) | (simp only [putAll, Act.put, s1_, s2_, s3_]; rfl)) (hJ2 (v128) _ ⟨(by (with_reducible repeat first | apply Kd.R_alloc | apply Kd.R_drewN | apply Kd.R_drew); exact HO106.out), (by (with_reducible repeat first | apply Kd.R_alloc | apply Kd.R_drewN | apply Kd.R_drew); exact HO129.out), (by (with_reducible repeat first | apply pN_ | apply pD_ | apply pA_); exact BK101.out), (by (with_reducible repeat first | apply pN_ | apply pD_ | apply pA_); exact BK110.out), (by (with_reducible repeat first | apply pN_ | apply pD_ | apply pA_); exact BK111.out), (by (with_reducible repeat first | apply pN_ | apply pD_ | apply pA_); exact BK123.out), (bU_ HB.out)⟩)
              ·skip
               rintro v128 w53 ⟨h0_, h1_, h2_, h3_, h4_, h5_, h6_⟩
               have n0_ : Aside0 (Kd.R k95 95 w53 w.heap.size (fun _ => True) (.slice Ao12 t104.length co12) t104) := ⟨h0_⟩
               have n1_ : Aside0 (Kd.R (Kd.int .u8) 5 w53 w.heap.size (fun _ => True) v128 y127) := ⟨h1_⟩
               have n2_ : Aside0 (w53.heap[gb101]? = some (.cells #[.string ⟨#[]⟩, .string ⟨#[]⟩, .int .i64 0, .int .i64 0, .int .i64 0] 23 (0, 0))) := ⟨h2_⟩
               have n3_ : Aside0 (w53.heap[gb110]? = some (.cells #[.string t102, .string t103, .slice Ao12 t104.length co12, .int .i64 t107] 63 (0, 0))) := ⟨h3_⟩
               have n4_ : Aside0 (w53.heap[gb111]? = some (.cells #[.string ⟨#[]⟩, .string ⟨#[]⟩, .int .i64 0, .int .i64 0, .int .i64 0] 23 (0, 0))) := ⟨h4_⟩
               have n5_ : Aside0 (w53.heap[gb123]? = some (.cells #[.int .i64 t112, .int .i64 t113, .int .i64 t114, .int .i64 t115, .int .i64 t116, .int .i64 t117, .string t118, .string t119, .string t120] 66 (0, 0))) := ⟨h5_⟩
               have n6_ : Aside0 (Below w.heap.size w w53) := ⟨h6_⟩
               clear HO106
               clear BK101
               clear BK110
               clear BK111
               clear BK123
               clear HB
               clear h0_ h1_ h2_ h3_ h4_ h5_ h6_
               have HO106 := n0_
               have HO129 := n1_
               have BK101 := n2_
               have BK110 := n3_
               have BK111 := n4_
               have BK123 := n5_
               have HB := n6_
               clear n0_ n1_ n2_ n3_ n4_ n5_ n6_
               have hHeld := trivial
               refine norm_ (a' := ?_) ?_ ?_
               rotate_left
               ·simp only [putAll, Act.put, s1_, s2_, s3_]; rfl
               refine two_ (i := 0) (j := 3) (Ni := some 54) (Nj := some 57) #[true, false, true, false, false, false] #[false, false, true, true, false, false] rfl rfl rfl rfl (by kernel_rfl) (by decide) (by decide) (fun K hK => ?_) (fun K hK => ?_)
               ·skip
                refine Kd.R_make_step (Kd.int .u8) _ 5 (by rfl) (N := 54) rfl 45 _ _ rfl 10 rfl rfl Try.underlying45 (.int .u8 0) 1 info5 rfl (by decide) (by omega) 0 (ok := fun _ => True) (okp := fun _ => True) rfl (fun _ hk => hk) trivial (by omega) (by omega) (Below.refl _ _) (Nat.le_refl _) ?_
                intro v125 w54 ho55 hb hg_ hnew_
                clear hg_ hnew_
                (first | rw [← Ny124.out] at ho55 | (simp only [Int.reduceToNat] at ho55; rw [← Ny124.out] at ho55))
                have n0_ := Aside0.mk (rB_ HO106.out hb)
                have n1_ := Aside0.mk (Kd.R_elder' (by (with_reducible repeat first | apply Kd.R_alloc | apply Kd.R_drewN | apply Kd.R_drew); exact HO129.out) (Kd.R_base ho55) hb)
                have n2_ := Aside0.mk (Kd.R_lower (Kd.R_new' ho55 (Kd.R_lt (by (with_reducible repeat first | apply Kd.R_alloc | apply Kd.R_drewN | apply Kd.R_drew); exact HO129.out))) (below_size (bU_ HB.out)))
                have n3_ := Aside0.mk (bB_ BK101.out hb)
                have n4_ := Aside0.mk (bB_ BK110.out hb)
                have n5_ := Aside0.mk (bB_ BK111.out hb)
                have n6_ := Aside0.mk (bB_ BK123.out hb)
                have n7_ := Aside0.mk (below_step (bU_ HB.out) hb)
                clear HO106
                clear HO129
                clear BK101
                clear BK110
                clear BK111
                clear BK123
                clear HB
                have HO106 := n0_
                have HO129 := n1_
                have HO126 := n2_
                have BK101 := n3_
                have BK110 := n4_
                have BK111 := n5_
                have BK123 := n6_
                have HB := n7_
                clear n0_ n1_ n2_ n3_ n4_ n5_ n6_ n7_
                clear hb ho55
                refine hK.out _ _ trivial (fun hHeld => ?_)
                clear hK K
                refine norm_ (a' := ?_) ?_ ?_
                rotate_left
                ·show Act.put _ (some 54) _ = _
                 simp only [Act.put, s1_, s2_, s3_, i64_w, i32_w]; rfl
                exact norm_ (by first | (simp only [putAll, Act.put, s1_, s2_, s3_]; done) | (simp only [putAll, Act.put, s1_, s2_, s3_]; rfl)) (hJ0_2 (v125, v128) _ ⟨(by (with_reducible repeat first | apply Kd.R_alloc | apply Kd.R_drewN | apply Kd.R_drew); exact HO106.out), (by (with_reducible repeat first | apply Kd.R_alloc | apply Kd.R_drewN | apply Kd.R_drew); exact Kd.R_mono HO126.out (fun _ hk => hk.2)), (by (with_reducible repeat first | apply Kd.R_alloc | apply Kd.R_drewN | apply Kd.R_drew); exact Kd.R_mono HO129.out (fun _ hk => hk.2)), (by (with_reducible repeat first | apply pN_ | apply pD_ | apply pA_); exact BK101.out), (by (with_reducible repeat first | apply pN_ | apply pD_ | apply pA_); exact BK110.out), (by (with_reducible repeat first | apply pN_ | apply pD_ | apply pA_); exact BK111.out), (by (with_reducible repeat first | apply pN_ | apply pD_ | apply pA_); exact BK123.out), (bU_ HB.out)⟩)
               ·skip
                have hcv54 := own_string (P := Try.prog) Try.underlying45 Try.underlying5 Try.underlying9 (Kd.own_of_R HO129.out)
                refine value_ (w1 := ?_) (v := ?_) (by rfl) rfl ?_ ?_
                rotate_left 2
                ·go_simp
                 constructor
                 ·rfl
                 ·rfl
                clear hcv54
                refine hK.out _ _ trivial (fun hHeld => ?_)
                clear hK K
                refine norm_ (a' := ?_) ?_ ?_
                rotate_left
                ·show Act.put _ (some 57) _ = _
                 simp only [Act.put, s1_, s2_, s3_, i64_w, i32_w]; rfl
                exact norm_ (by first | (simp only [putAll, Act.put, s1_, s2_, s3_]; done) | (simp only [putAll, Act.put, s1_, s2_, s3_]; rfl)) (hJ2_3 (v128) _ ⟨(by (with_reducible repeat first | apply Kd.R_alloc | apply Kd.R_drewN | apply Kd.R_drew); exact HO106.out), (by (with_reducible repeat first | apply Kd.R_alloc | apply Kd.R_drewN | apply Kd.R_drew); exact HO129.out), (by (with_reducible repeat first | apply pN_ | apply pD_ | apply pA_); exact BK101.out), (by (with_reducible repeat first | apply pN_ | apply pD_ | apply pA_); exact BK110.out), (by (with_reducible repeat first | apply pN_ | apply pD_ | apply pA_); exact BK111.out), (by (with_reducible repeat first | apply pN_ | apply pD_ | apply pA_); exact BK123.out), (bU_ HB.out)⟩)
             ·skip
              rintro v125 w53 ⟨h0_, h1_, h2_, h3_, h4_, h5_, h6_⟩
              have n0_ : Aside0 (Kd.R k95 95 w53 w.heap.size (fun _ => True) (.slice Ao12 t104.length co12) t104) := ⟨h0_⟩
              have n1_ : Aside0 (Kd.R (Kd.int .u8) 5 w53 w.heap.size (fun _ => True) v125 y124) := ⟨h1_⟩
              have n2_ : Aside0 (w53.heap[gb101]? = some (.cells #[.string ⟨#[]⟩, .string ⟨#[]⟩, .int .i64 0, .int .i64 0, .int .i64 0] 23 (0, 0))) := ⟨h2_⟩
              have n3_ : Aside0 (w53.heap[gb110]? = some (.cells #[.string t102, .string t103, .slice Ao12 t104.length co12, .int .i64 t107] 63 (0, 0))) := ⟨h3_⟩
              have n4_ : Aside0 (w53.heap[gb111]? = some (.cells #[.string ⟨#[]⟩, .string ⟨#[]⟩, .int .i64 0, .int .i64 0, .int .i64 0] 23 (0, 0))) := ⟨h4_⟩
              have n5_ : Aside0 (w53.heap[gb123]? = some (.cells #[.int .i64 t112, .int .i64 t113, .int .i64 t114, .int .i64 t115, .int .i64 t116, .int .i64 t117, .string t118, .string t119, .string t120] 66 (0, 0))) := ⟨h5_⟩
              have n6_ : Aside0 (Below w.heap.size w w53) := ⟨h6_⟩
              clear HO106
              clear BK101
              clear BK110
              clear BK111
              clear BK123
              clear HB
              clear h0_ h1_ h2_ h3_ h4_ h5_ h6_
              have HO106 := n0_
              have HO126 := n1_
              have BK101 := n2_
              have BK110 := n3_
              have BK111 := n4_
              have BK123 := n5_
              have HB := n6_
              clear n0_ n1_ n2_ n3_ n4_ n5_ n6_
              have hHeld := trivial
              refine norm_ (a' := ?_) ?_ ?_
              rotate_left
              ·simp only [putAll, Act.put, s1_, s2_, s3_]; rfl
              refine two_ (i := 1) (j := 2) (Ni := some 55) (Nj := some 56) #[true, true, false, false, false, false] #[true, false, true, false, false, false] rfl rfl rfl rfl (by kernel_rfl) (by decide) (by decide) (fun K hK => ?_) (fun K hK => ?_)
              ·skip
               have hcv54 := own_string (P := Try.prog) Try.underlying45 Try.underlying5 Try.underlying9 (Kd.own_of_R HO126.out)
               refine value_ (w1 := ?_) (v := ?_) (by rfl) rfl ?_ ?_
               rotate_left 2
               ·go_simp
                constructor
                ·rfl
                ·rfl
               clear hcv54
               refine hK.out _ _ trivial (fun hHeld => ?_)
               clear hK K
               refine norm_ (a' := ?_) ?_ ?_
               rotate_left
               ·show Act.put _ (some 55) _ = _
                simp only [Act.put, s1_, s2_, s3_, i64_w, i32_w]; rfl
               exact norm_ (by first | (simp only [putAll, Act.put, s1_, s2_, s3_]; done) | (simp only [putAll, Act.put, s1_, s2_, s3_]; rfl)) (hJ0_1 (v125) _ ⟨(by (with_reducible repeat first | apply Kd.R_alloc | apply Kd.R_drewN | apply Kd.R_drew); exact HO106.out), (by (with_reducible repeat first | apply Kd.R_alloc | apply Kd.R_drewN | apply Kd.R_drew); exact HO126.out), (by (with_reducible repeat first | apply pN_ | apply pD_ | apply pA_); exact BK101.out), (by (with_reducible repeat first | apply pN_ | apply pD_ | apply pA_); exact BK110.out), (by (with_reducible repeat first | apply pN_ | apply pD_ | apply pA_); exact BK111.out), (by (with_reducible repeat first | apply pN_ | apply pD_ | apply pA_); exact BK123.out), (bU_ HB.out)⟩)
              ·skip
               refine Kd.R_lit_step (Kd.int .u8) _ 5 ?hg (N := 56) ?hd (xs := ([255, 255] : List Int)) (inner := [.int .u8 255, .int .u8 255]) (ok := fun _ => True) (okp := fun _ => True) ?hr ?hp (fun _ hk => hk) trivial (Below.refl _ _) (Nat.le_refl _) (by simp) ?_; (case hd => rfl); (case hg => rfl); (case hr => first | (go_simp; done) | (go_simp; simp only [IntKind.wrap_u8]; done) | (go_simp; rfl)); (case hp => exact (Reps.one (show Kd.M (Kd.int .u8) _ _ _ 255 [.int .u8 255] from rfl) (Reps.one (show Kd.M (Kd.int .u8) _ _ _ 255 [.int .u8 255] from rfl) (Reps.none _ _))))
               intro v128 w54 ho55 hb hg_ hnew_
               clear hg_ hnew_
               (first | rw [← Ny127.out] at ho55 | (simp only [Int.reduceToNat] at ho55; rw [← Ny127.out] at ho55))
               have n0_ := Aside0.mk (rB_ HO106.out hb)
               have n1_ := Aside0.mk (Kd.R_elder' (by (with_reducible repeat first | apply Kd.R_alloc | apply Kd.R_drewN | apply Kd.R_drew); exact HO126.out) (Kd.R_base ho55) hb)
               have n2_ := Aside0.mk (Kd.R_lower (Kd.R_new' ho55 (Kd.R_lt (by (with_reducible repeat first | apply Kd.R_alloc | apply Kd.R_drewN | apply Kd.R_drew); exact HO126.out))) (below_size (bU_ HB.out)))
               have n3_ := Aside0.mk (bB_ BK101.out hb)
               have n4_ := Aside0.mk (bB_ BK110.out hb)
               have n5_ := Aside0.mk (bB_ BK111.out hb)
               have n6_ := Aside0.mk (bB_ BK123.out hb)
               have n7_ := Aside0.mk (below_step (bU_ HB.out) hb)
               clear HO106
               clear HO126
               clear BK101
               clear BK110
               clear BK111
               clear BK123
               clear HB
               have HO106 := n0_
               have HO126 := n1_
               have HO129 := n2_
               have BK101 := n3_
               have BK110 := n4_
               have BK111 := n5_
               have BK123 := n6_
               have HB := n7_
               clear n0_ n1_ n2_ n3_ n4_ n5_ n6_ n7_
               clear hb ho55
               refine hK.out _ _ trivial (fun hHeld => ?_)
               clear hK K
               refine norm_ (a' := ?_) ?_ ?_
               rotate_left
               ·show Act.put _ (some 56) _ = _
                simp only [Act.put, s1_, s2_, s3_, i64_w, i32_w]; rfl
               exact norm_ (by first | (simp only [putAll, Act.put, s1_, s2_, s3_]; done) | (simp only [putAll, Act.put, s1_, s2_, s3_]; rfl)) (hJ0_2 (v125, v128) _ ⟨(by (with_reducible repeat first | apply Kd.R_alloc | apply Kd.R_drewN | apply Kd.R_drew); exact HO106.out), (by (with_reducible repeat first | apply Kd.R_alloc | apply Kd.R_drewN | apply Kd.R_drew); exact Kd.R_mono HO126.out (fun _ hk => hk.2)), (by (with_reducible repeat first | apply Kd.R_alloc | apply Kd.R_drewN | apply Kd.R_drew); exact Kd.R_mono HO129.out (fun _ hk => hk.2)), (by (with_reducible repeat first | apply pN_ | apply pD_ | apply pA_); exact BK101.out), (by (with_reducible repeat first | apply pN_ | apply pD_ | apply pA_); exact BK110.out), (by (with_reducible repeat first | apply pN_ | apply pD_ | apply pA_); exact BK111.out), (by (with_reducible repeat first | apply pN_ | apply pD_ | apply pA_); exact BK123.out), (bU_ HB.out)⟩)
            ·skip
             rintro v128 w54 ⟨h0_, h1_, h2_, h3_, h4_, h5_, h6_⟩
             have n0_ : Aside0 (Kd.R k95 95 w54 w.heap.size (fun _ => True) (.slice Ao12 t104.length co12) t104) := ⟨h0_⟩
             have n1_ : Aside0 (Kd.R (Kd.int .u8) 5 w54 w.heap.size (fun _ => True) v128 y127) := ⟨h1_⟩
             have n2_ : Aside0 (w54.heap[gb101]? = some (.cells #[.string ⟨#[]⟩, .string ⟨#[]⟩, .int .i64 0, .int .i64 0, .int .i64 0] 23 (0, 0))) := ⟨h2_⟩
             have n3_ : Aside0 (w54.heap[gb110]? = some (.cells #[.string t102, .string t103, .slice Ao12 t104.length co12, .int .i64 t107] 63 (0, 0))) := ⟨h3_⟩
             have n4_ : Aside0 (w54.heap[gb111]? = some (.cells #[.string ⟨#[]⟩, .string ⟨#[]⟩, .int .i64 0, .int .i64 0, .int .i64 0] 23 (0, 0))) := ⟨h4_⟩
             have n5_ : Aside0 (w54.heap[gb123]? = some (.cells #[.int .i64 t112, .int .i64 t113, .int .i64 t114, .int .i64 t115, .int .i64 t116, .int .i64 t117, .string t118, .string t119, .string t120] 66 (0, 0))) := ⟨h5_⟩
             have n6_ : Aside0 (Below w.heap.size w w54) := ⟨h6_⟩
             clear HO106
             clear BK101
             clear BK110
             clear BK111
             clear BK123
             clear HB
             clear h0_ h1_ h2_ h3_ h4_ h5_ h6_
             have HO106 := n0_
             have HO129 := n1_
             have BK101 := n2_
             have BK110 := n3_
             have BK111 := n4_
             have BK123 := n5_
             have HB := n6_
             clear n0_ n1_ n2_ n3_ n4_ n5_ n6_
             have hHeld := trivial
             refine norm_ (a' := ?_) ?_ ?_
             rotate_left
             ·simp only [putAll, Act.put, s1_, s2_, s3_]; rfl
             refine one_ (i := 0) (N := some 54) #[true, false, true, true, false, false] rfl rfl (by kernel_rfl) (by decide) (fun K hK => ?_)
             refine Kd.R_make_step (Kd.int .u8) _ 5 (by rfl) (N := 54) rfl 45 _ _ rfl 10 rfl rfl Try.underlying45 (.int .u8 0) 1 info5 rfl (by decide) (by omega) 0 (ok := fun _ => True) (okp := fun _ => True) rfl (fun _ hk => hk) trivial (by omega) (by omega) (Below.refl _ _) (Nat.le_refl _) ?_
             intro v125 w55 ho56 hb hg_ hnew_
             clear hg_ hnew_
             (first | rw [← Ny124.out] at ho56 | (simp only [Int.reduceToNat] at ho56; rw [← Ny124.out] at ho56))
             have n0_ := Aside0.mk (rB_ HO106.out hb)
             have n1_ := Aside0.mk (Kd.R_elder' (by (with_reducible repeat first | apply Kd.R_alloc | apply Kd.R_drewN | apply Kd.R_drew); exact HO129.out) (Kd.R_base ho56) hb)
             have n2_ := Aside0.mk (Kd.R_lower (Kd.R_new' ho56 (Kd.R_lt (by (with_reducible repeat first | apply Kd.R_alloc | apply Kd.R_drewN | apply Kd.R_drew); exact HO129.out))) (below_size (bU_ HB.out)))
             have n3_ := Aside0.mk (bB_ BK101.out hb)
             have n4_ := Aside0.mk (bB_ BK110.out hb)
             have n5_ := Aside0.mk (bB_ BK111.out hb)
             have n6_ := Aside0.mk (bB_ BK123.out hb)
             have n7_ := Aside0.mk (below_step (bU_ HB.out) hb)
             clear HO106
             clear HO129
             clear BK101
             clear BK110
             clear BK111
             clear BK123
             clear HB
             have HO106 := n0_
             have HO129 := n1_
             have HO126 := n2_
             have BK101 := n3_
             have BK110 := n4_
             have BK111 := n5_
             have BK123 := n6_
             have HB := n7_
             clear n0_ n1_ n2_ n3_ n4_ n5_ n6_ n7_
             clear hb ho56
             refine hK.out _ _ trivial (fun hHeld => ?_)
             clear hK K
             refine norm_ (a' := ?_) ?_ ?_
             rotate_left
             ·show Act.put _ (some 54) _ = _
              simp only [Act.put, s1_, s2_, s3_, i64_w, i32_w]; rfl
             exact norm_ (by first | (simp only [putAll, Act.put, s1_, s2_, s3_]; done) | (simp only [putAll, Act.put, s1_, s2_, s3_]; rfl)) (hJ0_2_3 (v125, v128) _ ⟨(by (with_reducible repeat first | apply Kd.R_alloc | apply Kd.R_drewN | apply Kd.R_drew); exact HO106.out), (by (with_reducible repeat first | apply Kd.R_alloc | apply Kd.R_drewN | apply Kd.R_drew); exact Kd.R_mono HO126.out (fun _ hk => hk.2)), (by (with_reducible repeat first | apply Kd.R_alloc | apply Kd.R_drewN | apply Kd.R_drew); exact Kd.R_mono HO129.out (fun _ hk => hk.2)), (by (with_reducible repeat first | apply pN_ | apply pD_ | apply pA_); exact BK101.out), (by (with_reducible repeat first | apply pN_ | apply pD_ | apply pA_); exact BK110.out), (by (with_reducible repeat first | apply pN_ | apply pD_ | apply pA_); exact BK111.out), (by (with_reducible repeat first | apply pN_ | apply pD_ | apply pA_); exact BK123.out), (bU_ HB.out)⟩)
           ·skip
            rintro ⟨v125, v128⟩ w55 ⟨h0_, h1_, h2_, h3_, h4_, h5_, h6_, h7_⟩
            have n0_ : Aside0 (Kd.R k95 95 w55 w.heap.size (fun _ => True) (.slice Ao12 t104.length co12) t104) := ⟨h0_⟩
            have n1_ : Aside0 (Kd.R (Kd.int .u8) 5 w55 w.heap.size (fun k_ => some k_ ≠ (v128 : Value).ownBlock) v125 y124) := ⟨h1_⟩
            have n2_ : Aside0 (Kd.R (Kd.int .u8) 5 w55 w.heap.size (fun k_ => some k_ ≠ (v125 : Value).ownBlock) v128 y127) := ⟨h2_⟩
            have n3_ : Aside0 (w55.heap[gb101]? = some (.cells #[.string ⟨#[]⟩, .string ⟨#[]⟩, .int .i64 0, .int .i64 0, .int .i64 0] 23 (0, 0))) := ⟨h3_⟩
            have n4_ : Aside0 (w55.heap[gb110]? = some (.cells #[.string t102, .string t103, .slice Ao12 t104.length co12, .int .i64 t107] 63 (0, 0))) := ⟨h4_⟩
            have n5_ : Aside0 (w55.heap[gb111]? = some (.cells #[.string ⟨#[]⟩, .string ⟨#[]⟩, .int .i64 0, .int .i64 0, .int .i64 0] 23 (0, 0))) := ⟨h5_⟩
            have n6_ : Aside0 (w55.heap[gb123]? = some (.cells #[.int .i64 t112, .int .i64 t113, .int .i64 t114, .int .i64 t115, .int .i64 t116, .int .i64 t117, .string t118, .string t119, .string t120] 66 (0, 0))) := ⟨h6_⟩
            have n7_ : Aside0 (Below w.heap.size w w55) := ⟨h7_⟩
            clear HO106
            clear BK101
            clear BK110
            clear BK111
            clear BK123
            clear HB
            clear h0_ h1_ h2_ h3_ h4_ h5_ h6_ h7_
            have HO106 := n0_
            have HO126 := n1_
            have HO129 := n2_
            have BK101 := n3_
            have BK110 := n4_
            have BK111 := n5_
            have BK123 := n6_
            have HB := n7_
            clear n0_ n1_ n2_ n3_ n4_ n5_ n6_ n7_
            have hHeld := trivial
            refine norm_ (a' := ?_) ?_ ?_
            rotate_left
            ·simp only [putAll, Act.put, s1_, s2_, s3_]; rfl
            refine two_ (i := 1) (j := 3) (Ni := some 55) (Nj := some 57) #[true, true, true, false, false, false] #[true, false, true, true, false, false] rfl rfl rfl rfl (by kernel_rfl) (by decide) (by decide) (fun K hK => ?_) (fun K hK => ?_)
            ·skip
             have hcv56 := own_string (P := Try.prog) Try.underlying45 Try.underlying5 Try.underlying9 (Kd.own_of_R HO126.out)
             refine value_ (w1 := ?_) (v := ?_) (by rfl) rfl ?_ ?_
             rotate_left 2
             ·go_simp
              constructor
              ·rfl
              ·rfl
             clear hcv56
             refine hK.out _ _ trivial (fun hHeld => ?_)
             clear hK K
             refine norm_ (a' := ?_) ?_ ?_
             rotate_left
             ·show Act.put _ (some 55) _ = _
              simp only [Act.put, s1_, s2_, s3_, i64_w, i32_w]; rfl
             exact norm_ (by first | (simp only [putAll, Act.put, s1_, s2_, s3_]; done) | (simp only [putAll, Act.put, s1_, s2_, s3_]; rfl)) (hJ0_1_2 (v125, v128) _ ⟨(by (with_reducible repeat first | apply Kd.R_alloc | apply Kd.R_drewN | apply Kd.R_drew); exact HO106.out), (by (with_reducible repeat first | apply Kd.R_alloc | apply Kd.R_drewN | apply Kd.R_drew); exact HO126.out), (by (with_reducible repeat first | apply Kd.R_alloc | apply Kd.R_drewN | apply Kd.R_drew); exact HO129.out), (by (with_reducible repeat first | apply pN_ | apply pD_ | apply pA_); exact BK101.out), (by (with_reducible repeat first | apply pN_ | apply pD_ | apply pA_); exact BK110.out), (by (with_reducible repeat first | apply pN_ | apply pD_ | apply pA_); exact BK111.out), (by (with_reducible repeat first | apply pN_ | apply pD_ | apply pA_); exact BK123.out), (bU_ HB.out)⟩)
            ·skip
             have hcv56 := own_string (P := Try.prog) Try.underlying45 Try.underlying5 Try.underlying9 (Kd.own_of_R HO129.out)
             refine value_ (w1 := ?_) (v := ?_) (by rfl) rfl ?_ ?_
             rotate_left 2
             ·go_simp
              constructor
              ·rfl
              ·rfl
             clear hcv56
             refine hK.out _ _ trivial (fun hHeld => ?_)
             clear hK K
             refine norm_ (a' := ?_) ?_ ?_
             rotate_left
             ·show Act.put _ (some 57) _ = _
              simp only [Act.put, s1_, s2_, s3_, i64_w, i32_w]; rfl
             exact norm_ (by first | (simp only [putAll, Act.put, s1_, s2_, s3_]; done) | (simp only [putAll, Act.put, s1_, s2_, s3_]; rfl)) (hJ0_2_3 (v125, v128) _ ⟨(by (with_reducible repeat first | apply Kd.R_alloc | apply Kd.R_drewN | apply Kd.R_drew); exact HO106.out), (by (with_reducible repeat first | apply Kd.R_alloc | apply Kd.R_drewN | apply Kd.R_drew); exact HO126.out), (by (with_reducible repeat first | apply Kd.R_alloc | apply Kd.R_drewN | apply Kd.R_drew); exact HO129.out), (by (with_reducible repeat first | apply pN_ | apply pD_ | apply pA_); exact BK101.out), (by (with_reducible repeat first | apply pN_ | apply pD_ | apply pA_); exact BK110.out), (by (with_reducible repeat first | apply pN_ | apply pD_ | apply pA_); exact BK111.out), (by (with_reducible repeat first | apply pN_ | apply pD_ | apply pA_); exact BK123.out), (bU_ HB.out)⟩)
          ·skip
           rintro v125 w54 ⟨h0_, h1_, h2_, h3_, h4_, h5_, h6_⟩
           have n0_ : Aside0 (Kd.R k95 95 w54 w.heap.size (fun _ => True) (.slice Ao12 t104.length co12) t104) := ⟨h0_⟩
           have n1_ : Aside0 (Kd.R (Kd.int .u8) 5 w54 w.heap.size (fun _ => True) v125 y124) := ⟨h1_⟩
           have n2_ : Aside0 (w54.heap[gb101]? = some (.cells #[.string ⟨#[]⟩, .string ⟨#[]⟩, .int .i64 0, .int .i64 0, .int .i64 0] 23 (0, 0))) := ⟨h2_⟩
           have n3_ : Aside0 (w54.heap[gb110]? = some (.cells #[.string t102, .string t103, .slice Ao12 t104.length co12, .int .i64 t107] 63 (0, 0))) := ⟨h3_⟩
           have n4_ : Aside0 (w54.heap[gb111]? = some (.cells #[.string ⟨#[]⟩, .string ⟨#[]⟩, .int .i64 0, .int .i64 0, .int .i64 0] 23 (0, 0))) := ⟨h4_⟩
           have n5_ : Aside0 (w54.heap[gb123]? = some (.cells #[.int .i64 t112, .int .i64 t113, .int .i64 t114, .int .i64 t115, .int .i64 t116, .int .i64 t117, .string t118, .string t119, .string t120] 66 (0, 0))) := ⟨h5_⟩
           have n6_ : Aside0 (Below w.heap.size w w54) := ⟨h6_⟩
           clear HO106
           clear BK101
           clear BK110
           clear BK111
           clear BK123
           clear HB
           clear h0_ h1_ h2_ h3_ h4_ h5_ h6_
           have HO106 := n0_
           have HO126 := n1_
           have BK101 := n2_
           have BK110 := n3_
           have BK111 := n4_
           have BK123 := n5_
           have HB := n6_
           clear n0_ n1_ n2_ n3_ n4_ n5_ n6_
           have hHeld := trivial
           refine norm_ (a' := ?_) ?_ ?_
           rotate_left
           ·simp only [putAll, Act.put, s1_, s2_, s3_]; rfl
           refine one_ (i := 2) (N := some 56) #[true, true, true, false, false, false] rfl rfl (by kernel_rfl) (by decide) (fun K hK => ?_)
           refine Kd.R_lit_step (Kd.int .u8) _ 5 ?hg (N := 56) ?hd (xs := ([255, 255] : List Int)) (inner := [.int .u8 255, .int .u8 255]) (ok := fun _ => True) (okp := fun _ => True) ?hr ?hp (fun _ hk => hk) trivial (Below.refl _ _) (Nat.le_refl _) (by simp) ?_; (case hd => rfl); (case hg => rfl); (case hr => first | (go_simp; done) | (go_simp; simp only [IntKind.wrap_u8]; done) | (go_simp; rfl)); (case hp => exact (Reps.one (show Kd.M (Kd.int .u8) _ _ _ 255 [.int .u8 255] from rfl) (Reps.one (show Kd.M (Kd.int .u8) _ _ _ 255 [.int .u8 255] from rfl) (Reps.none _ _))))
           intro v128 w55 ho56 hb hg_ hnew_
           clear hg_ hnew_
           (first | rw [← Ny127.out] at ho56 | (simp only [Int.reduceToNat] at ho56; rw [← Ny127.out] at ho56))
           have n0_ := Aside0.mk (rB_ HO106.out hb)
           have n1_ := Aside0.mk (Kd.R_elder' (by (with_reducible repeat first | apply Kd.R_alloc | apply Kd.R_drewN | apply Kd.R_drew); exact HO126.out) (Kd.R_base ho56) hb)
           have n2_ := Aside0.mk (Kd.R_lower (Kd.R_new' ho56 (Kd.R_lt (by (with_reducible repeat first | apply Kd.R_alloc | apply Kd.R_drewN | apply Kd.R_drew); exact HO126.out))) (below_size (bU_ HB.out)))
           have n3_ := Aside0.mk (bB_ BK101.out hb)
           have n4_ := Aside0.mk (bB_ BK110.out hb)
           have n5_ := Aside0.mk (bB_ BK111.out hb)
           have n6_ := Aside0.mk (bB_ BK123.out hb)
           have n7_ := Aside0.mk (below_step (bU_ HB.out) hb)
           clear HO106
           clear HO126
           clear BK101
           clear BK110
           clear BK111
           clear BK123
           clear HB
           have HO106 := n0_
           have HO126 := n1_
           have HO129 := n2_
           have BK101 := n3_
           have BK110 := n4_
           have BK111 := n5_
           have BK123 := n6_
           have HB := n7_
           clear n0_ n1_ n2_ n3_ n4_ n5_ n6_ n7_
           clear hb ho56
           refine hK.out _ _ trivial (fun hHeld => ?_)
           clear hK K
           refine norm_ (a' := ?_) ?_ ?_
           rotate_left
           ·show Act.put _ (some 56) _ = _
            simp only [Act.put, s1_, s2_, s3_, i64_w, i32_w]; rfl
           exact norm_ (by first | (simp only [putAll, Act.put, s1_, s2_, s3_]; done) | (simp only [putAll, Act.put, s1_, s2_, s3_]; rfl)) (hJ0_1_2 (v125, v128) _ ⟨(by (with_reducible repeat first | apply Kd.R_alloc | apply Kd.R_drewN | apply Kd.R_drew); exact HO106.out), (by (with_reducible repeat first | apply Kd.R_alloc | apply Kd.R_drewN | apply Kd.R_drew); exact Kd.R_mono HO126.out (fun _ hk => hk.2)), (by (with_reducible repeat first | apply Kd.R_alloc | apply Kd.R_drewN | apply Kd.R_drew); exact Kd.R_mono HO129.out (fun _ hk => hk.2)), (by (with_reducible repeat first | apply pN_ | apply pD_ | apply pA_); exact BK101.out), (by (with_reducible repeat first | apply pN_ | apply pD_ | apply pA_); exact BK110.out), (by (with_reducible repeat first | apply pN_ | apply pD_ | apply pA_); exact BK111.out), (by (with_reducible repeat first | apply pN_ | apply pD_ | apply pA_); exact BK123.out), (bU_ HB.out)⟩)
         ·skip
          rintro ⟨v125, v128⟩ w56 ⟨h0_, h1_, h2_, h3_, h4_, h5_, h6_, h7_⟩
          have n0_ : Aside0 (Kd.R k95 95 w56 w.heap.size (fun _ => True) (.slice Ao12 t104.length co12) t104) := ⟨h0_⟩
          have n1_ : Aside0 (Kd.R (Kd.int .u8) 5 w56 w.heap.size (fun k_ => some k_ ≠ (v128 : Value).ownBlock) v125 y124) := ⟨h1_⟩
          have n2_ : Aside0 (Kd.R (Kd.int .u8) 5 w56 w.heap.size (fun k_ => some k_ ≠ (v125 : Value).ownBlock) v128 y127) := ⟨h2_⟩
          have n3_ : Aside0 (w56.heap[gb101]? = some (.cells #[.string ⟨#[]⟩, .string ⟨#[]⟩, .int .i64 0, .int .i64 0, .int .i64 0] 23 (0, 0))) := ⟨h3_⟩
          have n4_ : Aside0 (w56.heap[gb110]? = some (.cells #[.string t102, .string t103, .slice Ao12 t104.length co12, .int .i64 t107] 63 (0, 0))) := ⟨h4_⟩
          have n5_ : Aside0 (w56.heap[gb111]? = some (.cells #[.string ⟨#[]⟩, .string ⟨#[]⟩, .int .i64 0, .int .i64 0, .int .i64 0] 23 (0, 0))) := ⟨h5_⟩
          have n6_ : Aside0 (w56.heap[gb123]? = some (.cells #[.int .i64 t112, .int .i64 t113, .int .i64 t114, .int .i64 t115, .int .i64 t116, .int .i64 t117, .string t118, .string t119, .string t120] 66 (0, 0))) := ⟨h6_⟩
          have n7_ : Aside0 (Below w.heap.size w w56) := ⟨h7_⟩
          clear HO106
          clear BK101
          clear BK110
          clear BK111
          clear BK123
          clear HB
          clear h0_ h1_ h2_ h3_ h4_ h5_ h6_ h7_
          have HO106 := n0_
          have HO126 := n1_
          have HO129 := n2_
          have BK101 := n3_
          have BK110 := n4_
          have BK111 := n5_
          have BK123 := n6_
          have HB := n7_
          clear n0_ n1_ n2_ n3_ n4_ n5_ n6_ n7_
          have hHeld := trivial
          refine norm_ (a' := ?_) ?_ ?_
          rotate_left
          ·simp only [putAll, Act.put, s1_, s2_, s3_]; rfl
          refine one_ (i := 1) (N := some 55) #[true, true, true, true, false, false] rfl rfl (by kernel_rfl) (by decide) (fun K hK => ?_)
          have hcv57 := own_string (P := Try.prog) Try.underlying45 Try.underlying5 Try.underlying9 (Kd.own_of_R HO126.out)
          refine value_ (w1 := ?_) (v := ?_) (by rfl) rfl ?_ ?_
          rotate_left 2
          ·go_simp
           constructor
           ·rfl
           ·rfl
          clear hcv57
          refine hK.out _ _ trivial (fun hHeld => ?_)
          clear hK K
          refine norm_ (a' := ?_) ?_ ?_
          rotate_left
          ·show Act.put _ (some 55) _ = _
           simp only [Act.put, s1_, s2_, s3_, i64_w, i32_w]; rfl
          exact norm_ (by first | (simp only [putAll, Act.put, s1_, s2_, s3_]; done) | (simp only [putAll, Act.put, s1_, s2_, s3_]; rfl)) (hJ0_1_2_3 (v125, v128) _ ⟨(by (with_reducible repeat first | apply Kd.R_alloc | apply Kd.R_drewN | apply Kd.R_drew); exact HO106.out), (by (with_reducible repeat first | apply Kd.R_alloc | apply Kd.R_drewN | apply Kd.R_drew); exact HO126.out), (by (with_reducible repeat first | apply Kd.R_alloc | apply Kd.R_drewN | apply Kd.R_drew); exact HO129.out), (by (with_reducible repeat first | apply pN_ | apply pD_ | apply pA_); exact BK101.out), (by (with_reducible repeat first | apply pN_ | apply pD_ | apply pA_); exact BK110.out), (by (with_reducible repeat first | apply pN_ | apply pD_ | apply pA_); exact BK111.out), (by (with_reducible repeat first | apply pN_ | apply pD_ | apply pA_); exact BK123.out), (bU_ HB.out)⟩)
        ·skip
         rintro ⟨v125, v128⟩ w56 ⟨h0_, h1_, h2_, h3_, h4_, h5_, h6_, h7_⟩
         have n0_ : Aside0 (Kd.R k95 95 w56 w.heap.size (fun _ => True) (.slice Ao12 t104.length co12) t104) := ⟨h0_⟩
         have n1_ : Aside0 (Kd.R (Kd.int .u8) 5 w56 w.heap.size (fun k_ => some k_ ≠ (v128 : Value).ownBlock) v125 y124) := ⟨h1_⟩
         have n2_ : Aside0 (Kd.R (Kd.int .u8) 5 w56 w.heap.size (fun k_ => some k_ ≠ (v125 : Value).ownBlock) v128 y127) := ⟨h2_⟩
         have n3_ : Aside0 (w56.heap[gb101]? = some (.cells #[.string ⟨#[]⟩, .string ⟨#[]⟩, .int .i64 0, .int .i64 0, .int .i64 0] 23 (0, 0))) := ⟨h3_⟩
         have n4_ : Aside0 (w56.heap[gb110]? = some (.cells #[.string t102, .string t103, .slice Ao12 t104.length co12, .int .i64 t107] 63 (0, 0))) := ⟨h4_⟩
         have n5_ : Aside0 (w56.heap[gb111]? = some (.cells #[.string ⟨#[]⟩, .string ⟨#[]⟩, .int .i64 0, .int .i64 0, .int .i64 0] 23 (0, 0))) := ⟨h5_⟩
         have n6_ : Aside0 (w56.heap[gb123]? = some (.cells #[.int .i64 t112, .int .i64 t113, .int .i64 t114, .int .i64 t115, .int .i64 t116, .int .i64 t117, .string t118, .string t119, .string t120] 66 (0, 0))) := ⟨h6_⟩
         have n7_ : Aside0 (Below w.heap.size w w56) := ⟨h7_⟩
         clear HO106
         clear BK101
         clear BK110
         clear BK111
         clear BK123
         clear HB
         clear h0_ h1_ h2_ h3_ h4_ h5_ h6_ h7_
         have HO106 := n0_
         have HO126 := n1_
         have HO129 := n2_
         have BK101 := n3_
         have BK110 := n4_
         have BK111 := n5_
         have BK123 := n6_
         have HB := n7_
         clear n0_ n1_ n2_ n3_ n4_ n5_ n6_ n7_
         have hHeld := trivial
         refine norm_ (a' := ?_) ?_ ?_
         rotate_left
         ·simp only [putAll, Act.put, s1_, s2_, s3_]; rfl
         refine one_ (i := 3) (N := some 57) #[true, true, true, true, false, false] rfl rfl (by kernel_rfl) (by decide) (fun K hK => ?_)
         have hcv57 := own_string (P := Try.prog) Try.underlying45 Try.underlying5 Try.underlying9 (Kd.own_of_R HO129.out)
         refine value_ (w1 := ?_) (v := ?_) (by rfl) rfl ?_ ?_
         rotate_left 2
         ·go_simp
          constructor
          ·rfl
          ·rfl
         clear hcv57
         refine hK.out _ _ trivial (fun hHeld => ?_)
         clear hK K
         refine norm_ (a' := ?_) ?_ ?_
         rotate_left
         ·show Act.put _ (some 57) _ = _
          simp only [Act.put, s1_, s2_, s3_, i64_w, i32_w]; rfl
         exact norm_ (by first | (simp only [putAll, Act.put, s1_, s2_, s3_]; done) | (simp only [putAll, Act.put, s1_, s2_, s3_]; rfl)) (hJ0_1_2_3 (v125, v128) _ ⟨(by (with_reducible repeat first | apply Kd.R_alloc | apply Kd.R_drewN | apply Kd.R_drew); exact HO106.out), (by (with_reducible repeat first | apply Kd.R_alloc | apply Kd.R_drewN | apply Kd.R_drew); exact HO126.out), (by (with_reducible repeat first | apply Kd.R_alloc | apply Kd.R_drewN | apply Kd.R_drew); exact HO129.out), (by (with_reducible repeat first | apply pN_ | apply pD_ | apply pA_); exact BK101.out), (by (with_reducible repeat first | apply pN_ | apply pD_ | apply pA_); exact BK110.out), (by (with_reducible repeat first | apply pN_ | apply pD_ | apply pA_); exact BK111.out), (by (with_reducible repeat first | apply pN_ | apply pD_ | apply pA_); exact BK123.out), (bU_ HB.out)⟩)
       rintro ⟨v125, v128⟩ w57 ⟨h0_, h1_, h2_, h3_, h4_, h5_, h6_, h7_⟩
       have n0_ : Aside0 (Kd.R k95 95 w57 w.heap.size (fun _ => True) (.slice Ao12 t104.length co12) t104) := ⟨h0_⟩
       have n1_ : Aside0 (Kd.R (Kd.int .u8) 5 w57 w.heap.size (fun k_ => some k_ ≠ (v128 : Value).ownBlock) v125 y124) := ⟨h1_⟩
       have n2_ : Aside0 (Kd.R (Kd.int .u8) 5 w57 w.heap.size (fun k_ => some k_ ≠ (v125 : Value).ownBlock) v128 y127) := ⟨h2_⟩
       have n3_ : Aside0 (w57.heap[gb101]? = some (.cells #[.string ⟨#[]⟩, .string ⟨#[]⟩, .int .i64 0, .int .i64 0, .int .i64 0] 23 (0, 0))) := ⟨h3_⟩
       have n4_ : Aside0 (w57.heap[gb110]? = some (.cells #[.string t102, .string t103, .slice Ao12 t104.length co12, .int .i64 t107] 63 (0, 0))) := ⟨h4_⟩
       have n5_ : Aside0 (w57.heap[gb111]? = some (.cells #[.string ⟨#[]⟩, .string ⟨#[]⟩, .int .i64 0, .int .i64 0, .int .i64 0] 23 (0, 0))) := ⟨h5_⟩
       have n6_ : Aside0 (w57.heap[gb123]? = some (.cells #[.int .i64 t112, .int .i64 t113, .int .i64 t114, .int .i64 t115, .int .i64 t116, .int .i64 t117, .string t118, .string t119, .string t120] 66 (0, 0))) := ⟨h6_⟩
       have n7_ : Aside0 (Below w.heap.size w w57) := ⟨h7_⟩
       clear HO106
       clear BK101
       clear BK110
       clear BK111
       clear BK123
       clear HB
       clear h0_ h1_ h2_ h3_ h4_ h5_ h6_ h7_
       have HO106 := n0_
       have HO126 := n1_
       have HO129 := n2_
       have BK101 := n3_
       have BK110 := n4_
       have BK111 := n5_
       have BK123 := n6_
       have HB := n7_
       clear n0_ n1_ n2_ n3_ n4_ n5_ n6_ n7_
       have hHeld := trivial
       refine norm_ (a' := ?_) ?_ ?_
       rotate_left
       ·simp only [putAll, Act.put, s1_, s2_, s3_]; rfl
       refine pure_ (i := 4) (N := some 58) (v := ?_) (a' := ?_) #[true, true, true, true, true, false] rfl rfl (by kernel_rfl) (fun _ _ _ h => h) (Or.inl ⟨by rfl, ?_⟩) ?_ ?_
       rotate_left
       ·intro w'; go_simp; with_reducible rfl
       rotate_left
       ·simp only [Act.put, s1_, s2_, s3_, i64_w, i32_w]; rfl
       refine pure_ (i := 5) (N := some 12) (v := ?_) (a' := ?_) #[true, true, true, true, true, true] rfl rfl (by kernel_rfl) (fun _ _ _ h => h) (Or.inl ⟨by rfl, ?_⟩) ?_ ?_
       rotate_left
       ·intro w'; go_simp; with_reducible rfl
       rotate_left
       ·simp only [Act.put, s1_, s2_, s3_, i64_w, i32_w]; rfl
       refine done_ (by kernel_rfl) ?_
       try go_wp2
       have n0_ := Aside0.mk (Kd.R_drew HO106.out)
       have n1_ := Aside0.mk (Kd.R_drew HO126.out)
       have n2_ := Aside0.mk (Kd.R_drew HO129.out)
       have n3_ := Aside0.mk (blk_drew BK101.out)
       have n4_ := Aside0.mk (blk_drew BK110.out)
       have n5_ := Aside0.mk (blk_drew BK111.out)
       have n6_ := Aside0.mk (blk_drew BK123.out)
       have n7_ := Aside0.mk (below_drew1 HB.out)
       clear HO106
       clear HO126
       clear HO129
       clear BK101
       clear BK110
       clear BK111
       clear BK123
       clear HB
       have HO106 := n0_
       have HO126 := n1_
       have HO129 := n2_
       have BK101 := n3_
       have BK110 := n4_
       have BK111 := n5_
       have BK123 := n6_
       have HB := n7_
       clear n0_ n1_ n2_ n3_ n4_ n5_ n6_ n7_
       refine start_ (n := 16) (S := fun w' => w'.cell? ⟨gb123, 0, none⟩ = some (.int .i64 t112) ∧ w'.cell? ⟨gb123, 1, none⟩ = some (.int .i64 t113) ∧ w'.cell? ⟨gb123, 2, none⟩ = some (.int .i64 t114) ∧ w'.cell? ⟨gb123, 3, none⟩ = some (.int .i64 t115) ∧ w'.cell? ⟨gb123, 4, none⟩ = some (.int .i64 t116) ∧ w'.cell? ⟨gb123, 5, none⟩ = some (.int .i64 t117) ∧ w'.cell? ⟨gb123, 6, none⟩ = some (.string t118) ∧ w'.cell? ⟨gb123, 7, none⟩ = some (.string t119) ∧ w'.cell? ⟨gb123, 8, none⟩ = some (.string t120)) (ds := []) #[false, false, false, false, false, false, false, false, false, false, false, false, false, false, false, false] (by kernel_rfl) rfl rfl ⟨(blk_cell BK123.out 0).trans rfl, (blk_cell BK123.out 1).trans rfl, (blk_cell BK123.out 2).trans rfl, (blk_cell BK123.out 3).trans rfl, (blk_cell BK123.out 4).trans rfl, (blk_cell BK123.out 5).trans rfl, (blk_cell BK123.out 6).trans rfl, (blk_cell BK123.out 7).trans rfl, (blk_cell BK123.out 8).trans rfl⟩ (fun hHeld => ?_); refine with_tabW rillmeterref09_Extract.tab17 rillmeterref09_Extract.bits17 (fun HT_ HW_ => ?_)
       generalize w57.drew = w58 at HO106 HO126 HO129 BK101 BK110 BK111 BK123 HB hHeld ⊢
       refine pure_ (i := 0) (N := some 59) (v := ?_) (a' := ?_) #[true, false, false, false, false, false, false, false, false, false, false, false, false, false, false, false] rfl rfl (any_of HT_.out (by kernel_rfl)) (fun _ _ _ h => h) (Or.inl ⟨by rfl, ?_⟩) ?_ ?_
       rotate_left
       ·intro w'; go_simp; with_reducible rfl
       rotate_left
       ·simp only [Act.put, s1_, s2_, s3_, i64_w, i32_w]; rfl
       refine pure_ (i := 1) (N := some 60) (v := ?_) (a' := ?_) #[true, true, false, false, false, false, false, false, false, false, false, false, false, false, false, false] rfl rfl (any_of HT_.out (by kernel_rfl)) (fun _ _ _ h => h) (Or.inl ⟨by rfl, ?_⟩) ?_ ?_
       rotate_left
       ·intro w'; go_simp; with_reducible rfl
       rotate_left
       ·simp only [Act.put, s1_, s2_, s3_, i64_w, i32_w]; rfl
       refine pure_ (i := 4) (N := some 63) (v := ?_) (a' := ?_) #[true, true, false, false, true, false, false, false, false, false, false, false, false, false, false, false] rfl rfl (any_of HT_.out (by kernel_rfl)) (fun _ _ _ h => h) (Or.inl ⟨by rfl, ?_⟩) ?_ ?_
       rotate_left
       ·intro w'; go_simp; with_reducible rfl
       rotate_left
       ·simp only [Act.put, s1_, s2_, s3_, i64_w, i32_w]; rfl
       refine pure_ (i := 5) (N := some 64) (v := ?_) (a' := ?_) #[true, true, false, false, true, true, false, false, false, false, false, false, false, false, false, false] rfl rfl (any_of HT_.out (by kernel_rfl)) (fun _ _ _ h => h) (Or.inl ⟨by rfl, ?_⟩) ?_ ?_
       rotate_left
       ·intro w'; go_simp; with_reducible rfl
       rotate_left
       ·simp only [Act.put, s1_, s2_, s3_, i64_w, i32_w]; rfl
       refine pure_ (i := 8) (N := some 67) (v := ?_) (a' := ?_) #[true, true, false, false, true, true, false, false, true, false, false, false, false, false, false, false] rfl rfl (any_of HT_.out (by kernel_rfl)) (fun _ _ _ h => h) (Or.inl ⟨by rfl, ?_⟩) ?_ ?_
       rotate_left
       ·intro w'; go_simp; with_reducible rfl
       rotate_left
       ·simp only [Act.put, s1_, s2_, s3_, i64_w, i32_w]; rfl
       refine take_ (i := 2) (N := some 61) (v := ?_) (a' := ?_) #[true, true, true, false, true, true, false, false, true, false, false, false, false, false, false, false] rfl rfl (take_ofW HT_.out HW_.out (by kernel_rfl)) (fun _ _ _ h => h) (Or.inl ⟨by rfl, ?_⟩) hHeld ?_ ?_
       rotate_left
       ·rintro w' ⟨s0, s1, s2, s3, s4, s5, s6, s7, s8⟩
        go_simp
        with_reducible rfl
       rotate_left
       ·simp only [Act.put, s1_, s2_, s3_, i64_w, i32_w]; rfl
       refine pure_ (i := 3) (N := some 62) (v := ?_) (a' := ?_) #[true, true, true, true, true, true, false, false, true, false, false, false, false, false, false, false] rfl rfl (any_of HT_.out (by kernel_rfl)) (fun _ _ _ h => h) (Or.inl ⟨by rfl, ?_⟩) ?_ ?_
       rotate_left
       ·intro w'; go_simp; with_reducible rfl
       rotate_left
       ·simp only [Act.put, s1_, s2_, s3_, i64_w, i32_w]; rfl
       refine pure_ (i := 10) (N := some 69) (v := ?_) (a' := ?_) #[true, true, true, true, true, true, false, false, true, false, true, false, false, false, false, false] rfl rfl (any_of HT_.out (by kernel_rfl)) (fun _ _ _ h => h) (Or.inl ⟨by rfl, ?_⟩) ?_ ?_
       rotate_left
       ·intro w'; go_simp; with_reducible rfl
       rotate_left
       ·simp only [Act.put, s1_, s2_, s3_, i64_w, i32_w]; rfl
       refine take_ (i := 6) (N := some 65) (v := ?_) (a' := ?_) #[true, true, true, true, true, true, true, false, true, false, true, false, false, false, false, false] rfl rfl (take_ofW HT_.out HW_.out (by kernel_rfl)) (fun _ _ _ h => h) (Or.inl ⟨by rfl, ?_⟩) hHeld ?_ ?_
       rotate_left
       ·rintro w' ⟨s0, s1, s2, s3, s4, s5, s6, s7, s8⟩
        go_simp
        with_reducible rfl
       rotate_left
       ·simp only [Act.put, s1_, s2_, s3_, i64_w, i32_w]; rfl
       refine pure_ (i := 7) (N := some 66) (v := ?_) (a' := ?_) #[true, true, true, true, true, true, true, true, true, false, true, false, false, false, false, false] rfl rfl (any_of HT_.out (by kernel_rfl)) (fun _ _ _ h => h) (Or.inl ⟨by rfl, ?_⟩) ?_ ?_
       rotate_left
       ·intro w'; go_simp; with_reducible rfl
       rotate_left
       ·simp only [Act.put, s1_, s2_, s3_, i64_w, i32_w]; rfl
       refine take_ (i := 9) (N := some 68) (v := ?_) (a' := ?_) #[true, true, true, true, true, true, true, true, true, true, true, false, false, false, false, false] rfl rfl (take_ofW HT_.out HW_.out (by kernel_rfl)) (fun _ _ _ h => h) (Or.inl ⟨by rfl, ?_⟩) hHeld ?_ ?_
       rotate_left
       ·rintro w' ⟨s0, s1, s2, s3, s4, s5, s6, s7, s8⟩
        go_simp
        with_reducible rfl
       rotate_left
       ·simp only [Act.put, s1_, s2_, s3_, i64_w, i32_w]; rfl
       refine one_ (i := 11) (N := none) #[true, true, true, true, true, true, true, true, true, true, true, true, false, false, false, false] rfl rfl (one_of HT_.out (by kernel_rfl)) (by decide) (fun K hK => ?_)
       have hs59 : w58.cell? ⟨gb111, 0, none⟩ = some (.string ⟨#[]⟩) := (blk_cell BK111.out 0).trans rfl
       have hfs59 := blk_frozen BK111.out 0
       have hns59_0 := NB101_111.out
       have hns59_1 := NB110_111.out
       have hns59_3 := NB123_111.out
       have hms59_0 := NB111_101.out
       have hms59_1 := NB111_110.out
       have hms59_3 := NB111_123.out
       refine skip_ (w1 := ?_) (by rfl) rfl ?_ ?_
       rotate_left
       ·go_simp
        rfl
       refine hK.out _ _ ⟨((cell_far (p := ⟨gb111, _, none⟩) NB123_111.out _).trans (hHeld.1)), ((cell_far (p := ⟨gb111, _, none⟩) NB123_111.out _).trans (hHeld.2.1)), ((cell_far (p := ⟨gb111, _, none⟩) NB123_111.out _).trans (hHeld.2.2.1)), ((cell_far (p := ⟨gb111, _, none⟩) NB123_111.out _).trans (hHeld.2.2.2.1)), ((cell_far (p := ⟨gb111, _, none⟩) NB123_111.out _).trans (hHeld.2.2.2.2.1)), ((cell_far (p := ⟨gb111, _, none⟩) NB123_111.out _).trans (hHeld.2.2.2.2.2.1)), ((cell_far (p := ⟨gb111, _, none⟩) NB123_111.out _).trans (hHeld.2.2.2.2.2.2.1)), ((cell_far (p := ⟨gb111, _, none⟩) NB123_111.out _).trans (hHeld.2.2.2.2.2.2.2.1)), ((cell_far (p := ⟨gb111, _, none⟩) NB123_111.out _).trans (hHeld.2.2.2.2.2.2.2.2))⟩ (fun hHeld => ?_)
       clear hK K
       refine pure_ (i := 12) (N := some 70) (v := ?_) (a' := ?_) #[true, true, true, true, true, true, true, true, true, true, true, true, true, false, false, false] rfl rfl (any_of HT_.out (by kernel_rfl)) (fun _ _ _ h => h) (Or.inl ⟨by rfl, ?_⟩) ?_ ?_
       rotate_left
       ·intro w'; go_simp; with_reducible rfl
       rotate_left
       ·simp only [Act.put, s1_, s2_, s3_, i64_w, i32_w]; rfl
       refine one_ (i := 13) (N := none) #[true, true, true, true, true, true, true, true, true, true, true, true, true, true, false, false] rfl rfl (one_of HT_.out (by kernel_rfl)) (by decide) (fun K hK => ?_)
       have hs60 : w58.cell? ⟨gb111, 1, none⟩ = some (.string ⟨#[]⟩) := (blk_cell BK111.out 1).trans rfl
       have hfs60 := blk_frozen BK111.out 1
       have hns60_0 := NB101_111.out
       have hns60_1 := NB110_111.out
       have hns60_3 := NB123_111.out
       have hms60_0 := NB111_101.out
       have hms60_1 := NB111_110.out
       have hms60_3 := NB111_123.out
       refine skip_ (w1 := ?_) (by rfl) rfl ?_ ?_
       rotate_left
       ·go_simp
        rfl
       refine hK.out _ _ ⟨((cell_far (p := ⟨gb111, _, none⟩) NB123_111.out _).trans (hHeld.1)), ((cell_far (p := ⟨gb111, _, none⟩) NB123_111.out _).trans (hHeld.2.1)), ((cell_far (p := ⟨gb111, _, none⟩) NB123_111.out _).trans (hHeld.2.2.1)), ((cell_far (p := ⟨gb111, _, none⟩) NB123_111.out _).trans (hHeld.2.2.2.1)), ((cell_far (p := ⟨gb111, _, none⟩) NB123_111.out _).trans (hHeld.2.2.2.2.1)), ((cell_far (p := ⟨gb111, _, none⟩) NB123_111.out _).trans (hHeld.2.2.2.2.2.1)), ((cell_far (p := ⟨gb111, _, none⟩) NB123_111.out _).trans (hHeld.2.2.2.2.2.2.1)), ((cell_far (p := ⟨gb111, _, none⟩) NB123_111.out _).trans (hHeld.2.2.2.2.2.2.2.1)), ((cell_far (p := ⟨gb111, _, none⟩) NB123_111.out _).trans (hHeld.2.2.2.2.2.2.2.2))⟩ (fun hHeld => ?_)
       clear hK K
       refine pure_ (i := 14) (N := some 71) (v := ?_) (a' := ?_) #[true, true, true, true, true, true, true, true, true, true, true, true, true, true, true, false] rfl rfl (any_of HT_.out (by kernel_rfl)) (fun _ _ _ h => h) (Or.inl ⟨by rfl, ?_⟩) ?_ ?_
       rotate_left
       ·intro w'; go_simp; with_reducible rfl
       rotate_left
       ·simp only [Act.put, s1_, s2_, s3_, i64_w, i32_w]; rfl
       refine one_ (i := 15) (N := none) #[true, true, true, true, true, true, true, true, true, true, true, true, true, true, true, true] rfl rfl (one_of HT_.out (by kernel_rfl)) (by decide) (fun K hK => ?_)
       have hs61 : w58.cell? ⟨gb111, 2, none⟩ = some (.int .i64 0) := (blk_cell BK111.out 2).trans rfl
       have hfs61 := blk_frozen BK111.out 2
       have hns61_0 := NB101_111.out
       have hns61_1 := NB110_111.out
       have hns61_3 := NB123_111.out
       have hms61_0 := NB111_101.out
       have hms61_1 := NB111_110.out
       have hms61_3 := NB111_123.out
       refine skip_ (w1 := ?_) (by rfl) rfl ?_ ?_
       rotate_left
       ·go_simp
        rfl
       refine hK.out _ _ ⟨((cell_far (p := ⟨gb111, _, none⟩) NB123_111.out _).trans (hHeld.1)), ((cell_far (p := ⟨gb111, _, none⟩) NB123_111.out _).trans (hHeld.2.1)), ((cell_far (p := ⟨gb111, _, none⟩) NB123_111.out _).trans (hHeld.2.2.1)), ((cell_far (p := ⟨gb111, _, none⟩) NB123_111.out _).trans (hHeld.2.2.2.1)), ((cell_far (p := ⟨gb111, _, none⟩) NB123_111.out _).trans (hHeld.2.2.2.2.1)), ((cell_far (p := ⟨gb111, _, none⟩) NB123_111.out _).trans (hHeld.2.2.2.2.2.1)), ((cell_far (p := ⟨gb111, _, none⟩) NB123_111.out _).trans (hHeld.2.2.2.2.2.2.1)), ((cell_far (p := ⟨gb111, _, none⟩) NB123_111.out _).trans (hHeld.2.2.2.2.2.2.2.1)), ((cell_far (p := ⟨gb111, _, none⟩) NB123_111.out _).trans (hHeld.2.2.2.2.2.2.2.2))⟩ (fun hHeld => ?_)
       clear hK K
       refine done_ (done_of HT_.out (by kernel_rfl)) ?_
       try go_wp2
       go_meet
       case rel => exact ⟨_, (t121), ((⟨#[]⟩ : ByteArray)), ((⟨#[]⟩ : ByteArray)), (0), (0), (0), (((strOfNums y124) ++ (strOfNums y127)) ++ t118), (((strOfNums y124) ++ (strOfNums y127)) ++ t119), (t117), (by first | rfl | (simp; done) | (simp [*]; done)), H', ⟨by first | omega | exact Nat.le_refl _⟩, ⟨by (with_reducible repeat first | apply Kd.R_alloc | apply Kd.R_drewN | apply Kd.R_drew); exact Kd.R_mono (Kd.R_far (p := ⟨gb111, 2, none⟩) (Kd.R_far (p := ⟨gb111, 1, none⟩) (Kd.R_far (p := ⟨gb111, 0, none⟩) (Kd.R_types HO106.out BK111.out (by decide)) (fun _ hk => hk.2) (.string (((strOfNums y124) ++ (strOfNums y127)) ++ t118))) (fun _ hk => hk.2) (.string (((strOfNums y124) ++ (strOfNums y127)) ++ t119))) (fun _ hk => hk.2) (.int .i64 t117)) (fun _ hk => trivial)⟩, ⟨by (iterate 3 ((with_reducible repeat first | apply pN_ | apply pD_ | apply pA_); refine blk_far ?_ NB101_111.out _)); (with_reducible repeat first | apply pN_ | apply pD_ | apply pA_); exact BK101.out⟩, ⟨by (iterate 3 ((with_reducible repeat first | apply pN_ | apply pD_ | apply pA_); refine blk_far ?_ NB110_111.out _)); (with_reducible repeat first | apply pN_ | apply pD_ | apply pA_); exact BK110.out⟩, ⟨by (with_reducible repeat first | apply pN_ | apply pD_ | apply pA_); refine blk_put (cs := #[.string (((strOfNums y124) ++ (strOfNums y127)) ++ t118), .string (((strOfNums y124) ++ (strOfNums y127)) ++ t119), .int .i64 0, .int .i64 0, .int .i64 0]) ?_ 2 _ rfl; (with_reducible repeat first | apply pN_ | apply pD_ | apply pA_); refine blk_put (cs := #[.string (((strOfNums y124) ++ (strOfNums y127)) ++ t118), .string ⟨#[]⟩, .int .i64 0, .int .i64 0, .int .i64 0]) ?_ 1 _ rfl; (with_reducible repeat first | apply pN_ | apply pD_ | apply pA_); refine blk_put (cs := Z26_0) ?_ 0 _ rfl; (with_reducible repeat first | apply pN_ | apply pD_ | apply pA_); exact BK111.out⟩, ⟨bU_ HB.out⟩⟩
     ·rw [if_neg c30] at H
      have c30b0 : (t122 == 0) = false := beq_eq_false_iff_ne.mpr c30
      have c30b1 : (t122 != 0) = true := bne_iff_ne.mpr c30
      (first | rw [c30b0] | (simp only [i64_w, i32_w]; rw [c30b0]) | skip)
      simp only [Option.some.injEq, Prod.mk.injEq] at H
      obtain ⟨rfl, rfl, rfl, rfl, rfl, rfl⟩ := H
      have hnb62 := NB111_101.out
      have hnc62 := NB101_111.out
      have hnb63 := NB111_110.out
      have hnc63 := NB110_111.out
      have hnb64 := NB111_123.out
      have hnc64 := NB123_111.out
      have hcz65_0 : w25.cell? ⟨gb111, 0, none⟩ = some (.string ⟨#[]⟩) := (blk_cell BK111.out 0).trans rfl
      have hcz65_1 : w25.cell? ⟨gb111, 1, none⟩ = some (.string ⟨#[]⟩) := (blk_cell BK111.out 1).trans rfl
      have hcz65_2 : w25.cell? ⟨gb111, 2, none⟩ = some (.int .i64 0) := (blk_cell BK111.out 2).trans rfl
      have hcz65_3 : w25.cell? ⟨gb111, 3, none⟩ = some (.int .i64 0) := (blk_cell BK111.out 3).trans rfl
      have hcz65_4 : w25.cell? ⟨gb111, 4, none⟩ = some (.int .i64 0) := (blk_cell BK111.out 4).trans rfl
      have hfz65_0 := blk_frozen BK111.out 0; have hfz65_1 := blk_frozen BK111.out 1; have hfz65_2 := blk_frozen BK111.out 2; have hfz65_3 := blk_frozen BK111.out 3; have hfz65_4 := blk_frozen BK111.out 4
      have hnb66 := NB101_110.out
      have hnc66 := NB110_101.out
      have hnb67 := NB101_123.out
      have hnc67 := NB123_101.out
      have hcz68_0 : w25.cell? ⟨gb101, 0, none⟩ = some (.string ⟨#[]⟩) := (blk_cell BK101.out 0).trans rfl
      have hcz68_1 : w25.cell? ⟨gb101, 1, none⟩ = some (.string ⟨#[]⟩) := (blk_cell BK101.out 1).trans rfl
      have hcz68_2 : w25.cell? ⟨gb101, 2, none⟩ = some (.int .i64 0) := (blk_cell BK101.out 2).trans rfl
      have hcz68_3 : w25.cell? ⟨gb101, 3, none⟩ = some (.int .i64 0) := (blk_cell BK101.out 3).trans rfl
      have hcz68_4 : w25.cell? ⟨gb101, 4, none⟩ = some (.int .i64 0) := (blk_cell BK101.out 4).trans rfl
      have hfz68_0 := blk_frozen BK101.out 0; have hfz68_1 := blk_frozen BK101.out 1; have hfz68_2 := blk_frozen BK101.out 2; have hfz68_3 := blk_frozen BK101.out 3; have hfz68_4 := blk_frozen BK101.out 4
      go_wp2
      refine bodyPost_ret (results_ct rfl _ _ gb101 23 #[.string ⟨#[]⟩, .string ⟨#[]⟩, .int .i64 0, .int .i64 0, .int .i64 0] (0, 0) _ rfl (by (with_reducible repeat first | apply pN_ | apply pD_ | apply pA_); refine blk_put (cs := Z26_0) ?_ 4 _ rfl; (with_reducible repeat first | apply pN_ | apply pD_ | apply pA_); refine blk_put (cs := Z26_0) ?_ 3 _ rfl; (with_reducible repeat first | apply pN_ | apply pD_ | apply pA_); refine blk_put (cs := Z26_0) ?_ 2 _ rfl; (with_reducible repeat first | apply pN_ | apply pD_ | apply pA_); refine blk_put (cs := Z26_0) ?_ 1 _ rfl; (with_reducible repeat first | apply pN_ | apply pD_ | apply pA_); refine blk_put (cs := Z26_0) ?_ 0 _ rfl; (iterate 9 ((with_reducible repeat first | apply pN_ | apply pD_ | apply pA_); refine blk_far ?_ NB101_123.out _)); (with_reducible repeat first | apply pN_ | apply pD_ | apply pA_); exact BK101.out) Try.underlying23 rfl (by kernel_rfl)) rfl ?_
      exact rE_ (bU_ HB.out)
    ·rw [if_neg c21] at H
     have c21b0 : (t107 == 2048) = false := beq_eq_false_iff_ne.mpr c21
     have c21b1 : (t107 != 2048) = true := bne_iff_ne.mpr c21
     (first | rw [c21b0] | (simp only [i64_w, i32_w]; rw [c21b0]) | skip)
     by_cases c69 : t107 = 34525
     ·rw [if_pos c69] at H
      have c69b0 : (t107 == 34525) = true := beq_iff_eq.mpr c69
      have c69b1 : (t107 != 34525) = false := bne_eq_false_iff_eq.mpr c69
      clear c69
      replace H := Option.bind_eq_some_iff.mp H
      obtain ⟨⟨t130, t131, t132, t133, t134, t135, t136, t139, t140⟩, A700, H⟩ := H
      replace H : (if t140 = 0 then ((rillmeterref07_Piece.f k t130 t131 t132 t133 t134 t135 t136).bind fun t142 => (if t142 = true then (some ((⟨#[]⟩ : ByteArray), (⟨#[]⟩ : ByteArray), 0, 0, 0, 14)) else (rillmeterref09_Extract.j0 k t139 t134 t135 t133 0 0))) else (some ((⟨#[]⟩ : ByteArray), (⟨#[]⟩ : ByteArray), 0, 0, 0, t140))) = some (r1, r2, r3, r4, r5, r6) := H
      have A70 := Aside0.mk A700
      clear A700
      have HC71 := Aside0.mk H
      clear H
      go_upto_if 82 with (first | ((with_reducible refine gate_callee (f := 30) rfl ?_); refine gL_ (some 77) rfl rfl Try.func30 (by kernel_rfl) rfl #[.string t108] rfl ?_; (with_reducible refine (rillmeterref07_Take.calls k t108 t130 t131 t132 t133 t134 t135 t136 t139 t140 _ A70.out).mono ?_); rintro e w72 ⟨v137, rfl, ho0, hb⟩; refine ⟨_, rfl, ?_⟩; have n0_ := Aside0.mk (Kd.R_below (by (with_reducible repeat first | apply Kd.R_alloc | apply Kd.R_drewN | apply Kd.R_drew); exact (Kd.R_mono (Kd.R_far (p := ⟨gb111, 4, none⟩) (Kd.R_far (p := ⟨gb111, 3, none⟩) (Kd.R_far (p := ⟨gb111, 2, none⟩) (Kd.R_far (p := ⟨gb111, 1, none⟩) (Kd.R_far (p := ⟨gb111, 0, none⟩) (Kd.R_types HO106.out BK111.out (by decide)) (fun _ hk => hk.2) (.string ⟨#[]⟩)) (fun _ hk => hk.2) (.string ⟨#[]⟩)) (fun _ hk => hk.2) (.int .i64 0)) (fun _ hk => hk.2) (.int .i64 0)) (fun _ hk => hk.2) (.int .i64 0)) (fun _ h_ => h_.1))) hb); have n1_ := Aside0.mk (Kd.R_lower ho0 (below_size (bU_ HB.out))); have n2_ := Aside0.mk (blk_below (g := gb101) (o := .cells Z26_0 23 (0, 0)) (by (iterate 5 ((with_reducible repeat first | apply pN_ | apply pD_ | apply pA_); refine blk_far ?_ NB101_111.out _)); (with_reducible repeat first | apply pN_ | apply pD_ | apply pA_); exact BK101.out) hb); have n3_ := Aside0.mk (blk_below (g := gb110) (o := .cells #[.string t102, .string t103, .slice Ao12 t104.length co12, .int .i64 t107] 63 (0, 0)) (by (iterate 5 ((with_reducible repeat first | apply pN_ | apply pD_ | apply pA_); refine blk_far ?_ NB110_111.out _)); (with_reducible repeat first | apply pN_ | apply pD_ | apply pA_); exact BK110.out) hb); have n4_ := Aside0.mk (blk_below (g := gb111) (o := .cells Z26_0 23 (0, 0)) (by (with_reducible repeat first | apply pN_ | apply pD_ | apply pA_); refine blk_put (cs := Z26_0) ?_ 4 _ rfl; (with_reducible repeat first | apply pN_ | apply pD_ | apply pA_); refine blk_put (cs := Z26_0) ?_ 3 _ rfl; (with_reducible repeat first | apply pN_ | apply pD_ | apply pA_); refine blk_put (cs := Z26_0) ?_ 2 _ rfl; (with_reducible repeat first | apply pN_ | apply pD_ | apply pA_); refine blk_put (cs := Z26_0) ?_ 1 _ rfl; (with_reducible repeat first | apply pN_ | apply pD_ | apply pA_); refine blk_put (cs := Z26_0) ?_ 0 _ rfl; (with_reducible repeat first | apply pN_ | apply pD_ | apply pA_); exact BK111.out) hb); have n5_ := Aside0.mk (below_step (bU_ HB.out) hb); clear HO106 BK101 BK110 BK111 HB; have HO106 := n0_; have HO138 := n1_; have BK101 := n2_; have BK110 := n3_; have BK111 := n4_; have HB := n5_; clear n0_ n1_ n2_ n3_ n4_ n5_; (try clear hb); (try clear hb2); (try clear hk); (try clear hi); (try clear ho0)) | ((with_reducible refine gate_dst (N := 13) rfl ?_); refine bE_ (N := 13) (cs := #[.int .i64 0, .int .i64 0, .int .i64 0, .int .i64 0, .string ⟨#[]⟩, .string ⟨#[]⟩, .slice none 0 0]) (t := 71) ?_; intro gb141 hg w73 hbox hb; have n0_ := Aside0.mk (rB_ HO106.out hb); have n1_ := Aside0.mk (rB_ HO138.out hb); have n2_ := Aside0.mk (bB_ BK101.out hb); have n3_ := Aside0.mk (bB_ BK110.out hb); have n4_ := Aside0.mk (bB_ BK111.out hb); have n5_ := Aside0.mk (below_step (bU_ HB.out) hb); have n6_ := Aside0.mk (hbox); have n7_ := Aside0.mk (bZ_ hg (bU_ HB.out) : w.heap.size ≤ gb141); have n8_ := n7_; have n9_ := Aside0.mk ((bN_ hg BK101.out : gb101 ≠ gb141)); have n10_ := Aside0.mk (Ne.symm n9_.out); have n11_ := Aside0.mk ((bN_ hg BK110.out : gb110 ≠ gb141)); have n12_ := Aside0.mk (Ne.symm n11_.out); have n13_ := Aside0.mk ((bN_ hg BK111.out : gb111 ≠ gb141)); have n14_ := Aside0.mk (Ne.symm n13_.out); clear HO106 HO138 BK101 BK110 BK111 HB; have HO106 := n0_; have HO138 := n1_; have BK101 := n2_; have BK110 := n3_; have BK111 := n4_; have HB := n5_; have BK141 := n6_; have GW141 := n7_; have GE141 := n8_; have NB101_141 := n9_; have NB141_101 := n10_; have NB110_141 := n11_; have NB141_110 := n12_; have NB111_141 := n13_; have NB141_111 := n14_; clear n0_ n1_ n2_ n3_ n4_ n5_ n6_ n7_ n8_ n9_ n10_ n11_ n12_ n13_ n14_; clear hb hbox hg; have hnb74 := NB141_101.out; have hnc74 := NB101_141.out; have hnb75 := NB141_110.out; have hnc75 := NB110_141.out; have hnb76 := NB141_111.out; have hnc76 := NB111_141.out; have hcz77_0 : w73.cell? ⟨gb141, 0, none⟩ = some (.int .i64 0) := (blk_cell BK141.out 0).trans rfl; have hcz77_1 : w73.cell? ⟨gb141, 1, none⟩ = some (.int .i64 0) := (blk_cell BK141.out 1).trans rfl; have hcz77_2 : w73.cell? ⟨gb141, 2, none⟩ = some (.int .i64 0) := (blk_cell BK141.out 2).trans rfl; have hcz77_3 : w73.cell? ⟨gb141, 3, none⟩ = some (.int .i64 0) := (blk_cell BK141.out 3).trans rfl; have hcz77_4 : w73.cell? ⟨gb141, 4, none⟩ = some (.string ⟨#[]⟩) := (blk_cell BK141.out 4).trans rfl; have hcz77_5 : w73.cell? ⟨gb141, 5, none⟩ = some (.string ⟨#[]⟩) := (blk_cell BK141.out 5).trans rfl; have hcz77_6 : w73.cell? ⟨gb141, 6, none⟩ = some (.slice none 0 0) := (blk_cell BK141.out 6).trans rfl; have hfz77_0 := blk_frozen BK141.out 0; have hfz77_1 := blk_frozen BK141.out 1; have hfz77_2 := blk_frozen BK141.out 2; have hfz77_3 := blk_frozen BK141.out 3; have hfz77_4 := blk_frozen BK141.out 4; have hfz77_5 := blk_frozen BK141.out 5; have hfz77_6 := blk_frozen BK141.out 6; obtain ⟨Ao78, co78, eo78⟩ := Kd.R_slice HO138.out; subst eo78))
      (try simp only [Act.put, s1_, s2_, s3_])
      have H := HC71.out
      clear HC71
      by_cases c79 : t140 = 0
      ·rw [if_pos c79] at H
       have c79b0 : (t140 == 0) = true := beq_iff_eq.mpr c79
       have c79b1 : (t140 != 0) = false := bne_eq_false_iff_eq.mpr c79
       clear c79
       (first | rw [c79b0] | (simp only [i64_w, i32_w]; rw [c79b0]) | skip)
       replace H := Option.bind_eq_some_iff.mp H
       obtain ⟨t142, A800, H⟩ := H
       replace H : (if t142 = true then (some ((⟨#[]⟩ : ByteArray), (⟨#[]⟩ : ByteArray), 0, 0, 0, 14)) else (rillmeterref09_Extract.j0 k t139 t134 t135 t133 0 0)) = some (r1, r2, r3, r4, r5, r6) := H
       have A80 := Aside0.mk A800
       clear A800
       have HC81 := Aside0.mk H
       clear H
       have hnb82 := NB141_101.out
       have hnc82 := NB101_141.out
       have hnb83 := NB141_110.out
       have hnc83 := NB110_141.out
       have hnb84 := NB141_111.out
       have hnc84 := NB111_141.out
       have hcz85_0 : w73.cell? ⟨gb141, 0, none⟩ = some (.int .i64 0) := (blk_cell BK141.out 0).trans rfl
       have hcz85_1 : w73.cell? ⟨gb141, 1, none⟩ = some (.int .i64 0) := (blk_cell BK141.out 1).trans rfl
       have hcz85_2 : w73.cell? ⟨gb141, 2, none⟩ = some (.int .i64 0) := (blk_cell BK141.out 2).trans rfl
       have hcz85_3 : w73.cell? ⟨gb141, 3, none⟩ = some (.int .i64 0) := (blk_cell BK141.out 3).trans rfl
       have hcz85_4 : w73.cell? ⟨gb141, 4, none⟩ = some (.string ⟨#[]⟩) := (blk_cell BK141.out 4).trans rfl
       have hcz85_5 : w73.cell? ⟨gb141, 5, none⟩ = some (.string ⟨#[]⟩) := (blk_cell BK141.out 5).trans rfl
       have hcz85_6 : w73.cell? ⟨gb141, 6, none⟩ = some (.slice none 0 0) := (blk_cell BK141.out 6).trans rfl
       have hfz85_0 := blk_frozen BK141.out 0; have hfz85_1 := blk_frozen BK141.out 1; have hfz85_2 := blk_frozen BK141.out 2; have hfz85_3 := blk_frozen BK141.out 3; have hfz85_4 := blk_frozen BK141.out 4; have hfz85_5 := blk_frozen BK141.out 5; have hfz85_6 := blk_frozen BK141.out 6
       go_upto_if 86 with (first | ((with_reducible refine gate_callee (f := 31) rfl ?_); refine gL_ (some 86) rfl rfl Try.func31 (by kernel_rfl) rfl #[.agg #[.int .i64 t130, .int .i64 t131, .int .i64 t132, .int .i64 t133, .string t134, .string t135, .slice Ao78 t136.length co78]] rfl ?_; (with_reducible refine (rillmeterref07_Piece.calls k t130 t131 t132 t133 t134 t135 _ _ t136 t142 _ ?side1 ?side2 A80.out).mono ?_); (case side1 => refine (Kd.R_reads' (e := 97) (base := w.heap.size) (ok := fun k_ => True) (n := t136.length) (c := co78) ?_).2.2; exact (by (with_reducible repeat first | apply Kd.R_alloc | apply Kd.R_drewN | apply Kd.R_drew); exact (Kd.R_mono (Kd.R_far (p := ⟨gb141, 6, none⟩) (Kd.R_far (p := ⟨gb141, 5, none⟩) (Kd.R_far (p := ⟨gb141, 4, none⟩) (Kd.R_far (p := ⟨gb141, 3, none⟩) (Kd.R_far (p := ⟨gb141, 2, none⟩) (Kd.R_far (p := ⟨gb141, 1, none⟩) (Kd.R_far (p := ⟨gb141, 0, none⟩) (Kd.R_types HO138.out BK141.out (by decide)) (fun _ hk => hk.2) (.int .i64 t130)) (fun _ hk => hk.2) (.int .i64 t131)) (fun _ hk => hk.2) (.int .i64 t132)) (fun _ hk => hk.2) (.int .i64 t133)) (fun _ hk => hk.2) (.string t134)) (fun _ hk => hk.2) (.string t135)) (fun _ hk => hk.2) (.slice Ao78 t136.length co78)) (fun _ h_ => h_.1)))); (case side2 => exact (Kd.R_reads' HO138.out).2.1); rintro e w86 ⟨rfl, hb⟩; refine ⟨_, rfl, ?_⟩; have n0_ := Aside0.mk (Kd.R_below (by (with_reducible repeat first | apply Kd.R_alloc | apply Kd.R_drewN | apply Kd.R_drew); exact (Kd.R_mono (Kd.R_far (p := ⟨gb141, 6, none⟩) (Kd.R_far (p := ⟨gb141, 5, none⟩) (Kd.R_far (p := ⟨gb141, 4, none⟩) (Kd.R_far (p := ⟨gb141, 3, none⟩) (Kd.R_far (p := ⟨gb141, 2, none⟩) (Kd.R_far (p := ⟨gb141, 1, none⟩) (Kd.R_far (p := ⟨gb141, 0, none⟩) (Kd.R_types HO106.out BK141.out (by decide)) (fun _ hk => hk.2) (.int .i64 t130)) (fun _ hk => hk.2) (.int .i64 t131)) (fun _ hk => hk.2) (.int .i64 t132)) (fun _ hk => hk.2) (.int .i64 t133)) (fun _ hk => hk.2) (.string t134)) (fun _ hk => hk.2) (.string t135)) (fun _ hk => hk.2) (.slice Ao78 t136.length co78)) (fun _ h_ => h_.1))) hb); have n1_ := Aside0.mk (Kd.R_below (by (with_reducible repeat first | apply Kd.R_alloc | apply Kd.R_drewN | apply Kd.R_drew); exact (Kd.R_mono (Kd.R_far (p := ⟨gb141, 6, none⟩) (Kd.R_far (p := ⟨gb141, 5, none⟩) (Kd.R_far (p := ⟨gb141, 4, none⟩) (Kd.R_far (p := ⟨gb141, 3, none⟩) (Kd.R_far (p := ⟨gb141, 2, none⟩) (Kd.R_far (p := ⟨gb141, 1, none⟩) (Kd.R_far (p := ⟨gb141, 0, none⟩) (Kd.R_types HO138.out BK141.out (by decide)) (fun _ hk => hk.2) (.int .i64 t130)) (fun _ hk => hk.2) (.int .i64 t131)) (fun _ hk => hk.2) (.int .i64 t132)) (fun _ hk => hk.2) (.int .i64 t133)) (fun _ hk => hk.2) (.string t134)) (fun _ hk => hk.2) (.string t135)) (fun _ hk => hk.2) (.slice Ao78 t136.length co78)) (fun _ h_ => h_.1))) hb); have n2_ := Aside0.mk (blk_below (g := gb101) (o := .cells Z26_0 23 (0, 0)) (by (iterate 7 ((with_reducible repeat first | apply pN_ | apply pD_ | apply pA_); refine blk_far ?_ NB101_141.out _)); (with_reducible repeat first | apply pN_ | apply pD_ | apply pA_); exact BK101.out) hb); have n3_ := Aside0.mk (blk_below (g := gb110) (o := .cells #[.string t102, .string t103, .slice Ao12 t104.length co12, .int .i64 t107] 63 (0, 0)) (by (iterate 7 ((with_reducible repeat first | apply pN_ | apply pD_ | apply pA_); refine blk_far ?_ NB110_141.out _)); (with_reducible repeat first | apply pN_ | apply pD_ | apply pA_); exact BK110.out) hb); have n4_ := Aside0.mk (blk_below (g := gb111) (o := .cells Z26_0 23 (0, 0)) (by (iterate 7 ((with_reducible repeat first | apply pN_ | apply pD_ | apply pA_); refine blk_far ?_ NB111_141.out _)); (with_reducible repeat first | apply pN_ | apply pD_ | apply pA_); exact BK111.out) hb); have n5_ := Aside0.mk (blk_below (g := gb141) (o := .cells #[.int .i64 t130, .int .i64 t131, .int .i64 t132, .int .i64 t133, .string t134, .string t135, .slice Ao78 t136.length co78] 71 (0, 0)) (by (with_reducible repeat first | apply pN_ | apply pD_ | apply pA_); refine blk_put (cs := #[.int .i64 t130, .int .i64 t131, .int .i64 t132, .int .i64 t133, .string t134, .string t135, .slice none 0 0]) ?_ 6 _ rfl; (with_reducible repeat first | apply pN_ | apply pD_ | apply pA_); refine blk_put (cs := #[.int .i64 t130, .int .i64 t131, .int .i64 t132, .int .i64 t133, .string t134, .string ⟨#[]⟩, .slice none 0 0]) ?_ 5 _ rfl; (with_reducible repeat first | apply pN_ | apply pD_ | apply pA_); refine blk_put (cs := #[.int .i64 t130, .int .i64 t131, .int .i64 t132, .int .i64 t133, .string ⟨#[]⟩, .string ⟨#[]⟩, .slice none 0 0]) ?_ 4 _ rfl; (with_reducible repeat first | apply pN_ | apply pD_ | apply pA_); refine blk_put (cs := #[.int .i64 t130, .int .i64 t131, .int .i64 t132, .int .i64 0, .string ⟨#[]⟩, .string ⟨#[]⟩, .slice none 0 0]) ?_ 3 _ rfl; (with_reducible repeat first | apply pN_ | apply pD_ | apply pA_); refine blk_put (cs := #[.int .i64 t130, .int .i64 t131, .int .i64 0, .int .i64 0, .string ⟨#[]⟩, .string ⟨#[]⟩, .slice none 0 0]) ?_ 2 _ rfl; (with_reducible repeat first | apply pN_ | apply pD_ | apply pA_); refine blk_put (cs := #[.int .i64 t130, .int .i64 0, .int .i64 0, .int .i64 0, .string ⟨#[]⟩, .string ⟨#[]⟩, .slice none 0 0]) ?_ 1 _ rfl; (with_reducible repeat first | apply pN_ | apply pD_ | apply pA_); refine blk_put (cs := #[.int .i64 0, .int .i64 0, .int .i64 0, .int .i64 0, .string ⟨#[]⟩, .string ⟨#[]⟩, .slice none 0 0]) ?_ 0 _ rfl; (with_reducible repeat first | apply pN_ | apply pD_ | apply pA_); exact BK141.out) hb); have n6_ := Aside0.mk (below_step (bU_ HB.out) hb); clear HO106 HO138 BK101 BK110 BK111 BK141 HB; have HO106 := n0_; have HO138 := n1_; have BK101 := n2_; have BK110 := n3_; have BK111 := n4_; have BK141 := n5_; have HB := n6_; clear n0_ n1_ n2_ n3_ n4_ n5_ n6_; (try clear hb); (try clear hb2); (try clear hk); (try clear hi)))
       (try simp only [Act.put, s1_, s2_, s3_])
       have H := HC81.out
       clear HC81
       by_cases c87 : t142 = true
       ·subst c87
        have H1 : (some ((⟨#[]⟩ : ByteArray), (⟨#[]⟩ : ByteArray), 0, 0, 0, 14)) = some (r1, r2, r3, r4, r5, r6) := by rw [if_pos rfl] at H; exact H
        clear H
        have H := H1
        clear H1
        simp only [Option.some.injEq, Prod.mk.injEq] at H
        obtain ⟨rfl, rfl, rfl, rfl, rfl, rfl⟩ := H
        have hnb88 := NB111_101.out
        have hnc88 := NB101_111.out
        have hnb89 := NB111_110.out
        have hnc89 := NB110_111.out
        have hnb90 := NB111_141.out
        have hnc90 := NB141_111.out
        have hcz91_0 : w86.cell? ⟨gb111, 0, none⟩ = some (.string ⟨#[]⟩) := (blk_cell BK111.out 0).trans rfl
        have hcz91_1 : w86.cell? ⟨gb111, 1, none⟩ = some (.string ⟨#[]⟩) := (blk_cell BK111.out 1).trans rfl
        have hcz91_2 : w86.cell? ⟨gb111, 2, none⟩ = some (.int .i64 0) := (blk_cell BK111.out 2).trans rfl
        have hcz91_3 : w86.cell? ⟨gb111, 3, none⟩ = some (.int .i64 0) := (blk_cell BK111.out 3).trans rfl
        have hcz91_4 : w86.cell? ⟨gb111, 4, none⟩ = some (.int .i64 0) := (blk_cell BK111.out 4).trans rfl
        have hfz91_0 := blk_frozen BK111.out 0; have hfz91_1 := blk_frozen BK111.out 1; have hfz91_2 := blk_frozen BK111.out 2; have hfz91_3 := blk_frozen BK111.out 3; have hfz91_4 := blk_frozen BK111.out 4
        have hnb92 := NB101_110.out
        have hnc92 := NB110_101.out
        have hnb93 := NB101_141.out
        have hnc93 := NB141_101.out
        have hcz94_0 : w86.cell? ⟨gb101, 0, none⟩ = some (.string ⟨#[]⟩) := (blk_cell BK101.out 0).trans rfl
        have hcz94_1 : w86.cell? ⟨gb101, 1, none⟩ = some (.string ⟨#[]⟩) := (blk_cell BK101.out 1).trans rfl
        have hcz94_2 : w86.cell? ⟨gb101, 2, none⟩ = some (.int .i64 0) := (blk_cell BK101.out 2).trans rfl
        have hcz94_3 : w86.cell? ⟨gb101, 3, none⟩ = some (.int .i64 0) := (blk_cell BK101.out 3).trans rfl
        have hcz94_4 : w86.cell? ⟨gb101, 4, none⟩ = some (.int .i64 0) := (blk_cell BK101.out 4).trans rfl
        have hfz94_0 := blk_frozen BK101.out 0; have hfz94_1 := blk_frozen BK101.out 1; have hfz94_2 := blk_frozen BK101.out 2; have hfz94_3 := blk_frozen BK101.out 3; have hfz94_4 := blk_frozen BK101.out 4
        go_wp2
        refine bodyPost_ret (results_ct rfl _ _ gb101 23 #[.string ⟨#[]⟩, .string ⟨#[]⟩, .int .i64 0, .int .i64 0, .int .i64 0] (0, 0) _ rfl (by (with_reducible repeat first | apply pN_ | apply pD_ | apply pA_); refine blk_put (cs := Z26_0) ?_ 4 _ rfl; (with_reducible repeat first | apply pN_ | apply pD_ | apply pA_); refine blk_put (cs := Z26_0) ?_ 3 _ rfl; (with_reducible repeat first | apply pN_ | apply pD_ | apply pA_); refine blk_put (cs := Z26_0) ?_ 2 _ rfl; (with_reducible repeat first | apply pN_ | apply pD_ | apply pA_); refine blk_put (cs := Z26_0) ?_ 1 _ rfl; (with_reducible repeat first | apply pN_ | apply pD_ | apply pA_); refine blk_put (cs := Z26_0) ?_ 0 _ rfl; (with_reducible repeat first | apply pN_ | apply pD_ | apply pA_); exact BK101.out) Try.underlying23 rfl (by kernel_rfl)) rfl ?_
        exact rE_ (bU_ HB.out)
       ·replace c87 := Bool.eq_false_iff.mpr c87
        subst c87
        have H1 : (rillmeterref09_Extract.j0 k t139 t134 t135 t133 0 0) = some (r1, r2, r3, r4, r5, r6) := by rw [if_neg (show ¬ (false = true) by decide)] at H; exact H
        clear H
        have H := H1
        clear H1
        have H' := Aside0.mk H
        clear H
        try go_wp2
        have n0_ := Aside0.mk (Kd.R_drew HO106.out)
        have n1_ := Aside0.mk (Kd.R_drew HO138.out)
        have n2_ := Aside0.mk (blk_drew BK101.out)
        have n3_ := Aside0.mk (blk_drew BK110.out)
        have n4_ := Aside0.mk (blk_drew BK111.out)
        have n5_ := Aside0.mk (blk_drew BK141.out)
        have n6_ := Aside0.mk (below_drew1 HB.out)
        clear HO106
        clear HO138
        clear BK101
        clear BK110
        clear BK111
        clear BK141
        clear HB
        have HO106 := n0_
        have HO138 := n1_
        have BK101 := n2_
        have BK110 := n3_
        have BK111 := n4_
        have BK141 := n5_
        have HB := n6_
        clear n0_ n1_ n2_ n3_ n4_ n5_ n6_
        refine start_ (n := 12) (S := fun w' => w'.cell? ⟨gb141, 0, none⟩ = some (.int .i64 t130) ∧ w'.cell? ⟨gb141, 1, none⟩ = some (.int .i64 t131) ∧ w'.cell? ⟨gb141, 2, none⟩ = some (.int .i64 t132) ∧ w'.cell? ⟨gb141, 3, none⟩ = some (.int .i64 t133) ∧ w'.cell? ⟨gb141, 4, none⟩ = some (.string t134) ∧ w'.cell? ⟨gb141, 5, none⟩ = some (.string t135) ∧ w'.cell? ⟨gb141, 6, none⟩ = some (.slice Ao78 t136.length co78)) (ds := []) #[false, false, false, false, false, false, false, false, false, false, false, false] (by kernel_rfl) rfl rfl ⟨(blk_cell BK141.out 0).trans rfl, (blk_cell BK141.out 1).trans rfl, (blk_cell BK141.out 2).trans rfl, (blk_cell BK141.out 3).trans rfl, (blk_cell BK141.out 4).trans rfl, (blk_cell BK141.out 5).trans rfl, (blk_cell BK141.out 6).trans rfl⟩ (fun hHeld => ?_); refine with_tabW rillmeterref09_Extract.tab25 rillmeterref09_Extract.bits25 (fun HT_ HW_ => ?_)
        generalize w86.drew = w95 at HO106 HO138 BK101 BK110 BK111 BK141 HB hHeld ⊢
        refine pure_ (i := 0) (N := some 88) (v := ?_) (a' := ?_) #[true, false, false, false, false, false, false, false, false, false, false, false] rfl rfl (any_of HT_.out (by kernel_rfl)) (fun _ _ _ h => h) (Or.inl ⟨by rfl, ?_⟩) ?_ ?_
        rotate_left
        ·intro w'; go_simp; with_reducible rfl
        rotate_left
        ·simp only [Act.put, s1_, s2_, s3_, i64_w, i32_w]; rfl
        refine pure_ (i := 2) (N := some 90) (v := ?_) (a' := ?_) #[true, false, true, false, false, false, false, false, false, false, false, false] rfl rfl (any_of HT_.out (by kernel_rfl)) (fun _ _ _ h => h) (Or.inl ⟨by rfl, ?_⟩) ?_ ?_
        rotate_left
        ·intro w'; go_simp; with_reducible rfl
        rotate_left
        ·simp only [Act.put, s1_, s2_, s3_, i64_w, i32_w]; rfl
        refine pure_ (i := 4) (N := some 92) (v := ?_) (a' := ?_) #[true, false, true, false, true, false, false, false, false, false, false, false] rfl rfl (any_of HT_.out (by kernel_rfl)) (fun _ _ _ h => h) (Or.inl ⟨by rfl, ?_⟩) ?_ ?_
        rotate_left
        ·intro w'; go_simp; with_reducible rfl
        rotate_left
        ·simp only [Act.put, s1_, s2_, s3_, i64_w, i32_w]; rfl
        refine take_ (i := 1) (N := some 89) (v := ?_) (a' := ?_) #[true, true, true, false, true, false, false, false, false, false, false, false] rfl rfl (take_ofW HT_.out HW_.out (by kernel_rfl)) (fun _ _ _ h => h) (Or.inl ⟨by rfl, ?_⟩) hHeld ?_ ?_
        rotate_left
        ·rintro w' ⟨s0, s1, s2, s3, s4, s5, s6⟩
         go_simp
         with_reducible rfl
        rotate_left
        ·simp only [Act.put, s1_, s2_, s3_, i64_w, i32_w]; rfl
        refine pure_ (i := 6) (N := some 94) (v := ?_) (a' := ?_) #[true, true, true, false, true, false, true, false, false, false, false, false] rfl rfl (any_of HT_.out (by kernel_rfl)) (fun _ _ _ h => h) (Or.inl ⟨by rfl, ?_⟩) ?_ ?_
        rotate_left
        ·intro w'; go_simp; with_reducible rfl
        rotate_left
        ·simp only [Act.put, s1_, s2_, s3_, i64_w, i32_w]; rfl
        refine take_ (i := 3) (N := some 91) (v := ?_) (a' := ?_) #[true, true, true, true, true, false, true, false, false, false, false, false] rfl rfl (take_ofW HT_.out HW_.out (by kernel_rfl)) (fun _ _ _ h => h) (Or.inl ⟨by rfl, ?_⟩) hHeld ?_ ?_
        rotate_left
        ·rintro w' ⟨s0, s1, s2, s3, s4, s5, s6⟩
         go_simp
         with_reducible rfl
        rotate_left
        ·simp only [Act.put, s1_, s2_, s3_, i64_w, i32_w]; rfl
        refine take_ (i := 5) (N := some 93) (v := ?_) (a' := ?_) #[true, true, true, true, true, true, true, false, false, false, false, false] rfl rfl (take_ofW HT_.out HW_.out (by kernel_rfl)) (fun _ _ _ h => h) (Or.inl ⟨by rfl, ?_⟩) hHeld ?_ ?_
        rotate_left
        ·rintro w' ⟨s0, s1, s2, s3, s4, s5, s6⟩
         go_simp
         with_reducible rfl
        rotate_left
        ·simp only [Act.put, s1_, s2_, s3_, i64_w, i32_w]; rfl
        refine one_ (i := 7) (N := none) #[true, true, true, true, true, true, true, true, false, false, false, false] rfl rfl (one_of HT_.out (by kernel_rfl)) (by decide) (fun K hK => ?_)
        have hs96 : w95.cell? ⟨gb111, 0, none⟩ = some (.string ⟨#[]⟩) := (blk_cell BK111.out 0).trans rfl
        have hfs96 := blk_frozen BK111.out 0
        have hns96_0 := NB101_111.out
        have hns96_1 := NB110_111.out
        have hns96_3 := NB141_111.out
        have hms96_0 := NB111_101.out
        have hms96_1 := NB111_110.out
        have hms96_3 := NB111_141.out
        refine skip_ (w1 := ?_) (by rfl) rfl ?_ ?_
        rotate_left
        ·go_simp
         rfl
        refine hK.out _ _ ⟨((cell_far (p := ⟨gb111, _, none⟩) NB141_111.out _).trans (hHeld.1)), ((cell_far (p := ⟨gb111, _, none⟩) NB141_111.out _).trans (hHeld.2.1)), ((cell_far (p := ⟨gb111, _, none⟩) NB141_111.out _).trans (hHeld.2.2.1)), ((cell_far (p := ⟨gb111, _, none⟩) NB141_111.out _).trans (hHeld.2.2.2.1)), ((cell_far (p := ⟨gb111, _, none⟩) NB141_111.out _).trans (hHeld.2.2.2.2.1)), ((cell_far (p := ⟨gb111, _, none⟩) NB141_111.out _).trans (hHeld.2.2.2.2.2.1)), ((cell_far (p := ⟨gb111, _, none⟩) NB141_111.out _).trans (hHeld.2.2.2.2.2.2))⟩ (fun hHeld => ?_)
        clear hK K
        refine pure_ (i := 8) (N := some 95) (v := ?_) (a' := ?_) #[true, true, true, true, true, true, true, true, true, false, false, false] rfl rfl (any_of HT_.out (by kernel_rfl)) (fun _ _ _ h => h) (Or.inl ⟨by rfl, ?_⟩) ?_ ?_
        rotate_left
        ·intro w'; go_simp; with_reducible rfl
        rotate_left
        ·simp only [Act.put, s1_, s2_, s3_, i64_w, i32_w]; rfl
        refine one_ (i := 9) (N := none) #[true, true, true, true, true, true, true, true, true, true, false, false] rfl rfl (one_of HT_.out (by kernel_rfl)) (by decide) (fun K hK => ?_)
        have hs97 : w95.cell? ⟨gb111, 1, none⟩ = some (.string ⟨#[]⟩) := (blk_cell BK111.out 1).trans rfl
        have hfs97 := blk_frozen BK111.out 1
        have hns97_0 := NB101_111.out
        have hns97_1 := NB110_111.out
        have hns97_3 := NB141_111.out
        have hms97_0 := NB111_101.out
        have hms97_1 := NB111_110.out
        have hms97_3 := NB111_141.out
        refine skip_ (w1 := ?_) (by rfl) rfl ?_ ?_
        rotate_left
        ·go_simp
         rfl
        refine hK.out _ _ ⟨((cell_far (p := ⟨gb111, _, none⟩) NB141_111.out _).trans (hHeld.1)), ((cell_far (p := ⟨gb111, _, none⟩) NB141_111.out _).trans (hHeld.2.1)), ((cell_far (p := ⟨gb111, _, none⟩) NB141_111.out _).trans (hHeld.2.2.1)), ((cell_far (p := ⟨gb111, _, none⟩) NB141_111.out _).trans (hHeld.2.2.2.1)), ((cell_far (p := ⟨gb111, _, none⟩) NB141_111.out _).trans (hHeld.2.2.2.2.1)), ((cell_far (p := ⟨gb111, _, none⟩) NB141_111.out _).trans (hHeld.2.2.2.2.2.1)), ((cell_far (p := ⟨gb111, _, none⟩) NB141_111.out _).trans (hHeld.2.2.2.2.2.2))⟩ (fun hHeld => ?_)
        clear hK K
        refine pure_ (i := 10) (N := some 96) (v := ?_) (a' := ?_) #[true, true, true, true, true, true, true, true, true, true, true, false] rfl rfl (any_of HT_.out (by kernel_rfl)) (fun _ _ _ h => h) (Or.inl ⟨by rfl, ?_⟩) ?_ ?_
        rotate_left
        ·intro w'; go_simp; with_reducible rfl
        rotate_left
        ·simp only [Act.put, s1_, s2_, s3_, i64_w, i32_w]; rfl
        refine one_ (i := 11) (N := none) #[true, true, true, true, true, true, true, true, true, true, true, true] rfl rfl (one_of HT_.out (by kernel_rfl)) (by decide) (fun K hK => ?_)
        have hs98 : w95.cell? ⟨gb111, 2, none⟩ = some (.int .i64 0) := (blk_cell BK111.out 2).trans rfl
        have hfs98 := blk_frozen BK111.out 2
        have hns98_0 := NB101_111.out
        have hns98_1 := NB110_111.out
        have hns98_3 := NB141_111.out
        have hms98_0 := NB111_101.out
        have hms98_1 := NB111_110.out
        have hms98_3 := NB111_141.out
        refine skip_ (w1 := ?_) (by rfl) rfl ?_ ?_
        rotate_left
        ·go_simp
         rfl
        refine hK.out _ _ ⟨((cell_far (p := ⟨gb111, _, none⟩) NB141_111.out _).trans (hHeld.1)), ((cell_far (p := ⟨gb111, _, none⟩) NB141_111.out _).trans (hHeld.2.1)), ((cell_far (p := ⟨gb111, _, none⟩) NB141_111.out _).trans (hHeld.2.2.1)), ((cell_far (p := ⟨gb111, _, none⟩) NB141_111.out _).trans (hHeld.2.2.2.1)), ((cell_far (p := ⟨gb111, _, none⟩) NB141_111.out _).trans (hHeld.2.2.2.2.1)), ((cell_far (p := ⟨gb111, _, none⟩) NB141_111.out _).trans (hHeld.2.2.2.2.2.1)), ((cell_far (p := ⟨gb111, _, none⟩) NB141_111.out _).trans (hHeld.2.2.2.2.2.2))⟩ (fun hHeld => ?_)
        clear hK K
        refine done_ (done_of HT_.out (by kernel_rfl)) ?_
        try go_wp2
        go_meet
        case rel => exact ⟨_, (t139), ((⟨#[]⟩ : ByteArray)), ((⟨#[]⟩ : ByteArray)), (0), (0), (0), (t134), (t135), (t133), (by first | rfl | (simp; done) | (simp [*]; done)), H', ⟨by first | omega | exact Nat.le_refl _⟩, ⟨by (with_reducible repeat first | apply Kd.R_alloc | apply Kd.R_drewN | apply Kd.R_drew); exact Kd.R_mono (Kd.R_far (p := ⟨gb111, 2, none⟩) (Kd.R_far (p := ⟨gb111, 1, none⟩) (Kd.R_far (p := ⟨gb111, 0, none⟩) (Kd.R_types HO106.out BK111.out (by decide)) (fun _ hk => hk.2) (.string t134)) (fun _ hk => hk.2) (.string t135)) (fun _ hk => hk.2) (.int .i64 t133)) (fun _ hk => trivial)⟩, ⟨by (iterate 3 ((with_reducible repeat first | apply pN_ | apply pD_ | apply pA_); refine blk_far ?_ NB101_111.out _)); (with_reducible repeat first | apply pN_ | apply pD_ | apply pA_); exact BK101.out⟩, ⟨by (iterate 3 ((with_reducible repeat first | apply pN_ | apply pD_ | apply pA_); refine blk_far ?_ NB110_111.out _)); (with_reducible repeat first | apply pN_ | apply pD_ | apply pA_); exact BK110.out⟩, ⟨by (with_reducible repeat first | apply pN_ | apply pD_ | apply pA_); refine blk_put (cs := #[.string t134, .string t135, .int .i64 0, .int .i64 0, .int .i64 0]) ?_ 2 _ rfl; (with_reducible repeat first | apply pN_ | apply pD_ | apply pA_); refine blk_put (cs := #[.string t134, .string ⟨#[]⟩, .int .i64 0, .int .i64 0, .int .i64 0]) ?_ 1 _ rfl; (with_reducible repeat first | apply pN_ | apply pD_ | apply pA_); refine blk_put (cs := Z26_0) ?_ 0 _ rfl; (with_reducible repeat first | apply pN_ | apply pD_ | apply pA_); exact BK111.out⟩, ⟨bU_ HB.out⟩⟩
      ·rw [if_neg c79] at H
       have c79b0 : (t140 == 0) = false := beq_eq_false_iff_ne.mpr c79
       have c79b1 : (t140 != 0) = true := bne_iff_ne.mpr c79
       (first | rw [c79b0] | (simp only [i64_w, i32_w]; rw [c79b0]) | skip)
       simp only [Option.some.injEq, Prod.mk.injEq] at H
       obtain ⟨rfl, rfl, rfl, rfl, rfl, rfl⟩ := H
       have hnb99 := NB111_101.out
       have hnc99 := NB101_111.out
       have hnb100 := NB111_110.out
       have hnc100 := NB110_111.out
       have hnb101 := NB111_141.out
       have hnc101 := NB141_111.out
       have hcz102_0 : w73.cell? ⟨gb111, 0, none⟩ = some (.string ⟨#[]⟩) := (blk_cell BK111.out 0).trans rfl
       have hcz102_1 : w73.cell? ⟨gb111, 1, none⟩ = some (.string ⟨#[]⟩) := (blk_cell BK111.out 1).trans rfl
       have hcz102_2 : w73.cell? ⟨gb111, 2, none⟩ = some (.int .i64 0) := (blk_cell BK111.out 2).trans rfl
       have hcz102_3 : w73.cell? ⟨gb111, 3, none⟩ = some (.int .i64 0) := (blk_cell BK111.out 3).trans rfl
       have hcz102_4 : w73.cell? ⟨gb111, 4, none⟩ = some (.int .i64 0) := (blk_cell BK111.out 4).trans rfl
       have hfz102_0 := blk_frozen BK111.out 0; have hfz102_1 := blk_frozen BK111.out 1; have hfz102_2 := blk_frozen BK111.out 2; have hfz102_3 := blk_frozen BK111.out 3; have hfz102_4 := blk_frozen BK111.out 4
       have hnb103 := NB101_110.out
       have hnc103 := NB110_101.out
       have hnb104 := NB101_141.out
       have hnc104 := NB141_101.out
       have hcz105_0 : w73.cell? ⟨gb101, 0, none⟩ = some (.string ⟨#[]⟩) := (blk_cell BK101.out 0).trans rfl
       have hcz105_1 : w73.cell? ⟨gb101, 1, none⟩ = some (.string ⟨#[]⟩) := (blk_cell BK101.out 1).trans rfl
       have hcz105_2 : w73.cell? ⟨gb101, 2, none⟩ = some (.int .i64 0) := (blk_cell BK101.out 2).trans rfl
       have hcz105_3 : w73.cell? ⟨gb101, 3, none⟩ = some (.int .i64 0) := (blk_cell BK101.out 3).trans rfl
       have hcz105_4 : w73.cell? ⟨gb101, 4, none⟩ = some (.int .i64 0) := (blk_cell BK101.out 4).trans rfl
       have hfz105_0 := blk_frozen BK101.out 0; have hfz105_1 := blk_frozen BK101.out 1; have hfz105_2 := blk_frozen BK101.out 2; have hfz105_3 := blk_frozen BK101.out 3; have hfz105_4 := blk_frozen BK101.out 4
       go_wp2
       refine bodyPost_ret (results_ct rfl _ _ gb101 23 #[.string ⟨#[]⟩, .string ⟨#[]⟩, .int .i64 0, .int .i64 0, .int .i64 0] (0, 0) _ rfl (by (with_reducible repeat first | apply pN_ | apply pD_ | apply pA_); refine blk_put (cs := Z26_0) ?_ 4 _ rfl; (with_reducible repeat first | apply pN_ | apply pD_ | apply pA_); refine blk_put (cs := Z26_0) ?_ 3 _ rfl; (with_reducible repeat first | apply pN_ | apply pD_ | apply pA_); refine blk_put (cs := Z26_0) ?_ 2 _ rfl; (with_reducible repeat first | apply pN_ | apply pD_ | apply pA_); refine blk_put (cs := Z26_0) ?_ 1 _ rfl; (with_reducible repeat first | apply pN_ | apply pD_ | apply pA_); refine blk_put (cs := Z26_0) ?_ 0 _ rfl; (iterate 7 ((with_reducible repeat first | apply pN_ | apply pD_ | apply pA_); refine blk_far ?_ NB101_141.out _)); (with_reducible repeat first | apply pN_ | apply pD_ | apply pA_); exact BK101.out) Try.underlying23 rfl (by kernel_rfl)) rfl ?_
       exact rE_ (bU_ HB.out)
     ·rw [if_neg c69] at H
      have c69b0 : (t107 == 34525) = false := beq_eq_false_iff_ne.mpr c69
      have c69b1 : (t107 != 34525) = true := bne_iff_ne.mpr c69
      simp only [Option.some.injEq, Prod.mk.injEq] at H
      obtain ⟨rfl, rfl, rfl, rfl, rfl, rfl⟩ := H
      have hnb106 := NB111_101.out
      have hnc106 := NB101_111.out
      have hnb107 := NB111_110.out
      have hnc107 := NB110_111.out
      have hcz108_0 : w15.cell? ⟨gb111, 0, none⟩ = some (.string ⟨#[]⟩) := (blk_cell BK111.out 0).trans rfl
      have hcz108_1 : w15.cell? ⟨gb111, 1, none⟩ = some (.string ⟨#[]⟩) := (blk_cell BK111.out 1).trans rfl
      have hcz108_2 : w15.cell? ⟨gb111, 2, none⟩ = some (.int .i64 0) := (blk_cell BK111.out 2).trans rfl
      have hcz108_3 : w15.cell? ⟨gb111, 3, none⟩ = some (.int .i64 0) := (blk_cell BK111.out 3).trans rfl
      have hcz108_4 : w15.cell? ⟨gb111, 4, none⟩ = some (.int .i64 0) := (blk_cell BK111.out 4).trans rfl
      have hfz108_0 := blk_frozen BK111.out 0; have hfz108_1 := blk_frozen BK111.out 1; have hfz108_2 := blk_frozen BK111.out 2; have hfz108_3 := blk_frozen BK111.out 3; have hfz108_4 := blk_frozen BK111.out 4
      have hnb109 := NB101_110.out
      have hnc109 := NB110_101.out
      have hcz110_0 : w15.cell? ⟨gb101, 0, none⟩ = some (.string ⟨#[]⟩) := (blk_cell BK101.out 0).trans rfl
      have hcz110_1 : w15.cell? ⟨gb101, 1, none⟩ = some (.string ⟨#[]⟩) := (blk_cell BK101.out 1).trans rfl
      have hcz110_2 : w15.cell? ⟨gb101, 2, none⟩ = some (.int .i64 0) := (blk_cell BK101.out 2).trans rfl
      have hcz110_3 : w15.cell? ⟨gb101, 3, none⟩ = some (.int .i64 0) := (blk_cell BK101.out 3).trans rfl
      have hcz110_4 : w15.cell? ⟨gb101, 4, none⟩ = some (.int .i64 0) := (blk_cell BK101.out 4).trans rfl
      have hfz110_0 := blk_frozen BK101.out 0; have hfz110_1 := blk_frozen BK101.out 1; have hfz110_2 := blk_frozen BK101.out 2; have hfz110_3 := blk_frozen BK101.out 3; have hfz110_4 := blk_frozen BK101.out 4
      go_wp2
      refine bodyPost_ret (results_ct rfl _ _ gb101 23 #[.string ⟨#[]⟩, .string ⟨#[]⟩, .int .i64 0, .int .i64 0, .int .i64 0] (0, 0) _ rfl (by (with_reducible repeat first | apply pN_ | apply pD_ | apply pA_); refine blk_put (cs := Z26_0) ?_ 4 _ rfl; (with_reducible repeat first | apply pN_ | apply pD_ | apply pA_); refine blk_put (cs := Z26_0) ?_ 3 _ rfl; (with_reducible repeat first | apply pN_ | apply pD_ | apply pA_); refine blk_put (cs := Z26_0) ?_ 2 _ rfl; (with_reducible repeat first | apply pN_ | apply pD_ | apply pA_); refine blk_put (cs := Z26_0) ?_ 1 _ rfl; (with_reducible repeat first | apply pN_ | apply pD_ | apply pA_); refine blk_put (cs := Z26_0) ?_ 0 _ rfl; (iterate 5 ((with_reducible repeat first | apply pN_ | apply pD_ | apply pA_); refine blk_far ?_ NB101_111.out _)); (with_reducible repeat first | apply pN_ | apply pD_ | apply pA_); exact BK101.out) Try.underlying23 rfl (by kernel_rfl)) rfl ?_
      exact rE_ (bU_ HB.out)
   case rest =>
    clear HC14
    (try clear c1); (try clear c2); (try clear p2); (try clear c3); (try clear c6); (try clear c7); (try clear c8); (try clear c9); (try clear c10); (try clear c21); (try clear c21b0); (try clear c21b1); (try clear c30); (try clear c30b0); (try clear c30b1); (try clear c31); (try clear c62); (try clear c63); (try clear c64); (try clear c66); (try clear c67); (try clear c69); (try clear c69b0); (try clear c69b1); (try clear c74); (try clear c75); (try clear c76); (try clear c79); (try clear c79b0); (try clear c79b1); (try clear c82); (try clear c83); (try clear c84); (try clear c87); (try clear c88); (try clear c89); (try clear c90); (try clear c92); (try clear c93); (try clear c99); (try clear c100); (try clear c101); (try clear c103); (try clear c104); (try clear c106); (try clear c107); (try clear c109); (try clear hcz102_0); (try clear hcz102_1); (try clear hcz102_2); (try clear hcz102_3); (try clear hcz102_4); (try clear hcz105_0); (try clear hcz105_1); (try clear hcz105_2); (try clear hcz105_3); (try clear hcz105_4); (try clear hcz108_0); (try clear hcz108_1); (try clear hcz108_2); (try clear hcz108_3); (try clear hcz108_4); (try clear hcz110_0); (try clear hcz110_1); (try clear hcz110_2); (try clear hcz110_3); (try clear hcz110_4); (try clear hcz65_0); (try clear hcz65_1); (try clear hcz65_2); (try clear hcz65_3); (try clear hcz65_4); (try clear hcz68_0); (try clear hcz68_1); (try clear hcz68_2); (try clear hcz68_3); (try clear hcz68_4); (try clear hcz77_0); (try clear hcz77_1); (try clear hcz77_2); (try clear hcz77_3); (try clear hcz77_4); (try clear hcz77_5); (try clear hcz77_6); (try clear hcz85_0); (try clear hcz85_1); (try clear hcz85_2); (try clear hcz85_3); (try clear hcz85_4); (try clear hcz85_5); (try clear hcz85_6); (try clear hcz91_0); (try clear hcz91_1); (try clear hcz91_2); (try clear hcz91_3); (try clear hcz91_4); (try clear hcz94_0); (try clear hcz94_1); (try clear hcz94_2); (try clear hcz94_3); (try clear hcz94_4); (try clear hfz102_0); (try clear hfz102_1); (try clear hfz102_2); (try clear hfz102_3); (try clear hfz102_4); (try clear hfz105_0); (try clear hfz105_1); (try clear hfz105_2); (try clear hfz105_3); (try clear hfz105_4); (try clear hfz108_0); (try clear hfz108_1); (try clear hfz108_2); (try clear hfz108_3); (try clear hfz108_4); (try clear hfz110_0); (try clear hfz110_1); (try clear hfz110_2); (try clear hfz110_3); (try clear hfz110_4); (try clear hfz65_0); (try clear hfz65_1); (try clear hfz65_2); (try clear hfz65_3); (try clear hfz65_4); (try clear hfz68_0); (try clear hfz68_1); (try clear hfz68_2); (try clear hfz68_3); (try clear hfz68_4); (try clear hfz77_0); (try clear hfz77_1); (try clear hfz77_2); (try clear hfz77_3); (try clear hfz77_4); (try clear hfz77_5); (try clear hfz77_6); (try clear hfz85_0); (try clear hfz85_1); (try clear hfz85_2); (try clear hfz85_3); (try clear hfz85_4); (try clear hfz85_5); (try clear hfz85_6); (try clear hfz91_0); (try clear hfz91_1); (try clear hfz91_2); (try clear hfz91_3); (try clear hfz91_4); (try clear hfz94_0); (try clear hfz94_1); (try clear hfz94_2); (try clear hfz94_3); (try clear hfz94_4)
    obtain ⟨kq, x8_13, x102000_13, x102001_13, x102002_13, x102003_13, x102004_13, x112000_13, x112001_13, x112002_13, rfl, HA, HJ13, HO_111002, BK101, BK110, BK111, HB⟩ := hcut
    cases kq with
    | zero => exact absurd HA.out (by simp [rillmeterref09_Extract.j0])
    | succ kj13 =>
     have H := HA.out
     clear HA
     simp only [rillmeterref09_Extract.j0] at H
     have HC111 := Aside0.mk H
     clear H
     go_upto_region 27 with (fail)
     go_cut [105] (fun v105 wc => ∃ (kq : Nat) (x105_110 : Bool), v105 = .bool x105_110 ∧ Aside0 (rillmeterref09_Extract.j1 kq x8_13 x105_110 x112000_13 x112001_13 x112002_13 0 0 = some (r1, r2, r3, r4, r5, r6)) ∧ Aside0 (kq ≤ kj13) ∧ Aside0 (Kd.R k95 95 wc w.heap.size (fun _ => True) (.slice Ao12 t104.length co12) t104) ∧ Aside0 (wc.heap[gb101]? = some (.cells #[.string x102000_13, .string x102001_13, .int .i64 x102002_13, .int .i64 x102003_13, .int .i64 x102004_13] 23 (0, 0))) ∧ Aside0 (wc.heap[gb110]? = some (.cells #[.string t102, .string t103, (.slice Ao12 t104.length co12), .int .i64 t107] 63 (0, 0))) ∧ Aside0 (wc.heap[gb111]? = some (.cells #[.string x112000_13, .string x112001_13, .int .i64 x112002_13, .int .i64 0, .int .i64 0] 23 (0, 0))) ∧ Aside0 (Below w.heap.size w wc))
     case first =>
      have H := HC111.out
      clear HC111
      by_cases c112 : x112002_13 = 6
      ·rw [if_pos c112] at H
       have c112b0 : (x112002_13 == 6) = true := beq_iff_eq.mpr c112
       have c112b1 : (x112002_13 != 6) = false := bne_eq_false_iff_eq.mpr c112
       clear c112
       (first | rw [c112b0] | (simp only [i64_w, i32_w]; rw [c112b0]) | skip)
       have H' := Aside0.mk H
       clear H
       have hnb113 := NB111_101.out
       have hnc113 := NB101_111.out
       have hnb114 := NB111_110.out
       have hnc114 := NB110_111.out
       have hcz115_0 : wc.cell? ⟨gb111, 0, none⟩ = some (.string x112000_13) := (blk_cell BK111.out 0).trans rfl
       have hcz115_1 : wc.cell? ⟨gb111, 1, none⟩ = some (.string x112001_13) := (blk_cell BK111.out 1).trans rfl
       have hcz115_2 : wc.cell? ⟨gb111, 2, none⟩ = some (.int .i64 x112002_13) := (blk_cell BK111.out 2).trans rfl
       have hcz115_3 : wc.cell? ⟨gb111, 3, none⟩ = some (.int .i64 0) := (blk_cell BK111.out 3).trans rfl
       have hcz115_4 : wc.cell? ⟨gb111, 4, none⟩ = some (.int .i64 0) := (blk_cell BK111.out 4).trans rfl
       have hfz115_0 := blk_frozen BK111.out 0; have hfz115_1 := blk_frozen BK111.out 1; have hfz115_2 := blk_frozen BK111.out 2; have hfz115_3 := blk_frozen BK111.out 3; have hfz115_4 := blk_frozen BK111.out 4
       go_wp2
       go_meet
       case rel => exact ⟨_, (true), (by first | rfl | (simp; done) | (simp [*]; done)), H', ⟨by have := HJ13.out; first | omega | exact Nat.le_refl _⟩, ⟨by (with_reducible repeat first | apply Kd.R_alloc | apply Kd.R_drewN | apply Kd.R_drew); exact HO_111002.out⟩, ⟨by (with_reducible repeat first | apply pN_ | apply pD_ | apply pA_); exact BK101.out⟩, ⟨by (with_reducible repeat first | apply pN_ | apply pD_ | apply pA_); exact BK110.out⟩, ⟨by (with_reducible repeat first | apply pN_ | apply pD_ | apply pA_); exact BK111.out⟩, ⟨bU_ HB.out⟩⟩
      ·rw [if_neg c112] at H
       have c112b0 : (x112002_13 == 6) = false := beq_eq_false_iff_ne.mpr c112
       have c112b1 : (x112002_13 != 6) = true := bne_iff_ne.mpr c112
       (first | rw [c112b0] | (simp only [i64_w, i32_w]; rw [c112b0]) | skip)
       have H' := Aside0.mk H
       clear H
       have hnb116 := NB111_101.out
       have hnc116 := NB101_111.out
       have hnb117 := NB111_110.out
       have hnc117 := NB110_111.out
       have hcz118_0 : wc.cell? ⟨gb111, 0, none⟩ = some (.string x112000_13) := (blk_cell BK111.out 0).trans rfl
       have hcz118_1 : wc.cell? ⟨gb111, 1, none⟩ = some (.string x112001_13) := (blk_cell BK111.out 1).trans rfl
       have hcz118_2 : wc.cell? ⟨gb111, 2, none⟩ = some (.int .i64 x112002_13) := (blk_cell BK111.out 2).trans rfl
       have hcz118_3 : wc.cell? ⟨gb111, 3, none⟩ = some (.int .i64 0) := (blk_cell BK111.out 3).trans rfl
       have hcz118_4 : wc.cell? ⟨gb111, 4, none⟩ = some (.int .i64 0) := (blk_cell BK111.out 4).trans rfl
       have hfz118_0 := blk_frozen BK111.out 0; have hfz118_1 := blk_frozen BK111.out 1; have hfz118_2 := blk_frozen BK111.out 2; have hfz118_3 := blk_frozen BK111.out 3; have hfz118_4 := blk_frozen BK111.out 4
       go_wp2
       go_meet
       case rel => exact ⟨_, ((x112002_13 == 17)), (by first | rfl | (simp; done) | (simp [*]; done)), H', ⟨by have := HJ13.out; first | omega | exact Nat.le_refl _⟩, ⟨by (with_reducible repeat first | apply Kd.R_alloc | apply Kd.R_drewN | apply Kd.R_drew); exact HO_111002.out⟩, ⟨by (with_reducible repeat first | apply pN_ | apply pD_ | apply pA_); exact BK101.out⟩, ⟨by (with_reducible repeat first | apply pN_ | apply pD_ | apply pA_); exact BK110.out⟩, ⟨by (with_reducible repeat first | apply pN_ | apply pD_ | apply pA_); exact BK111.out⟩, ⟨bU_ HB.out⟩⟩
     case rest =>
      clear HC111
      (try clear c1); (try clear c2); (try clear p2); (try clear c3); (try clear c6); (try clear c7); (try clear c8); (try clear c9); (try clear c10); (try clear c11); (try clear c21); (try clear c21b0); (try clear c21b1); (try clear c30); (try clear c30b0); (try clear c30b1); (try clear c31); (try clear c62); (try clear c63); (try clear c64); (try clear c66); (try clear c67); (try clear c69); (try clear c69b0); (try clear c69b1); (try clear c74); (try clear c75); (try clear c76); (try clear c79); (try clear c79b0); (try clear c79b1); (try clear c82); (try clear c83); (try clear c84); (try clear c87); (try clear c88); (try clear c89); (try clear c90); (try clear c92); (try clear c93); (try clear c99); (try clear c100); (try clear c101); (try clear c103); (try clear c104); (try clear c106); (try clear c107); (try clear c109); (try clear c112); (try clear c112b0); (try clear c112b1); (try clear c113); (try clear c114); (try clear c116); (try clear c117); (try clear hcz102_0); (try clear hcz102_1); (try clear hcz102_2); (try clear hcz102_3); (try clear hcz102_4); (try clear hcz105_0); (try clear hcz105_1); (try clear hcz105_2); (try clear hcz105_3); (try clear hcz105_4); (try clear hcz108_0); (try clear hcz108_1); (try clear hcz108_2); (try clear hcz108_3); (try clear hcz108_4); (try clear hcz110_0); (try clear hcz110_1); (try clear hcz110_2); (try clear hcz110_3); (try clear hcz110_4); (try clear hcz115_0); (try clear hcz115_1); (try clear hcz115_2); (try clear hcz115_3); (try clear hcz115_4); (try clear hcz118_0); (try clear hcz118_1); (try clear hcz118_2); (try clear hcz118_3); (try clear hcz118_4); (try clear hcz65_0); (try clear hcz65_1); (try clear hcz65_2); (try clear hcz65_3); (try clear hcz65_4); (try clear hcz68_0); (try clear hcz68_1); (try clear hcz68_2); (try clear hcz68_3); (try clear hcz68_4); (try clear hcz77_0); (try clear hcz77_1); (try clear hcz77_2); (try clear hcz77_3); (try clear hcz77_4); (try clear hcz77_5); (try clear hcz77_6); (try clear hcz85_0); (try clear hcz85_1); (try clear hcz85_2); (try clear hcz85_3); (try clear hcz85_4); (try clear hcz85_5); (try clear hcz85_6); (try clear hcz91_0); (try clear hcz91_1); (try clear hcz91_2); (try clear hcz91_3); (try clear hcz91_4); (try clear hcz94_0); (try clear hcz94_1); (try clear hcz94_2); (try clear hcz94_3); (try clear hcz94_4); (try clear hfz102_0); (try clear hfz102_1); (try clear hfz102_2); (try clear hfz102_3); (try clear hfz102_4); (try clear hfz105_0); (try clear hfz105_1); (try clear hfz105_2); (try clear hfz105_3); (try clear hfz105_4); (try clear hfz108_0); (try clear hfz108_1); (try clear hfz108_2); (try clear hfz108_3); (try clear hfz108_4); (try clear hfz110_0); (try clear hfz110_1); (try clear hfz110_2); (try clear hfz110_3); (try clear hfz110_4); (try clear hfz115_0); (try clear hfz115_1); (try clear hfz115_2); (try clear hfz115_3); (try clear hfz115_4); (try clear hfz118_0); (try clear hfz118_1); (try clear hfz118_2); (try clear hfz118_3); (try clear hfz118_4); (try clear hfz65_0); (try clear hfz65_1); (try clear hfz65_2); (try clear hfz65_3); (try clear hfz65_4); (try clear hfz68_0); (try clear hfz68_1); (try clear hfz68_2); (try clear hfz68_3); (try clear hfz68_4); (try clear hfz77_0); (try clear hfz77_1); (try clear hfz77_2); (try clear hfz77_3); (try clear hfz77_4); (try clear hfz77_5); (try clear hfz77_6); (try clear hfz85_0); (try clear hfz85_1); (try clear hfz85_2); (try clear hfz85_3); (try clear hfz85_4); (try clear hfz85_5); (try clear hfz85_6); (try clear hfz91_0); (try clear hfz91_1); (try clear hfz91_2); (try clear hfz91_3); (try clear hfz91_4); (try clear hfz94_0); (try clear hfz94_1); (try clear hfz94_2); (try clear hfz94_3); (try clear hfz94_4); (try clear p2)
      obtain ⟨kq, x105_110, rfl, HA, HJ110, HO_111002, BK101, BK110, BK111, HB⟩ := hcut
      cases kq with
      | zero => exact absurd HA.out (by simp [rillmeterref09_Extract.j1])
      | succ kj110 =>
       have H := HA.out
       clear HA
       simp only [rillmeterref09_Extract.j1] at H
       by_cases c119 : x105_110 = true
       ·subst c119
        have H1 : ((rillmeterref08_Take.f kj110 x112002_13 x8_13).bind fun bt143 => (if bt143.2.2.2 = 0 then (some (x112000_13, x112001_13, x112002_13, bt143.1, bt143.2.1, 0)) else (some ((⟨#[]⟩ : ByteArray), (⟨#[]⟩ : ByteArray), 0, 0, 0, bt143.2.2.2)))) = some (r1, r2, r3, r4, r5, r6) := by rw [if_pos rfl] at H; exact H
        clear H
        have H := H1
        clear H1
        replace H := Option.bind_eq_some_iff.mp H
        obtain ⟨⟨t143, t144, t145, t146⟩, A1200, H⟩ := H
        replace H : (if t146 = 0 then (some (x112000_13, x112001_13, x112002_13, t143, t144, 0)) else (some ((⟨#[]⟩ : ByteArray), (⟨#[]⟩ : ByteArray), 0, 0, 0, t146))) = some (r1, r2, r3, r4, r5, r6) := H
        have A120 := Aside0.mk A1200
        clear A1200
        have HC121 := Aside0.mk H
        clear H
        have hnb122 := NB111_101.out
        have hnc122 := NB101_111.out
        have hnb123 := NB111_110.out
        have hnc123 := NB110_111.out
        have hcz124_0 : wc.cell? ⟨gb111, 0, none⟩ = some (.string x112000_13) := (blk_cell BK111.out 0).trans rfl
        have hcz124_1 : wc.cell? ⟨gb111, 1, none⟩ = some (.string x112001_13) := (blk_cell BK111.out 1).trans rfl
        have hcz124_2 : wc.cell? ⟨gb111, 2, none⟩ = some (.int .i64 x112002_13) := (blk_cell BK111.out 2).trans rfl
        have hcz124_3 : wc.cell? ⟨gb111, 3, none⟩ = some (.int .i64 0) := (blk_cell BK111.out 3).trans rfl
        have hcz124_4 : wc.cell? ⟨gb111, 4, none⟩ = some (.int .i64 0) := (blk_cell BK111.out 4).trans rfl
        have hfz124_0 := blk_frozen BK111.out 0; have hfz124_1 := blk_frozen BK111.out 1; have hfz124_2 := blk_frozen BK111.out 2; have hfz124_3 := blk_frozen BK111.out 3; have hfz124_4 := blk_frozen BK111.out 4
        go_upto_if 116 with (first | ((with_reducible refine gate_callee (f := 32) rfl ?_); refine gL_ (some 110) rfl rfl Try.func32 (by kernel_rfl) rfl #[.int .i64 x112002_13, .string x8_13] rfl ?_; (with_reducible refine (rillmeterref08_Take.calls kj110 x112002_13 x8_13 t143 t144 t145 t146 _ A120.out).mono ?_); rintro e w' ⟨rfl, ⟨nd, rfl⟩⟩; refine ⟨_, rfl, ?_⟩))
        (try simp only [Act.put, s1_, s2_, s3_])
        have H := HC121.out
        clear HC121
        by_cases c125 : t146 = 0
        ·rw [if_pos c125] at H
         have c125b0 : (t146 == 0) = true := beq_iff_eq.mpr c125
         have c125b1 : (t146 != 0) = false := bne_eq_false_iff_eq.mpr c125
         clear c125
         (first | rw [c125b0] | (simp only [i64_w, i32_w]; rw [c125b0]) | skip)
         simp only [Option.some.injEq, Prod.mk.injEq] at H
         obtain ⟨rfl, rfl, rfl, rfl, rfl, rfl⟩ := H
         have hnb126 := NB111_101.out
         have hnc126 := NB101_111.out
         have hnb127 := NB111_110.out
         have hnc127 := NB110_111.out
         have hcz128_0 : wc.cell? ⟨gb111, 0, none⟩ = some (.string x112000_13) := (blk_cell BK111.out 0).trans rfl
         have hcz128_1 : wc.cell? ⟨gb111, 1, none⟩ = some (.string x112001_13) := (blk_cell BK111.out 1).trans rfl
         have hcz128_2 : wc.cell? ⟨gb111, 2, none⟩ = some (.int .i64 x112002_13) := (blk_cell BK111.out 2).trans rfl
         have hcz128_3 : wc.cell? ⟨gb111, 3, none⟩ = some (.int .i64 0) := (blk_cell BK111.out 3).trans rfl
         have hcz128_4 : wc.cell? ⟨gb111, 4, none⟩ = some (.int .i64 0) := (blk_cell BK111.out 4).trans rfl
         have hfz128_0 := blk_frozen BK111.out 0; have hfz128_1 := blk_frozen BK111.out 1; have hfz128_2 := blk_frozen BK111.out 2; have hfz128_3 := blk_frozen BK111.out 3; have hfz128_4 := blk_frozen BK111.out 4
         have hnb129 := NB101_110.out
         have hnc129 := NB110_101.out
         have hcz130_0 : wc.cell? ⟨gb101, 0, none⟩ = some (.string x102000_13) := (blk_cell BK101.out 0).trans rfl
         have hcz130_1 : wc.cell? ⟨gb101, 1, none⟩ = some (.string x102001_13) := (blk_cell BK101.out 1).trans rfl
         have hcz130_2 : wc.cell? ⟨gb101, 2, none⟩ = some (.int .i64 x102002_13) := (blk_cell BK101.out 2).trans rfl
         have hcz130_3 : wc.cell? ⟨gb101, 3, none⟩ = some (.int .i64 x102003_13) := (blk_cell BK101.out 3).trans rfl
         have hcz130_4 : wc.cell? ⟨gb101, 4, none⟩ = some (.int .i64 x102004_13) := (blk_cell BK101.out 4).trans rfl
         have hfz130_0 := blk_frozen BK101.out 0; have hfz130_1 := blk_frozen BK101.out 1; have hfz130_2 := blk_frozen BK101.out 2; have hfz130_3 := blk_frozen BK101.out 3; have hfz130_4 := blk_frozen BK101.out 4
         go_wp2
         refine bodyPost_ret (results_ct rfl _ _ gb101 23 #[.string x112000_13, .string x112001_13, .int .i64 x112002_13, .int .i64 t143, .int .i64 t144] (0, 0) _ rfl (by (with_reducible repeat first | apply pN_ | apply pD_ | apply pA_); refine blk_put (cs := #[.string x112000_13, .string x112001_13, .int .i64 x112002_13, .int .i64 t143, .int .i64 x102004_13]) ?_ 4 _ rfl; (with_reducible repeat first | apply pN_ | apply pD_ | apply pA_); refine blk_put (cs := #[.string x112000_13, .string x112001_13, .int .i64 x112002_13, .int .i64 x102003_13, .int .i64 x102004_13]) ?_ 3 _ rfl; (with_reducible repeat first | apply pN_ | apply pD_ | apply pA_); refine blk_put (cs := #[.string x112000_13, .string x112001_13, .int .i64 x102002_13, .int .i64 x102003_13, .int .i64 x102004_13]) ?_ 2 _ rfl; (with_reducible repeat first | apply pN_ | apply pD_ | apply pA_); refine blk_put (cs := #[.string x112000_13, .string x102001_13, .int .i64 x102002_13, .int .i64 x102003_13, .int .i64 x102004_13]) ?_ 1 _ rfl; (with_reducible repeat first | apply pN_ | apply pD_ | apply pA_); refine blk_put (cs := #[.string x102000_13, .string x102001_13, .int .i64 x102002_13, .int .i64 x102003_13, .int .i64 x102004_13]) ?_ 0 _ rfl; (iterate 2 ((with_reducible repeat first | apply pN_ | apply pD_ | apply pA_); refine blk_far ?_ NB101_111.out _)); (with_reducible repeat first | apply pN_ | apply pD_ | apply pA_); exact BK101.out) Try.underlying23 rfl (by kernel_rfl)) rfl ?_
         exact rE_ (bU_ HB.out)
        ·rw [if_neg c125] at H
         have c125b0 : (t146 == 0) = false := beq_eq_false_iff_ne.mpr c125
         have c125b1 : (t146 != 0) = true := bne_iff_ne.mpr c125
         (first | rw [c125b0] | (simp only [i64_w, i32_w]; rw [c125b0]) | skip)
         simp only [Option.some.injEq, Prod.mk.injEq] at H
         obtain ⟨rfl, rfl, rfl, rfl, rfl, rfl⟩ := H
         have hnb131 := NB101_110.out
         have hnc131 := NB110_101.out
         have hnb132 := NB101_111.out
         have hnc132 := NB111_101.out
         have hcz133_0 : wc.cell? ⟨gb101, 0, none⟩ = some (.string x102000_13) := (blk_cell BK101.out 0).trans rfl
         have hcz133_1 : wc.cell? ⟨gb101, 1, none⟩ = some (.string x102001_13) := (blk_cell BK101.out 1).trans rfl
         have hcz133_2 : wc.cell? ⟨gb101, 2, none⟩ = some (.int .i64 x102002_13) := (blk_cell BK101.out 2).trans rfl
         have hcz133_3 : wc.cell? ⟨gb101, 3, none⟩ = some (.int .i64 x102003_13) := (blk_cell BK101.out 3).trans rfl
         have hcz133_4 : wc.cell? ⟨gb101, 4, none⟩ = some (.int .i64 x102004_13) := (blk_cell BK101.out 4).trans rfl
         have hfz133_0 := blk_frozen BK101.out 0; have hfz133_1 := blk_frozen BK101.out 1; have hfz133_2 := blk_frozen BK101.out 2; have hfz133_3 := blk_frozen BK101.out 3; have hfz133_4 := blk_frozen BK101.out 4
         go_wp2
         refine bodyPost_ret (results_ct rfl _ _ gb101 23 #[.string ⟨#[]⟩, .string ⟨#[]⟩, .int .i64 0, .int .i64 0, .int .i64 0] (0, 0) _ rfl (by (with_reducible repeat first | apply pN_ | apply pD_ | apply pA_); refine blk_put (cs := #[.string ⟨#[]⟩, .string ⟨#[]⟩, .int .i64 0, .int .i64 0, .int .i64 x102004_13]) ?_ 4 _ rfl; (with_reducible repeat first | apply pN_ | apply pD_ | apply pA_); refine blk_put (cs := #[.string ⟨#[]⟩, .string ⟨#[]⟩, .int .i64 0, .int .i64 x102003_13, .int .i64 x102004_13]) ?_ 3 _ rfl; (with_reducible repeat first | apply pN_ | apply pD_ | apply pA_); refine blk_put (cs := #[.string ⟨#[]⟩, .string ⟨#[]⟩, .int .i64 x102002_13, .int .i64 x102003_13, .int .i64 x102004_13]) ?_ 2 _ rfl; (with_reducible repeat first | apply pN_ | apply pD_ | apply pA_); refine blk_put (cs := #[.string ⟨#[]⟩, .string x102001_13, .int .i64 x102002_13, .int .i64 x102003_13, .int .i64 x102004_13]) ?_ 1 _ rfl; (with_reducible repeat first | apply pN_ | apply pD_ | apply pA_); refine blk_put (cs := #[.string x102000_13, .string x102001_13, .int .i64 x102002_13, .int .i64 x102003_13, .int .i64 x102004_13]) ?_ 0 _ rfl; (with_reducible repeat first | apply pN_ | apply pD_ | apply pA_); exact BK101.out) Try.underlying23 rfl (by kernel_rfl)) rfl ?_
         exact rE_ (bU_ HB.out)
       ·replace c119 := Bool.eq_false_iff.mpr c119
        subst c119
        have H1 : (some (x112000_13, x112001_13, x112002_13, 0, 0, 0)) = some (r1, r2, r3, r4, r5, r6) := by rw [if_neg (show ¬ (false = true) by decide)] at H; exact H
        clear H
        have H := H1
        clear H1
        simp only [Option.some.injEq, Prod.mk.injEq] at H
        obtain ⟨rfl, rfl, rfl, rfl, rfl, rfl⟩ := H
        have hnb134 := NB111_101.out
        have hnc134 := NB101_111.out
        have hnb135 := NB111_110.out
        have hnc135 := NB110_111.out
        have hcz136_0 : wc.cell? ⟨gb111, 0, none⟩ = some (.string x112000_13) := (blk_cell BK111.out 0).trans rfl
        have hcz136_1 : wc.cell? ⟨gb111, 1, none⟩ = some (.string x112001_13) := (blk_cell BK111.out 1).trans rfl
        have hcz136_2 : wc.cell? ⟨gb111, 2, none⟩ = some (.int .i64 x112002_13) := (blk_cell BK111.out 2).trans rfl
        have hcz136_3 : wc.cell? ⟨gb111, 3, none⟩ = some (.int .i64 0) := (blk_cell BK111.out 3).trans rfl
        have hcz136_4 : wc.cell? ⟨gb111, 4, none⟩ = some (.int .i64 0) := (blk_cell BK111.out 4).trans rfl
        have hfz136_0 := blk_frozen BK111.out 0; have hfz136_1 := blk_frozen BK111.out 1; have hfz136_2 := blk_frozen BK111.out 2; have hfz136_3 := blk_frozen BK111.out 3; have hfz136_4 := blk_frozen BK111.out 4
        have hnb137 := NB101_110.out
        have hnc137 := NB110_101.out
        have hcz138_0 : wc.cell? ⟨gb101, 0, none⟩ = some (.string x102000_13) := (blk_cell BK101.out 0).trans rfl
        have hcz138_1 : wc.cell? ⟨gb101, 1, none⟩ = some (.string x102001_13) := (blk_cell BK101.out 1).trans rfl
        have hcz138_2 : wc.cell? ⟨gb101, 2, none⟩ = some (.int .i64 x102002_13) := (blk_cell BK101.out 2).trans rfl
        have hcz138_3 : wc.cell? ⟨gb101, 3, none⟩ = some (.int .i64 x102003_13) := (blk_cell BK101.out 3).trans rfl
        have hcz138_4 : wc.cell? ⟨gb101, 4, none⟩ = some (.int .i64 x102004_13) := (blk_cell BK101.out 4).trans rfl
        have hfz138_0 := blk_frozen BK101.out 0; have hfz138_1 := blk_frozen BK101.out 1; have hfz138_2 := blk_frozen BK101.out 2; have hfz138_3 := blk_frozen BK101.out 3; have hfz138_4 := blk_frozen BK101.out 4
        go_wp2
        refine bodyPost_ret (results_ct rfl _ _ gb101 23 #[.string x112000_13, .string x112001_13, .int .i64 x112002_13, .int .i64 0, .int .i64 0] (0, 0) _ rfl (by (with_reducible repeat first | apply pN_ | apply pD_ | apply pA_); refine blk_put (cs := #[.string x112000_13, .string x112001_13, .int .i64 x112002_13, .int .i64 0, .int .i64 x102004_13]) ?_ 4 _ rfl; (with_reducible repeat first | apply pN_ | apply pD_ | apply pA_); refine blk_put (cs := #[.string x112000_13, .string x112001_13, .int .i64 x112002_13, .int .i64 x102003_13, .int .i64 x102004_13]) ?_ 3 _ rfl; (with_reducible repeat first | apply pN_ | apply pD_ | apply pA_); refine blk_put (cs := #[.string x112000_13, .string x112001_13, .int .i64 x102002_13, .int .i64 x102003_13, .int .i64 x102004_13]) ?_ 2 _ rfl; (with_reducible repeat first | apply pN_ | apply pD_ | apply pA_); refine blk_put (cs := #[.string x112000_13, .string x102001_13, .int .i64 x102002_13, .int .i64 x102003_13, .int .i64 x102004_13]) ?_ 1 _ rfl; (with_reducible repeat first | apply pN_ | apply pD_ | apply pA_); refine blk_put (cs := #[.string x102000_13, .string x102001_13, .int .i64 x102002_13, .int .i64 x102003_13, .int .i64 x102004_13]) ?_ 0 _ rfl; (with_reducible repeat first | apply pN_ | apply pD_ | apply pA_); exact BK101.out) Try.underlying23 rfl (by kernel_rfl)) rfl ?_
        exact rE_ (bU_ HB.out)
  ·rw [if_neg c13] at H
   have c13b0 : (t109 == 0) = false := beq_eq_false_iff_ne.mpr c13
   have c13b1 : (t109 != 0) = true := bne_iff_ne.mpr c13
   (first | rw [c13b0] | (simp only [i64_w, i32_w]; rw [c13b0]) | skip)
   simp only [Option.some.injEq, Prod.mk.injEq] at H
   obtain ⟨rfl, rfl, rfl, rfl, rfl, rfl⟩ := H
   have hnb139 := NB101_110.out
   have hnc139 := NB110_101.out
   have hcz140_0 : w9.cell? ⟨gb101, 0, none⟩ = some (.string ⟨#[]⟩) := (blk_cell BK101.out 0).trans rfl
   have hcz140_1 : w9.cell? ⟨gb101, 1, none⟩ = some (.string ⟨#[]⟩) := (blk_cell BK101.out 1).trans rfl
   have hcz140_2 : w9.cell? ⟨gb101, 2, none⟩ = some (.int .i64 0) := (blk_cell BK101.out 2).trans rfl
   have hcz140_3 : w9.cell? ⟨gb101, 3, none⟩ = some (.int .i64 0) := (blk_cell BK101.out 3).trans rfl
   have hcz140_4 : w9.cell? ⟨gb101, 4, none⟩ = some (.int .i64 0) := (blk_cell BK101.out 4).trans rfl
   have hfz140_0 := blk_frozen BK101.out 0; have hfz140_1 := blk_frozen BK101.out 1; have hfz140_2 := blk_frozen BK101.out 2; have hfz140_3 := blk_frozen BK101.out 3; have hfz140_4 := blk_frozen BK101.out 4
   go_wp2
   refine bodyPost_ret (results_ct rfl _ _ gb101 23 #[.string ⟨#[]⟩, .string ⟨#[]⟩, .int .i64 0, .int .i64 0, .int .i64 0] (0, 0) _ rfl (by (with_reducible repeat first | apply pN_ | apply pD_ | apply pA_); refine blk_put (cs := Z26_0) ?_ 4 _ rfl; (with_reducible repeat first | apply pN_ | apply pD_ | apply pA_); refine blk_put (cs := Z26_0) ?_ 3 _ rfl; (with_reducible repeat first | apply pN_ | apply pD_ | apply pA_); refine blk_put (cs := Z26_0) ?_ 2 _ rfl; (with_reducible repeat first | apply pN_ | apply pD_ | apply pA_); refine blk_put (cs := Z26_0) ?_ 1 _ rfl; (with_reducible repeat first | apply pN_ | apply pD_ | apply pA_); refine blk_put (cs := Z26_0) ?_ 0 _ rfl; (iterate 4 ((with_reducible repeat first | apply pN_ | apply pD_ | apply pA_); refine blk_far ?_ NB101_110.out _)); (with_reducible repeat first | apply pN_ | apply pD_ | apply pA_); exact BK101.out) Try.underlying23 rfl (by kernel_rfl)) rfl ?_
   exact rE_ (bU_ HB.out)
end Go.Proofs.Ytfdhifigndmgaaa.Q
