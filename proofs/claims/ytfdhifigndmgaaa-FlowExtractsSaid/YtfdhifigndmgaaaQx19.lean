-- made by a program of this session (wip/print-patch.py, over the kit's print)
import Derived.Test.YtfdhifigndmgaaaQx0
import Derived.Test.YtfdhifigndmgaaaQx18
namespace Go.Proofs.Ytfdhifigndmgaaa.Q
open Go.RowKit Go.Proofs.YtfdhifigndmgaaaW.PrintWords Go.Proofs.YtfdhifigndmgaaaW.PrintLast Go.Proofs.YtfdhifigndmgaaaW.PrintMore
attribute [local go_sem] max2_int min2_int max_two min_two max_three min_three max_four min_four   -- for this text's walks alone
set_option linter.unusedVariables false
set_option linter.unusedSimpArgs false

attribute [local go_sem] cell_twice_ cell_twiceN_
abbrev Z19_0 : Array Value := #[.string ⟨#[]⟩, .string ⟨#[]⟩, .slice none 0 0, .int .i64 0]
/-! ### rillmeterref05_Take: function 28 -/
def rillmeterref05_Take.l0 : Nat → ByteArray → Int → ByteArray → ByteArray → List (S95) → Int → Option (ByteArray × ByteArray × (List (S95)) × Int × ByteArray × Int)
 | 0, _, _, _, _, _, _ => none
 | k + 1, x0, x6, x103000, x103001, x103002, x103003 => if (wrap64 (x6 + 1)) < (x0.size : Int) then (if 0 ≤ x6 then (if x6 < (x0.size : Int) then (if 0 ≤ (wrap64 (x6 + 1)) then ((rillmeterref05_tag.f (wrap64 ((wrap64 (256 * (wrap64 (bt x0 x6)))) + (wrap64 (bt x0 (wrap64 (x6 + 1))))))).bind fun t103 => (if t103 = true then (if (x103002.length : Int) = 2 then (some ((⟨#[]⟩ : ByteArray), (⟨#[]⟩ : ByteArray), ([] : List (S95)), 0, (⟨#[]⟩ : ByteArray), 9)) else (if (wrap64 ((wrap64 (x6 + 2)) + 1)) ≥ (x0.size : Int) then (some ((⟨#[]⟩ : ByteArray), (⟨#[]⟩ : ByteArray), ([] : List (S95)), 0, (⟨#[]⟩ : ByteArray), 2)) else (if 0 ≤ (wrap64 (x6 + 2)) then (if (wrap64 (x6 + 2)) < (x0.size : Int) then (if 0 ≤ (wrap64 ((wrap64 (x6 + 2)) + 1)) then (if (wrap64 ((wrap64 (x6 + 2)) + 1)) < (x0.size : Int) then (if x103002.length < 8796093022208 then (rillmeterref05_Take.l0 k x0 (wrap64 ((wrap64 (x6 + 2)) + 2)) x103000 x103001 (x103002 ++ [(⟨wrap64 ((wrap64 (256 * (wrap64 (bt x0 x6)))) + (wrap64 (bt x0 (wrap64 (x6 + 1))))), wrap64 ((wrap64 (256 * (wrap64 (bt x0 (wrap64 (x6 + 2)))))) + (wrap64 (bt x0 (wrap64 ((wrap64 (x6 + 2)) + 1)))))⟩ : S95)]) x103003) else (none)) else (none)) else (none)) else (none)) else (none)))) else (if 0 ≤ (wrap64 (x6 + 2)) then (if (wrap64 (x6 + 2)) ≤ (x0.size : Int) then (some (x103000, x103001, x103002, wrap64 ((wrap64 (256 * (wrap64 (bt x0 x6)))) + (wrap64 (bt x0 (wrap64 (x6 + 1))))), x0.extract ((wrap64 (x6 + 2)) : Int).toNat x0.size, 0)) else (none)) else (none)))) else (none)) else (none)) else (none)) else (some ((⟨#[]⟩ : ByteArray), (⟨#[]⟩ : ByteArray), ([] : List (S95)), 0, (⟨#[]⟩ : ByteArray), 2))
def rillmeterref05_Take.f (k : Nat) (a0 : ByteArray) : Option (ByteArray × ByteArray × (List (S95)) × Int × ByteArray × Int) := if (a0.size : Int) < 14 then (some ((⟨#[]⟩ : ByteArray), (⟨#[]⟩ : ByteArray), ([] : List (S95)), 0, (⟨#[]⟩ : ByteArray), 2)) else (if 0 ≤ 6 then (if 6 ≤ (a0.size : Int) then (if 6 ≤ 12 then (if 12 ≤ (a0.size : Int) then (rillmeterref05_Take.l0 k a0 12 (a0.extract 0 6) (a0.extract 6 12) ([] : List (S95)) 0) else (none)) else (none)) else (none)) else (none))
theorem rillmeterref05_Take.mono_l : ∀ k, (∀ y0 y1 y2 y3 y4 y5, LeO (rillmeterref05_Take.l0 k y0 y1 y2 y3 y4 y5) (rillmeterref05_Take.l0 (k + 1) y0 y1 y2 y3 y4 y5))
 | 0 => fun _ _ _ _ _ _ r h => by simp [rillmeterref05_Take.l0] at h
 | k + 1 => by
  have ih0 := rillmeterref05_Take.mono_l k
  ·intro y0 y1 y2 y3 y4 y5
   unfold rillmeterref05_Take.l0
   repeat' first
   | (with_reducible exact ih0 _ _ _ _ _ _)
   | (with_reducible exact LeO.refl _)
   | (with_reducible exact LeO.none _)
   | (with_reducible refine LeO.ite ?_ ?_)
   | (with_reducible refine LeO.bind ?_ (fun _ => ?_))
   | exact ih0 _ _ _ _ _ _
   | exact LeO.none _
   | refine LeO.ite ?_ ?_
   | refine LeO.bind ?_ (fun _ => ?_)
theorem rillmeterref05_Take.mono : ∀ a0 k, LeO (rillmeterref05_Take.f k a0) (rillmeterref05_Take.f (k + 1) a0) := by
 intro a0 k
 have ih0 := rillmeterref05_Take.mono_l k
 unfold rillmeterref05_Take.f
 repeat' first
   | (with_reducible exact ih0 _ _ _ _ _ _)
   | (with_reducible exact LeO.refl _)
   | (with_reducible exact LeO.none _)
   | (with_reducible refine LeO.ite ?_ ?_)
   | (with_reducible refine LeO.bind ?_ (fun _ => ?_))
   | exact ih0 _ _ _ _ _ _
   | exact LeO.none _
   | refine LeO.ite ?_ ?_
   | refine LeO.bind ?_ (fun _ => ?_)
def rillmeterref05_Take.T6 : Bool × List (List Nat × List Nat) := (true, [([], []), ([], []), ([0, 1], [0, 1]), ([2], [2]), ([3], [3]), ([], []), ([], []), ([6], [6]), ([5, 7], [5, 7]), ([8], [8]), ([4, 9], [4, 9]), ([10, 0, 1, 2, 3, 4, 5, 6, 7, 8, 9, 10], [10])])
def rillmeterref05_Take.B6 : List Nat := [0, 0, 3, 7, 15, 0, 0, 64, 224, 480, 1023, 2047]
theorem rillmeterref05_Take.tab6 : rtab .any (opsOf Try.f28 6) = rillmeterref05_Take.T6 := by kernel_rfl
theorem rillmeterref05_Take.bits6 : waitsOk rillmeterref05_Take.T6.2 rillmeterref05_Take.B6 = true := by kernel_rfl
def rillmeterref05_Take.T15 : Bool × List (List Nat × List Nat) := (true, [([], []), ([0], [0]), ([], []), ([], []), ([], []), ([3, 4], [3, 4]), ([5], [5]), ([6], [6]), ([], []), ([], []), ([9], [9]), ([8, 10], [8, 10]), ([11], [11]), ([7, 12], [7, 12]), ([2, 13], [2, 13]), ([14], [14]), ([1, 15], [1, 15]), ([0, 1, 2, 3, 4, 5, 6, 7, 8, 9, 10, 11, 12, 13, 14, 15, 16], []), ([17, 16, 16, 0, 1, 2, 3, 4, 5, 6, 7, 8, 9, 10, 11, 12, 13, 14, 15, 16], [16, 17])])
def rillmeterref05_Take.B15 : List Nat := [0, 1, 0, 0, 0, 24, 56, 120, 0, 0, 512, 1792, 3840, 8184, 16380, 32764, 65535, 131071, 262143]
theorem rillmeterref05_Take.tab15 : rtab .any (opsOf Try.f28 15) = rillmeterref05_Take.T15 := by kernel_rfl
theorem rillmeterref05_Take.bits15 : waitsOk rillmeterref05_Take.T15.2 rillmeterref05_Take.B15 = true := by kernel_rfl
set_option maxHeartbeats 8000000 in
set_option maxRecDepth 100000 in
theorem rillmeterref05_Take.calls (k : Nat) (a0 : ByteArray) (r1 : ByteArray) (r2 : ByteArray) (r3 : List (S95)) (r4 : Int) (r5 : ByteArray) (r6 : Int) (w : World) (h : rillmeterref05_Take.f k a0 = some (r1, r2, r3, r4, r5, r6)) :
  Calls Try.prog 28 #[.string a0] w fun e w' => ∃ v2_ : Value, e = .returned (.tuple #[.agg #[.string r1, .string r2, v2_, .int .i64 r4], .string r5, .int .i64 r6]) ∧ Kd.R k95 95 w' w.heap.size (fun _ => True) v2_ r3 ∧ Below w.heap.size w w' := by
 have hu63 := Try.underlying63
 have hu95 := Try.underlying95
 have HB := Aside0.mk (Below.refl w.heap.size w)
 have H : (if (a0.size : Int) < 14 then (some ((⟨#[]⟩ : ByteArray), (⟨#[]⟩ : ByteArray), ([] : List (S95)), 0, (⟨#[]⟩ : ByteArray), 2)) else (if 0 ≤ 6 then (if 6 ≤ (a0.size : Int) then (if 6 ≤ 12 then (if 12 ≤ (a0.size : Int) then (rillmeterref05_Take.l0 k a0 12 (a0.extract 0 6) (a0.extract 6 12) ([] : List (S95)) 0) else (none)) else (none)) else (none)) else (none))) = some (r1, r2, r3, r4, r5, r6) := h
 clear h
 by_cases c2 : (a0.size : Int) < 14
 ·rw [if_pos c2] at H
  have c2b0 : decide ((a0.size : Int) < 14) = true := decide_eq_true c2
  have c2b1 : decide (a0.size < 14) = true := decide_eq_true (by omega)
  clear c2
  simp only [Option.some.injEq, Prod.mk.injEq] at H
  obtain ⟨rfl, rfl, rfl, rfl, rfl, rfl⟩ := H
  go_enter Try.func28, Try.ntmps28
  go_wp2_with (first | ((with_reducible refine gate_dst (N := 2) rfl ?_); refine bE_ (N := 2) (cs := Z19_0) (t := 63) ?_; intro gb101 hg w3 hbox hb; have n0_ := Aside0.mk (below_step (bU_ HB.out) hb); have n1_ := Aside0.mk (hbox); have n2_ := Aside0.mk (bZ_ hg (bU_ HB.out) : w.heap.size ≤ gb101); have n3_ := n2_; clear HB; have HB := n0_; have BK101 := n1_; have GW101 := n2_; have GE101 := n3_; clear n0_ n1_ n2_ n3_; clear hb hbox hg; have hcz4_0 : w3.cell? ⟨gb101, 0, none⟩ = some (.string ⟨#[]⟩) := (blk_cell BK101.out 0).trans rfl; have hcz4_1 : w3.cell? ⟨gb101, 1, none⟩ = some (.string ⟨#[]⟩) := (blk_cell BK101.out 1).trans rfl; have hcz4_2 : w3.cell? ⟨gb101, 2, none⟩ = some (.slice none 0 0) := (blk_cell BK101.out 2).trans rfl; have hcz4_3 : w3.cell? ⟨gb101, 3, none⟩ = some (.int .i64 0) := (blk_cell BK101.out 3).trans rfl; have hfz4_0 := blk_frozen BK101.out 0; have hfz4_1 := blk_frozen BK101.out 1; have hfz4_2 := blk_frozen BK101.out 2; have hfz4_3 := blk_frozen BK101.out 3))
  refine bodyPost_ret (results_ctt rfl _ _ gb101 63 #[.string ⟨#[]⟩, .string ⟨#[]⟩, .slice none 0 0, .int .i64 0] (0, 0) _ rfl (by (with_reducible repeat first | apply pN_ | apply pD_ | apply pA_); refine blk_put (cs := Z19_0) ?_ 3 _ rfl; (with_reducible repeat first | apply pN_ | apply pD_ | apply pA_); refine blk_put (cs := Z19_0) ?_ 2 _ rfl; (with_reducible repeat first | apply pN_ | apply pD_ | apply pA_); refine blk_put (cs := Z19_0) ?_ 1 _ rfl; (with_reducible repeat first | apply pN_ | apply pD_ | apply pA_); refine blk_put (cs := Z19_0) ?_ 0 _ rfl; (with_reducible repeat first | apply pN_ | apply pD_ | apply pA_); exact BK101.out) Try.underlying63 rfl (by kernel_rfl)) rfl ?_
  exact ⟨_, by first | rfl | (simp [errW_none, errW_some] <;> rfl) | (simp [*, errW_none, errW_some] <;> rfl), by first | exact Kd.R_nil _ _ _ _ _ | exact Kd.N_nil _ _ _ _ _ | exact Kd.V_nil _ _ _ _ _ | exact Kd.Q_nil _ _ _ _ _ | exact Kd.S_nil _ _ _ _ _, bU_ HB.out⟩
 ·rw [if_neg c2] at H
  have c2b0 : decide ((a0.size : Int) < 14) = false := decide_eq_false c2
  have c2b1 : decide (a0.size < 14) = false := decide_eq_false (by omega)
  clear c2
  by_cases c5 : 0 ≤ 6
  rotate_left
  ·rw [if_neg c5] at H; exact absurd H (by simp)
  rw [if_pos c5] at H
  have c5b0 := eq_true c5
  have c5b1 : decide (0 ≤ 6) = true := decide_eq_true c5
  clear c5
  by_cases c6 : 6 ≤ (a0.size : Int)
  rotate_left
  ·rw [if_neg c6] at H; exact absurd H (by simp)
  rw [if_pos c6] at H
  have c6b0 := eq_true c6
  have c6b1 : decide (6 ≤ (a0.size : Int)) = true := decide_eq_true c6
  clear c6
  by_cases c7 : 6 ≤ 12
  rotate_left
  ·rw [if_neg c7] at H; exact absurd H (by simp)
  rw [if_pos c7] at H
  have c7b0 := eq_true c7
  have c7b1 : decide (6 ≤ 12) = true := decide_eq_true c7
  clear c7
  by_cases c8 : 12 ≤ (a0.size : Int)
  rotate_left
  ·rw [if_neg c8] at H; exact absurd H (by simp)
  rw [if_pos c8] at H
  have c8b0 := eq_true c8
  have c8b1 : decide (12 ≤ (a0.size : Int)) = true := decide_eq_true c8
  clear c8
  have H' := Aside0.mk H
  clear H
  go_enter Try.func28, Try.ntmps28
  try go_wp2_with (first | ((with_reducible refine gate_dst (N := 2) rfl ?_); refine bE_ (N := 2) (cs := Z19_0) (t := 63) ?_; intro gb101 hg w9 hbox hb; have n0_ := Aside0.mk (below_step (bU_ HB.out) hb); have n1_ := Aside0.mk (hbox); have n2_ := Aside0.mk (bZ_ hg (bU_ HB.out) : w.heap.size ≤ gb101); have n3_ := n2_; clear HB; have HB := n0_; have BK101 := n1_; have GW101 := n2_; have GE101 := n3_; clear n0_ n1_ n2_ n3_; clear hb hbox hg))
  have n0_ := Aside0.mk (blk_drew BK101.out)
  have n1_ := Aside0.mk (below_drew1 HB.out)
  clear BK101
  clear HB
  have BK101 := n0_
  have HB := n1_
  clear n0_ n1_
  refine start_ (n := 7) (S := fun w' => True) (ds := []) #[false, false, false, false, false, false, false] (by kernel_rfl) rfl rfl trivial (fun hHeld => ?_)
  generalize w9.drew = w10 at BK101 HB hHeld ⊢
  refine pure_ (i := 0) (N := some 12) (v := ?_) (a' := ?_) #[true, false, false, false, false, false, false] rfl rfl (by kernel_rfl) (fun _ _ _ h => h) (Or.inl ⟨by rfl, ?_⟩) ?_ ?_
  rotate_left
  ·intro w'; go_simp; with_reducible rfl
  rotate_left
  ·simp only [Act.put, s1_, s2_, s3_, i64_w, i32_w]; rfl
  refine pure_ (i := 1) (N := some 13) (v := ?_) (a' := ?_) #[true, true, false, false, false, false, false] rfl rfl (by kernel_rfl) (fun _ _ _ h => h) (Or.inl ⟨by rfl, ?_⟩) ?_ ?_
  rotate_left
  ·intro w'; go_simp; with_reducible rfl
  rotate_left
  ·simp only [Act.put, s1_, s2_, s3_, i64_w, i32_w]; rfl
  refine pure_ (i := 2) (N := some 14) (v := ?_) (a' := ?_) #[true, true, true, false, false, false, false] rfl rfl (by kernel_rfl) (fun _ _ _ h => h) (Or.inl ⟨by rfl, ?_⟩) ?_ ?_
  rotate_left
  ·intro w'; go_simp; with_reducible rfl
  rotate_left
  ·simp only [Act.put, s1_, s2_, s3_, i64_w, i32_w]; rfl
  refine pure_ (i := 3) (N := some 15) (v := ?_) (a' := ?_) #[true, true, true, true, false, false, false] rfl rfl (by kernel_rfl) (fun _ _ _ h => h) (Or.inl ⟨by rfl, ?_⟩) ?_ ?_
  rotate_left
  ·intro w'; go_simp; with_reducible rfl
  rotate_left
  ·simp only [Act.put, s1_, s2_, s3_, i64_w, i32_w]; rfl
  refine pure_ (i := 4) (N := some 16) (v := ?_) (a' := ?_) #[true, true, true, true, true, false, false] rfl rfl (by kernel_rfl) (fun _ _ _ h => h) (Or.inl ⟨by rfl, ?_⟩) ?_ ?_
  rotate_left
  ·intro w'; go_simp; with_reducible rfl
  rotate_left
  ·simp only [Act.put, s1_, s2_, s3_, i64_w, i32_w]; rfl
  refine one_ (i := 5) (N := some 5) #[true, true, true, true, true, true, false] rfl rfl (by kernel_rfl) (by decide) (fun K hK => ?_)
  refine box_step ?hg (N := 5) ?hd (cs := Z19_0) (t := 63) ?hr ?_; (case hd => rfl); (case hg => rfl); (case hr => first | (go_simp; done) | (go_simp; rfl))
  intro gb102 hg w11 hbox hb
  have n0_ := Aside0.mk (bB_ BK101.out hb)
  have n1_ := Aside0.mk (below_step (bU_ HB.out) hb)
  have n2_ := Aside0.mk (hbox)
  have n3_ := Aside0.mk (bZ_ hg (bU_ HB.out) : w.heap.size ≤ gb102)
  have n4_ := Aside0.mk (bZ_ hg (bU_ HB.out) : w.heap.size ≤ gb102)
  have n5_ := Aside0.mk ((bN_ hg BK101.out : gb101 ≠ gb102))
  have n6_ := Aside0.mk ((by rw [hg]; exact Nat.ne_of_gt (blk_lt (g := gb101) (o := .cells Z19_0 63 (0, 0)) (by (with_reducible repeat first | apply pN_ | apply pD_ | apply pA_); exact BK101.out)) : gb102 ≠ gb101))
  clear BK101
  clear HB
  have BK101 := n0_
  have HB := n1_
  have BK102 := n2_
  have GW102 := n3_
  have GE102 := n4_
  have NB101_102 := n5_
  have NB102_101 := n6_
  clear n0_ n1_ n2_ n3_ n4_ n5_ n6_
  clear hb hbox hg
  refine hK.out _ _ trivial (fun hHeld => ?_)
  clear hK K
  refine norm_ (a' := ?_) ?_ ?_
  rotate_left
  ·show Act.put _ (some 5) _ = _
   simp only [Act.put, s1_, s2_, s3_, i64_w, i32_w]; rfl
  refine one_ (i := 6) (N := none) #[true, true, true, true, true, true, true] rfl rfl (by kernel_rfl) (by decide) (fun K hK => ?_)
  have hs12 : w11.cell? ⟨gb102, 0, none⟩ = some (.string ⟨#[]⟩) := (blk_cell BK102.out 0).trans rfl
  have hfs12 := blk_frozen BK102.out 0
  have hns12_0 := NB101_102.out
  have hms12_0 := NB102_101.out
  have hs13 : w11.cell? ⟨gb102, 1, none⟩ = some (.string ⟨#[]⟩) := (blk_cell BK102.out 1).trans rfl
  have hfs13 := blk_frozen BK102.out 1
  have hns13_0 := NB101_102.out
  have hms13_0 := NB102_101.out
  have hs14 : w11.cell? ⟨gb102, 2, none⟩ = some (.slice none 0 0) := (blk_cell BK102.out 2).trans rfl
  have hfs14 := blk_frozen BK102.out 2
  have hns14_0 := NB101_102.out
  have hms14_0 := NB102_101.out
  have hs15 : w11.cell? ⟨gb102, 3, none⟩ = some (.int .i64 0) := (blk_cell BK102.out 3).trans rfl
  have hfs15 := blk_frozen BK102.out 3
  have hns15_0 := NB101_102.out
  have hms15_0 := NB102_101.out
  refine skip_ (w1 := ?_) (by rfl) rfl ?_ ?_
  rotate_left
  ·go_simp
   rfl
  refine hK.out _ _ trivial (fun hHeld => ?_)
  clear hK K
  refine done_ (by kernel_rfl) ?_
  try go_wp2
  go_loopg [6] k (fun kq v6 w' => ∃ (x6_1 : Int) (x102000_1 : ByteArray) (x102001_1 : ByteArray) (x102003_1 : Int) (x103002_1 : List (S95)) (x103003_1 : Int) (u103002 : Value), v6 = .int .i64 x6_1 ∧ Aside0 (rillmeterref05_Take.l0 kq a0 x6_1 (a0.extract 0 6) (a0.extract 6 12) x103002_1 x103003_1 = some (r1, r2, r3, r4, r5, r6)) ∧ Aside0 (kq ≤ k) ∧ Aside0 (Kd.R k95 95 w' w.heap.size (fun _ => True) u103002 x103002_1) ∧ Aside0 (w'.heap[gb101]? = some (.cells #[.string x102000_1, .string x102001_1, (.slice none 0 0), .int .i64 x102003_1] 63 (0, 0))) ∧ Aside0 (w'.heap[gb102]? = some (.cells #[.string (a0.extract 0 6), .string (a0.extract 6 12), u103002, .int .i64 x103003_1] 63 (0, 0))) ∧ Aside0 (Below w.heap.size w w'))
  case atStart => exact ⟨(12), ((⟨#[]⟩ : ByteArray)), ((⟨#[]⟩ : ByteArray)), (0), (([] : List (S95))), (0), (.slice none 0 0), (by first | rfl | (simp; done) | (simp [*]; done)), H', ⟨Nat.le_refl _⟩, ⟨by first | exact Kd.R_nil _ _ _ _ _ | exact Kd.N_nil _ _ _ _ _ | exact Kd.V_nil _ _ _ _ _ | exact Kd.Q_nil _ _ _ _ _ | exact Kd.S_nil _ _ _ _ _⟩, ⟨by (iterate 4 ((with_reducible repeat first | apply pN_ | apply pD_ | apply pA_); refine blk_far ?_ NB101_102.out _)); (with_reducible repeat first | apply pN_ | apply pD_ | apply pA_); exact BK101.out⟩, ⟨by (with_reducible repeat first | apply pN_ | apply pD_ | apply pA_); refine blk_put (cs := #[.string (a0.extract 0 6), .string (a0.extract 6 12), .slice none 0 0, .int .i64 0]) ?_ 3 _ rfl; (with_reducible repeat first | apply pN_ | apply pD_ | apply pA_); refine blk_put (cs := #[.string (a0.extract 0 6), .string (a0.extract 6 12), .slice none 0 0, .int .i64 0]) ?_ 2 _ rfl; (with_reducible repeat first | apply pN_ | apply pD_ | apply pA_); refine blk_put (cs := #[.string (a0.extract 0 6), .string ⟨#[]⟩, .slice none 0 0, .int .i64 0]) ?_ 1 _ rfl; (with_reducible repeat first | apply pN_ | apply pD_ | apply pA_); refine blk_put (cs := Z19_0) ?_ 0 _ rfl; (with_reducible repeat first | apply pN_ | apply pD_ | apply pA_); exact BK102.out⟩, ⟨bU_ HB.out⟩⟩
  case round =>
   clear H'
   (try clear c2); (try clear c2b0); (try clear c2b1); (try clear p2); (try clear c5); (try clear c5b0); (try clear c5b1); (try clear c6); (try clear c6b0); (try clear c6b1); (try clear c7); (try clear c7b0); (try clear c7b1); (try clear c8); (try clear c8b0); (try clear c8b1); (try clear hcz4_0); (try clear hcz4_1); (try clear hcz4_2); (try clear hcz4_3); (try clear hfz4_0); (try clear hfz4_1); (try clear hfz4_2); (try clear hfz4_3)
   obtain ⟨x6_1, x102000_1, x102001_1, x102003_1, x103002_1, x103003_1, u103002, rfl, HA, HK1, HO_103002, BK101, BK102, HB⟩ := hrel
   cases gk with
   | zero => exact absurd HA.out (by simp [rillmeterref05_Take.l0])
   | succ k1 =>
    have H := HA.out
    clear HA
    simp only [rillmeterref05_Take.l0] at H
    by_cases c16 : (wrap64 (x6_1 + 1)) < (a0.size : Int)
    ·rw [if_pos c16] at H
     have c16b0 : decide ((wrap64 (x6_1 + 1)) < (a0.size : Int)) = true := decide_eq_true c16
     clear c16
     by_cases c17 : 0 ≤ x6_1
     rotate_left
     ·rw [if_neg c17] at H; exact absurd H (by simp)
     rw [if_pos c17] at H
     have c17b0 : decide (0 ≤ x6_1) = true := decide_eq_true c17
     clear c17
     by_cases c18 : x6_1 < (a0.size : Int)
     rotate_left
     ·rw [if_neg c18] at H; exact absurd H (by simp)
     rw [if_pos c18] at H
     have c18b0 : decide (x6_1 < (a0.size : Int)) = true := decide_eq_true c18
     clear c18
     obtain ⟨ji20, hji20⟩ : ∃ j_ : Int, (wrap64 (x6_1 + 1)) = j_ := ⟨_, rfl⟩
     replace H : (if 0 ≤ (ji20) then ((rillmeterref05_tag.f (wrap64 ((wrap64 (256 * (wrap64 (bt a0 x6_1)))) + (wrap64 (bt a0 (ji20)))))).bind fun t103 => (if t103 = true then (if (x103002_1.length : Int) = 2 then (some ((⟨#[]⟩ : ByteArray), (⟨#[]⟩ : ByteArray), ([] : List (S95)), 0, (⟨#[]⟩ : ByteArray), 9)) else (if (wrap64 ((wrap64 (x6_1 + 2)) + 1)) ≥ (a0.size : Int) then (some ((⟨#[]⟩ : ByteArray), (⟨#[]⟩ : ByteArray), ([] : List (S95)), 0, (⟨#[]⟩ : ByteArray), 2)) else (if 0 ≤ (wrap64 (x6_1 + 2)) then (if (wrap64 (x6_1 + 2)) < (a0.size : Int) then (if 0 ≤ (wrap64 ((wrap64 (x6_1 + 2)) + 1)) then (if (wrap64 ((wrap64 (x6_1 + 2)) + 1)) < (a0.size : Int) then (if x103002_1.length < 8796093022208 then (rillmeterref05_Take.l0 k1 a0 (wrap64 ((wrap64 (x6_1 + 2)) + 2)) (a0.extract 0 6) (a0.extract 6 12) (x103002_1 ++ [(⟨wrap64 ((wrap64 (256 * (wrap64 (bt a0 x6_1)))) + (wrap64 (bt a0 (ji20)))), wrap64 ((wrap64 (256 * (wrap64 (bt a0 (wrap64 (x6_1 + 2)))))) + (wrap64 (bt a0 (wrap64 ((wrap64 (x6_1 + 2)) + 1)))))⟩ : S95)]) x103003_1) else (none)) else (none)) else (none)) else (none)) else (none)))) else (if 0 ≤ (wrap64 (x6_1 + 2)) then (if (wrap64 (x6_1 + 2)) ≤ (a0.size : Int) then (some ((a0.extract 0 6), (a0.extract 6 12), x103002_1, wrap64 ((wrap64 (256 * (wrap64 (bt a0 x6_1)))) + (wrap64 (bt a0 (ji20)))), a0.extract ((wrap64 (x6_1 + 2)) : Int).toNat a0.size, 0)) else (none)) else (none)))) else (none)) = some (r1, r2, r3, r4, r5, r6) := by first | (rw [hji20] at H; exact H) | (simp only [hji20] at H ⊢; exact H)
     (try rw [hji20] at c16b0)
     have hji20w : (IntKind.i64.wrap (x6_1 + 1)) = ji20 := (i64_w _).trans hji20
     by_cases c21 : 0 ≤ (ji20)
     rotate_left
     ·rw [if_neg c21] at H; exact absurd H (by simp)
     rw [if_pos c21] at H
     have c21b0 : decide (0 ≤ (ji20)) = true := decide_eq_true c21
     clear c21
     replace H := Option.bind_eq_some_iff.mp H
     obtain ⟨t103, A230, H⟩ := H
     replace H : (if t103 = true then (if (x103002_1.length : Int) = 2 then (some ((⟨#[]⟩ : ByteArray), (⟨#[]⟩ : ByteArray), ([] : List (S95)), 0, (⟨#[]⟩ : ByteArray), 9)) else (if (wrap64 ((wrap64 (x6_1 + 2)) + 1)) ≥ (a0.size : Int) then (some ((⟨#[]⟩ : ByteArray), (⟨#[]⟩ : ByteArray), ([] : List (S95)), 0, (⟨#[]⟩ : ByteArray), 2)) else (if 0 ≤ (wrap64 (x6_1 + 2)) then (if (wrap64 (x6_1 + 2)) < (a0.size : Int) then (if 0 ≤ (wrap64 ((wrap64 (x6_1 + 2)) + 1)) then (if (wrap64 ((wrap64 (x6_1 + 2)) + 1)) < (a0.size : Int) then (if x103002_1.length < 8796093022208 then (rillmeterref05_Take.l0 k1 a0 (wrap64 ((wrap64 (x6_1 + 2)) + 2)) (a0.extract 0 6) (a0.extract 6 12) (x103002_1 ++ [(⟨wrap64 ((wrap64 (256 * (wrap64 (bt a0 x6_1)))) + (wrap64 (bt a0 (ji20)))), wrap64 ((wrap64 (256 * (wrap64 (bt a0 (wrap64 (x6_1 + 2)))))) + (wrap64 (bt a0 (wrap64 ((wrap64 (x6_1 + 2)) + 1)))))⟩ : S95)]) x103003_1) else (none)) else (none)) else (none)) else (none)) else (none)))) else (if 0 ≤ (wrap64 (x6_1 + 2)) then (if (wrap64 (x6_1 + 2)) ≤ (a0.size : Int) then (some ((a0.extract 0 6), (a0.extract 6 12), x103002_1, wrap64 ((wrap64 (256 * (wrap64 (bt a0 x6_1)))) + (wrap64 (bt a0 (ji20)))), a0.extract ((wrap64 (x6_1 + 2)) : Int).toNat a0.size, 0)) else (none)) else (none))) = some (r1, r2, r3, r4, r5, r6) := H
     have A23 := Aside0.mk A230
     clear A230
     by_cases c24 : t103 = true
     ·subst c24
      have H1 : (if (x103002_1.length : Int) = 2 then (some ((⟨#[]⟩ : ByteArray), (⟨#[]⟩ : ByteArray), ([] : List (S95)), 0, (⟨#[]⟩ : ByteArray), 9)) else (if (wrap64 ((wrap64 (x6_1 + 2)) + 1)) ≥ (a0.size : Int) then (some ((⟨#[]⟩ : ByteArray), (⟨#[]⟩ : ByteArray), ([] : List (S95)), 0, (⟨#[]⟩ : ByteArray), 2)) else (if 0 ≤ (wrap64 (x6_1 + 2)) then (if (wrap64 (x6_1 + 2)) < (a0.size : Int) then (if 0 ≤ (wrap64 ((wrap64 (x6_1 + 2)) + 1)) then (if (wrap64 ((wrap64 (x6_1 + 2)) + 1)) < (a0.size : Int) then (if x103002_1.length < 8796093022208 then (rillmeterref05_Take.l0 k1 a0 (wrap64 ((wrap64 (x6_1 + 2)) + 2)) (a0.extract 0 6) (a0.extract 6 12) (x103002_1 ++ [(⟨wrap64 ((wrap64 (256 * (wrap64 (bt a0 x6_1)))) + (wrap64 (bt a0 (ji20)))), wrap64 ((wrap64 (256 * (wrap64 (bt a0 (wrap64 (x6_1 + 2)))))) + (wrap64 (bt a0 (wrap64 ((wrap64 (x6_1 + 2)) + 1)))))⟩ : S95)]) x103003_1) else (none)) else (none)) else (none)) else (none)) else (none)))) = some (r1, r2, r3, r4, r5, r6) := by rw [if_pos rfl] at H; exact H
      clear H
      have H := H1
      clear H1
      by_cases c25 : (x103002_1.length : Int) = 2
      ·rw [if_pos c25] at H
       have c25b0 : ((x103002_1.length : Int) == 2) = true := beq_iff_eq.mpr c25
       have c25b1 : ((x103002_1.length : Int) != 2) = false := bne_eq_false_iff_eq.mpr c25
       clear c25
       simp only [Option.some.injEq, Prod.mk.injEq] at H
       obtain ⟨rfl, rfl, rfl, rfl, rfl, rfl⟩ := H
       try go_wp2
       have n0_ := Aside0.mk (Kd.R_drew HO_103002.out)
       have n1_ := Aside0.mk (blk_drew BK101.out)
       have n2_ := Aside0.mk (blk_drew BK102.out)
       have n3_ := Aside0.mk (below_drew1 HB.out)
       clear HO_103002
       clear BK101
       clear BK102
       clear HB
       have HO_103002 := n0_
       have BK101 := n1_
       have BK102 := n2_
       have HB := n3_
       clear n0_ n1_ n2_ n3_
       have p19 : 0 ≤ (x6_1 : Int) := oD_
       have q19 : x6_1 < (a0.size : Int) := oD_
       have hx19 := bt_at a0 x6_1
       replace p19 := eq_true p19
       replace q19 := eq_true q19
       have p22 : 0 ≤ ((ji20) : Int) := oD_
       have q22 : (ji20) < (a0.size : Int) := oD_
       have hx22 := bt_at a0 (ji20)
       replace p22 := eq_true p22
       replace q22 := eq_true q22
       refine start_ (n := 12) (S := fun w' => True) (ds := []) #[false, false, false, false, false, false, false, false, false, false, false, false] (by kernel_rfl) rfl rfl trivial (fun hHeld => ?_); refine with_tabW rillmeterref05_Take.tab6 rillmeterref05_Take.bits6 (fun HT_ HW_ => ?_)
       generalize wr.drew = w26 at HO_103002 BK101 BK102 HB hHeld ⊢
       refine pure_ (i := 0) (N := some 22) (v := ?_) (a' := ?_) #[true, false, false, false, false, false, false, false, false, false, false, false] rfl rfl (any_of HT_.out (by kernel_rfl)) (fun _ _ _ h => h) (Or.inl ⟨by rfl, ?_⟩) ?_ ?_
       rotate_left
       ·intro w'; go_simp; with_reducible rfl
       rotate_left
       ·simp only [Act.put, s1_, s2_, s3_, i64_w, i32_w]; rfl
       refine pure_ (i := 1) (N := some 23) (v := ?_) (a' := ?_) #[true, true, false, false, false, false, false, false, false, false, false, false] rfl rfl (any_of HT_.out (by kernel_rfl)) (fun _ _ _ h => h) (Or.inl ⟨by rfl, ?_⟩) ?_ ?_
       rotate_left
       ·intro w'; go_simp; with_reducible rfl
       rotate_left
       ·simp only [Act.put, s1_, s2_, s3_, i64_w, i32_w]; rfl
       refine pure_ (i := 5) (N := some 27) (v := ?_) (a' := ?_) #[true, true, false, false, false, true, false, false, false, false, false, false] rfl rfl (any_of HT_.out (by kernel_rfl)) (fun _ _ _ h => h) (Or.inl ⟨by rfl, ?_⟩) ?_ ?_
       rotate_left
       ·intro w'; go_simp; with_reducible rfl
       rotate_left
       ·simp only [Act.put, s1_, s2_, s3_, i64_w, i32_w]; rfl
       refine pure_ (i := 6) (N := some 28) (v := ?_) (a' := ?_) #[true, true, false, false, false, true, true, false, false, false, false, false] rfl rfl (any_of HT_.out (by kernel_rfl)) (fun _ _ _ h => h) (Or.inl ⟨by rfl, ?_⟩) ?_ ?_
       rotate_left
       ·intro w'; go_simp; with_reducible rfl
       rotate_left
       ·simp only [Act.put, s1_, s2_, s3_, i64_w, i32_w]; rfl
       refine pure_ (i := 7) (N := some 29) (v := ?_) (a' := ?_) #[true, true, false, false, false, true, true, true, false, false, false, false] rfl rfl (any_of HT_.out (by kernel_rfl)) (fun _ _ _ h => h) (Or.inl ⟨by rfl, ?_⟩) ?_ ?_
       rotate_left
       ·intro w'; go_simp; with_reducible rfl
       rotate_left
       ·simp only [Act.put, s1_, s2_, s3_, i64_w, i32_w]; rfl
       refine take_ (i := 2) (N := some 24) (v := ?_) (a' := ?_) #[true, true, true, false, false, true, true, true, false, false, false, false] rfl rfl (take_ofW HT_.out HW_.out (by kernel_rfl)) (fun _ _ _ h => h) (Or.inl ⟨by rfl, ?_⟩) hHeld ?_ ?_
       rotate_left
       ·intro w' _
        go_simp
        with_reducible rfl
       rotate_left
       ·simp only [Act.put, s1_, s2_, s3_, i64_w, i32_w]; rfl
       refine pure_ (i := 3) (N := some 25) (v := ?_) (a' := ?_) #[true, true, true, true, false, true, true, true, false, false, false, false] rfl rfl (any_of HT_.out (by kernel_rfl)) (fun _ _ _ h => h) (Or.inl ⟨by rfl, ?_⟩) ?_ ?_
       rotate_left
       ·intro w'; go_simp; with_reducible rfl
       rotate_left
       ·simp only [Act.put, s1_, s2_, s3_, i64_w, i32_w]; rfl
       refine pure_ (i := 4) (N := some 26) (v := ?_) (a' := ?_) #[true, true, true, true, true, true, true, true, false, false, false, false] rfl rfl (any_of HT_.out (by kernel_rfl)) (fun _ _ _ h => h) (Or.inl ⟨by rfl, ?_⟩) ?_ ?_
       rotate_left
       ·intro w'; go_simp; with_reducible rfl
       rotate_left
       ·simp only [Act.put, s1_, s2_, s3_, i64_w, i32_w]; rfl
       refine take_ (i := 8) (N := some 30) (v := ?_) (a' := ?_) #[true, true, true, true, true, true, true, true, true, false, false, false] rfl rfl (take_ofW HT_.out HW_.out (by kernel_rfl)) (fun _ _ _ h => h) (Or.inl ⟨by rfl, ?_⟩) hHeld ?_ ?_
       rotate_left
       ·intro w' _
        go_simp
        with_reducible rfl
       rotate_left
       ·simp only [Act.put, s1_, s2_, s3_, i64_w, i32_w]; rfl
       refine pure_ (i := 9) (N := some 31) (v := ?_) (a' := ?_) #[true, true, true, true, true, true, true, true, true, true, false, false] rfl rfl (any_of HT_.out (by kernel_rfl)) (fun _ _ _ h => h) (Or.inl ⟨by rfl, ?_⟩) ?_ ?_
       rotate_left
       ·intro w'; go_simp; with_reducible rfl
       rotate_left
       ·simp only [Act.put, s1_, s2_, s3_, i64_w, i32_w]; rfl
       refine pure_ (i := 10) (N := some 32) (v := ?_) (a' := ?_) #[true, true, true, true, true, true, true, true, true, true, true, false] rfl rfl (any_of HT_.out (by kernel_rfl)) (fun _ _ _ h => h) (Or.inl ⟨by rfl, ?_⟩) ?_ ?_
       rotate_left
       ·intro w'; go_simp; with_reducible rfl
       rotate_left
       ·simp only [Act.put, s1_, s2_, s3_, i64_w, i32_w]; rfl
       refine pure_ (i := 11) (N := some 7) (v := ?_) (a' := ?_) #[true, true, true, true, true, true, true, true, true, true, true, true] rfl rfl (any_of HT_.out (by kernel_rfl)) (fun _ _ _ h => h) (Or.inl ⟨by rfl, ?_⟩) ?_ ?_
       rotate_left
       ·intro w'; go_simp; with_reducible rfl
       rotate_left
       ·simp only [Act.put, s1_, s2_, s3_, i64_w, i32_w]; rfl
       refine done_ (done_of HT_.out (by kernel_rfl)) ?_
       try go_wp2_with (first | ((with_reducible refine gate_callee (f := 44) rfl ?_); refine goesL_ (some 36) rfl rfl Try.func44 (by kernel_rfl) rfl #[.int .i64 (wrap64 ((wrap64 (256 * (wrap64 (bt a0 x6_1)))) + (wrap64 (bt a0 (ji20)))))] rfl (by (try simp only [List.map_toArray, List.map_cons, List.map_nil]); first | done | (simp only [hji20]; rfl) | rfl | (simp only [List.length_drop, List.length_take]; rfl) | (simp only [ByteArray.size_append, ByteArray.size_extract, Nat.sub_zero, Int.natCast_add]; rfl) | (simp [ByteArray.size_append]; done)) ?_; (with_reducible refine (rillmeterref05_tag.calls (wrap64 ((wrap64 (256 * (wrap64 (bt a0 x6_1)))) + (wrap64 (bt a0 (ji20))))) true _ A23.out).mono ?_); rintro e w' ⟨rfl, ⟨nd, rfl⟩⟩; refine ⟨_, rfl, ?_⟩; (try (rw [drewN_self w26]; generalize hq_ : World.drewN w26 _ = w26; have n0_ : Aside0 (Kd.R k95 95 w26 w.heap.size (fun _ => True) u103002 x103002_1) := ⟨by rw [← hq_]; exact (by (with_reducible repeat first | apply Kd.R_alloc | apply Kd.R_drewN | apply Kd.R_drew); exact HO_103002.out)⟩; have n1_ : Aside0 (w26.heap[gb101]? = some (.cells #[.string x102000_1, .string x102001_1, .slice none 0 0, .int .i64 x102003_1] 63 (0, 0))) := ⟨by rw [← hq_]; exact (by (with_reducible repeat first | apply pN_ | apply pD_ | apply pA_); exact BK101.out)⟩; have n2_ : Aside0 (w26.heap[gb102]? = some (.cells #[.string (a0.extract 0 6), .string (a0.extract 6 12), u103002, .int .i64 x103003_1] 63 (0, 0))) := ⟨by rw [← hq_]; exact (by (with_reducible repeat first | apply pN_ | apply pD_ | apply pA_); exact BK102.out)⟩; have n3_ : Aside0 (Below w.heap.size w w26) := ⟨by rw [← hq_]; exact (bU_ HB.out)⟩; clear HO_103002 BK101 BK102 HB hq_; have HO_103002 := n0_; have BK101 := n1_; have BK102 := n2_; have HB := n3_; clear n0_ n1_ n2_ n3_)); have hnb27 := NB102_101.out; have hnc27 := NB101_102.out; have hcz28_0 : w26.cell? ⟨gb102, 0, none⟩ = some (.string (a0.extract 0 6)) := (blk_cell BK102.out 0).trans rfl; have hcz28_1 : w26.cell? ⟨gb102, 1, none⟩ = some (.string (a0.extract 6 12)) := (blk_cell BK102.out 1).trans rfl; have hcz28_2 : w26.cell? ⟨gb102, 2, none⟩ = some (u103002) := (blk_cell BK102.out 2).trans rfl; have hcz28_3 : w26.cell? ⟨gb102, 3, none⟩ = some (.int .i64 x103003_1) := (blk_cell BK102.out 3).trans rfl; have hfz28_0 := blk_frozen BK102.out 0; have hfz28_1 := blk_frozen BK102.out 1; have hfz28_2 := blk_frozen BK102.out 2; have hfz28_3 := blk_frozen BK102.out 3; obtain ⟨Ao29, co29, eo29⟩ := Kd.R_slice HO_103002.out; subst eo29; have hcz30_0 : w26.cell? ⟨gb101, 0, none⟩ = some (.string x102000_1) := (blk_cell BK101.out 0).trans rfl; have hcz30_1 : w26.cell? ⟨gb101, 1, none⟩ = some (.string x102001_1) := (blk_cell BK101.out 1).trans rfl; have hcz30_2 : w26.cell? ⟨gb101, 2, none⟩ = some (.slice none 0 0) := (blk_cell BK101.out 2).trans rfl; have hcz30_3 : w26.cell? ⟨gb101, 3, none⟩ = some (.int .i64 x102003_1) := (blk_cell BK101.out 3).trans rfl; have hfz30_0 := blk_frozen BK101.out 0; have hfz30_1 := blk_frozen BK101.out 1; have hfz30_2 := blk_frozen BK101.out 2; have hfz30_3 := blk_frozen BK101.out 3))
       refine bodyPost_ret (results_ctt rfl _ _ gb101 63 #[.string ⟨#[]⟩, .string ⟨#[]⟩, .slice none 0 0, .int .i64 0] (0, 0) _ rfl (by (with_reducible repeat first | apply pN_ | apply pD_ | apply pA_); refine blk_put (cs := #[.string ⟨#[]⟩, .string ⟨#[]⟩, .slice none 0 0, .int .i64 x102003_1]) ?_ 3 _ rfl; (with_reducible repeat first | apply pN_ | apply pD_ | apply pA_); refine blk_put (cs := #[.string ⟨#[]⟩, .string ⟨#[]⟩, .slice none 0 0, .int .i64 x102003_1]) ?_ 2 _ rfl; (with_reducible repeat first | apply pN_ | apply pD_ | apply pA_); refine blk_put (cs := #[.string ⟨#[]⟩, .string x102001_1, .slice none 0 0, .int .i64 x102003_1]) ?_ 1 _ rfl; (with_reducible repeat first | apply pN_ | apply pD_ | apply pA_); refine blk_put (cs := #[.string x102000_1, .string x102001_1, .slice none 0 0, .int .i64 x102003_1]) ?_ 0 _ rfl; (with_reducible repeat first | apply pN_ | apply pD_ | apply pA_); exact BK101.out) Try.underlying63 rfl (by kernel_rfl)) rfl ?_
       exact ⟨_, by first | rfl | (simp [errW_none, errW_some] <;> rfl) | (simp only [← hji20]; first | rfl | (simp [errW_none, errW_some] <;> rfl)) | (simp [*, errW_none, errW_some] <;> rfl), by first | exact Kd.R_nil _ _ _ _ _ | exact Kd.N_nil _ _ _ _ _ | exact Kd.V_nil _ _ _ _ _ | exact Kd.Q_nil _ _ _ _ _ | exact Kd.S_nil _ _ _ _ _, bU_ HB.out⟩
      ·rw [if_neg c25] at H
       have c25b0 : ((x103002_1.length : Int) == 2) = false := beq_eq_false_iff_ne.mpr c25
       have c25b1 : ((x103002_1.length : Int) != 2) = true := bne_iff_ne.mpr c25
       by_cases c31 : (wrap64 ((wrap64 (x6_1 + 2)) + 1)) ≥ (a0.size : Int)
       ·rw [if_pos c31] at H
        have c31b0 : decide ((a0.size : Int) ≤ (wrap64 ((wrap64 (x6_1 + 2)) + 1))) = true := decide_eq_true c31
        clear c31
        simp only [Option.some.injEq, Prod.mk.injEq] at H
        obtain ⟨rfl, rfl, rfl, rfl, rfl, rfl⟩ := H
        try go_wp2
        have n0_ := Aside0.mk (Kd.R_drew HO_103002.out)
        have n1_ := Aside0.mk (blk_drew BK101.out)
        have n2_ := Aside0.mk (blk_drew BK102.out)
        have n3_ := Aside0.mk (below_drew1 HB.out)
        clear HO_103002
        clear BK101
        clear BK102
        clear HB
        have HO_103002 := n0_
        have BK101 := n1_
        have BK102 := n2_
        have HB := n3_
        clear n0_ n1_ n2_ n3_
        have p19 : 0 ≤ (x6_1 : Int) := oD_
        have q19 : x6_1 < (a0.size : Int) := oD_
        have hx19 := bt_at a0 x6_1
        replace p19 := eq_true p19
        replace q19 := eq_true q19
        have p22 : 0 ≤ ((ji20) : Int) := oD_
        have q22 : (ji20) < (a0.size : Int) := oD_
        have hx22 := bt_at a0 (ji20)
        replace p22 := eq_true p22
        replace q22 := eq_true q22
        refine start_ (n := 12) (S := fun w' => True) (ds := []) #[false, false, false, false, false, false, false, false, false, false, false, false] (by kernel_rfl) rfl rfl trivial (fun hHeld => ?_); refine with_tabW rillmeterref05_Take.tab6 rillmeterref05_Take.bits6 (fun HT_ HW_ => ?_)
        generalize wr.drew = w32 at HO_103002 BK101 BK102 HB hHeld ⊢
        refine pure_ (i := 0) (N := some 22) (v := ?_) (a' := ?_) #[true, false, false, false, false, false, false, false, false, false, false, false] rfl rfl (any_of HT_.out (by kernel_rfl)) (fun _ _ _ h => h) (Or.inl ⟨by rfl, ?_⟩) ?_ ?_
        rotate_left
        ·intro w'; go_simp; with_reducible rfl
        rotate_left
        ·simp only [Act.put, s1_, s2_, s3_, i64_w, i32_w]; rfl
        refine pure_ (i := 1) (N := some 23) (v := ?_) (a' := ?_) #[true, true, false, false, false, false, false, false, false, false, false, false] rfl rfl (any_of HT_.out (by kernel_rfl)) (fun _ _ _ h => h) (Or.inl ⟨by rfl, ?_⟩) ?_ ?_
        rotate_left
        ·intro w'; go_simp; with_reducible rfl
        rotate_left
        ·simp only [Act.put, s1_, s2_, s3_, i64_w, i32_w]; rfl
        refine pure_ (i := 5) (N := some 27) (v := ?_) (a' := ?_) #[true, true, false, false, false, true, false, false, false, false, false, false] rfl rfl (any_of HT_.out (by kernel_rfl)) (fun _ _ _ h => h) (Or.inl ⟨by rfl, ?_⟩) ?_ ?_
        rotate_left
        ·intro w'; go_simp; with_reducible rfl
        rotate_left
        ·simp only [Act.put, s1_, s2_, s3_, i64_w, i32_w]; rfl
        refine pure_ (i := 6) (N := some 28) (v := ?_) (a' := ?_) #[true, true, false, false, false, true, true, false, false, false, false, false] rfl rfl (any_of HT_.out (by kernel_rfl)) (fun _ _ _ h => h) (Or.inl ⟨by rfl, ?_⟩) ?_ ?_
        rotate_left
        ·intro w'; go_simp; with_reducible rfl
        rotate_left
        ·simp only [Act.put, s1_, s2_, s3_, i64_w, i32_w]; rfl
        refine pure_ (i := 7) (N := some 29) (v := ?_) (a' := ?_) #[true, true, false, false, false, true, true, true, false, false, false, false] rfl rfl (any_of HT_.out (by kernel_rfl)) (fun _ _ _ h => h) (Or.inl ⟨by rfl, ?_⟩) ?_ ?_
        rotate_left
        ·intro w'; go_simp; with_reducible rfl
        rotate_left
        ·simp only [Act.put, s1_, s2_, s3_, i64_w, i32_w]; rfl
        refine take_ (i := 2) (N := some 24) (v := ?_) (a' := ?_) #[true, true, true, false, false, true, true, true, false, false, false, false] rfl rfl (take_ofW HT_.out HW_.out (by kernel_rfl)) (fun _ _ _ h => h) (Or.inl ⟨by rfl, ?_⟩) hHeld ?_ ?_
        rotate_left
        ·intro w' _
         go_simp
         with_reducible rfl
        rotate_left
        ·simp only [Act.put, s1_, s2_, s3_, i64_w, i32_w]; rfl
        refine pure_ (i := 3) (N := some 25) (v := ?_) (a' := ?_) #[true, true, true, true, false, true, true, true, false, false, false, false] rfl rfl (any_of HT_.out (by kernel_rfl)) (fun _ _ _ h => h) (Or.inl ⟨by rfl, ?_⟩) ?_ ?_
        rotate_left
        ·intro w'; go_simp; with_reducible rfl
        rotate_left
        ·simp only [Act.put, s1_, s2_, s3_, i64_w, i32_w]; rfl
        refine pure_ (i := 4) (N := some 26) (v := ?_) (a' := ?_) #[true, true, true, true, true, true, true, true, false, false, false, false] rfl rfl (any_of HT_.out (by kernel_rfl)) (fun _ _ _ h => h) (Or.inl ⟨by rfl, ?_⟩) ?_ ?_
        rotate_left
        ·intro w'; go_simp; with_reducible rfl
        rotate_left
        ·simp only [Act.put, s1_, s2_, s3_, i64_w, i32_w]; rfl
        refine take_ (i := 8) (N := some 30) (v := ?_) (a' := ?_) #[true, true, true, true, true, true, true, true, true, false, false, false] rfl rfl (take_ofW HT_.out HW_.out (by kernel_rfl)) (fun _ _ _ h => h) (Or.inl ⟨by rfl, ?_⟩) hHeld ?_ ?_
        rotate_left
        ·intro w' _
         go_simp
         with_reducible rfl
        rotate_left
        ·simp only [Act.put, s1_, s2_, s3_, i64_w, i32_w]; rfl
        refine pure_ (i := 9) (N := some 31) (v := ?_) (a' := ?_) #[true, true, true, true, true, true, true, true, true, true, false, false] rfl rfl (any_of HT_.out (by kernel_rfl)) (fun _ _ _ h => h) (Or.inl ⟨by rfl, ?_⟩) ?_ ?_
        rotate_left
        ·intro w'; go_simp; with_reducible rfl
        rotate_left
        ·simp only [Act.put, s1_, s2_, s3_, i64_w, i32_w]; rfl
        refine pure_ (i := 10) (N := some 32) (v := ?_) (a' := ?_) #[true, true, true, true, true, true, true, true, true, true, true, false] rfl rfl (any_of HT_.out (by kernel_rfl)) (fun _ _ _ h => h) (Or.inl ⟨by rfl, ?_⟩) ?_ ?_
        rotate_left
        ·intro w'; go_simp; with_reducible rfl
        rotate_left
        ·simp only [Act.put, s1_, s2_, s3_, i64_w, i32_w]; rfl
        refine pure_ (i := 11) (N := some 7) (v := ?_) (a' := ?_) #[true, true, true, true, true, true, true, true, true, true, true, true] rfl rfl (any_of HT_.out (by kernel_rfl)) (fun _ _ _ h => h) (Or.inl ⟨by rfl, ?_⟩) ?_ ?_
        rotate_left
        ·intro w'; go_simp; with_reducible rfl
        rotate_left
        ·simp only [Act.put, s1_, s2_, s3_, i64_w, i32_w]; rfl
        refine done_ (done_of HT_.out (by kernel_rfl)) ?_
        try go_wp2_with (first | ((with_reducible refine gate_callee (f := 44) rfl ?_); refine goesL_ (some 36) rfl rfl Try.func44 (by kernel_rfl) rfl #[.int .i64 (wrap64 ((wrap64 (256 * (wrap64 (bt a0 x6_1)))) + (wrap64 (bt a0 (ji20)))))] rfl (by (try simp only [List.map_toArray, List.map_cons, List.map_nil]); first | done | (simp only [hji20]; rfl) | rfl | (simp only [List.length_drop, List.length_take]; rfl) | (simp only [ByteArray.size_append, ByteArray.size_extract, Nat.sub_zero, Int.natCast_add]; rfl) | (simp [ByteArray.size_append]; done)) ?_; (with_reducible refine (rillmeterref05_tag.calls (wrap64 ((wrap64 (256 * (wrap64 (bt a0 x6_1)))) + (wrap64 (bt a0 (ji20))))) true _ A23.out).mono ?_); rintro e w' ⟨rfl, ⟨nd, rfl⟩⟩; refine ⟨_, rfl, ?_⟩; (try (rw [drewN_self w32]; generalize hq_ : World.drewN w32 _ = w32; have n0_ : Aside0 (Kd.R k95 95 w32 w.heap.size (fun _ => True) u103002 x103002_1) := ⟨by rw [← hq_]; exact (by (with_reducible repeat first | apply Kd.R_alloc | apply Kd.R_drewN | apply Kd.R_drew); exact HO_103002.out)⟩; have n1_ : Aside0 (w32.heap[gb101]? = some (.cells #[.string x102000_1, .string x102001_1, .slice none 0 0, .int .i64 x102003_1] 63 (0, 0))) := ⟨by rw [← hq_]; exact (by (with_reducible repeat first | apply pN_ | apply pD_ | apply pA_); exact BK101.out)⟩; have n2_ : Aside0 (w32.heap[gb102]? = some (.cells #[.string (a0.extract 0 6), .string (a0.extract 6 12), u103002, .int .i64 x103003_1] 63 (0, 0))) := ⟨by rw [← hq_]; exact (by (with_reducible repeat first | apply pN_ | apply pD_ | apply pA_); exact BK102.out)⟩; have n3_ : Aside0 (Below w.heap.size w w32) := ⟨by rw [← hq_]; exact (bU_ HB.out)⟩; clear HO_103002 BK101 BK102 HB hq_; have HO_103002 := n0_; have BK101 := n1_; have BK102 := n2_; have HB := n3_; clear n0_ n1_ n2_ n3_)); have hnb33 := NB102_101.out; have hnc33 := NB101_102.out; have hcz34_0 : w32.cell? ⟨gb102, 0, none⟩ = some (.string (a0.extract 0 6)) := (blk_cell BK102.out 0).trans rfl; have hcz34_1 : w32.cell? ⟨gb102, 1, none⟩ = some (.string (a0.extract 6 12)) := (blk_cell BK102.out 1).trans rfl; have hcz34_2 : w32.cell? ⟨gb102, 2, none⟩ = some (u103002) := (blk_cell BK102.out 2).trans rfl; have hcz34_3 : w32.cell? ⟨gb102, 3, none⟩ = some (.int .i64 x103003_1) := (blk_cell BK102.out 3).trans rfl; have hfz34_0 := blk_frozen BK102.out 0; have hfz34_1 := blk_frozen BK102.out 1; have hfz34_2 := blk_frozen BK102.out 2; have hfz34_3 := blk_frozen BK102.out 3; obtain ⟨Ao35, co35, eo35⟩ := Kd.R_slice HO_103002.out; subst eo35; have hcz36_0 : w32.cell? ⟨gb101, 0, none⟩ = some (.string x102000_1) := (blk_cell BK101.out 0).trans rfl; have hcz36_1 : w32.cell? ⟨gb101, 1, none⟩ = some (.string x102001_1) := (blk_cell BK101.out 1).trans rfl; have hcz36_2 : w32.cell? ⟨gb101, 2, none⟩ = some (.slice none 0 0) := (blk_cell BK101.out 2).trans rfl; have hcz36_3 : w32.cell? ⟨gb101, 3, none⟩ = some (.int .i64 x102003_1) := (blk_cell BK101.out 3).trans rfl; have hfz36_0 := blk_frozen BK101.out 0; have hfz36_1 := blk_frozen BK101.out 1; have hfz36_2 := blk_frozen BK101.out 2; have hfz36_3 := blk_frozen BK101.out 3))
        refine bodyPost_ret (results_ctt rfl _ _ gb101 63 #[.string ⟨#[]⟩, .string ⟨#[]⟩, .slice none 0 0, .int .i64 0] (0, 0) _ rfl (by (with_reducible repeat first | apply pN_ | apply pD_ | apply pA_); refine blk_put (cs := #[.string ⟨#[]⟩, .string ⟨#[]⟩, .slice none 0 0, .int .i64 x102003_1]) ?_ 3 _ rfl; (with_reducible repeat first | apply pN_ | apply pD_ | apply pA_); refine blk_put (cs := #[.string ⟨#[]⟩, .string ⟨#[]⟩, .slice none 0 0, .int .i64 x102003_1]) ?_ 2 _ rfl; (with_reducible repeat first | apply pN_ | apply pD_ | apply pA_); refine blk_put (cs := #[.string ⟨#[]⟩, .string x102001_1, .slice none 0 0, .int .i64 x102003_1]) ?_ 1 _ rfl; (with_reducible repeat first | apply pN_ | apply pD_ | apply pA_); refine blk_put (cs := #[.string x102000_1, .string x102001_1, .slice none 0 0, .int .i64 x102003_1]) ?_ 0 _ rfl; (with_reducible repeat first | apply pN_ | apply pD_ | apply pA_); exact BK101.out) Try.underlying63 rfl (by kernel_rfl)) rfl ?_
        exact ⟨_, by first | rfl | (simp [errW_none, errW_some] <;> rfl) | (simp only [← hji20]; first | rfl | (simp [errW_none, errW_some] <;> rfl)) | (simp [*, errW_none, errW_some] <;> rfl), by first | exact Kd.R_nil _ _ _ _ _ | exact Kd.N_nil _ _ _ _ _ | exact Kd.V_nil _ _ _ _ _ | exact Kd.Q_nil _ _ _ _ _ | exact Kd.S_nil _ _ _ _ _, bU_ HB.out⟩
       ·rw [if_neg c31] at H
        have c31b0 : decide ((a0.size : Int) ≤ (wrap64 ((wrap64 (x6_1 + 2)) + 1))) = false := decide_eq_false c31
        clear c31
        obtain ⟨ji37, hji37⟩ : ∃ j_ : Int, (wrap64 (x6_1 + 2)) = j_ := ⟨_, rfl⟩
        replace H : (if 0 ≤ (ji37) then (if (ji37) < (a0.size : Int) then (if 0 ≤ (wrap64 ((ji37) + 1)) then (if (wrap64 ((ji37) + 1)) < (a0.size : Int) then (if x103002_1.length < 8796093022208 then (rillmeterref05_Take.l0 k1 a0 (wrap64 ((ji37) + 2)) (a0.extract 0 6) (a0.extract 6 12) (x103002_1 ++ [(⟨wrap64 ((wrap64 (256 * (wrap64 (bt a0 x6_1)))) + (wrap64 (bt a0 (ji20)))), wrap64 ((wrap64 (256 * (wrap64 (bt a0 (ji37))))) + (wrap64 (bt a0 (wrap64 ((ji37) + 1)))))⟩ : S95)]) x103003_1) else (none)) else (none)) else (none)) else (none)) else (none)) = some (r1, r2, r3, r4, r5, r6) := by first | (rw [hji37] at H; exact H) | (simp only [hji37] at H ⊢; exact H)
        (try rw [hji37] at c31b0)
        (try rw [hji37] at A23)
        have hji37w : (IntKind.i64.wrap (x6_1 + 2)) = ji37 := (i64_w _).trans hji37
        by_cases c38 : 0 ≤ (ji37)
        rotate_left
        ·rw [if_neg c38] at H; exact absurd H (by simp)
        rw [if_pos c38] at H
        have c38b0 : decide (0 ≤ (ji37)) = true := decide_eq_true c38
        clear c38
        by_cases c39 : (ji37) < (a0.size : Int)
        rotate_left
        ·rw [if_neg c39] at H; exact absurd H (by simp)
        rw [if_pos c39] at H
        have c39b0 : decide ((ji37) < (a0.size : Int)) = true := decide_eq_true c39
        clear c39
        obtain ⟨ji41, hji41⟩ : ∃ j_ : Int, (wrap64 ((ji37) + 1)) = j_ := ⟨_, rfl⟩
        replace H : (if 0 ≤ (ji41) then (if (ji41) < (a0.size : Int) then (if x103002_1.length < 8796093022208 then (rillmeterref05_Take.l0 k1 a0 (wrap64 ((ji37) + 2)) (a0.extract 0 6) (a0.extract 6 12) (x103002_1 ++ [(⟨wrap64 ((wrap64 (256 * (wrap64 (bt a0 x6_1)))) + (wrap64 (bt a0 (ji20)))), wrap64 ((wrap64 (256 * (wrap64 (bt a0 (ji37))))) + (wrap64 (bt a0 (ji41))))⟩ : S95)]) x103003_1) else (none)) else (none)) else (none)) = some (r1, r2, r3, r4, r5, r6) := by first | (rw [hji41] at H; exact H) | (simp only [hji41] at H ⊢; exact H)
        (try rw [hji41] at c31b0)
        (try rw [hji41] at A23)
        have hji41w : (IntKind.i64.wrap ((ji37) + 1)) = ji41 := (i64_w _).trans hji41
        by_cases c42 : 0 ≤ (ji41)
        rotate_left
        ·rw [if_neg c42] at H; exact absurd H (by simp)
        rw [if_pos c42] at H
        have c42b0 : decide (0 ≤ (ji41)) = true := decide_eq_true c42
        clear c42
        by_cases c43 : (ji41) < (a0.size : Int)
        rotate_left
        ·rw [if_neg c43] at H; exact absurd H (by simp)
        rw [if_pos c43] at H
        have c43b0 : decide ((ji41) < (a0.size : Int)) = true := decide_eq_true c43
        clear c43
        by_cases c45 : x103002_1.length < 8796093022208
        rotate_left
        ·rw [if_neg c45] at H; exact absurd H (by simp)
        rw [if_pos c45] at H
        have LMc45 := Aside0.mk c45
        clear c45
        obtain ⟨y104, hy104⟩ : ∃ y_ : List (S95), y_ = (x103002_1 ++ [(⟨wrap64 ((wrap64 (256 * (wrap64 (bt a0 x6_1)))) + (wrap64 (bt a0 (ji20)))), wrap64 ((wrap64 (256 * (wrap64 (bt a0 (ji37))))) + (wrap64 (bt a0 (ji41))))⟩ : S95)]) := ⟨_, rfl⟩
        replace H : (rillmeterref05_Take.l0 k1 a0 (wrap64 ((ji37) + 2)) (a0.extract 0 6) (a0.extract 6 12) y104 x103003_1) = some (r1, r2, r3, r4, r5, r6) := by first | (rw [hy104]; with_reducible exact H) | (have H2_ := (Option.bind_some _ _).symm.trans H; rw [hy104]; with_reducible exact H2_) | (have H2_ := (Option.bind_some _ _).symm.trans H; with_reducible exact H2_) | with_reducible exact H | (rw [hy104]; exact H) | exact H
        have Ny104 := Aside0.mk hy104
        clear hy104
        have H' := Aside0.mk H
        clear H
        try go_wp2
        have n0_ := Aside0.mk (Kd.R_drew HO_103002.out)
        have n1_ := Aside0.mk (blk_drew BK101.out)
        have n2_ := Aside0.mk (blk_drew BK102.out)
        have n3_ := Aside0.mk (below_drew1 HB.out)
        clear HO_103002
        clear BK101
        clear BK102
        clear HB
        have HO_103002 := n0_
        have BK101 := n1_
        have BK102 := n2_
        have HB := n3_
        clear n0_ n1_ n2_ n3_
        have p19 : 0 ≤ (x6_1 : Int) := oD_
        have q19 : x6_1 < (a0.size : Int) := oD_
        have hx19 := bt_at a0 x6_1
        replace p19 := eq_true p19
        replace q19 := eq_true q19
        have p22 : 0 ≤ ((ji20) : Int) := oD_
        have q22 : (ji20) < (a0.size : Int) := oD_
        have hx22 := bt_at a0 (ji20)
        replace p22 := eq_true p22
        replace q22 := eq_true q22
        refine start_ (n := 12) (S := fun w' => True) (ds := []) #[false, false, false, false, false, false, false, false, false, false, false, false] (by kernel_rfl) rfl rfl trivial (fun hHeld => ?_); refine with_tabW rillmeterref05_Take.tab6 rillmeterref05_Take.bits6 (fun HT_ HW_ => ?_)
        generalize wr.drew = w46 at HO_103002 BK101 BK102 HB hHeld ⊢
        refine pure_ (i := 0) (N := some 22) (v := ?_) (a' := ?_) #[true, false, false, false, false, false, false, false, false, false, false, false] rfl rfl (any_of HT_.out (by kernel_rfl)) (fun _ _ _ h => h) (Or.inl ⟨by rfl, ?_⟩) ?_ ?_
        rotate_left
        ·intro w'; go_simp; with_reducible rfl
        rotate_left
        ·simp only [Act.put, s1_, s2_, s3_, i64_w, i32_w]; rfl
        refine pure_ (i := 1) (N := some 23) (v := ?_) (a' := ?_) #[true, true, false, false, false, false, false, false, false, false, false, false] rfl rfl (any_of HT_.out (by kernel_rfl)) (fun _ _ _ h => h) (Or.inl ⟨by rfl, ?_⟩) ?_ ?_
        rotate_left
        ·intro w'; go_simp; with_reducible rfl
        rotate_left
        ·simp only [Act.put, s1_, s2_, s3_, i64_w, i32_w]; rfl
        refine pure_ (i := 5) (N := some 27) (v := ?_) (a' := ?_) #[true, true, false, false, false, true, false, false, false, false, false, false] rfl rfl (any_of HT_.out (by kernel_rfl)) (fun _ _ _ h => h) (Or.inl ⟨by rfl, ?_⟩) ?_ ?_
        rotate_left
        ·intro w'; go_simp; with_reducible rfl
        rotate_left
        ·simp only [Act.put, s1_, s2_, s3_, i64_w, i32_w]; rfl
        refine pure_ (i := 6) (N := some 28) (v := ?_) (a' := ?_) #[true, true, false, false, false, true, true, false, false, false, false, false] rfl rfl (any_of HT_.out (by kernel_rfl)) (fun _ _ _ h => h) (Or.inl ⟨by rfl, ?_⟩) ?_ ?_
        rotate_left
        ·intro w'; go_simp; with_reducible rfl
        rotate_left
        ·simp only [Act.put, s1_, s2_, s3_, i64_w, i32_w]; rfl
        refine pure_ (i := 7) (N := some 29) (v := ?_) (a' := ?_) #[true, true, false, false, false, true, true, true, false, false, false, false] rfl rfl (any_of HT_.out (by kernel_rfl)) (fun _ _ _ h => h) (Or.inl ⟨by rfl, ?_⟩) ?_ ?_
        rotate_left
        ·intro w'; go_simp; with_reducible rfl
        rotate_left
        ·simp only [Act.put, s1_, s2_, s3_, i64_w, i32_w]; rfl
        refine take_ (i := 2) (N := some 24) (v := ?_) (a' := ?_) #[true, true, true, false, false, true, true, true, false, false, false, false] rfl rfl (take_ofW HT_.out HW_.out (by kernel_rfl)) (fun _ _ _ h => h) (Or.inl ⟨by rfl, ?_⟩) hHeld ?_ ?_
        rotate_left
        ·intro w' _
         go_simp
         with_reducible rfl
        rotate_left
        ·simp only [Act.put, s1_, s2_, s3_, i64_w, i32_w]; rfl
        refine pure_ (i := 3) (N := some 25) (v := ?_) (a' := ?_) #[true, true, true, true, false, true, true, true, false, false, false, false] rfl rfl (any_of HT_.out (by kernel_rfl)) (fun _ _ _ h => h) (Or.inl ⟨by rfl, ?_⟩) ?_ ?_
        rotate_left
        ·intro w'; go_simp; with_reducible rfl
        rotate_left
        ·simp only [Act.put, s1_, s2_, s3_, i64_w, i32_w]; rfl
        refine pure_ (i := 4) (N := some 26) (v := ?_) (a' := ?_) #[true, true, true, true, true, true, true, true, false, false, false, false] rfl rfl (any_of HT_.out (by kernel_rfl)) (fun _ _ _ h => h) (Or.inl ⟨by rfl, ?_⟩) ?_ ?_
        rotate_left
        ·intro w'; go_simp; with_reducible rfl
        rotate_left
        ·simp only [Act.put, s1_, s2_, s3_, i64_w, i32_w]; rfl
        refine take_ (i := 8) (N := some 30) (v := ?_) (a' := ?_) #[true, true, true, true, true, true, true, true, true, false, false, false] rfl rfl (take_ofW HT_.out HW_.out (by kernel_rfl)) (fun _ _ _ h => h) (Or.inl ⟨by rfl, ?_⟩) hHeld ?_ ?_
        rotate_left
        ·intro w' _
         go_simp
         with_reducible rfl
        rotate_left
        ·simp only [Act.put, s1_, s2_, s3_, i64_w, i32_w]; rfl
        refine pure_ (i := 9) (N := some 31) (v := ?_) (a' := ?_) #[true, true, true, true, true, true, true, true, true, true, false, false] rfl rfl (any_of HT_.out (by kernel_rfl)) (fun _ _ _ h => h) (Or.inl ⟨by rfl, ?_⟩) ?_ ?_
        rotate_left
        ·intro w'; go_simp; with_reducible rfl
        rotate_left
        ·simp only [Act.put, s1_, s2_, s3_, i64_w, i32_w]; rfl
        refine pure_ (i := 10) (N := some 32) (v := ?_) (a' := ?_) #[true, true, true, true, true, true, true, true, true, true, true, false] rfl rfl (any_of HT_.out (by kernel_rfl)) (fun _ _ _ h => h) (Or.inl ⟨by rfl, ?_⟩) ?_ ?_
        rotate_left
        ·intro w'; go_simp; with_reducible rfl
        rotate_left
        ·simp only [Act.put, s1_, s2_, s3_, i64_w, i32_w]; rfl
        refine pure_ (i := 11) (N := some 7) (v := ?_) (a' := ?_) #[true, true, true, true, true, true, true, true, true, true, true, true] rfl rfl (any_of HT_.out (by kernel_rfl)) (fun _ _ _ h => h) (Or.inl ⟨by rfl, ?_⟩) ?_ ?_
        rotate_left
        ·intro w'; go_simp; with_reducible rfl
        rotate_left
        ·simp only [Act.put, s1_, s2_, s3_, i64_w, i32_w]; rfl
        refine done_ (done_of HT_.out (by kernel_rfl)) ?_
        try go_wp2_with (first | ((with_reducible refine gate_callee (f := 44) rfl ?_); refine goesL_ (some 36) rfl rfl Try.func44 (by kernel_rfl) rfl #[.int .i64 (wrap64 ((wrap64 (256 * (wrap64 (bt a0 x6_1)))) + (wrap64 (bt a0 (ji20)))))] rfl (by (try simp only [List.map_toArray, List.map_cons, List.map_nil]); first | done | (simp only [hji20]; rfl) | rfl | (simp only [List.length_drop, List.length_take]; rfl) | (simp only [ByteArray.size_append, ByteArray.size_extract, Nat.sub_zero, Int.natCast_add]; rfl) | (simp [ByteArray.size_append]; done)) ?_; (with_reducible refine (rillmeterref05_tag.calls (wrap64 ((wrap64 (256 * (wrap64 (bt a0 x6_1)))) + (wrap64 (bt a0 (ji20))))) true _ A23.out).mono ?_); rintro e w' ⟨rfl, ⟨nd, rfl⟩⟩; refine ⟨_, rfl, ?_⟩; (try (rw [drewN_self w46]; generalize hq_ : World.drewN w46 _ = w46; have n0_ : Aside0 (Kd.R k95 95 w46 w.heap.size (fun _ => True) u103002 x103002_1) := ⟨by rw [← hq_]; exact (by (with_reducible repeat first | apply Kd.R_alloc | apply Kd.R_drewN | apply Kd.R_drew); exact HO_103002.out)⟩; have n1_ : Aside0 (w46.heap[gb101]? = some (.cells #[.string x102000_1, .string x102001_1, .slice none 0 0, .int .i64 x102003_1] 63 (0, 0))) := ⟨by rw [← hq_]; exact (by (with_reducible repeat first | apply pN_ | apply pD_ | apply pA_); exact BK101.out)⟩; have n2_ : Aside0 (w46.heap[gb102]? = some (.cells #[.string (a0.extract 0 6), .string (a0.extract 6 12), u103002, .int .i64 x103003_1] 63 (0, 0))) := ⟨by rw [← hq_]; exact (by (with_reducible repeat first | apply pN_ | apply pD_ | apply pA_); exact BK102.out)⟩; have n3_ : Aside0 (Below w.heap.size w w46) := ⟨by rw [← hq_]; exact (bU_ HB.out)⟩; clear HO_103002 BK101 BK102 HB hq_; have HO_103002 := n0_; have BK101 := n1_; have BK102 := n2_; have HB := n3_; clear n0_ n1_ n2_ n3_)); have hnb47 := NB102_101.out; have hnc47 := NB101_102.out; have hcz48_0 : w46.cell? ⟨gb102, 0, none⟩ = some (.string (a0.extract 0 6)) := (blk_cell BK102.out 0).trans rfl; have hcz48_1 : w46.cell? ⟨gb102, 1, none⟩ = some (.string (a0.extract 6 12)) := (blk_cell BK102.out 1).trans rfl; have hcz48_2 : w46.cell? ⟨gb102, 2, none⟩ = some (u103002) := (blk_cell BK102.out 2).trans rfl; have hcz48_3 : w46.cell? ⟨gb102, 3, none⟩ = some (.int .i64 x103003_1) := (blk_cell BK102.out 3).trans rfl; have hfz48_0 := blk_frozen BK102.out 0; have hfz48_1 := blk_frozen BK102.out 1; have hfz48_2 := blk_frozen BK102.out 2; have hfz48_3 := blk_frozen BK102.out 3; obtain ⟨Ao49, co49, eo49⟩ := Kd.R_slice HO_103002.out; subst eo49))
        have n0_ := Aside0.mk (Kd.R_drew HO_103002.out)
        have n1_ := Aside0.mk (blk_drew BK101.out)
        have n2_ := Aside0.mk (blk_drew BK102.out)
        have n3_ := Aside0.mk (below_drew1 HB.out)
        clear HO_103002
        clear BK101
        clear BK102
        clear HB
        have HO_103002 := n0_
        have BK101 := n1_
        have BK102 := n2_
        have HB := n3_
        clear n0_ n1_ n2_ n3_
        have p40 : 0 ≤ ((ji37) : Int) := oD_
        have q40 : (ji37) < (a0.size : Int) := oD_
        have hx40 := bt_at a0 (ji37)
        replace p40 := eq_true p40
        replace q40 := eq_true q40
        have p44 : 0 ≤ ((ji41) : Int) := oD_
        have q44 : (ji41) < (a0.size : Int) := oD_
        have hx44 := bt_at a0 (ji41)
        replace p44 := eq_true p44
        replace q44 := eq_true q44
        refine start_ (n := 19) (S := fun w' => w'.cell? ⟨gb102, 0, none⟩ = some (.string (a0.extract 0 6)) ∧ w'.cell? ⟨gb102, 1, none⟩ = some (.string (a0.extract 6 12)) ∧ w'.cell? ⟨gb102, 2, none⟩ = some (.slice Ao49 x103002_1.length co49) ∧ w'.cell? ⟨gb102, 3, none⟩ = some (.int .i64 x103003_1)) (ds := [18]) #[false, false, false, false, false, false, false, false, false, false, false, false, false, false, false, false, false, false, false] (by kernel_rfl) rfl rfl ⟨(blk_cell BK102.out 0).trans rfl, (blk_cell BK102.out 1).trans rfl, (blk_cell BK102.out 2).trans rfl, (blk_cell BK102.out 3).trans rfl⟩ (fun hHeld => ?_); refine with_tabW rillmeterref05_Take.tab15 rillmeterref05_Take.bits15 (fun HT_ HW_ => ?_)
        generalize w46.drew = w50 at HO_103002 BK101 BK102 HB hHeld ⊢
        refine pure_ (i := 0) (N := some 55) (v := ?_) (a' := ?_) #[true, false, false, false, false, false, false, false, false, false, false, false, false, false, false, false, false, false, false] rfl rfl (any_of HT_.out (by kernel_rfl)) (fun _ _ _ h => h) (Or.inl ⟨by rfl, ?_⟩) ?_ ?_
        rotate_left
        ·intro w'; go_simp; with_reducible rfl
        rotate_left
        ·simp only [Act.put, s1_, s2_, s3_, i64_w, i32_w]; rfl
        refine pure_ (i := 2) (N := some 57) (v := ?_) (a' := ?_) #[true, false, true, false, false, false, false, false, false, false, false, false, false, false, false, false, false, false, false] rfl rfl (any_of HT_.out (by kernel_rfl)) (fun _ _ _ h => h) (Or.inl ⟨by rfl, ?_⟩) ?_ ?_
        rotate_left
        ·intro w'; go_simp; with_reducible rfl
        rotate_left
        ·simp only [Act.put, s1_, s2_, s3_, i64_w, i32_w]; rfl
        refine pure_ (i := 3) (N := some 58) (v := ?_) (a' := ?_) #[true, false, true, true, false, false, false, false, false, false, false, false, false, false, false, false, false, false, false] rfl rfl (any_of HT_.out (by kernel_rfl)) (fun _ _ _ h => h) (Or.inl ⟨by rfl, ?_⟩) ?_ ?_
        rotate_left
        ·intro w'; go_simp; with_reducible rfl
        rotate_left
        ·simp only [Act.put, s1_, s2_, s3_, i64_w, i32_w]; rfl
        refine pure_ (i := 4) (N := some 59) (v := ?_) (a' := ?_) #[true, false, true, true, true, false, false, false, false, false, false, false, false, false, false, false, false, false, false] rfl rfl (any_of HT_.out (by kernel_rfl)) (fun _ _ _ h => h) (Or.inl ⟨by rfl, ?_⟩) ?_ ?_
        rotate_left
        ·intro w'; go_simp; with_reducible rfl
        rotate_left
        ·simp only [Act.put, s1_, s2_, s3_, i64_w, i32_w]; rfl
        refine pure_ (i := 8) (N := some 63) (v := ?_) (a' := ?_) #[true, false, true, true, true, false, false, false, true, false, false, false, false, false, false, false, false, false, false] rfl rfl (any_of HT_.out (by kernel_rfl)) (fun _ _ _ h => h) (Or.inl ⟨by rfl, ?_⟩) ?_ ?_
        rotate_left
        ·intro w'; go_simp; with_reducible rfl
        rotate_left
        ·simp only [Act.put, s1_, s2_, s3_, i64_w, i32_w]; rfl
        refine pure_ (i := 9) (N := some 64) (v := ?_) (a' := ?_) #[true, false, true, true, true, false, false, false, true, true, false, false, false, false, false, false, false, false, false] rfl rfl (any_of HT_.out (by kernel_rfl)) (fun _ _ _ h => h) (Or.inl ⟨by rfl, ?_⟩) ?_ ?_
        rotate_left
        ·intro w'; go_simp; with_reducible rfl
        rotate_left
        ·simp only [Act.put, s1_, s2_, s3_, i64_w, i32_w]; rfl
        refine pure_ (i := 10) (N := some 65) (v := ?_) (a' := ?_) #[true, false, true, true, true, false, false, false, true, true, true, false, false, false, false, false, false, false, false] rfl rfl (any_of HT_.out (by kernel_rfl)) (fun _ _ _ h => h) (Or.inl ⟨by rfl, ?_⟩) ?_ ?_
        rotate_left
        ·intro w'; go_simp; with_reducible rfl
        rotate_left
        ·simp only [Act.put, s1_, s2_, s3_, i64_w, i32_w]; rfl
        refine take_ (i := 1) (N := some 56) (v := ?_) (a' := ?_) #[true, true, true, true, true, false, false, false, true, true, true, false, false, false, false, false, false, false, false] rfl rfl (take_ofW HT_.out HW_.out (by kernel_rfl)) (fun _ _ _ h => h) (Or.inl ⟨by rfl, ?_⟩) hHeld ?_ ?_
        rotate_left
        ·rintro w' ⟨s0, s1, s2, s3⟩
         go_simp
         with_reducible rfl
        rotate_left
        ·simp only [Act.put, s1_, s2_, s3_, i64_w, i32_w]; rfl
        refine take_ (i := 5) (N := some 60) (v := ?_) (a' := ?_) #[true, true, true, true, true, true, false, false, true, true, true, false, false, false, false, false, false, false, false] rfl rfl (take_ofW HT_.out HW_.out (by kernel_rfl)) (fun _ _ _ h => h) (Or.inl ⟨by rfl, ?_⟩) hHeld ?_ ?_
        rotate_left
        ·rintro w' ⟨s0, s1, s2, s3⟩
         go_simp
         with_reducible rfl
        rotate_left
        ·simp only [Act.put, s1_, s2_, s3_, i64_w, i32_w]; rfl
        refine pure_ (i := 6) (N := some 61) (v := ?_) (a' := ?_) #[true, true, true, true, true, true, true, false, true, true, true, false, false, false, false, false, false, false, false] rfl rfl (any_of HT_.out (by kernel_rfl)) (fun _ _ _ h => h) (Or.inl ⟨by rfl, ?_⟩) ?_ ?_
        rotate_left
        ·intro w'; go_simp; with_reducible rfl
        rotate_left
        ·simp only [Act.put, s1_, s2_, s3_, i64_w, i32_w]; rfl
        refine pure_ (i := 7) (N := some 62) (v := ?_) (a' := ?_) #[true, true, true, true, true, true, true, true, true, true, true, false, false, false, false, false, false, false, false] rfl rfl (any_of HT_.out (by kernel_rfl)) (fun _ _ _ h => h) (Or.inl ⟨by rfl, ?_⟩) ?_ ?_
        rotate_left
        ·intro w'; go_simp; with_reducible rfl
        rotate_left
        ·simp only [Act.put, s1_, s2_, s3_, i64_w, i32_w]; rfl
        refine take_ (i := 11) (N := some 66) (v := ?_) (a' := ?_) #[true, true, true, true, true, true, true, true, true, true, true, true, false, false, false, false, false, false, false] rfl rfl (take_ofW HT_.out HW_.out (by kernel_rfl)) (fun _ _ _ h => h) (Or.inl ⟨by rfl, ?_⟩) hHeld ?_ ?_
        rotate_left
        ·rintro w' ⟨s0, s1, s2, s3⟩
         go_simp
         with_reducible rfl
        rotate_left
        ·simp only [Act.put, s1_, s2_, s3_, i64_w, i32_w]; rfl
        refine pure_ (i := 12) (N := some 67) (v := ?_) (a' := ?_) #[true, true, true, true, true, true, true, true, true, true, true, true, true, false, false, false, false, false, false] rfl rfl (any_of HT_.out (by kernel_rfl)) (fun _ _ _ h => h) (Or.inl ⟨by rfl, ?_⟩) ?_ ?_
        rotate_left
        ·intro w'; go_simp; with_reducible rfl
        rotate_left
        ·simp only [Act.put, s1_, s2_, s3_, i64_w, i32_w]; rfl
        refine pure_ (i := 13) (N := some 68) (v := ?_) (a' := ?_) #[true, true, true, true, true, true, true, true, true, true, true, true, true, true, false, false, false, false, false] rfl rfl (any_of HT_.out (by kernel_rfl)) (fun _ _ _ h => h) (Or.inl ⟨by rfl, ?_⟩) ?_ ?_
        rotate_left
        ·intro w'; go_simp; with_reducible rfl
        rotate_left
        ·simp only [Act.put, s1_, s2_, s3_, i64_w, i32_w]; rfl
        refine pure_ (i := 14) (N := some 69) (v := ?_) (a' := ?_) #[true, true, true, true, true, true, true, true, true, true, true, true, true, true, true, false, false, false, false] rfl rfl (any_of HT_.out (by kernel_rfl)) (fun _ _ _ h => h) (Or.inl ⟨by rfl, ?_⟩) ?_ ?_
        rotate_left
        ·intro w'; go_simp; with_reducible rfl
        rotate_left
        ·simp only [Act.put, s1_, s2_, s3_, i64_w, i32_w]; rfl
        refine one_ (i := 15) (N := some 70) #[true, true, true, true, true, true, true, true, true, true, true, true, true, true, true, true, false, false, false] rfl rfl (one_of HT_.out (by kernel_rfl)) (by decide) (fun K hK => ?_)
        refine value_ (w1 := ?_) (v := ?_) (by rfl) rfl ?_ ?_
        rotate_left 2
        ·go_simp
         constructor
         ·rfl
         ·rfl
        refine hK.out _ _ ⟨(blk_cell (blk_alloc BK102.out _) 0).trans rfl, (blk_cell (blk_alloc BK102.out _) 1).trans rfl, (blk_cell (blk_alloc BK102.out _) 2).trans rfl, (blk_cell (blk_alloc BK102.out _) 3).trans rfl⟩ (fun hHeld => ?_)
        clear hK K
        refine norm_ (a' := ?_) ?_ ?_
        rotate_left
        ·show Act.put _ (some 70) _ = _
         simp only [Act.put, s1_, s2_, s3_, i64_w, i32_w]; rfl
        refine one_ (i := 16) (N := some 71) #[true, true, true, true, true, true, true, true, true, true, true, true, true, true, true, true, true, false, false] rfl rfl (one_of HT_.out (by kernel_rfl)) (by decide) (fun K hK => ?_)
        refine Kd.R_append_step k95 (w0 := w) w.heap.size (by rfl) (.tmp 56) (.tmp 70) 61 95 (.agg #[(.int .i64 0), (.int .i64 0)]) 16 rfl Try.underlying61 info95 rfl (by decide) (by omega) (.slice Ao49 x103002_1.length co49) x103002_1 (⟨wrap64 ((wrap64 (256 * (wrap64 (bt a0 x6_1)))) + (wrap64 (bt a0 (ji20)))), wrap64 ((wrap64 (256 * (wrap64 (bt a0 (ji37))))) + (wrap64 (bt a0 (ji41))))⟩ : S95) [.int .i64 (wrap64 ((wrap64 (256 * (wrap64 (bt a0 x6_1)))) + (wrap64 (bt a0 (ji20))))), .int .i64 (wrap64 ((wrap64 (256 * (wrap64 (bt a0 (ji37))))) + (wrap64 (bt a0 (ji41)))))] (fun _ => True) (fun _ => False) rfl rfl ?aP (fun _ hk => hk.elim) ?aF ?aO ?aB ?aS ?aL ?_
        (case aP => exact k95_mkM _ _ _ (⟨wrap64 ((wrap64 (256 * (wrap64 (bt a0 x6_1)))) + (wrap64 (bt a0 (ji20)))), wrap64 ((wrap64 (256 * (wrap64 (bt a0 (ji37))))) + (wrap64 (bt a0 (ji41))))⟩ : S95))
        (case aB => exact (bU_ HB.out))
        (case aF => exact (fun _ _ => trivial))
        (case aO => exact (by (with_reducible repeat first | apply Kd.R_alloc | apply Kd.R_drewN | apply Kd.R_drew); exact HO_103002.out))
        (case aS => exact (below_size (bU_ HB.out)))
        (case aL => have := LMc45.out; omega)
        intro v105 w51 ho hb hg hat
        rw [← Ny104.out] at ho
        have n0_ := Aside0.mk (blk_grown (g := gb101) (o := .cells #[.string x102000_1, .string x102001_1, .slice none 0 0, .int .i64 x102003_1] 63 (0, 0)) (by (with_reducible repeat first | apply pN_ | apply pD_ | apply pA_); exact BK101.out) hg (Kd.R_ne HO_103002.out BK101.out (by decide)))
        have n1_ := Aside0.mk (blk_grown (g := gb102) (o := .cells #[.string (a0.extract 0 6), .string (a0.extract 6 12), .slice Ao49 x103002_1.length co49, .int .i64 x103003_1] 63 (0, 0)) (by (with_reducible repeat first | apply pN_ | apply pD_ | apply pA_); exact BK102.out) hg (Kd.R_ne HO_103002.out BK102.out (by decide)))
        have n2_ := Aside0.mk (hb)
        have n3_ := Aside0.mk (ho)
        clear BK101
        clear BK102
        clear HB
        clear HO_103002
        have BK101 := n0_
        have BK102 := n1_
        have HB := n2_
        have HO106 := n3_
        clear n0_ n1_ n2_ n3_
        clear ho hb hg hat
        obtain ⟨Ao52, co52, eo52⟩ := Kd.R_slice HO106.out
        (first | subst eo52 | (injection eo52 with f1_ f2_ f3_; have f4_ := f1_.symm; have f5_ := f3_.symm; clear f1_ f2_ f3_; subst f4_; subst f5_))
        refine hK.out _ _ ⟨(blk_cell BK102.out 0).trans rfl, (blk_cell BK102.out 1).trans rfl, (blk_cell BK102.out 2).trans rfl, (blk_cell BK102.out 3).trans rfl⟩ (fun hHeld => ?_)
        clear hK K
        refine norm_ (a' := ?_) ?_ ?_
        rotate_left
        ·show Act.put _ (some 71) _ = _
         simp only [Act.put, s1_, s2_, s3_, i64_w, i32_w]; rfl
        refine pure_ (i := 17) (N := some 72) (v := ?_) (a' := ?_) #[true, true, true, true, true, true, true, true, true, true, true, true, true, true, true, true, true, true, false] rfl rfl (any_of HT_.out (by kernel_rfl)) (fun _ _ _ h => h) (Or.inl ⟨by rfl, ?_⟩) ?_ ?_
        rotate_left
        ·intro w'; go_simp; with_reducible rfl
        rotate_left
        ·simp only [Act.put, s1_, s2_, s3_, i64_w, i32_w]; rfl
        refine last_ (i := 18) (N := none) #[true, true, true, true, true, true, true, true, true, true, true, true, true, true, true, true, true, true, true] rfl rfl (one_of HT_.out (by kernel_rfl)) (by decide) (fun K hK => ?_)
        have hs53 : w51.cell? ⟨gb102, 2, none⟩ = some (.slice Ao49 x103002_1.length co49) := (blk_cell BK102.out 2).trans rfl
        have hfs53 := blk_frozen BK102.out 2
        have hns53_0 := NB101_102.out
        have hms53_0 := NB102_101.out
        refine skip_ (w1 := ?_) (by rfl) rfl ?_ ?_
        rotate_left
        ·go_simp
         rfl
        refine hK.out _ _ ?_
        clear hK K
        refine done_ (done_of HT_.out (by kernel_rfl)) ?_
        try go_wp2
        go_roundg k1
        case measure => have := HK1.out; omega
        case rel => exact ⟨(wrap64 ((ji37) + 2)), (x102000_1), (x102001_1), (x102003_1), (y104), (x103003_1), (.slice Ao52 y104.length co52), (by first | rfl | (simp; done) | (simp only [← hji37] <;> (first | rfl | simp)) | (simp [*]; done)), H', ⟨by have := HK1.out; omega⟩, ⟨by (with_reducible repeat first | apply Kd.R_alloc | apply Kd.R_drewN | apply Kd.R_drew); exact Kd.R_mono (Kd.R_far (p := ⟨gb102, 2, none⟩) (Kd.R_types HO106.out BK102.out (by decide)) (fun _ hk => hk.2) (.slice Ao52 y104.length co52)) (fun _ hk => trivial)⟩, ⟨by (with_reducible repeat first | apply pN_ | apply pD_ | apply pA_); refine blk_far ?_ NB101_102.out _; (with_reducible repeat first | apply pN_ | apply pD_ | apply pA_); exact BK101.out⟩, ⟨by (with_reducible repeat first | apply pN_ | apply pD_ | apply pA_); refine blk_put (cs := #[.string (a0.extract 0 6), .string (a0.extract 6 12), .slice Ao49 x103002_1.length co49, .int .i64 x103003_1]) ?_ 2 _ rfl; (with_reducible repeat first | apply pN_ | apply pD_ | apply pA_); exact BK102.out⟩, ⟨bU_ HB.out⟩⟩
     ·replace c24 := Bool.eq_false_iff.mpr c24
      subst c24
      have H1 : (if 0 ≤ (wrap64 (x6_1 + 2)) then (if (wrap64 (x6_1 + 2)) ≤ (a0.size : Int) then (some ((a0.extract 0 6), (a0.extract 6 12), x103002_1, wrap64 ((wrap64 (256 * (wrap64 (bt a0 x6_1)))) + (wrap64 (bt a0 (ji20)))), a0.extract ((wrap64 (x6_1 + 2)) : Int).toNat a0.size, 0)) else (none)) else (none)) = some (r1, r2, r3, r4, r5, r6) := by rw [if_neg (show ¬ (false = true) by decide)] at H; exact H
      clear H
      have H := H1
      clear H1
      obtain ⟨ji54, hji54⟩ : ∃ j_ : Int, (wrap64 (x6_1 + 2)) = j_ := ⟨_, rfl⟩
      replace H : (if 0 ≤ (ji54) then (if (ji54) ≤ (a0.size : Int) then (some ((a0.extract 0 6), (a0.extract 6 12), x103002_1, wrap64 ((wrap64 (256 * (wrap64 (bt a0 x6_1)))) + (wrap64 (bt a0 (ji20)))), a0.extract ((ji54) : Int).toNat a0.size, 0)) else (none)) else (none)) = some (r1, r2, r3, r4, r5, r6) := by first | (rw [hji54] at H; exact H) | (simp only [hji54] at H ⊢; exact H)
      (try rw [hji54] at A23)
      have hji54w : (IntKind.i64.wrap (x6_1 + 2)) = ji54 := (i64_w _).trans hji54
      by_cases c55 : 0 ≤ (ji54)
      rotate_left
      ·rw [if_neg c55] at H; exact absurd H (by simp)
      rw [if_pos c55] at H
      have c55b0 := eq_true c55
      have c55b1 : decide (0 ≤ (ji54)) = true := decide_eq_true c55
      clear c55
      by_cases c56 : (ji54) ≤ (a0.size : Int)
      rotate_left
      ·rw [if_neg c56] at H; exact absurd H (by simp)
      rw [if_pos c56] at H
      have c56b0 := eq_true c56
      have c56b1 : decide ((ji54) ≤ (a0.size : Int)) = true := decide_eq_true c56
      clear c56
      simp only [Option.some.injEq, Prod.mk.injEq] at H
      obtain ⟨rfl, rfl, rfl, rfl, rfl, rfl⟩ := H
      try go_wp2
      have n0_ := Aside0.mk (Kd.R_drew HO_103002.out)
      have n1_ := Aside0.mk (blk_drew BK101.out)
      have n2_ := Aside0.mk (blk_drew BK102.out)
      have n3_ := Aside0.mk (below_drew1 HB.out)
      clear HO_103002
      clear BK101
      clear BK102
      clear HB
      have HO_103002 := n0_
      have BK101 := n1_
      have BK102 := n2_
      have HB := n3_
      clear n0_ n1_ n2_ n3_
      have p19 : 0 ≤ (x6_1 : Int) := oD_
      have q19 : x6_1 < (a0.size : Int) := oD_
      have hx19 := bt_at a0 x6_1
      replace p19 := eq_true p19
      replace q19 := eq_true q19
      have p22 : 0 ≤ ((ji20) : Int) := oD_
      have q22 : (ji20) < (a0.size : Int) := oD_
      have hx22 := bt_at a0 (ji20)
      replace p22 := eq_true p22
      replace q22 := eq_true q22
      refine start_ (n := 12) (S := fun w' => True) (ds := []) #[false, false, false, false, false, false, false, false, false, false, false, false] (by kernel_rfl) rfl rfl trivial (fun hHeld => ?_); refine with_tabW rillmeterref05_Take.tab6 rillmeterref05_Take.bits6 (fun HT_ HW_ => ?_)
      generalize wr.drew = w57 at HO_103002 BK101 BK102 HB hHeld ⊢
      refine pure_ (i := 0) (N := some 22) (v := ?_) (a' := ?_) #[true, false, false, false, false, false, false, false, false, false, false, false] rfl rfl (any_of HT_.out (by kernel_rfl)) (fun _ _ _ h => h) (Or.inl ⟨by rfl, ?_⟩) ?_ ?_
      rotate_left
      ·intro w'; go_simp; with_reducible rfl
      rotate_left
      ·simp only [Act.put, s1_, s2_, s3_, i64_w, i32_w]; rfl
      refine pure_ (i := 1) (N := some 23) (v := ?_) (a' := ?_) #[true, true, false, false, false, false, false, false, false, false, false, false] rfl rfl (any_of HT_.out (by kernel_rfl)) (fun _ _ _ h => h) (Or.inl ⟨by rfl, ?_⟩) ?_ ?_
      rotate_left
      ·intro w'; go_simp; with_reducible rfl
      rotate_left
      ·simp only [Act.put, s1_, s2_, s3_, i64_w, i32_w]; rfl
      refine pure_ (i := 5) (N := some 27) (v := ?_) (a' := ?_) #[true, true, false, false, false, true, false, false, false, false, false, false] rfl rfl (any_of HT_.out (by kernel_rfl)) (fun _ _ _ h => h) (Or.inl ⟨by rfl, ?_⟩) ?_ ?_
      rotate_left
      ·intro w'; go_simp; with_reducible rfl
      rotate_left
      ·simp only [Act.put, s1_, s2_, s3_, i64_w, i32_w]; rfl
      refine pure_ (i := 6) (N := some 28) (v := ?_) (a' := ?_) #[true, true, false, false, false, true, true, false, false, false, false, false] rfl rfl (any_of HT_.out (by kernel_rfl)) (fun _ _ _ h => h) (Or.inl ⟨by rfl, ?_⟩) ?_ ?_
      rotate_left
      ·intro w'; go_simp; with_reducible rfl
      rotate_left
      ·simp only [Act.put, s1_, s2_, s3_, i64_w, i32_w]; rfl
      refine pure_ (i := 7) (N := some 29) (v := ?_) (a' := ?_) #[true, true, false, false, false, true, true, true, false, false, false, false] rfl rfl (any_of HT_.out (by kernel_rfl)) (fun _ _ _ h => h) (Or.inl ⟨by rfl, ?_⟩) ?_ ?_
      rotate_left
      ·intro w'; go_simp; with_reducible rfl
      rotate_left
      ·simp only [Act.put, s1_, s2_, s3_, i64_w, i32_w]; rfl
      refine take_ (i := 2) (N := some 24) (v := ?_) (a' := ?_) #[true, true, true, false, false, true, true, true, false, false, false, false] rfl rfl (take_ofW HT_.out HW_.out (by kernel_rfl)) (fun _ _ _ h => h) (Or.inl ⟨by rfl, ?_⟩) hHeld ?_ ?_
      rotate_left
      ·intro w' _
       go_simp
       with_reducible rfl
      rotate_left
      ·simp only [Act.put, s1_, s2_, s3_, i64_w, i32_w]; rfl
      refine pure_ (i := 3) (N := some 25) (v := ?_) (a' := ?_) #[true, true, true, true, false, true, true, true, false, false, false, false] rfl rfl (any_of HT_.out (by kernel_rfl)) (fun _ _ _ h => h) (Or.inl ⟨by rfl, ?_⟩) ?_ ?_
      rotate_left
      ·intro w'; go_simp; with_reducible rfl
      rotate_left
      ·simp only [Act.put, s1_, s2_, s3_, i64_w, i32_w]; rfl
      refine pure_ (i := 4) (N := some 26) (v := ?_) (a' := ?_) #[true, true, true, true, true, true, true, true, false, false, false, false] rfl rfl (any_of HT_.out (by kernel_rfl)) (fun _ _ _ h => h) (Or.inl ⟨by rfl, ?_⟩) ?_ ?_
      rotate_left
      ·intro w'; go_simp; with_reducible rfl
      rotate_left
      ·simp only [Act.put, s1_, s2_, s3_, i64_w, i32_w]; rfl
      refine take_ (i := 8) (N := some 30) (v := ?_) (a' := ?_) #[true, true, true, true, true, true, true, true, true, false, false, false] rfl rfl (take_ofW HT_.out HW_.out (by kernel_rfl)) (fun _ _ _ h => h) (Or.inl ⟨by rfl, ?_⟩) hHeld ?_ ?_
      rotate_left
      ·intro w' _
       go_simp
       with_reducible rfl
      rotate_left
      ·simp only [Act.put, s1_, s2_, s3_, i64_w, i32_w]; rfl
      refine pure_ (i := 9) (N := some 31) (v := ?_) (a' := ?_) #[true, true, true, true, true, true, true, true, true, true, false, false] rfl rfl (any_of HT_.out (by kernel_rfl)) (fun _ _ _ h => h) (Or.inl ⟨by rfl, ?_⟩) ?_ ?_
      rotate_left
      ·intro w'; go_simp; with_reducible rfl
      rotate_left
      ·simp only [Act.put, s1_, s2_, s3_, i64_w, i32_w]; rfl
      refine pure_ (i := 10) (N := some 32) (v := ?_) (a' := ?_) #[true, true, true, true, true, true, true, true, true, true, true, false] rfl rfl (any_of HT_.out (by kernel_rfl)) (fun _ _ _ h => h) (Or.inl ⟨by rfl, ?_⟩) ?_ ?_
      rotate_left
      ·intro w'; go_simp; with_reducible rfl
      rotate_left
      ·simp only [Act.put, s1_, s2_, s3_, i64_w, i32_w]; rfl
      refine pure_ (i := 11) (N := some 7) (v := ?_) (a' := ?_) #[true, true, true, true, true, true, true, true, true, true, true, true] rfl rfl (any_of HT_.out (by kernel_rfl)) (fun _ _ _ h => h) (Or.inl ⟨by rfl, ?_⟩) ?_ ?_
      rotate_left
      ·intro w'; go_simp; with_reducible rfl
      rotate_left
      ·simp only [Act.put, s1_, s2_, s3_, i64_w, i32_w]; rfl
      refine done_ (done_of HT_.out (by kernel_rfl)) ?_
      try go_wp2_with (first | ((with_reducible refine gate_callee (f := 44) rfl ?_); refine goesL_ (some 36) rfl rfl Try.func44 (by kernel_rfl) rfl #[.int .i64 (wrap64 ((wrap64 (256 * (wrap64 (bt a0 x6_1)))) + (wrap64 (bt a0 (ji20)))))] rfl (by (try simp only [List.map_toArray, List.map_cons, List.map_nil]); first | done | (simp only [hji20]; rfl) | rfl | (simp only [List.length_drop, List.length_take]; rfl) | (simp only [ByteArray.size_append, ByteArray.size_extract, Nat.sub_zero, Int.natCast_add]; rfl) | (simp [ByteArray.size_append]; done)) ?_; (with_reducible refine (rillmeterref05_tag.calls (wrap64 ((wrap64 (256 * (wrap64 (bt a0 x6_1)))) + (wrap64 (bt a0 (ji20))))) false _ A23.out).mono ?_); rintro e w' ⟨rfl, ⟨nd, rfl⟩⟩; refine ⟨_, rfl, ?_⟩; (try (rw [drewN_self w57]; generalize hq_ : World.drewN w57 _ = w57; have n0_ : Aside0 (Kd.R k95 95 w57 w.heap.size (fun _ => True) u103002 x103002_1) := ⟨by rw [← hq_]; exact (by (with_reducible repeat first | apply Kd.R_alloc | apply Kd.R_drewN | apply Kd.R_drew); exact HO_103002.out)⟩; have n1_ : Aside0 (w57.heap[gb101]? = some (.cells #[.string x102000_1, .string x102001_1, .slice none 0 0, .int .i64 x102003_1] 63 (0, 0))) := ⟨by rw [← hq_]; exact (by (with_reducible repeat first | apply pN_ | apply pD_ | apply pA_); exact BK101.out)⟩; have n2_ : Aside0 (w57.heap[gb102]? = some (.cells #[.string (a0.extract 0 6), .string (a0.extract 6 12), u103002, .int .i64 x103003_1] 63 (0, 0))) := ⟨by rw [← hq_]; exact (by (with_reducible repeat first | apply pN_ | apply pD_ | apply pA_); exact BK102.out)⟩; have n3_ : Aside0 (Below w.heap.size w w57) := ⟨by rw [← hq_]; exact (bU_ HB.out)⟩; clear HO_103002 BK101 BK102 HB hq_; have HO_103002 := n0_; have BK101 := n1_; have BK102 := n2_; have HB := n3_; clear n0_ n1_ n2_ n3_)); have hnb58 := NB102_101.out; have hnc58 := NB101_102.out; have hcz59_0 : w57.cell? ⟨gb102, 0, none⟩ = some (.string (a0.extract 0 6)) := (blk_cell BK102.out 0).trans rfl; have hcz59_1 : w57.cell? ⟨gb102, 1, none⟩ = some (.string (a0.extract 6 12)) := (blk_cell BK102.out 1).trans rfl; have hcz59_2 : w57.cell? ⟨gb102, 2, none⟩ = some (u103002) := (blk_cell BK102.out 2).trans rfl; have hcz59_3 : w57.cell? ⟨gb102, 3, none⟩ = some (.int .i64 x103003_1) := (blk_cell BK102.out 3).trans rfl; have hfz59_0 := blk_frozen BK102.out 0; have hfz59_1 := blk_frozen BK102.out 1; have hfz59_2 := blk_frozen BK102.out 2; have hfz59_3 := blk_frozen BK102.out 3))
      have n0_ : Aside0 (Kd.R k95 95 (w57.setCell ⟨gb102, 3, none⟩ (.int .i64 (wrap64 ((wrap64 (256 * (wrap64 (bt a0 x6_1)))) + (wrap64 (bt a0 (ji20))))))) w.heap.size (fun _ => True) u103002 x103002_1) := ⟨by (with_reducible repeat first | apply Kd.R_alloc | apply Kd.R_drewN | apply Kd.R_drew); exact Kd.R_mono (Kd.R_far (p := ⟨gb102, 3, none⟩) (Kd.R_types HO_103002.out BK102.out (by decide)) (fun _ hk => hk.2) (.int .i64 (wrap64 ((wrap64 (256 * (wrap64 (bt a0 x6_1)))) + (wrap64 (bt a0 (ji20))))))) (fun _ hk => trivial)⟩
      have n1_ : Aside0 ((w57.setCell ⟨gb102, 3, none⟩ (.int .i64 (wrap64 ((wrap64 (256 * (wrap64 (bt a0 x6_1)))) + (wrap64 (bt a0 (ji20))))))).heap[gb101]? = some (.cells #[.string x102000_1, .string x102001_1, .slice none 0 0, .int .i64 x102003_1] 63 (0, 0))) := ⟨by (with_reducible repeat first | apply pN_ | apply pD_ | apply pA_); refine blk_far ?_ NB101_102.out _; (with_reducible repeat first | apply pN_ | apply pD_ | apply pA_); exact BK101.out⟩
      have n2_ : Aside0 ((w57.setCell ⟨gb102, 3, none⟩ (.int .i64 (wrap64 ((wrap64 (256 * (wrap64 (bt a0 x6_1)))) + (wrap64 (bt a0 (ji20))))))).heap[gb102]? = some (.cells #[.string (a0.extract 0 6), .string (a0.extract 6 12), u103002, .int .i64 (wrap64 ((wrap64 (256 * (wrap64 (bt a0 x6_1)))) + (wrap64 (bt a0 (ji20)))))] 63 (0, 0))) := ⟨by (with_reducible repeat first | apply pN_ | apply pD_ | apply pA_); refine blk_put (cs := #[.string (a0.extract 0 6), .string (a0.extract 6 12), u103002, .int .i64 x103003_1]) ?_ 3 _ rfl; (with_reducible repeat first | apply pN_ | apply pD_ | apply pA_); exact BK102.out⟩
      have n3_ : Aside0 (Below w.heap.size w (w57.setCell ⟨gb102, 3, none⟩ (.int .i64 (wrap64 ((wrap64 (256 * (wrap64 (bt a0 x6_1)))) + (wrap64 (bt a0 (ji20)))))))) := ⟨bU_ HB.out⟩
      (try clear HO_103002)
      (try clear BK101)
      (try clear BK102)
      (try clear HB)
      generalize (w57.setCell ⟨gb102, 3, none⟩ (.int .i64 (wrap64 ((wrap64 (256 * (wrap64 (bt a0 x6_1)))) + (wrap64 (bt a0 (ji20))))))) = w60 at n0_ n1_ n2_ n3_ ⊢
      have HO_103002 := n0_
      have BK101 := n1_
      have BK102 := n2_
      have HB := n3_
      clear n0_ n1_ n2_ n3_
      have n0_ := Aside0.mk (Kd.R_drew HO_103002.out)
      have n1_ := Aside0.mk (blk_drew BK101.out)
      have n2_ := Aside0.mk (blk_drew BK102.out)
      have n3_ := Aside0.mk (below_drew1 HB.out)
      clear HO_103002
      clear BK101
      clear BK102
      clear HB
      have HO_103002 := n0_
      have BK101 := n1_
      have BK102 := n2_
      have HB := n3_
      clear n0_ n1_ n2_ n3_
      obtain ⟨Ao64, co64, eo64⟩ := Kd.R_slice HO_103002.out
      (first | subst eo64 | (injection eo64 with f1_ f2_ f3_; have f4_ := f1_.symm; have f5_ := f3_.symm; clear f1_ f2_ f3_; subst f4_; subst f5_))
      refine start_ (n := 7) (S := fun w' => w'.cell? ⟨gb102, 0, none⟩ = some (.string (a0.extract 0 6)) ∧ w'.cell? ⟨gb102, 1, none⟩ = some (.string (a0.extract 6 12)) ∧ w'.cell? ⟨gb102, 2, none⟩ = some (.slice Ao64 x103002_1.length co64) ∧ w'.cell? ⟨gb102, 3, none⟩ = some (.int .i64 (wrap64 ((wrap64 (256 * (wrap64 (bt a0 x6_1)))) + (wrap64 (bt a0 (ji20))))))) (ds := []) #[false, false, false, false, false, false, false] (by kernel_rfl) rfl rfl ⟨(blk_cell BK102.out 0).trans rfl, (blk_cell BK102.out 1).trans rfl, (blk_cell BK102.out 2).trans rfl, (blk_cell BK102.out 3).trans rfl⟩ (fun hHeld => ?_)
      generalize w60.drew = w61 at HO_103002 BK101 BK102 HB hHeld ⊢
      refine pure_ (i := 1) (N := some 41) (v := ?_) (a' := ?_) #[false, true, false, false, false, false, false] rfl rfl (by kernel_rfl) (fun _ _ _ h => h) (Or.inl ⟨by rfl, ?_⟩) ?_ ?_
      rotate_left
      ·intro w'; go_simp; with_reducible rfl
      rotate_left
      ·simp only [Act.put, s1_, s2_, s3_, i64_w, i32_w]; rfl
      refine pure_ (i := 2) (N := some 42) (v := ?_) (a' := ?_) #[false, true, true, false, false, false, false] rfl rfl (by kernel_rfl) (fun _ _ _ h => h) (Or.inl ⟨by rfl, ?_⟩) ?_ ?_
      rotate_left
      ·intro w'; go_simp; with_reducible rfl
      rotate_left
      ·simp only [Act.put, s1_, s2_, s3_, i64_w, i32_w]; rfl
      refine pure_ (i := 3) (N := some 43) (v := ?_) (a' := ?_) #[false, true, true, true, false, false, false] rfl rfl (by kernel_rfl) (fun _ _ _ h => h) (Or.inl ⟨by rfl, ?_⟩) ?_ ?_
      rotate_left
      ·intro w'; go_simp; with_reducible rfl
      rotate_left
      ·simp only [Act.put, s1_, s2_, s3_, i64_w, i32_w]; rfl
      refine take_ (i := 0) (N := some 40) (v := ?_) (a' := ?_) #[true, true, true, true, false, false, false] rfl rfl (by kernel_rfl) (fun _ _ _ h => h) (Or.inl ⟨by rfl, ?_⟩) hHeld ?_ ?_
      rotate_left
      ·rintro w' ⟨s0, s1, s2, s3⟩
       go_simp
       with_reducible rfl
      rotate_left
      ·simp only [Act.put, s1_, s2_, s3_, i64_w, i32_w]; rfl
      refine one_ (i := 4) (N := none) #[true, true, true, true, true, false, false] rfl rfl (by kernel_rfl) (by decide) (fun K hK => ?_)
      have hs62 : w61.cell? ⟨gb101, 0, none⟩ = some (.string x102000_1) := (blk_cell BK101.out 0).trans rfl
      have hfs62 := blk_frozen BK101.out 0
      have hns62_1 := NB102_101.out
      have hms62_1 := NB101_102.out
      have hs63 : w61.cell? ⟨gb101, 1, none⟩ = some (.string x102001_1) := (blk_cell BK101.out 1).trans rfl
      have hfs63 := blk_frozen BK101.out 1
      have hns63_1 := NB102_101.out
      have hms63_1 := NB101_102.out
      have hs65 : w61.cell? ⟨gb101, 2, none⟩ = some (.slice none 0 0) := (blk_cell BK101.out 2).trans rfl
      have hfs65 := blk_frozen BK101.out 2
      have hns65_1 := NB102_101.out
      have hms65_1 := NB101_102.out
      have hs66 : w61.cell? ⟨gb101, 3, none⟩ = some (.int .i64 x102003_1) := (blk_cell BK101.out 3).trans rfl
      have hfs66 := blk_frozen BK101.out 3
      have hns66_1 := NB102_101.out
      have hms66_1 := NB101_102.out
      refine skip_ (w1 := ?_) (by rfl) rfl ?_ ?_
      rotate_left
      ·go_simp
       rfl
      refine hK.out _ _ ⟨((cell_far (p := ⟨gb101, _, none⟩) NB102_101.out _).trans (((cell_far (p := ⟨gb101, _, none⟩) NB102_101.out _).trans (((cell_far (p := ⟨gb101, _, none⟩) NB102_101.out _).trans (((cell_far (p := ⟨gb101, _, none⟩) NB102_101.out _).trans (hHeld.1)))))))), ((cell_far (p := ⟨gb101, _, none⟩) NB102_101.out _).trans (((cell_far (p := ⟨gb101, _, none⟩) NB102_101.out _).trans (((cell_far (p := ⟨gb101, _, none⟩) NB102_101.out _).trans (((cell_far (p := ⟨gb101, _, none⟩) NB102_101.out _).trans (hHeld.2.1)))))))), ((cell_far (p := ⟨gb101, _, none⟩) NB102_101.out _).trans (((cell_far (p := ⟨gb101, _, none⟩) NB102_101.out _).trans (((cell_far (p := ⟨gb101, _, none⟩) NB102_101.out _).trans (((cell_far (p := ⟨gb101, _, none⟩) NB102_101.out _).trans (hHeld.2.2.1)))))))), ((cell_far (p := ⟨gb101, _, none⟩) NB102_101.out _).trans (((cell_far (p := ⟨gb101, _, none⟩) NB102_101.out _).trans (((cell_far (p := ⟨gb101, _, none⟩) NB102_101.out _).trans (((cell_far (p := ⟨gb101, _, none⟩) NB102_101.out _).trans (hHeld.2.2.2))))))))⟩ (fun hHeld => ?_)
      clear hK K
      refine pure_ (i := 5) (N := some 3) (v := ?_) (a' := ?_) #[true, true, true, true, true, true, false] rfl rfl (by kernel_rfl) (fun _ _ _ h => h) (Or.inl ⟨by rfl, ?_⟩) ?_ ?_
      rotate_left
      ·intro w'; go_simp; with_reducible rfl
      rotate_left
      ·simp only [Act.put, s1_, s2_, s3_, i64_w, i32_w]; rfl
      refine pure_ (i := 6) (N := some 4) (v := ?_) (a' := ?_) #[true, true, true, true, true, true, true] rfl rfl (by kernel_rfl) (fun _ _ _ h => h) (Or.inl ⟨by rfl, ?_⟩) ?_ ?_
      rotate_left
      ·intro w'; go_simp; with_reducible rfl
      rotate_left
      ·simp only [Act.put, s1_, s2_, s3_, i64_w, i32_w]; rfl
      refine done_ (by kernel_rfl) ?_
      try go_wp2
      refine bodyPost_ret (results_ctt rfl _ _ gb101 63 #[.string (a0.extract 0 6), .string (a0.extract 6 12), .slice Ao64 x103002_1.length co64, .int .i64 (wrap64 ((wrap64 (256 * (wrap64 (bt a0 x6_1)))) + (wrap64 (bt a0 (ji20)))))] (0, 0) _ rfl (by (with_reducible repeat first | apply pN_ | apply pD_ | apply pA_); refine blk_put (cs := #[.string (a0.extract 0 6), .string (a0.extract 6 12), .slice Ao64 x103002_1.length co64, .int .i64 x102003_1]) ?_ 3 _ rfl; (with_reducible repeat first | apply pN_ | apply pD_ | apply pA_); refine blk_put (cs := #[.string (a0.extract 0 6), .string (a0.extract 6 12), .slice none 0 0, .int .i64 x102003_1]) ?_ 2 _ rfl; (with_reducible repeat first | apply pN_ | apply pD_ | apply pA_); refine blk_put (cs := #[.string (a0.extract 0 6), .string x102001_1, .slice none 0 0, .int .i64 x102003_1]) ?_ 1 _ rfl; (with_reducible repeat first | apply pN_ | apply pD_ | apply pA_); refine blk_put (cs := #[.string x102000_1, .string x102001_1, .slice none 0 0, .int .i64 x102003_1]) ?_ 0 _ rfl; (with_reducible repeat first | apply pN_ | apply pD_ | apply pA_); exact BK101.out) Try.underlying63 rfl (by kernel_rfl)) rfl ?_
      exact ⟨_, by first | rfl | (simp [errW_none, errW_some] <;> rfl) | (simp only [← hji20, ← hji54]; first | rfl | (simp [errW_none, errW_some] <;> rfl)) | (simp [*, errW_none, errW_some] <;> rfl), by (with_reducible repeat first | apply Kd.R_alloc | apply Kd.R_drewN | apply Kd.R_drew); exact Kd.R_mono (Kd.R_far (p := ⟨gb101, 3, none⟩) (Kd.R_far (p := ⟨gb101, 2, none⟩) (Kd.R_far (p := ⟨gb101, 1, none⟩) (Kd.R_far (p := ⟨gb101, 0, none⟩) (Kd.R_types HO_103002.out BK101.out (by decide)) (fun _ hk => hk.2) (.string (a0.extract 0 6))) (fun _ hk => hk.2) (.string (a0.extract 6 12))) (fun _ hk => hk.2) (.slice Ao64 x103002_1.length co64)) (fun _ hk => hk.2) (.int .i64 (wrap64 ((wrap64 (256 * (wrap64 (bt a0 x6_1)))) + (wrap64 (bt a0 (ji20))))))) (fun _ hk => trivial), bU_ HB.out⟩
    ·rw [if_neg c16] at H
     have c16b0 : decide ((wrap64 (x6_1 + 1)) < (a0.size : Int)) = false := decide_eq_false c16
     clear c16
     simp only [Option.some.injEq, Prod.mk.injEq] at H
     obtain ⟨rfl, rfl, rfl, rfl, rfl, rfl⟩ := H
     have hnb67 := NB101_102.out
     have hnc67 := NB102_101.out
     have hcz68_0 : wr.cell? ⟨gb101, 0, none⟩ = some (.string x102000_1) := (blk_cell BK101.out 0).trans rfl
     have hcz68_1 : wr.cell? ⟨gb101, 1, none⟩ = some (.string x102001_1) := (blk_cell BK101.out 1).trans rfl
     have hcz68_2 : wr.cell? ⟨gb101, 2, none⟩ = some (.slice none 0 0) := (blk_cell BK101.out 2).trans rfl
     have hcz68_3 : wr.cell? ⟨gb101, 3, none⟩ = some (.int .i64 x102003_1) := (blk_cell BK101.out 3).trans rfl
     have hfz68_0 := blk_frozen BK101.out 0; have hfz68_1 := blk_frozen BK101.out 1; have hfz68_2 := blk_frozen BK101.out 2; have hfz68_3 := blk_frozen BK101.out 3
     go_wp2
     refine bodyPost_ret (results_ctt rfl _ _ gb101 63 #[.string ⟨#[]⟩, .string ⟨#[]⟩, .slice none 0 0, .int .i64 0] (0, 0) _ rfl (by (with_reducible repeat first | apply pN_ | apply pD_ | apply pA_); refine blk_put (cs := #[.string ⟨#[]⟩, .string ⟨#[]⟩, .slice none 0 0, .int .i64 x102003_1]) ?_ 3 _ rfl; (with_reducible repeat first | apply pN_ | apply pD_ | apply pA_); refine blk_put (cs := #[.string ⟨#[]⟩, .string ⟨#[]⟩, .slice none 0 0, .int .i64 x102003_1]) ?_ 2 _ rfl; (with_reducible repeat first | apply pN_ | apply pD_ | apply pA_); refine blk_put (cs := #[.string ⟨#[]⟩, .string x102001_1, .slice none 0 0, .int .i64 x102003_1]) ?_ 1 _ rfl; (with_reducible repeat first | apply pN_ | apply pD_ | apply pA_); refine blk_put (cs := #[.string x102000_1, .string x102001_1, .slice none 0 0, .int .i64 x102003_1]) ?_ 0 _ rfl; (with_reducible repeat first | apply pN_ | apply pD_ | apply pA_); exact BK101.out) Try.underlying63 rfl (by kernel_rfl)) rfl ?_
     exact ⟨_, by first | rfl | (simp [errW_none, errW_some] <;> rfl) | (simp [*, errW_none, errW_some] <;> rfl), by first | exact Kd.R_nil _ _ _ _ _ | exact Kd.N_nil _ _ _ _ _ | exact Kd.V_nil _ _ _ _ _ | exact Kd.Q_nil _ _ _ _ _ | exact Kd.S_nil _ _ _ _ _, bU_ HB.out⟩
end Go.Proofs.Ytfdhifigndmgaaa.Q
