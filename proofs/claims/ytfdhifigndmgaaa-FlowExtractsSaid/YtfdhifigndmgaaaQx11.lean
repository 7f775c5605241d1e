-- made by a program of this session (wip/print-patch.py, over the kit's print)
import Derived.Test.YtfdhifigndmgaaaQx0
namespace Go.Proofs.Ytfdhifigndmgaaa.Q
open Go.RowKit Go.Proofs.YtfdhifigndmgaaaW.PrintWords Go.Proofs.YtfdhifigndmgaaaW.PrintLast Go.Proofs.YtfdhifigndmgaaaW.PrintMore
attribute [local go_sem] max2_int min2_int max_two min_two max_three min_three max_four min_four   -- for this text's walks alone
set_option linter.unusedVariables false
set_option linter.unusedSimpArgs false

attribute [local go_sem] cell_twice_ cell_twiceN_
/-! ### ipsix_ext: function 54 -/
def ipsix_ext.f (a0 : Int) (a1 : ByteArray) : Option (Int × ByteArray × Int × ByteArray × Bool) := if (a1.size : Int) < 8 then (some (0, (⟨#[]⟩ : ByteArray), 0, (⟨#[]⟩ : ByteArray), false)) else (if a0 = 44 then (if 1 ≤ 8 then (if 8 ≤ (a1.size : Int) then (if 0 < (a1.size : Int) then (some (a0, a1.extract 1 8, wrap64 (bt a1 0), a1.extract 8 a1.size, true)) else (none)) else (none)) else (none)) else (if 1 < (a1.size : Int) then (if (wrap64 (8 + (wrap64 (8 * (wrap64 (bt a1 1)))))) > (a1.size : Int) then (some (0, (⟨#[]⟩ : ByteArray), 0, (⟨#[]⟩ : ByteArray), false)) else (if 2 ≤ (wrap64 (8 + (wrap64 (8 * (wrap64 (bt a1 1)))))) then (if (wrap64 (8 + (wrap64 (8 * (wrap64 (bt a1 1)))))) ≤ (a1.size : Int) then (if 0 < (a1.size : Int) then (if 0 ≤ (wrap64 (8 + (wrap64 (8 * (wrap64 (bt a1 1)))))) then (some (a0, a1.extract 2 ((wrap64 (8 + (wrap64 (8 * (wrap64 (bt a1 1)))))) : Int).toNat, wrap64 (bt a1 0), a1.extract ((wrap64 (8 + (wrap64 (8 * (wrap64 (bt a1 1)))))) : Int).toNat a1.size, true)) else (none)) else (none)) else (none)) else (none))) else (none)))
def ipsix_ext.T4 : Bool × List (List Nat × List Nat) := (true, [([], []), ([], []), ([1], [1]), ([0, 2], [0, 2]), ([], []), ([4], [4]), ([5], [5]), ([], []), ([7], [7]), ([3, 0, 1, 2, 3], [3]), ([6, 9, 0, 1, 2, 3, 4, 5, 6, 9], [6]), ([8, 10, 0, 1, 2, 3, 4, 5, 6, 7, 8, 9, 10], [8]), ([11, 0, 1, 2, 3, 4, 5, 6, 7, 8, 9, 10, 11], [])])
def ipsix_ext.B4 : List Nat := [0, 0, 2, 7, 0, 16, 48, 0, 128, 15, 639, 2047, 4095]
theorem ipsix_ext.tab4 : rtab .any (opsOf Try.f54 4) = ipsix_ext.T4 := by kernel_rfl
theorem ipsix_ext.bits4 : waitsOk ipsix_ext.T4.2 ipsix_ext.B4 = true := by kernel_rfl
def ipsix_ext.T8 : Bool × List (List Nat × List Nat) := (true, [([], []), ([], []), ([], []), ([1, 2], [1, 2]), ([0, 3], [0, 3]), ([], []), ([5], [5]), ([6], [6]), ([], []), ([], []), ([8, 9], [8, 9]), ([4, 0, 1, 2, 3, 4], [4]), ([7, 11, 0, 1, 2, 3, 4, 5, 6, 7, 11], [7]), ([10, 12, 0, 1, 2, 3, 4, 5, 6, 7, 8, 9, 10, 11, 12], [10]), ([13, 0, 1, 2, 3, 4, 5, 6, 7, 8, 9, 10, 11, 12, 13], [])])
def ipsix_ext.B8 : List Nat := [0, 0, 0, 6, 15, 0, 32, 96, 0, 0, 768, 31, 2303, 8191, 16383]
theorem ipsix_ext.tab8 : rtab .any (opsOf Try.f54 8) = ipsix_ext.T8 := by kernel_rfl
theorem ipsix_ext.bits8 : waitsOk ipsix_ext.T8.2 ipsix_ext.B8 = true := by kernel_rfl
set_option maxHeartbeats 8000000 in
set_option maxRecDepth 100000 in
theorem ipsix_ext.calls (a0 : Int) (a1 : ByteArray) (r1 : Int) (r2 : ByteArray) (r3 : Int) (r4 : ByteArray) (r5 : Bool) (w : World) (h : ipsix_ext.f a0 a1 = some (r1, r2, r3, r4, r5)) :
  Calls Try.prog 54 #[.int .i64 a0, .string a1] w fun e w' => e = .returned (.tuple #[.agg #[.int .i64 r1, .string r2], .int .i64 r3, .string r4, .bool r5]) ∧ Below w.heap.size w w' := by
 have hu102 := Try.underlying102
 have HB := Aside0.mk (Below.refl w.heap.size w)
 have H : (if (a1.size : Int) < 8 then (some (0, (⟨#[]⟩ : ByteArray), 0, (⟨#[]⟩ : ByteArray), false)) else (if a0 = 44 then (if 1 ≤ 8 then (if 8 ≤ (a1.size : Int) then (if 0 < (a1.size : Int) then (some (a0, a1.extract 1 8, wrap64 (bt a1 0), a1.extract 8 a1.size, true)) else (none)) else (none)) else (none)) else (if 1 < (a1.size : Int) then (if (wrap64 (8 + (wrap64 (8 * (wrap64 (bt a1 1)))))) > (a1.size : Int) then (some (0, (⟨#[]⟩ : ByteArray), 0, (⟨#[]⟩ : ByteArray), false)) else (if 2 ≤ (wrap64 (8 + (wrap64 (8 * (wrap64 (bt a1 1)))))) then (if (wrap64 (8 + (wrap64 (8 * (wrap64 (bt a1 1)))))) ≤ (a1.size : Int) then (if 0 < (a1.size : Int) then (if 0 ≤ (wrap64 (8 + (wrap64 (8 * (wrap64 (bt a1 1)))))) then (some (a0, a1.extract 2 ((wrap64 (8 + (wrap64 (8 * (wrap64 (bt a1 1)))))) : Int).toNat, wrap64 (bt a1 0), a1.extract ((wrap64 (8 + (wrap64 (8 * (wrap64 (bt a1 1)))))) : Int).toNat a1.size, true)) else (none)) else (none)) else (none)) else (none))) else (none)))) = some (r1, r2, r3, r4, r5) := h
 clear h
 by_cases c3 : (a1.size : Int) < 8
 ·rw [if_pos c3] at H
  have c3b0 : decide ((a1.size : Int) < 8) = true := decide_eq_true c3
  have c3b1 : decide (a1.size < 8) = true := decide_eq_true (by omega)
  clear c3
  simp only [Option.some.injEq, Prod.mk.injEq] at H
  obtain ⟨rfl, rfl, rfl, rfl, rfl⟩ := H
  go_enter Try.func54, Try.ntmps54
  go_wp2_with (first | ((with_reducible refine gate_dst (N := 4) rfl ?_); refine bE_ (N := 4) (cs := #[.int .i64 0, .string ⟨#[]⟩]) (t := 102) ?_; intro gb101 hg w4 hbox hb; have n0_ := Aside0.mk (below_step (bU_ HB.out) hb); have n1_ := Aside0.mk (hbox); have n2_ := Aside0.mk (bZ_ hg (bU_ HB.out) : w.heap.size ≤ gb101); have n3_ := n2_; clear HB; have HB := n0_; have BK101 := n1_; have GW101 := n2_; have GE101 := n3_; clear n0_ n1_ n2_ n3_; clear hb hbox hg; have hcz5_0 : w4.cell? ⟨gb101, 0, none⟩ = some (.int .i64 0) := (blk_cell BK101.out 0).trans rfl; have hcz5_1 : w4.cell? ⟨gb101, 1, none⟩ = some (.string ⟨#[]⟩) := (blk_cell BK101.out 1).trans rfl; have hfz5_0 := blk_frozen BK101.out 0; have hfz5_1 := blk_frozen BK101.out 1))
  refine bodyPost_ret (results_list (rs := [.cell 4 102, .tmp 5, .tmp 6, .tmp 7]) rfl (by simp) (.cell gb101 102 #[.int .i64 0, .string ⟨#[]⟩] (0, 0) _ rfl (by (with_reducible repeat first | apply pN_ | apply pD_ | apply pA_); refine blk_put (cs := #[.int .i64 0, .string ⟨#[]⟩]) ?_ 1 _ rfl; (with_reducible repeat first | apply pN_ | apply pD_ | apply pA_); refine blk_put (cs := #[.int .i64 0, .string ⟨#[]⟩]) ?_ 0 _ rfl; (with_reducible repeat first | apply pN_ | apply pD_ | apply pA_); exact BK101.out) Try.underlying102 rfl (by kernel_rfl) (.tmp (.tmp (.tmp .nil))))) rfl ?_
  exact rE_ (bU_ HB.out)
 ·rw [if_neg c3] at H
  have c3b0 : decide ((a1.size : Int) < 8) = false := decide_eq_false c3
  have c3b1 : decide (a1.size < 8) = false := decide_eq_false (by omega)
  clear c3
  by_cases c6 : a0 = 44
  ·rw [if_pos c6] at H
   have c6b0 : (a0 == 44) = true := beq_iff_eq.mpr c6
   have c6b1 : (a0 != 44) = false := bne_eq_false_iff_eq.mpr c6
   clear c6
   by_cases c7 : 1 ≤ 8
   rotate_left
   ·rw [if_neg c7] at H; exact absurd H (by simp)
   rw [if_pos c7] at H
   have c7b0 := eq_true c7
   have c7b1 : decide (1 ≤ 8) = true := decide_eq_true c7
   clear c7
   by_cases c8 : 8 ≤ (a1.size : Int)
   rotate_left
   ·rw [if_neg c8] at H; exact absurd H (by simp)
   rw [if_pos c8] at H
   have c8b0 := eq_true c8
   have c8b1 : decide (8 ≤ (a1.size : Int)) = true := decide_eq_true c8
   clear c8
   by_cases c9 : 0 < (a1.size : Int)
   rotate_left
   ·rw [if_neg c9] at H; exact absurd H (by simp)
   rw [if_pos c9] at H
   have c9b0 : decide (0 < (a1.size : Int)) = true := decide_eq_true c9
   have c9b1 : decide (0 < a1.size) = true := decide_eq_true (by omega)
   clear c9
   have c11b0 := eq_true (oD_ : 8 ≤ (a1.size : Int))
   simp only [Option.some.injEq, Prod.mk.injEq] at H
   obtain ⟨rfl, rfl, rfl, rfl, rfl⟩ := H
   go_enter Try.func54, Try.ntmps54
   try go_wp2_with (first | ((with_reducible refine gate_dst (N := 4) rfl ?_); refine bE_ (N := 4) (cs := #[.int .i64 0, .string ⟨#[]⟩]) (t := 102) ?_; intro gb101 hg w12 hbox hb; have n0_ := Aside0.mk (below_step (bU_ HB.out) hb); have n1_ := Aside0.mk (hbox); have n2_ := Aside0.mk (bZ_ hg (bU_ HB.out) : w.heap.size ≤ gb101); have n3_ := n2_; clear HB; have HB := n0_; have BK101 := n1_; have GW101 := n2_; have GE101 := n3_; clear n0_ n1_ n2_ n3_; clear hb hbox hg))
   have n0_ := Aside0.mk (blk_drew BK101.out)
   have n1_ := Aside0.mk (below_drew1 HB.out)
   clear BK101
   clear HB
   have BK101 := n0_
   have HB := n1_
   clear n0_ n1_
   have p10 : 0 ≤ (0 : Int) := (by omega)
   have q10 : 0 < a1.size := (by have : (0 : Int) < (a1.size : Int) := oD_; omega)
   have hx10 : ∀ h : 0 < a1.size, ((a1[0]'h).toNat : Int) = bt a1 0 := bt_at a1 0
   clear p10
   have qi10 : (0 < (a1.size : Int)) = True := eq_true oD_
   replace q10 := eq_true q10
   refine start_ (n := 13) (S := fun w' => True) (ds := []) #[false, false, false, false, false, false, false, false, false, false, false, false, false] (by kernel_rfl) rfl rfl trivial (fun hHeld => ?_); refine with_tabW ipsix_ext.tab4 ipsix_ext.bits4 (fun HT_ HW_ => ?_)
   generalize w12.drew = w13 at BK101 HB hHeld ⊢
   refine pure_ (i := 0) (N := some 15) (v := ?_) (a' := ?_) #[true, false, false, false, false, false, false, false, false, false, false, false, false] rfl rfl (any_of HT_.out (by kernel_rfl)) (fun _ _ _ h => h) (Or.inl ⟨by rfl, ?_⟩) ?_ ?_
   rotate_left
   ·intro w'; go_simp; with_reducible rfl
   rotate_left
   ·simp only [Act.put, s1_, s2_, s3_, i64_w, i32_w]; rfl
   refine pure_ (i := 1) (N := some 16) (v := ?_) (a' := ?_) #[true, true, false, false, false, false, false, false, false, false, false, false, false] rfl rfl (any_of HT_.out (by kernel_rfl)) (fun _ _ _ h => h) (Or.inl ⟨by rfl, ?_⟩) ?_ ?_
   rotate_left
   ·intro w'; go_simp; with_reducible rfl
   rotate_left
   ·simp only [Act.put, s1_, s2_, s3_, i64_w, i32_w]; rfl
   refine pure_ (i := 2) (N := some 17) (v := ?_) (a' := ?_) #[true, true, true, false, false, false, false, false, false, false, false, false, false] rfl rfl (any_of HT_.out (by kernel_rfl)) (fun _ _ _ h => h) (Or.inl ⟨by rfl, ?_⟩) ?_ ?_
   rotate_left
   ·intro w'; go_simp; with_reducible rfl
   rotate_left
   ·simp only [Act.put, s1_, s2_, s3_, i64_w, i32_w]; rfl
   refine pure_ (i := 3) (N := some 18) (v := ?_) (a' := ?_) #[true, true, true, true, false, false, false, false, false, false, false, false, false] rfl rfl (any_of HT_.out (by kernel_rfl)) (fun _ _ _ h => h) (Or.inl ⟨by rfl, ?_⟩) ?_ ?_
   rotate_left
   ·intro w'; go_simp; with_reducible rfl
   rotate_left
   ·simp only [Act.put, s1_, s2_, s3_, i64_w, i32_w]; rfl
   refine pure_ (i := 4) (N := some 19) (v := ?_) (a' := ?_) #[true, true, true, true, true, false, false, false, false, false, false, false, false] rfl rfl (any_of HT_.out (by kernel_rfl)) (fun _ _ _ h => h) (Or.inl ⟨by rfl, ?_⟩) ?_ ?_
   rotate_left
   ·intro w'; go_simp; with_reducible rfl
   rotate_left
   ·simp only [Act.put, s1_, s2_, s3_, i64_w, i32_w]; rfl
   refine pure_ (i := 7) (N := some 22) (v := ?_) (a' := ?_) #[true, true, true, true, true, false, false, true, false, false, false, false, false] rfl rfl (any_of HT_.out (by kernel_rfl)) (fun _ _ _ h => h) (Or.inl ⟨by rfl, ?_⟩) ?_ ?_
   rotate_left
   ·intro w'; go_simp; with_reducible rfl
   rotate_left
   ·simp only [Act.put, s1_, s2_, s3_, i64_w, i32_w]; rfl
   refine pure_ (i := 8) (N := some 23) (v := ?_) (a' := ?_) #[true, true, true, true, true, false, false, true, true, false, false, false, false] rfl rfl (any_of HT_.out (by kernel_rfl)) (fun _ _ _ h => h) (Or.inl ⟨by rfl, ?_⟩) ?_ ?_
   rotate_left
   ·intro w'; go_simp; with_reducible rfl
   rotate_left
   ·simp only [Act.put, s1_, s2_, s3_, i64_w, i32_w]; rfl
   refine take_ (i := 5) (N := some 20) (v := ?_) (a' := ?_) #[true, true, true, true, true, true, false, true, true, false, false, false, false] rfl rfl (take_ofW HT_.out HW_.out (by kernel_rfl)) (fun _ _ _ h => h) (Or.inl ⟨by rfl, ?_⟩) hHeld ?_ ?_
   rotate_left
   ·intro w' _
    go_simp
    with_reducible rfl
   rotate_left
   ·simp only [Act.put, s1_, s2_, s3_, i64_w, i32_w]; rfl
   refine pure_ (i := 6) (N := some 21) (v := ?_) (a' := ?_) #[true, true, true, true, true, true, true, true, true, false, false, false, false] rfl rfl (any_of HT_.out (by kernel_rfl)) (fun _ _ _ h => h) (Or.inl ⟨by rfl, ?_⟩) ?_ ?_
   rotate_left
   ·intro w'; go_simp; with_reducible rfl
   rotate_left
   ·simp only [Act.put, s1_, s2_, s3_, i64_w, i32_w]; rfl
   refine one_ (i := 9) (N := none) #[true, true, true, true, true, true, true, true, true, true, false, false, false] rfl rfl (one_of HT_.out (by kernel_rfl)) (by decide) (fun K hK => ?_)
   have hs14 : w13.cell? ⟨gb101, 0, none⟩ = some (.int .i64 0) := (blk_cell BK101.out 0).trans rfl
   have hfs14 := blk_frozen BK101.out 0
   have hs15 : w13.cell? ⟨gb101, 1, none⟩ = some (.string ⟨#[]⟩) := (blk_cell BK101.out 1).trans rfl
   have hfs15 := blk_frozen BK101.out 1
   refine skip_ (w1 := ?_) (by rfl) rfl ?_ ?_
   rotate_left
   ·go_simp
    rfl
   refine hK.out _ _ trivial (fun hHeld => ?_)
   clear hK K
   refine pure_ (i := 10) (N := some 5) (v := ?_) (a' := ?_) #[true, true, true, true, true, true, true, true, true, true, true, false, false] rfl rfl (any_of HT_.out (by kernel_rfl)) (fun _ _ _ h => h) (Or.inl ⟨by rfl, ?_⟩) ?_ ?_
   rotate_left
   ·intro w'; go_simp; with_reducible rfl
   rotate_left
   ·simp only [Act.put, s1_, s2_, s3_, i64_w, i32_w]; rfl
   refine pure_ (i := 11) (N := some 6) (v := ?_) (a' := ?_) #[true, true, true, true, true, true, true, true, true, true, true, true, false] rfl rfl (any_of HT_.out (by kernel_rfl)) (fun _ _ _ h => h) (Or.inl ⟨by rfl, ?_⟩) ?_ ?_
   rotate_left
   ·intro w'; go_simp; with_reducible rfl
   rotate_left
   ·simp only [Act.put, s1_, s2_, s3_, i64_w, i32_w]; rfl
   refine pure_ (i := 12) (N := some 7) (v := ?_) (a' := ?_) #[true, true, true, true, true, true, true, true, true, true, true, true, true] rfl rfl (any_of HT_.out (by kernel_rfl)) (fun _ _ _ h => h) (Or.inl ⟨by rfl, ?_⟩) ?_ ?_
   rotate_left
   ·intro w'; go_simp; with_reducible rfl
   rotate_left
   ·simp only [Act.put, s1_, s2_, s3_, i64_w, i32_w]; rfl
   refine done_ (done_of HT_.out (by kernel_rfl)) ?_
   try go_wp2
   refine bodyPost_ret (results_list (rs := [.cell 4 102, .tmp 5, .tmp 6, .tmp 7]) rfl (by simp) (.cell gb101 102 #[.int .i64 a0, .string (a1.extract 1 8)] (0, 0) _ rfl (by (with_reducible repeat first | apply pN_ | apply pD_ | apply pA_); refine blk_put (cs := #[.int .i64 a0, .string ⟨#[]⟩]) ?_ 1 _ rfl; (with_reducible repeat first | apply pN_ | apply pD_ | apply pA_); refine blk_put (cs := #[.int .i64 0, .string ⟨#[]⟩]) ?_ 0 _ rfl; (with_reducible repeat first | apply pN_ | apply pD_ | apply pA_); exact BK101.out) Try.underlying102 rfl (by kernel_rfl) (.tmp (.tmp (.tmp .nil))))) rfl ?_
   exact rE_ (bU_ HB.out)
  ·rw [if_neg c6] at H
   have c6b0 : (a0 == 44) = false := beq_eq_false_iff_ne.mpr c6
   have c6b1 : (a0 != 44) = true := bne_iff_ne.mpr c6
   by_cases c16 : 1 < (a1.size : Int)
   rotate_left
   ·rw [if_neg c16] at H; exact absurd H (by simp)
   rw [if_pos c16] at H
   have c16b0 : decide (1 < (a1.size : Int)) = true := decide_eq_true c16
   have c16b1 : decide (1 < a1.size) = true := decide_eq_true (by omega)
   clear c16
   by_cases c18 : (wrap64 (8 + (wrap64 (8 * (wrap64 (bt a1 1)))))) > (a1.size : Int)
   ·rw [if_pos c18] at H
    have c18b0 : decide ((a1.size : Int) < (wrap64 (8 + (wrap64 (8 * (wrap64 (bt a1 1))))))) = true := decide_eq_true c18
    clear c18
    simp only [Option.some.injEq, Prod.mk.injEq] at H
    obtain ⟨rfl, rfl, rfl, rfl, rfl⟩ := H
    go_enter Try.func54, Try.ntmps54
    go_wp2_with (first | ((with_reducible refine gate_dst (N := 4) rfl ?_); refine bE_ (N := 4) (cs := #[.int .i64 0, .string ⟨#[]⟩]) (t := 102) ?_; intro gb101 hg w19 hbox hb; have n0_ := Aside0.mk (below_step (bU_ HB.out) hb); have n1_ := Aside0.mk (hbox); have n2_ := Aside0.mk (bZ_ hg (bU_ HB.out) : w.heap.size ≤ gb101); have n3_ := n2_; clear HB; have HB := n0_; have BK101 := n1_; have GW101 := n2_; have GE101 := n3_; clear n0_ n1_ n2_ n3_; clear hb hbox hg; have p17 : 0 ≤ (1 : Int) := (by omega); have q17 : 1 < a1.size := (by have : (1 : Int) < (a1.size : Int) := oD_; omega); have hx17 : ∀ h : 1 < a1.size, ((a1[1]'h).toNat : Int) = bt a1 1 := bt_at a1 1; clear p17; have qi17 : (1 < (a1.size : Int)) = True := eq_true oD_; replace q17 := eq_true q17; have hcz20_0 : w19.cell? ⟨gb101, 0, none⟩ = some (.int .i64 0) := (blk_cell BK101.out 0).trans rfl; have hcz20_1 : w19.cell? ⟨gb101, 1, none⟩ = some (.string ⟨#[]⟩) := (blk_cell BK101.out 1).trans rfl; have hfz20_0 := blk_frozen BK101.out 0; have hfz20_1 := blk_frozen BK101.out 1))
    refine bodyPost_ret (results_list (rs := [.cell 4 102, .tmp 5, .tmp 6, .tmp 7]) rfl (by simp) (.cell gb101 102 #[.int .i64 0, .string ⟨#[]⟩] (0, 0) _ rfl (by (with_reducible repeat first | apply pN_ | apply pD_ | apply pA_); refine blk_put (cs := #[.int .i64 0, .string ⟨#[]⟩]) ?_ 1 _ rfl; (with_reducible repeat first | apply pN_ | apply pD_ | apply pA_); refine blk_put (cs := #[.int .i64 0, .string ⟨#[]⟩]) ?_ 0 _ rfl; (with_reducible repeat first | apply pN_ | apply pD_ | apply pA_); exact BK101.out) Try.underlying102 rfl (by kernel_rfl) (.tmp (.tmp (.tmp .nil))))) rfl ?_
    exact rE_ (bU_ HB.out)
   ·rw [if_neg c18] at H
    have c18b0 : decide ((a1.size : Int) < (wrap64 (8 + (wrap64 (8 * (wrap64 (bt a1 1))))))) = false := decide_eq_false c18
    clear c18
    by_cases c21 : 2 ≤ (wrap64 (8 + (wrap64 (8 * (wrap64 (bt a1 1))))))
    rotate_left
    ·rw [if_neg c21] at H; exact absurd H (by simp)
    rw [if_pos c21] at H
    have c21b0 := eq_true c21
    have c21b1 : decide (2 ≤ (wrap64 (8 + (wrap64 (8 * (wrap64 (bt a1 1))))))) = true := decide_eq_true c21
    by_cases c22 : (wrap64 (8 + (wrap64 (8 * (wrap64 (bt a1 1)))))) ≤ (a1.size : Int)
    rotate_left
    ·rw [if_neg c22] at H; exact absurd H (by simp)
    rw [if_pos c22] at H
    have c22b0 := eq_true c22
    have c22b1 : decide ((wrap64 (8 + (wrap64 (8 * (wrap64 (bt a1 1)))))) ≤ (a1.size : Int)) = true := decide_eq_true c22
    by_cases c23 : 0 < (a1.size : Int)
    rotate_left
    ·rw [if_neg c23] at H; exact absurd H (by simp)
    rw [if_pos c23] at H
    have c23b0 : decide (0 < (a1.size : Int)) = true := decide_eq_true c23
    have c23b1 : decide (0 < a1.size) = true := decide_eq_true (by omega)
    clear c23
    obtain ⟨ji25, hji25⟩ : ∃ j_ : Int, (wrap64 (8 + (wrap64 (8 * (wrap64 (bt a1 1)))))) = j_ := ⟨_, rfl⟩
    replace H : (if 0 ≤ (ji25) then (some (a0, a1.extract 2 ((ji25) : Int).toNat, wrap64 (bt a1 0), a1.extract ((ji25) : Int).toNat a1.size, true)) else (none)) = some (r1, r2, r3, r4, r5) := by first | (rw [hji25] at H; exact H) | (simp only [hji25] at H ⊢; exact H)
    (try rw [hji25] at c18b0)
    (try rw [hji25] at c21b0)
    (try rw [hji25] at c21b1)
    (try rw [hji25] at c21)
    (try rw [hji25] at c22b0)
    (try rw [hji25] at c22b1)
    (try rw [hji25] at c22)
    have hji25w : (IntKind.i64.wrap (8 + (wrap64 (8 * (wrap64 (bt a1 1)))))) = ji25 := (i64_w _).trans hji25
    by_cases c26 : 0 ≤ (ji25)
    rotate_left
    ·rw [if_neg c26] at H; exact absurd H (by simp)
    rw [if_pos c26] at H
    have c26b0 := eq_true c26
    have c26b1 : decide (0 ≤ (ji25)) = true := decide_eq_true c26
    clear c26
    have c27b0 := eq_true (oD_ : (ji25) ≤ (a1.size : Int))
    simp only [Option.some.injEq, Prod.mk.injEq] at H
    obtain ⟨rfl, rfl, rfl, rfl, rfl⟩ := H
    go_enter Try.func54, Try.ntmps54
    try go_wp2_with (first | ((with_reducible refine gate_dst (N := 4) rfl ?_); refine bE_ (N := 4) (cs := #[.int .i64 0, .string ⟨#[]⟩]) (t := 102) ?_; intro gb101 hg w28 hbox hb; have n0_ := Aside0.mk (below_step (bU_ HB.out) hb); have n1_ := Aside0.mk (hbox); have n2_ := Aside0.mk (bZ_ hg (bU_ HB.out) : w.heap.size ≤ gb101); have n3_ := n2_; clear HB; have HB := n0_; have BK101 := n1_; have GW101 := n2_; have GE101 := n3_; clear n0_ n1_ n2_ n3_; clear hb hbox hg; have p17 : 0 ≤ (1 : Int) := (by omega); have q17 : 1 < a1.size := (by have : (1 : Int) < (a1.size : Int) := oD_; omega); have hx17 : ∀ h : 1 < a1.size, ((a1[1]'h).toNat : Int) = bt a1 1 := bt_at a1 1; clear p17; have qi17 : (1 < (a1.size : Int)) = True := eq_true oD_; replace q17 := eq_true q17))
    have n0_ := Aside0.mk (blk_drew BK101.out)
    have n1_ := Aside0.mk (below_drew1 HB.out)
    clear BK101
    clear HB
    have BK101 := n0_
    have HB := n1_
    clear n0_ n1_
    have p24 : 0 ≤ (0 : Int) := (by omega)
    have q24 : 0 < a1.size := (by have : (0 : Int) < (a1.size : Int) := oD_; omega)
    have hx24 : ∀ h : 0 < a1.size, ((a1[0]'h).toNat : Int) = bt a1 0 := bt_at a1 0
    clear p24
    have qi24 : (0 < (a1.size : Int)) = True := eq_true oD_
    replace q24 := eq_true q24
    refine start_ (n := 15) (S := fun w' => True) (ds := []) #[false, false, false, false, false, false, false, false, false, false, false, false, false, false, false] (by kernel_rfl) rfl rfl trivial (fun hHeld => ?_); refine with_tabW ipsix_ext.tab8 ipsix_ext.bits8 (fun HT_ HW_ => ?_)
    generalize w28.drew = w29 at BK101 HB hHeld ⊢
    refine pure_ (i := 0) (N := some 34) (v := ?_) (a' := ?_) #[true, false, false, false, false, false, false, false, false, false, false, false, false, false, false] rfl rfl (any_of HT_.out (by kernel_rfl)) (fun _ _ _ h => h) (Or.inl ⟨by rfl, ?_⟩) ?_ ?_
    rotate_left
    ·intro w'; go_simp; with_reducible rfl
    rotate_left
    ·simp only [Act.put, s1_, s2_, s3_, i64_w, i32_w]; rfl
    refine pure_ (i := 1) (N := some 35) (v := ?_) (a' := ?_) #[true, true, false, false, false, false, false, false, false, false, false, false, false, false, false] rfl rfl (any_of HT_.out (by kernel_rfl)) (fun _ _ _ h => h) (Or.inl ⟨by rfl, ?_⟩) ?_ ?_
    rotate_left
    ·intro w'; go_simp; with_reducible rfl
    rotate_left
    ·simp only [Act.put, s1_, s2_, s3_, i64_w, i32_w]; rfl
    refine pure_ (i := 2) (N := some 36) (v := ?_) (a' := ?_) #[true, true, true, false, false, false, false, false, false, false, false, false, false, false, false] rfl rfl (any_of HT_.out (by kernel_rfl)) (fun _ _ _ h => h) (Or.inl ⟨by rfl, ?_⟩) ?_ ?_
    rotate_left
    ·intro w'; go_simp; with_reducible rfl
    rotate_left
    ·simp only [Act.put, s1_, s2_, s3_, i64_w, i32_w]; rfl
    refine pure_ (i := 3) (N := some 37) (v := ?_) (a' := ?_) #[true, true, true, true, false, false, false, false, false, false, false, false, false, false, false] rfl rfl (any_of HT_.out (by kernel_rfl)) (fun _ _ _ h => h) (Or.inl ⟨by rfl, ?_⟩) ?_ ?_
    rotate_left
    ·intro w'; go_simp; with_reducible rfl
    rotate_left
    ·simp only [Act.put, s1_, s2_, s3_, i64_w, i32_w]; rfl
    refine pure_ (i := 4) (N := some 38) (v := ?_) (a' := ?_) #[true, true, true, true, true, false, false, false, false, false, false, false, false, false, false] rfl rfl (any_of HT_.out (by kernel_rfl)) (fun _ _ _ h => h) (Or.inl ⟨by rfl, ?_⟩) ?_ ?_
    rotate_left
    ·intro w'; go_simp; with_reducible rfl
    rotate_left
    ·simp only [Act.put, s1_, s2_, s3_, i64_w, i32_w]; rfl
    refine pure_ (i := 5) (N := some 39) (v := ?_) (a' := ?_) #[true, true, true, true, true, true, false, false, false, false, false, false, false, false, false] rfl rfl (any_of HT_.out (by kernel_rfl)) (fun _ _ _ h => h) (Or.inl ⟨by rfl, ?_⟩) ?_ ?_
    rotate_left
    ·intro w'; go_simp; with_reducible rfl
    rotate_left
    ·simp only [Act.put, s1_, s2_, s3_, i64_w, i32_w]; rfl
    refine pure_ (i := 8) (N := some 42) (v := ?_) (a' := ?_) #[true, true, true, true, true, true, false, false, true, false, false, false, false, false, false] rfl rfl (any_of HT_.out (by kernel_rfl)) (fun _ _ _ h => h) (Or.inl ⟨by rfl, ?_⟩) ?_ ?_
    rotate_left
    ·intro w'; go_simp; with_reducible rfl
    rotate_left
    ·simp only [Act.put, s1_, s2_, s3_, i64_w, i32_w]; rfl
    refine pure_ (i := 9) (N := some 43) (v := ?_) (a' := ?_) #[true, true, true, true, true, true, false, false, true, true, false, false, false, false, false] rfl rfl (any_of HT_.out (by kernel_rfl)) (fun _ _ _ h => h) (Or.inl ⟨by rfl, ?_⟩) ?_ ?_
    rotate_left
    ·intro w'; go_simp; with_reducible rfl
    rotate_left
    ·simp only [Act.put, s1_, s2_, s3_, i64_w, i32_w]; rfl
    refine pure_ (i := 10) (N := some 44) (v := ?_) (a' := ?_) #[true, true, true, true, true, true, false, false, true, true, true, false, false, false, false] rfl rfl (any_of HT_.out (by kernel_rfl)) (fun _ _ _ h => h) (Or.inl ⟨by rfl, ?_⟩) ?_ ?_
    rotate_left
    ·intro w'; go_simp; with_reducible rfl
    rotate_left
    ·simp only [Act.put, s1_, s2_, s3_, i64_w, i32_w]; rfl
    refine take_ (i := 6) (N := some 40) (v := ?_) (a' := ?_) #[true, true, true, true, true, true, true, false, true, true, true, false, false, false, false] rfl rfl (take_ofW HT_.out HW_.out (by kernel_rfl)) (fun _ _ _ h => h) (Or.inl ⟨by rfl, ?_⟩) hHeld ?_ ?_
    rotate_left
    ·intro w' _
     go_simp
     with_reducible rfl
    rotate_left
    ·simp only [Act.put, s1_, s2_, s3_, i64_w, i32_w]; rfl
    refine pure_ (i := 7) (N := some 41) (v := ?_) (a' := ?_) #[true, true, true, true, true, true, true, true, true, true, true, false, false, false, false] rfl rfl (any_of HT_.out (by kernel_rfl)) (fun _ _ _ h => h) (Or.inl ⟨by rfl, ?_⟩) ?_ ?_
    rotate_left
    ·intro w'; go_simp; with_reducible rfl
    rotate_left
    ·simp only [Act.put, s1_, s2_, s3_, i64_w, i32_w]; rfl
    refine one_ (i := 11) (N := none) #[true, true, true, true, true, true, true, true, true, true, true, true, false, false, false] rfl rfl (one_of HT_.out (by kernel_rfl)) (by decide) (fun K hK => ?_)
    have hs30 : w29.cell? ⟨gb101, 0, none⟩ = some (.int .i64 0) := (blk_cell BK101.out 0).trans rfl
    have hfs30 := blk_frozen BK101.out 0
    have hs31 : w29.cell? ⟨gb101, 1, none⟩ = some (.string ⟨#[]⟩) := (blk_cell BK101.out 1).trans rfl
    have hfs31 := blk_frozen BK101.out 1
    refine skip_ (w1 := ?_) (by rfl) rfl ?_ ?_
    rotate_left
    ·go_simp
     rfl
    refine hK.out _ _ trivial (fun hHeld => ?_)
    clear hK K
    refine pure_ (i := 12) (N := some 5) (v := ?_) (a' := ?_) #[true, true, true, true, true, true, true, true, true, true, true, true, true, false, false] rfl rfl (any_of HT_.out (by kernel_rfl)) (fun _ _ _ h => h) (Or.inl ⟨by rfl, ?_⟩) ?_ ?_
    rotate_left
    ·intro w'; go_simp; with_reducible rfl
    rotate_left
    ·simp only [Act.put, s1_, s2_, s3_, i64_w, i32_w]; rfl
    refine pure_ (i := 13) (N := some 6) (v := ?_) (a' := ?_) #[true, true, true, true, true, true, true, true, true, true, true, true, true, true, false] rfl rfl (any_of HT_.out (by kernel_rfl)) (fun _ _ _ h => h) (Or.inl ⟨by rfl, ?_⟩) ?_ ?_
    rotate_left
    ·intro w'; go_simp; with_reducible rfl
    rotate_left
    ·simp only [Act.put, s1_, s2_, s3_, i64_w, i32_w]; rfl
    refine pure_ (i := 14) (N := some 7) (v := ?_) (a' := ?_) #[true, true, true, true, true, true, true, true, true, true, true, true, true, true, true] rfl rfl (any_of HT_.out (by kernel_rfl)) (fun _ _ _ h => h) (Or.inl ⟨by rfl, ?_⟩) ?_ ?_
    rotate_left
    ·intro w'; go_simp; with_reducible rfl
    rotate_left
    ·simp only [Act.put, s1_, s2_, s3_, i64_w, i32_w]; rfl
    refine done_ (done_of HT_.out (by kernel_rfl)) ?_
    try go_wp2
    refine bodyPost_ret (results_list (rs := [.cell 4 102, .tmp 5, .tmp 6, .tmp 7]) rfl (by simp) (.cell gb101 102 #[.int .i64 a0, .string (a1.extract 2 ((ji25) : Int).toNat)] (0, 0) _ rfl (by (with_reducible repeat first | apply pN_ | apply pD_ | apply pA_); refine blk_put (cs := #[.int .i64 a0, .string ⟨#[]⟩]) ?_ 1 _ rfl; (with_reducible repeat first | apply pN_ | apply pD_ | apply pA_); refine blk_put (cs := #[.int .i64 0, .string ⟨#[]⟩]) ?_ 0 _ rfl; (with_reducible repeat first | apply pN_ | apply pD_ | apply pA_); exact BK101.out) Try.underlying102 rfl (by kernel_rfl) (.tmp (.tmp (.tmp .nil))))) rfl ?_
    exact ⟨by first | rfl | (simp [errW_none, errW_some] <;> rfl) | (simp only [← hji25]; first | rfl | (simp [errW_none, errW_some] <;> rfl)) | (simp [*, errW_none, errW_some] <;> rfl), bU_ HB.out⟩
end Go.Proofs.Ytfdhifigndmgaaa.Q
