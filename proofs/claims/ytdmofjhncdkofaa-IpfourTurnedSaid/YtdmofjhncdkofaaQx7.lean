-- made by a program of this session (wip/print-patch.py, over the kit's print)
import Derived.Test.YtdmofjhncdkofaaQx0
import Derived.Test.YtdmofjhncdkofaaQx3
import Derived.Test.YtdmofjhncdkofaaQx6
namespace Go.Proofs.Ytdmofjhncdkofaa.Q
open Go.RowKit Go.Proofs.YtdmofjhncdkofaaW.PrintWords Go.Proofs.YtdmofjhncdkofaaW.PrintLast Go.Proofs.YtdmofjhncdkofaaW.PrintMore
attribute [local go_sem] max2_int min2_int max_two min_two max_three min_three max_four min_four   -- for this text's walks alone
set_option linter.unusedVariables false
set_option linter.unusedSimpArgs false

attribute [local go_sem] cell_twice_ cell_twiceN_
abbrev Z7_0 : Array Value := #[.int .i64 0, .int .i64 0, .int .i64 0, .int .i64 0, .int .i64 0, .int .i64 0, .string ⟨#[]⟩, .string ⟨#[]⟩, .string ⟨#[]⟩]
/-! ### ipfour_Take: function 10 -/
mutual
def ipfour_Take.j0 : Nat → ByteArray → Int → Int → Bool → Option (Int × Int × Int × Int × Int × Int × ByteArray × ByteArray × ByteArray × ByteArray × Int)
 | 0, _, _, _, _ => none
 | k + 1, x0, x5, x6, x26 => if x26 = true then (some (0, 0, 0, 0, 0, 0, (⟨#[]⟩ : ByteArray), (⟨#[]⟩ : ByteArray), (⟨#[]⟩ : ByteArray), (⟨#[]⟩ : ByteArray), 11)) else (if x6 < x5 then (ipfour_Take.j1 k x0 x5 x6 true) else (ipfour_Take.j1 k x0 x5 x6 (decide (x6 > (x0.size : Int)))))
def ipfour_Take.j1 : Nat → ByteArray → Int → Int → Bool → Option (Int × Int × Int × Int × Int × Int × ByteArray × ByteArray × ByteArray × ByteArray × Int)
 | 0, _, _, _, _ => none
 | k + 1, x0, x5, x6, x36 => if x36 = true then (some (0, 0, 0, 0, 0, 0, (⟨#[]⟩ : ByteArray), (⟨#[]⟩ : ByteArray), (⟨#[]⟩ : ByteArray), (⟨#[]⟩ : ByteArray), 13)) else (if 0 ≤ x5 then (if x5 ≤ (x0.size : Int) then ((octet_Sum.f k (x0.extract 0 (x5 : Int).toNat)).bind fun t103 => (if t103 = 0 then ((ipfour_take.f k x0 6 2).bind fun t104 => ((ipfour_take.f k x0 1 1).bind fun t105 => ((ipfour_take.f k x0 4 2).bind fun t106 => ((ipfour_take.f k x0 8 1).bind fun t107 => ((ipfour_take.f k x0 9 1).bind fun t108 => (if 12 ≤ 16 then (if 16 ≤ (x0.size : Int) then (if 16 ≤ 20 then (if 20 ≤ (x0.size : Int) then (if 20 ≤ x5 then (if x5 ≤ x6 then (if x6 ≤ (x0.size : Int) then (some (t105, t106, t104 / 8192, Go.bits .and .i64 t104 8191, t107, t108, x0.extract 12 16, x0.extract 16 20, x0.extract 20 (x5 : Int).toNat, x0.extract (x5 : Int).toNat (x6 : Int).toNat, 0)) else (none)) else (none)) else (none)) else (none)) else (none)) else (none)) else (none))))))) else (some (0, 0, 0, 0, 0, 0, (⟨#[]⟩ : ByteArray), (⟨#[]⟩ : ByteArray), (⟨#[]⟩ : ByteArray), (⟨#[]⟩ : ByteArray), 12)))) else (none)) else (none))
end
def ipfour_Take.f (k : Nat) (a0 : ByteArray) : Option (Int × Int × Int × Int × Int × Int × ByteArray × ByteArray × ByteArray × ByteArray × Int) := if (a0.size : Int) < 20 then (some (0, 0, 0, 0, 0, 0, (⟨#[]⟩ : ByteArray), (⟨#[]⟩ : ByteArray), (⟨#[]⟩ : ByteArray), (⟨#[]⟩ : ByteArray), 2)) else (if 0 < (a0.size : Int) then ((ipfour_take.f k a0 2 2).bind fun t102 => (if ((bt a0 0) / 16) = 4 then (if (wrap64 (4 * (wrap64 (Go.bits .and .u8 (bt a0 0) 15)))) < 20 then (ipfour_Take.j0 k a0 (wrap64 (4 * (wrap64 (Go.bits .and .u8 (bt a0 0) 15)))) t102 true) else (ipfour_Take.j0 k a0 (wrap64 (4 * (wrap64 (Go.bits .and .u8 (bt a0 0) 15)))) t102 (decide ((wrap64 (4 * (wrap64 (Go.bits .and .u8 (bt a0 0) 15)))) > (a0.size : Int))))) else (some (0, 0, 0, 0, 0, 0, (⟨#[]⟩ : ByteArray), (⟨#[]⟩ : ByteArray), (⟨#[]⟩ : ByteArray), (⟨#[]⟩ : ByteArray), 10)))) else (none))
theorem ipfour_Take.mono_l : ∀ k, (∀ y0 y1 y2 y3, LeO (ipfour_Take.j0 k y0 y1 y2 y3) (ipfour_Take.j0 (k + 1) y0 y1 y2 y3)) ∧ (∀ y0 y1 y2 y3, LeO (ipfour_Take.j1 k y0 y1 y2 y3) (ipfour_Take.j1 (k + 1) y0 y1 y2 y3))
 | 0 => ⟨fun _ _ _ _ r h => by simp [ipfour_Take.j0] at h, fun _ _ _ _ r h => by simp [ipfour_Take.j1] at h⟩
 | k + 1 => by
  obtain ⟨ih0, ih1⟩ := ipfour_Take.mono_l k
  refine ⟨?_, ?_⟩
  ·intro y0 y1 y2 y3
   unfold ipfour_Take.j0
   repeat' first
   | (with_reducible exact ih0 _ _ _ _)
   | (with_reducible exact ih1 _ _ _ _)
   | (with_reducible exact ipfour_take.mono _ _ _ _)
   | (with_reducible exact octet_Sum.mono _ _)
   | (with_reducible exact LeO.refl _)
   | (with_reducible exact LeO.none _)
   | (with_reducible refine LeO.ite ?_ ?_)
   | (with_reducible refine LeO.bind ?_ (fun _ => ?_))
   | exact ih0 _ _ _ _
   | exact ih1 _ _ _ _
   | exact ipfour_take.mono _ _ _ _
   | exact octet_Sum.mono _ _
   | exact LeO.none _
   | refine LeO.ite ?_ ?_
   | refine LeO.bind ?_ (fun _ => ?_)
  ·intro y0 y1 y2 y3
   unfold ipfour_Take.j1
   repeat' first
   | (with_reducible exact ih0 _ _ _ _)
   | (with_reducible exact ih1 _ _ _ _)
   | (with_reducible exact ipfour_take.mono _ _ _ _)
   | (with_reducible exact octet_Sum.mono _ _)
   | (with_reducible exact LeO.refl _)
   | (with_reducible exact LeO.none _)
   | (with_reducible refine LeO.ite ?_ ?_)
   | (with_reducible refine LeO.bind ?_ (fun _ => ?_))
   | exact ih0 _ _ _ _
   | exact ih1 _ _ _ _
   | exact ipfour_take.mono _ _ _ _
   | exact octet_Sum.mono _ _
   | exact LeO.none _
   | refine LeO.ite ?_ ?_
   | refine LeO.bind ?_ (fun _ => ?_)
theorem ipfour_Take.mono : ∀ a0 k, LeO (ipfour_Take.f k a0) (ipfour_Take.f (k + 1) a0) := by
 intro a0 k
 obtain ⟨ih0, ih1⟩ := ipfour_Take.mono_l k
 unfold ipfour_Take.f
 repeat' first
   | (with_reducible exact ih0 _ _ _ _)
   | (with_reducible exact ih1 _ _ _ _)
   | (with_reducible exact ipfour_take.mono _ _ _ _)
   | (with_reducible exact octet_Sum.mono _ _)
   | (with_reducible exact LeO.refl _)
   | (with_reducible exact LeO.none _)
   | (with_reducible refine LeO.ite ?_ ?_)
   | (with_reducible refine LeO.bind ?_ (fun _ => ?_))
   | exact ih0 _ _ _ _
   | exact ih1 _ _ _ _
   | exact ipfour_take.mono _ _ _ _
   | exact octet_Sum.mono _ _
   | exact LeO.none _
   | refine LeO.ite ?_ ?_
   | refine LeO.bind ?_ (fun _ => ?_)
def ipfour_Take.T3 : Bool × List (List Nat × List Nat) := (true, [([], []), ([0], [0]), ([1], [1]), ([2], [2]), ([3], [3]), ([], []), ([5], [5]), ([4, 6, 0, 1, 2, 3, 4], [4]), ([6, 7, 0, 1, 2, 3, 4, 5, 6, 7], [6])])
def ipfour_Take.B3 : List Nat := [0, 1, 3, 7, 15, 0, 32, 127, 255]
theorem ipfour_Take.tab3 : rtab .any (opsOf Try.f10 3) = ipfour_Take.T3 := by kernel_rfl
theorem ipfour_Take.bits3 : waitsOk ipfour_Take.T3.2 ipfour_Take.B3 = true := by kernel_rfl
def ipfour_Take.T13 : Bool × List (List Nat × List Nat) := (true, [([], []), ([0], [0]), ([], []), ([2, 1], [2]), ([], []), ([4], [4]), ([], []), ([6], [6]), ([], []), ([8, 3], [8]), ([], []), ([10, 9], [10]), ([], []), ([12], [12]), ([], []), ([14], [14]), ([], []), ([], []), ([16, 17], [16, 17]), ([1, 3, 5, 7, 9, 11, 13, 15, 18], [1, 3, 5, 7, 9, 11, 13, 15, 18]), ([], []), ([20, 19, 11, 0, 1, 2, 3, 4, 5, 6, 7, 8, 9, 10, 11, 12, 13, 14, 15, 16, 17, 18, 19, 20], [19, 20])])
def ipfour_Take.B13 : List Nat := [0, 1, 0, 7, 0, 16, 0, 64, 0, 271, 0, 1807, 0, 4096, 0, 16384, 0, 0, 196608, 524287, 0, 2097151]
theorem ipfour_Take.tab13 : rtab .any (opsOf Try.f10 13) = ipfour_Take.T13 := by kernel_rfl
theorem ipfour_Take.bits13 : waitsOk ipfour_Take.T13.2 ipfour_Take.B13 = true := by kernel_rfl
def ipfour_Take.T14 : Bool × List (List Nat × List Nat) := (true, [([], []), ([], []), ([], []), ([], []), ([1, 2, 3], [1, 2, 3]), ([0, 0], [0]), ([4, 5, 0, 1, 2, 3, 4, 5], [4]), ([6, 0, 1, 2, 3, 4, 5, 6], [])])
def ipfour_Take.B14 : List Nat := [0, 0, 0, 0, 14, 1, 63, 127]
theorem ipfour_Take.tab14 : rtab .any (opsOf Try.f10 14) = ipfour_Take.T14 := by kernel_rfl
theorem ipfour_Take.bits14 : waitsOk ipfour_Take.T14.2 ipfour_Take.B14 = true := by kernel_rfl
set_option maxHeartbeats 8000000 in
set_option maxRecDepth 100000 in
theorem ipfour_Take.calls (k : Nat) (a0 : ByteArray) (r1 : Int) (r2 : Int) (r3 : Int) (r4 : Int) (r5 : Int) (r6 : Int) (r7 : ByteArray) (r8 : ByteArray) (r9 : ByteArray) (r10 : ByteArray) (r11 : Int) (w : World) (h : ipfour_Take.f k a0 = some (r1, r2, r3, r4, r5, r6, r7, r8, r9, r10, r11)) :
  Calls Try.prog 10 #[.string a0] w fun e w' => e = .returned (.tuple #[.agg #[.int .i64 r1, .int .i64 r2, .int .i64 r3, .int .i64 r4, .int .i64 r5, .int .i64 r6, .string r7, .string r8, .string r9], .string r10, .int .i64 r11]) ∧ Below w.heap.size w w' := by
 have hu27 := Try.underlying27
 have HB := Aside0.mk (Below.refl w.heap.size w)
 have H : (if (a0.size : Int) < 20 then (some (0, 0, 0, 0, 0, 0, (⟨#[]⟩ : ByteArray), (⟨#[]⟩ : ByteArray), (⟨#[]⟩ : ByteArray), (⟨#[]⟩ : ByteArray), 2)) else (if 0 < (a0.size : Int) then ((ipfour_take.f k a0 2 2).bind fun t102 => (if ((bt a0 0) / 16) = 4 then (if (wrap64 (4 * (wrap64 (Go.bits .and .u8 (bt a0 0) 15)))) < 20 then (ipfour_Take.j0 k a0 (wrap64 (4 * (wrap64 (Go.bits .and .u8 (bt a0 0) 15)))) t102 true) else (ipfour_Take.j0 k a0 (wrap64 (4 * (wrap64 (Go.bits .and .u8 (bt a0 0) 15)))) t102 (decide ((wrap64 (4 * (wrap64 (Go.bits .and .u8 (bt a0 0) 15)))) > (a0.size : Int))))) else (some (0, 0, 0, 0, 0, 0, (⟨#[]⟩ : ByteArray), (⟨#[]⟩ : ByteArray), (⟨#[]⟩ : ByteArray), (⟨#[]⟩ : ByteArray), 10)))) else (none))) = some (r1, r2, r3, r4, r5, r6, r7, r8, r9, r10, r11) := h
 clear h
 by_cases c2 : (a0.size : Int) < 20
 ·rw [if_pos c2] at H
  have c2b0 : decide ((a0.size : Int) < 20) = true := decide_eq_true c2
  have c2b1 : decide (a0.size < 20) = true := decide_eq_true (by omega)
  clear c2
  simp only [Option.some.injEq, Prod.mk.injEq] at H
  obtain ⟨rfl, rfl, rfl, rfl, rfl, rfl, rfl, rfl, rfl, rfl, rfl⟩ := H
  go_enter Try.func10, Try.ntmps10
  go_wp2_with (first | ((with_reducible refine gate_dst (N := 2) rfl ?_); (try (refine gate_guard (by rfl) ?_; dsimp only)); refine box_event ?hg (N := 2) ?hd (cs := Z7_0) (t := 27) ?hr ?_; (case hd => rfl); (case hg => rfl); (case hr => first | (go_simp; done) | (go_simp; rfl)); intro gb101 hg w3 hbox hb; have n0_ := Aside0.mk (below_step (bU_ HB.out) hb); have n1_ := Aside0.mk (hbox); have n2_ := Aside0.mk (bZ_ hg (bU_ HB.out) : w.heap.size ≤ gb101); have n3_ := n2_; clear HB; have HB := n0_; have BK101 := n1_; have GW101 := n2_; have GE101 := n3_; clear n0_ n1_ n2_ n3_; clear hb hbox hg; have hcz4_0 : w3.cell? ⟨gb101, 0, none⟩ = some (.int .i64 0) := (blk_cell BK101.out 0).trans rfl; have hcz4_1 : w3.cell? ⟨gb101, 1, none⟩ = some (.int .i64 0) := (blk_cell BK101.out 1).trans rfl; have hcz4_2 : w3.cell? ⟨gb101, 2, none⟩ = some (.int .i64 0) := (blk_cell BK101.out 2).trans rfl; have hcz4_3 : w3.cell? ⟨gb101, 3, none⟩ = some (.int .i64 0) := (blk_cell BK101.out 3).trans rfl; have hcz4_4 : w3.cell? ⟨gb101, 4, none⟩ = some (.int .i64 0) := (blk_cell BK101.out 4).trans rfl; have hcz4_5 : w3.cell? ⟨gb101, 5, none⟩ = some (.int .i64 0) := (blk_cell BK101.out 5).trans rfl; have hcz4_6 : w3.cell? ⟨gb101, 6, none⟩ = some (.string ⟨#[]⟩) := (blk_cell BK101.out 6).trans rfl; have hcz4_7 : w3.cell? ⟨gb101, 7, none⟩ = some (.string ⟨#[]⟩) := (blk_cell BK101.out 7).trans rfl; have hcz4_8 : w3.cell? ⟨gb101, 8, none⟩ = some (.string ⟨#[]⟩) := (blk_cell BK101.out 8).trans rfl; have hfz4_0 := blk_frozen BK101.out 0; have hfz4_1 := blk_frozen BK101.out 1; have hfz4_2 := blk_frozen BK101.out 2; have hfz4_3 := blk_frozen BK101.out 3; have hfz4_4 := blk_frozen BK101.out 4; have hfz4_5 := blk_frozen BK101.out 5; have hfz4_6 := blk_frozen BK101.out 6; have hfz4_7 := blk_frozen BK101.out 7; have hfz4_8 := blk_frozen BK101.out 8))
  refine bodyPost_ret (results_ctt rfl _ _ gb101 27 #[.int .i64 0, .int .i64 0, .int .i64 0, .int .i64 0, .int .i64 0, .int .i64 0, .string ⟨#[]⟩, .string ⟨#[]⟩, .string ⟨#[]⟩] (0, 0) _ rfl (by (with_reducible repeat first | apply pN_ | apply pD_ | apply pA_); refine blk_put (cs := Z7_0) ?_ 8 _ rfl; (with_reducible repeat first | apply pN_ | apply pD_ | apply pA_); refine blk_put (cs := Z7_0) ?_ 7 _ rfl; (with_reducible repeat first | apply pN_ | apply pD_ | apply pA_); refine blk_put (cs := Z7_0) ?_ 6 _ rfl; (with_reducible repeat first | apply pN_ | apply pD_ | apply pA_); refine blk_put (cs := Z7_0) ?_ 5 _ rfl; (with_reducible repeat first | apply pN_ | apply pD_ | apply pA_); refine blk_put (cs := Z7_0) ?_ 4 _ rfl; (with_reducible repeat first | apply pN_ | apply pD_ | apply pA_); refine blk_put (cs := Z7_0) ?_ 3 _ rfl; (with_reducible repeat first | apply pN_ | apply pD_ | apply pA_); refine blk_put (cs := Z7_0) ?_ 2 _ rfl; (with_reducible repeat first | apply pN_ | apply pD_ | apply pA_); refine blk_put (cs := Z7_0) ?_ 1 _ rfl; (with_reducible repeat first | apply pN_ | apply pD_ | apply pA_); refine blk_put (cs := Z7_0) ?_ 0 _ rfl; (with_reducible repeat first | apply pN_ | apply pD_ | apply pA_); exact BK101.out) Try.underlying27 rfl (by kernel_rfl)) rfl ?_
  exact rE_ (bU_ HB.out)
 ·rw [if_neg c2] at H
  have c2b0 : decide ((a0.size : Int) < 20) = false := decide_eq_false c2
  have c2b1 : decide (a0.size < 20) = false := decide_eq_false (by omega)
  clear c2
  by_cases c5 : 0 < (a0.size : Int)
  rotate_left
  ·rw [if_neg c5] at H
   exact absurd H (by simp)
  rw [if_pos c5] at H
  have c5b0 : decide (0 < (a0.size : Int)) = true := decide_eq_true c5
  have c5b1 : decide (0 < a0.size) = true := decide_eq_true (by omega)
  clear c5
  replace H := Option.bind_eq_some_iff.mp H
  obtain ⟨t102, A70, H⟩ := H
  replace H : (if ((bt a0 0) / 16) = 4 then (if (wrap64 (4 * (wrap64 (Go.bits .and .u8 (bt a0 0) 15)))) < 20 then (ipfour_Take.j0 k a0 (wrap64 (4 * (wrap64 (Go.bits .and .u8 (bt a0 0) 15)))) t102 true) else (ipfour_Take.j0 k a0 (wrap64 (4 * (wrap64 (Go.bits .and .u8 (bt a0 0) 15)))) t102 (decide ((wrap64 (4 * (wrap64 (Go.bits .and .u8 (bt a0 0) 15)))) > (a0.size : Int))))) else (some (0, 0, 0, 0, 0, 0, (⟨#[]⟩ : ByteArray), (⟨#[]⟩ : ByteArray), (⟨#[]⟩ : ByteArray), (⟨#[]⟩ : ByteArray), 10))) = some (r1, r2, r3, r4, r5, r6, r7, r8, r9, r10, r11) := H
  have A7 := Aside0.mk A70
  clear A70
  by_cases c9 : ((bt a0 0) / 16) = 4
  ·rw [if_pos c9] at H
   have c9b0 : (((bt a0 0) / 16) == 4) = true := beq_iff_eq.mpr c9
   have c9b1 : (((bt a0 0) / 16) != 4) = false := bne_eq_false_iff_eq.mpr c9
   clear c9
   have HC10 := Aside0.mk H
   clear H
   go_enter Try.func10, Try.ntmps10
   try go_wp2_with (first | ((with_reducible refine gate_dst (N := 2) rfl ?_); (try (refine gate_guard (by rfl) ?_; dsimp only)); refine box_event ?hg (N := 2) ?hd (cs := Z7_0) (t := 27) ?hr ?_; (case hd => rfl); (case hg => rfl); (case hr => first | (go_simp; done) | (go_simp; rfl)); intro gb101 hg w11 hbox hb; have n0_ := Aside0.mk (below_step (bU_ HB.out) hb); have n1_ := Aside0.mk (hbox); have n2_ := Aside0.mk (bZ_ hg (bU_ HB.out) : w.heap.size ≤ gb101); have n3_ := n2_; clear HB; have HB := n0_; have BK101 := n1_; have GW101 := n2_; have GE101 := n3_; clear n0_ n1_ n2_ n3_; clear hb hbox hg))
   have n0_ := Aside0.mk (blk_drew BK101.out)
   have n1_ := Aside0.mk (below_drew1 HB.out)
   clear BK101
   clear HB
   have BK101 := n0_
   have HB := n1_
   clear n0_ n1_
   have p6 : 0 ≤ (0 : Int) := (by omega)
   have q6 : 0 < a0.size := (by have : (0 : Int) < (a0.size : Int) := oD_; omega)
   have hx6 : ∀ h : 0 < a0.size, ((a0[0]'h).toNat : Int) = bt a0 0 := bt_at a0 0
   clear p6
   have qi6 : (0 < (a0.size : Int)) = True := eq_true oD_
   replace q6 := eq_true q6
   refine start_ (n := 9) (S := fun w' => True) (ds := []) #[false, false, false, false, false, false, false, false, false] (by kernel_rfl) rfl rfl trivial (fun hHeld => ?_); refine with_tabW ipfour_Take.tab3 ipfour_Take.bits3 (fun HT_ HW_ => ?_)
   generalize w11.drew = w12 at BK101 HB hHeld ⊢
   refine pure_ (i := 0) (N := some 13) (v := ?_) (a' := ?_) #[true, false, false, false, false, false, false, false, false] rfl rfl (any_of HT_.out (by kernel_rfl)) (fun _ _ _ h => h) (Or.inl ⟨by rfl, ?_⟩) ?_ ?_
   rotate_left
   ·intro w'
    go_simp
    with_reducible rfl
   rotate_left
   ·simp only [Act.put, s1_, s2_, s3_, i64_w, i32_w]
    rfl
   refine pure_ (i := 5) (N := some 18) (v := ?_) (a' := ?_) #[true, false, false, false, false, true, false, false, false] rfl rfl (any_of HT_.out (by kernel_rfl)) (fun _ _ _ h => h) (Or.inl ⟨by rfl, ?_⟩) ?_ ?_
   rotate_left
   ·intro w'
    go_simp
    with_reducible rfl
   rotate_left
   ·simp only [Act.put, s1_, s2_, s3_, i64_w, i32_w]
    rfl
   refine take_ (i := 1) (N := some 14) (v := ?_) (a' := ?_) #[true, true, false, false, false, true, false, false, false] rfl rfl (take_ofW HT_.out HW_.out (by kernel_rfl)) (fun _ _ _ h => h) (Or.inl ⟨by rfl, ?_⟩) hHeld ?_ ?_
   rotate_left
   ·intro w' _
    go_simp
    with_reducible rfl
   rotate_left
   ·simp only [Act.put, s1_, s2_, s3_, i64_w, i32_w]
    rfl
   refine pure_ (i := 2) (N := some 15) (v := ?_) (a' := ?_) #[true, true, true, false, false, true, false, false, false] rfl rfl (any_of HT_.out (by kernel_rfl)) (fun _ _ _ h => h) (Or.inl ⟨by rfl, ?_⟩) ?_ ?_
   rotate_left
   ·intro w'
    go_simp
    with_reducible rfl
   rotate_left
   ·simp only [Act.put, s1_, s2_, s3_, i64_w, i32_w]
    rfl
   refine pure_ (i := 3) (N := some 16) (v := ?_) (a' := ?_) #[true, true, true, true, false, true, false, false, false] rfl rfl (any_of HT_.out (by kernel_rfl)) (fun _ _ _ h => h) (Or.inl ⟨by rfl, ?_⟩) ?_ ?_
   rotate_left
   ·intro w'
    go_simp
    with_reducible rfl
   rotate_left
   ·simp only [Act.put, s1_, s2_, s3_, i64_w, i32_w]
    rfl
   refine pure_ (i := 4) (N := some 17) (v := ?_) (a' := ?_) #[true, true, true, true, true, true, false, false, false] rfl rfl (any_of HT_.out (by kernel_rfl)) (fun _ _ _ h => h) (Or.inl ⟨by rfl, ?_⟩) ?_ ?_
   rotate_left
   ·intro w'
    go_simp
    with_reducible rfl
   rotate_left
   ·simp only [Act.put, s1_, s2_, s3_, i64_w, i32_w]
    rfl
   refine one_ (i := 6) (N := some 19) #[true, true, true, true, true, true, true, false, false] rfl rfl (one_of HT_.out (by kernel_rfl)) (by decide) (fun K hK => ?_)
   refine goes_ Try.func17 (by kernel_rfl) rfl #[.string a0, .int .i64 2, .int .i64 2] (by rfl) rfl rfl (by (try simp only [List.map_toArray, List.map_cons, List.map_nil]); first | done | rfl | (simp only [List.length_drop, List.length_take]; rfl) | (simp only [ByteArray.size_append, ByteArray.size_extract, Nat.sub_zero, Int.natCast_add]; rfl) | (simp [ByteArray.size_append]; done)) ?_
   with_reducible refine (ipfour_take.calls k a0 2 2 t102 _ A7.out).mono ?_
   rintro e w13 ⟨rfl, hb⟩
   refine ⟨_, rfl, ?_⟩
   have n0_ := Aside0.mk (bB_ BK101.out hb)
   have n1_ := Aside0.mk (below_step (bU_ HB.out) hb)
   clear BK101
   clear HB
   have BK101 := n0_
   have HB := n1_
   clear n0_ n1_
   (try clear hb)
   (try clear hb2)
   (try clear hk)
   (try clear hi)
   refine hK.out _ _ trivial (fun hHeld => ?_)
   clear hK K
   refine norm_ (a' := ?_) ?_ ?_
   rotate_left
   ·show Act.put _ (some 19) _ = _
    simp only [Act.put, s1_, s2_, s3_, i64_w, i32_w]
    rfl
   refine pure_ (i := 7) (N := some 5) (v := ?_) (a' := ?_) #[true, true, true, true, true, true, true, true, false] rfl rfl (any_of HT_.out (by kernel_rfl)) (fun _ _ _ h => h) (Or.inl ⟨by rfl, ?_⟩) ?_ ?_
   rotate_left
   ·intro w'
    go_simp
    with_reducible rfl
   rotate_left
   ·simp only [Act.put, s1_, s2_, s3_, i64_w, i32_w]
    rfl
   refine pure_ (i := 8) (N := some 6) (v := ?_) (a' := ?_) #[true, true, true, true, true, true, true, true, true] rfl rfl (any_of HT_.out (by kernel_rfl)) (fun _ _ _ h => h) (Or.inl ⟨by rfl, ?_⟩) ?_ ?_
   rotate_left
   ·intro w'
    go_simp
    with_reducible rfl
   rotate_left
   ·simp only [Act.put, s1_, s2_, s3_, i64_w, i32_w]
    rfl
   refine done_ (done_of HT_.out (by kernel_rfl)) ?_
   have p8 : 0 ≤ (0 : Int) := (by omega)
   have q8 : 0 < a0.size := (by have : (0 : Int) < (a0.size : Int) := oD_; omega)
   have hx8 : ∀ h : 0 < a0.size, ((a0[0]'h).toNat : Int) = bt a0 0 := bt_at a0 0
   clear p8
   have qi8 : (0 < (a0.size : Int)) = True := eq_true oD_
   replace q8 := eq_true q8
   go_upto_region 6 with (fail)
   go_cut [26] (fun v26 wc => ∃ (kq : Nat) (x26_9 : Bool), v26 = .bool x26_9 ∧ Aside0 (ipfour_Take.j0 kq a0 (wrap64 (4 * (wrap64 (Go.bits .and .u8 (bt a0 0) 15)))) t102 x26_9 = some (r1, r2, r3, r4, r5, r6, r7, r8, r9, r10, r11)) ∧ Aside0 (kq ≤ k) ∧ Aside0 (wc.heap[gb101]? = some (.cells #[.int .i64 0, .int .i64 0, .int .i64 0, .int .i64 0, .int .i64 0, .int .i64 0, .string ⟨#[]⟩, .string ⟨#[]⟩, .string ⟨#[]⟩] 27 (0, 0))) ∧ Aside0 (Below w.heap.size w wc))
   case first =>
    have H := HC10.out
    clear HC10
    by_cases c14 : (wrap64 (4 * (wrap64 (Go.bits .and .u8 (bt a0 0) 15)))) < 20
    ·rw [if_pos c14] at H
     have c14b0 : decide ((wrap64 (4 * (wrap64 (Go.bits .and .u8 (bt a0 0) 15)))) < 20) = true := decide_eq_true c14
     clear c14
     (first | rw [c14b0] | (simp only [i64_w, i32_w]; rw [c14b0]) | skip)
     have H' := Aside0.mk H
     clear H
     go_wp2
     go_meet
     case rel => exact ⟨_, (true), (by first | rfl | (simp; done) | (simp [*]; done)), H', ⟨by first | omega | exact Nat.le_refl _⟩, ⟨by (with_reducible repeat first | apply pN_ | apply pD_ | apply pA_); exact BK101.out⟩, ⟨bU_ HB.out⟩⟩
    ·rw [if_neg c14] at H
     have c14b0 : decide ((wrap64 (4 * (wrap64 (Go.bits .and .u8 (bt a0 0) 15)))) < 20) = false := decide_eq_false c14
     clear c14
     (first | rw [c14b0] | (simp only [i64_w, i32_w]; rw [c14b0]) | skip)
     have H' := Aside0.mk H
     clear H
     go_wp2
     go_meet
     case rel => exact ⟨_, (decide ((wrap64 (4 * (wrap64 (Go.bits .and .u8 (bt a0 0) 15)))) > (a0.size : Int))), (by first | rfl | (simp; done) | (simp [*]; done)), H', ⟨by first | omega | exact Nat.le_refl _⟩, ⟨by (with_reducible repeat first | apply pN_ | apply pD_ | apply pA_); exact BK101.out⟩, ⟨bU_ HB.out⟩⟩
   case rest =>
    clear HC10
    try clear c1
    try clear c2
    try clear c2b0
    try clear c2b1
    try clear p2
    try clear c5
    try clear c5b0
    try clear c5b1
    try clear p6
    try clear q6
    try clear hx6
    try clear qi6
    try clear p8
    try clear q8
    try clear hx8
    try clear qi8
    try clear c9
    try clear c9b0
    try clear c9b1
    try clear c10
    try clear c14
    try clear c14b0
    try clear hcz4_0
    try clear hcz4_1
    try clear hcz4_2
    try clear hcz4_3
    try clear hcz4_4
    try clear hcz4_5
    try clear hcz4_6
    try clear hcz4_7
    try clear hcz4_8
    try clear hfz4_0
    try clear hfz4_1
    try clear hfz4_2
    try clear hfz4_3
    try clear hfz4_4
    try clear hfz4_5
    try clear hfz4_6
    try clear hfz4_7
    try clear hfz4_8
    try clear p6
    try clear p8
    try clear q6
    try clear q8
    obtain ⟨kq, x26_9, rfl, HA, HJ9, BK101, HB⟩ := hcut
    cases kq with
    | zero => exact absurd HA.out (by simp [ipfour_Take.j0])
    | succ kj9 =>
     have H := HA.out
     clear HA
     simp only [ipfour_Take.j0] at H
     by_cases c15 : x26_9 = true
     ·subst c15
      have H1 : (some (0, 0, 0, 0, 0, 0, (⟨#[]⟩ : ByteArray), (⟨#[]⟩ : ByteArray), (⟨#[]⟩ : ByteArray), (⟨#[]⟩ : ByteArray), 11)) = some (r1, r2, r3, r4, r5, r6, r7, r8, r9, r10, r11) := by rw [if_pos rfl] at H; exact H
      clear H
      have H := H1
      clear H1
      simp only [Option.some.injEq, Prod.mk.injEq] at H
      obtain ⟨rfl, rfl, rfl, rfl, rfl, rfl, rfl, rfl, rfl, rfl, rfl⟩ := H
      have hcz16_0 : wc.cell? ⟨gb101, 0, none⟩ = some (.int .i64 0) := (blk_cell BK101.out 0).trans rfl
      have hcz16_1 : wc.cell? ⟨gb101, 1, none⟩ = some (.int .i64 0) := (blk_cell BK101.out 1).trans rfl
      have hcz16_2 : wc.cell? ⟨gb101, 2, none⟩ = some (.int .i64 0) := (blk_cell BK101.out 2).trans rfl
      have hcz16_3 : wc.cell? ⟨gb101, 3, none⟩ = some (.int .i64 0) := (blk_cell BK101.out 3).trans rfl
      have hcz16_4 : wc.cell? ⟨gb101, 4, none⟩ = some (.int .i64 0) := (blk_cell BK101.out 4).trans rfl
      have hcz16_5 : wc.cell? ⟨gb101, 5, none⟩ = some (.int .i64 0) := (blk_cell BK101.out 5).trans rfl
      have hcz16_6 : wc.cell? ⟨gb101, 6, none⟩ = some (.string ⟨#[]⟩) := (blk_cell BK101.out 6).trans rfl
      have hcz16_7 : wc.cell? ⟨gb101, 7, none⟩ = some (.string ⟨#[]⟩) := (blk_cell BK101.out 7).trans rfl
      have hcz16_8 : wc.cell? ⟨gb101, 8, none⟩ = some (.string ⟨#[]⟩) := (blk_cell BK101.out 8).trans rfl
      have hfz16_0 := blk_frozen BK101.out 0
      have hfz16_1 := blk_frozen BK101.out 1
      have hfz16_2 := blk_frozen BK101.out 2
      have hfz16_3 := blk_frozen BK101.out 3
      have hfz16_4 := blk_frozen BK101.out 4
      have hfz16_5 := blk_frozen BK101.out 5
      have hfz16_6 := blk_frozen BK101.out 6
      have hfz16_7 := blk_frozen BK101.out 7
      have hfz16_8 := blk_frozen BK101.out 8
      go_wp2
      refine bodyPost_ret (results_ctt rfl _ _ gb101 27 #[.int .i64 0, .int .i64 0, .int .i64 0, .int .i64 0, .int .i64 0, .int .i64 0, .string ⟨#[]⟩, .string ⟨#[]⟩, .string ⟨#[]⟩] (0, 0) _ rfl (by (with_reducible repeat first | apply pN_ | apply pD_ | apply pA_); refine blk_put (cs := Z7_0) ?_ 8 _ rfl; (with_reducible repeat first | apply pN_ | apply pD_ | apply pA_); refine blk_put (cs := Z7_0) ?_ 7 _ rfl; (with_reducible repeat first | apply pN_ | apply pD_ | apply pA_); refine blk_put (cs := Z7_0) ?_ 6 _ rfl; (with_reducible repeat first | apply pN_ | apply pD_ | apply pA_); refine blk_put (cs := Z7_0) ?_ 5 _ rfl; (with_reducible repeat first | apply pN_ | apply pD_ | apply pA_); refine blk_put (cs := Z7_0) ?_ 4 _ rfl; (with_reducible repeat first | apply pN_ | apply pD_ | apply pA_); refine blk_put (cs := Z7_0) ?_ 3 _ rfl; (with_reducible repeat first | apply pN_ | apply pD_ | apply pA_); refine blk_put (cs := Z7_0) ?_ 2 _ rfl; (with_reducible repeat first | apply pN_ | apply pD_ | apply pA_); refine blk_put (cs := Z7_0) ?_ 1 _ rfl; (with_reducible repeat first | apply pN_ | apply pD_ | apply pA_); refine blk_put (cs := Z7_0) ?_ 0 _ rfl; (with_reducible repeat first | apply pN_ | apply pD_ | apply pA_); exact BK101.out) Try.underlying27 rfl (by kernel_rfl)) rfl ?_
      exact rE_ (bU_ HB.out)
     ·replace c15 := Bool.eq_false_iff.mpr c15
      subst c15
      have H1 : (if t102 < (wrap64 (4 * (wrap64 (Go.bits .and .u8 (bt a0 0) 15)))) then (ipfour_Take.j1 kj9 a0 (wrap64 (4 * (wrap64 (Go.bits .and .u8 (bt a0 0) 15)))) t102 true) else (ipfour_Take.j1 kj9 a0 (wrap64 (4 * (wrap64 (Go.bits .and .u8 (bt a0 0) 15)))) t102 (decide (t102 > (a0.size : Int))))) = some (r1, r2, r3, r4, r5, r6, r7, r8, r9, r10, r11) := by rw [if_neg (show ¬ (false = true) by decide)] at H; exact H
      clear H
      have H := H1
      clear H1
      have HC17 := Aside0.mk H
      clear H
      go_upto_region 8 with (fail)
      go_cut [36] (fun v36 wc => ∃ (kq : Nat) (x36_16 : Bool), v36 = .bool x36_16 ∧ Aside0 (ipfour_Take.j1 kq a0 (wrap64 (4 * (wrap64 (Go.bits .and .u8 (bt a0 0) 15)))) t102 x36_16 = some (r1, r2, r3, r4, r5, r6, r7, r8, r9, r10, r11)) ∧ Aside0 (kq ≤ kj9) ∧ Aside0 (wc.heap[gb101]? = some (.cells #[.int .i64 0, .int .i64 0, .int .i64 0, .int .i64 0, .int .i64 0, .int .i64 0, .string ⟨#[]⟩, .string ⟨#[]⟩, .string ⟨#[]⟩] 27 (0, 0))) ∧ Aside0 (Below w.heap.size w wc))
      case first =>
       have H := HC17.out
       clear HC17
       by_cases c18 : t102 < (wrap64 (4 * (wrap64 (Go.bits .and .u8 (bt a0 0) 15))))
       ·rw [if_pos c18] at H
        have c18b0 : decide (t102 < (wrap64 (4 * (wrap64 (Go.bits .and .u8 (bt a0 0) 15))))) = true := decide_eq_true c18
        clear c18
        (first | rw [c18b0] | (simp only [i64_w, i32_w]; rw [c18b0]) | skip)
        have H' := Aside0.mk H
        clear H
        go_wp2
        go_meet
        case rel => exact ⟨_, (true), (by first | rfl | (simp; done) | (simp [*]; done)), H', ⟨by have := HJ9.out; first | omega | exact Nat.le_refl _⟩, ⟨by (with_reducible repeat first | apply pN_ | apply pD_ | apply pA_); exact BK101.out⟩, ⟨bU_ HB.out⟩⟩
       ·rw [if_neg c18] at H
        have c18b0 : decide (t102 < (wrap64 (4 * (wrap64 (Go.bits .and .u8 (bt a0 0) 15))))) = false := decide_eq_false c18
        clear c18
        (first | rw [c18b0] | (simp only [i64_w, i32_w]; rw [c18b0]) | skip)
        have H' := Aside0.mk H
        clear H
        go_wp2
        go_meet
        case rel => exact ⟨_, (decide (t102 > (a0.size : Int))), (by first | rfl | (simp; done) | (simp [*]; done)), H', ⟨by have := HJ9.out; first | omega | exact Nat.le_refl _⟩, ⟨by (with_reducible repeat first | apply pN_ | apply pD_ | apply pA_); exact BK101.out⟩, ⟨bU_ HB.out⟩⟩
      case rest =>
       clear HC17
       try clear c1
       try clear c2
       try clear c2b0
       try clear c2b1
       try clear p2
       try clear c5
       try clear c5b0
       try clear c5b1
       try clear p6
       try clear q6
       try clear hx6
       try clear qi6
       try clear p8
       try clear q8
       try clear hx8
       try clear qi8
       try clear c9
       try clear c9b0
       try clear c9b1
       try clear c10
       try clear c14
       try clear c14b0
       try clear c15
       try clear c17
       try clear c18
       try clear c18b0
       try clear hcz16_0
       try clear hcz16_1
       try clear hcz16_2
       try clear hcz16_3
       try clear hcz16_4
       try clear hcz16_5
       try clear hcz16_6
       try clear hcz16_7
       try clear hcz16_8
       try clear hcz4_0
       try clear hcz4_1
       try clear hcz4_2
       try clear hcz4_3
       try clear hcz4_4
       try clear hcz4_5
       try clear hcz4_6
       try clear hcz4_7
       try clear hcz4_8
       try clear hfz16_0
       try clear hfz16_1
       try clear hfz16_2
       try clear hfz16_3
       try clear hfz16_4
       try clear hfz16_5
       try clear hfz16_6
       try clear hfz16_7
       try clear hfz16_8
       try clear hfz4_0
       try clear hfz4_1
       try clear hfz4_2
       try clear hfz4_3
       try clear hfz4_4
       try clear hfz4_5
       try clear hfz4_6
       try clear hfz4_7
       try clear hfz4_8
       try clear p2
       try clear p6
       try clear p8
       try clear q6
       try clear q8
       obtain ⟨kq, x36_16, rfl, HA, HJ16, BK101, HB⟩ := hcut
       cases kq with
       | zero => exact absurd HA.out (by simp [ipfour_Take.j1])
       | succ kj16 =>
        have H := HA.out
        clear HA
        simp only [ipfour_Take.j1] at H
        by_cases c19 : x36_16 = true
        ·subst c19
         have H1 : (some (0, 0, 0, 0, 0, 0, (⟨#[]⟩ : ByteArray), (⟨#[]⟩ : ByteArray), (⟨#[]⟩ : ByteArray), (⟨#[]⟩ : ByteArray), 13)) = some (r1, r2, r3, r4, r5, r6, r7, r8, r9, r10, r11) := by rw [if_pos rfl] at H; exact H
         clear H
         have H := H1
         clear H1
         simp only [Option.some.injEq, Prod.mk.injEq] at H
         obtain ⟨rfl, rfl, rfl, rfl, rfl, rfl, rfl, rfl, rfl, rfl, rfl⟩ := H
         have hcz20_0 : wc.cell? ⟨gb101, 0, none⟩ = some (.int .i64 0) := (blk_cell BK101.out 0).trans rfl
         have hcz20_1 : wc.cell? ⟨gb101, 1, none⟩ = some (.int .i64 0) := (blk_cell BK101.out 1).trans rfl
         have hcz20_2 : wc.cell? ⟨gb101, 2, none⟩ = some (.int .i64 0) := (blk_cell BK101.out 2).trans rfl
         have hcz20_3 : wc.cell? ⟨gb101, 3, none⟩ = some (.int .i64 0) := (blk_cell BK101.out 3).trans rfl
         have hcz20_4 : wc.cell? ⟨gb101, 4, none⟩ = some (.int .i64 0) := (blk_cell BK101.out 4).trans rfl
         have hcz20_5 : wc.cell? ⟨gb101, 5, none⟩ = some (.int .i64 0) := (blk_cell BK101.out 5).trans rfl
         have hcz20_6 : wc.cell? ⟨gb101, 6, none⟩ = some (.string ⟨#[]⟩) := (blk_cell BK101.out 6).trans rfl
         have hcz20_7 : wc.cell? ⟨gb101, 7, none⟩ = some (.string ⟨#[]⟩) := (blk_cell BK101.out 7).trans rfl
         have hcz20_8 : wc.cell? ⟨gb101, 8, none⟩ = some (.string ⟨#[]⟩) := (blk_cell BK101.out 8).trans rfl
         have hfz20_0 := blk_frozen BK101.out 0
         have hfz20_1 := blk_frozen BK101.out 1
         have hfz20_2 := blk_frozen BK101.out 2
         have hfz20_3 := blk_frozen BK101.out 3
         have hfz20_4 := blk_frozen BK101.out 4
         have hfz20_5 := blk_frozen BK101.out 5
         have hfz20_6 := blk_frozen BK101.out 6
         have hfz20_7 := blk_frozen BK101.out 7
         have hfz20_8 := blk_frozen BK101.out 8
         go_wp2
         refine bodyPost_ret (results_ctt rfl _ _ gb101 27 #[.int .i64 0, .int .i64 0, .int .i64 0, .int .i64 0, .int .i64 0, .int .i64 0, .string ⟨#[]⟩, .string ⟨#[]⟩, .string ⟨#[]⟩] (0, 0) _ rfl (by (with_reducible repeat first | apply pN_ | apply pD_ | apply pA_); refine blk_put (cs := Z7_0) ?_ 8 _ rfl; (with_reducible repeat first | apply pN_ | apply pD_ | apply pA_); refine blk_put (cs := Z7_0) ?_ 7 _ rfl; (with_reducible repeat first | apply pN_ | apply pD_ | apply pA_); refine blk_put (cs := Z7_0) ?_ 6 _ rfl; (with_reducible repeat first | apply pN_ | apply pD_ | apply pA_); refine blk_put (cs := Z7_0) ?_ 5 _ rfl; (with_reducible repeat first | apply pN_ | apply pD_ | apply pA_); refine blk_put (cs := Z7_0) ?_ 4 _ rfl; (with_reducible repeat first | apply pN_ | apply pD_ | apply pA_); refine blk_put (cs := Z7_0) ?_ 3 _ rfl; (with_reducible repeat first | apply pN_ | apply pD_ | apply pA_); refine blk_put (cs := Z7_0) ?_ 2 _ rfl; (with_reducible repeat first | apply pN_ | apply pD_ | apply pA_); refine blk_put (cs := Z7_0) ?_ 1 _ rfl; (with_reducible repeat first | apply pN_ | apply pD_ | apply pA_); refine blk_put (cs := Z7_0) ?_ 0 _ rfl; (with_reducible repeat first | apply pN_ | apply pD_ | apply pA_); exact BK101.out) Try.underlying27 rfl (by kernel_rfl)) rfl ?_
         exact rE_ (bU_ HB.out)
        ·replace c19 := Bool.eq_false_iff.mpr c19
         subst c19
         have H1 : (if 0 ≤ (wrap64 (4 * (wrap64 (Go.bits .and .u8 (bt a0 0) 15)))) then (if (wrap64 (4 * (wrap64 (Go.bits .and .u8 (bt a0 0) 15)))) ≤ (a0.size : Int) then ((octet_Sum.f kj16 (a0.extract 0 ((wrap64 (4 * (wrap64 (Go.bits .and .u8 (bt a0 0) 15)))) : Int).toNat)).bind fun t103 => (if t103 = 0 then ((ipfour_take.f kj16 a0 6 2).bind fun t104 => ((ipfour_take.f kj16 a0 1 1).bind fun t105 => ((ipfour_take.f kj16 a0 4 2).bind fun t106 => ((ipfour_take.f kj16 a0 8 1).bind fun t107 => ((ipfour_take.f kj16 a0 9 1).bind fun t108 => (if 12 ≤ 16 then (if 16 ≤ (a0.size : Int) then (if 16 ≤ 20 then (if 20 ≤ (a0.size : Int) then (if 20 ≤ (wrap64 (4 * (wrap64 (Go.bits .and .u8 (bt a0 0) 15)))) then (if (wrap64 (4 * (wrap64 (Go.bits .and .u8 (bt a0 0) 15)))) ≤ t102 then (if t102 ≤ (a0.size : Int) then (some (t105, t106, t104 / 8192, Go.bits .and .i64 t104 8191, t107, t108, a0.extract 12 16, a0.extract 16 20, a0.extract 20 ((wrap64 (4 * (wrap64 (Go.bits .and .u8 (bt a0 0) 15)))) : Int).toNat, a0.extract ((wrap64 (4 * (wrap64 (Go.bits .and .u8 (bt a0 0) 15)))) : Int).toNat (t102 : Int).toNat, 0)) else (none)) else (none)) else (none)) else (none)) else (none)) else (none)) else (none))))))) else (some (0, 0, 0, 0, 0, 0, (⟨#[]⟩ : ByteArray), (⟨#[]⟩ : ByteArray), (⟨#[]⟩ : ByteArray), (⟨#[]⟩ : ByteArray), 12)))) else (none)) else (none)) = some (r1, r2, r3, r4, r5, r6, r7, r8, r9, r10, r11) := by rw [if_neg (show ¬ (false = true) by decide)] at H; exact H
         clear H
         have H := H1
         clear H1
         obtain ⟨ji21, hji21⟩ : ∃ j_ : Int, (wrap64 (4 * (wrap64 (Go.bits .and .u8 (bt a0 0) 15)))) = j_ := ⟨_, rfl⟩
         replace H : (if 0 ≤ (ji21) then (if (ji21) ≤ (a0.size : Int) then ((octet_Sum.f kj16 (a0.extract 0 ((ji21) : Int).toNat)).bind fun t103 => (if t103 = 0 then ((ipfour_take.f kj16 a0 6 2).bind fun t104 => ((ipfour_take.f kj16 a0 1 1).bind fun t105 => ((ipfour_take.f kj16 a0 4 2).bind fun t106 => ((ipfour_take.f kj16 a0 8 1).bind fun t107 => ((ipfour_take.f kj16 a0 9 1).bind fun t108 => (if 12 ≤ 16 then (if 16 ≤ (a0.size : Int) then (if 16 ≤ 20 then (if 20 ≤ (a0.size : Int) then (if 20 ≤ (ji21) then (if (ji21) ≤ t102 then (if t102 ≤ (a0.size : Int) then (some (t105, t106, t104 / 8192, Go.bits .and .i64 t104 8191, t107, t108, a0.extract 12 16, a0.extract 16 20, a0.extract 20 ((ji21) : Int).toNat, a0.extract ((ji21) : Int).toNat (t102 : Int).toNat, 0)) else (none)) else (none)) else (none)) else (none)) else (none)) else (none)) else (none))))))) else (some (0, 0, 0, 0, 0, 0, (⟨#[]⟩ : ByteArray), (⟨#[]⟩ : ByteArray), (⟨#[]⟩ : ByteArray), (⟨#[]⟩ : ByteArray), 12)))) else (none)) else (none)) = some (r1, r2, r3, r4, r5, r6, r7, r8, r9, r10, r11) := by first | (rw [hji21] at H; exact H) | (simp only [hji21] at H ⊢; exact H)
         have hji21w : (IntKind.i64.wrap (4 * (wrap64 (Go.bits .and .u8 (bt a0 0) 15)))) = ji21 := (i64_w _).trans hji21
         by_cases c22 : 0 ≤ (ji21)
         rotate_left
         ·rw [if_neg c22] at H
          exact absurd H (by simp)
         rw [if_pos c22] at H
         have c22b0 := eq_true c22
         have c22b1 : decide (0 ≤ (ji21)) = true := decide_eq_true c22
         clear c22
         by_cases c23 : (ji21) ≤ (a0.size : Int)
         rotate_left
         ·rw [if_neg c23] at H
          exact absurd H (by simp)
         rw [if_pos c23] at H
         have c23b0 := eq_true c23
         have c23b1 : decide ((ji21) ≤ (a0.size : Int)) = true := decide_eq_true c23
         clear c23
         replace H := Option.bind_eq_some_iff.mp H
         obtain ⟨t103, A240, H⟩ := H
         replace H : (if t103 = 0 then ((ipfour_take.f kj16 a0 6 2).bind fun t104 => ((ipfour_take.f kj16 a0 1 1).bind fun t105 => ((ipfour_take.f kj16 a0 4 2).bind fun t106 => ((ipfour_take.f kj16 a0 8 1).bind fun t107 => ((ipfour_take.f kj16 a0 9 1).bind fun t108 => (if 12 ≤ 16 then (if 16 ≤ (a0.size : Int) then (if 16 ≤ 20 then (if 20 ≤ (a0.size : Int) then (if 20 ≤ (ji21) then (if (ji21) ≤ t102 then (if t102 ≤ (a0.size : Int) then (some (t105, t106, t104 / 8192, Go.bits .and .i64 t104 8191, t107, t108, a0.extract 12 16, a0.extract 16 20, a0.extract 20 ((ji21) : Int).toNat, a0.extract ((ji21) : Int).toNat (t102 : Int).toNat, 0)) else (none)) else (none)) else (none)) else (none)) else (none)) else (none)) else (none))))))) else (some (0, 0, 0, 0, 0, 0, (⟨#[]⟩ : ByteArray), (⟨#[]⟩ : ByteArray), (⟨#[]⟩ : ByteArray), (⟨#[]⟩ : ByteArray), 12))) = some (r1, r2, r3, r4, r5, r6, r7, r8, r9, r10, r11) := H
         have A24 := Aside0.mk A240
         clear A240
         by_cases c25 : t103 = 0
         ·rw [if_pos c25] at H
          have c25b0 : (t103 == 0) = true := beq_iff_eq.mpr c25
          have c25b1 : (t103 != 0) = false := bne_eq_false_iff_eq.mpr c25
          clear c25
          replace H := Option.bind_eq_some_iff.mp H
          obtain ⟨t104, A260, H⟩ := H
          replace H : ((ipfour_take.f kj16 a0 1 1).bind fun t105 => ((ipfour_take.f kj16 a0 4 2).bind fun t106 => ((ipfour_take.f kj16 a0 8 1).bind fun t107 => ((ipfour_take.f kj16 a0 9 1).bind fun t108 => (if 12 ≤ 16 then (if 16 ≤ (a0.size : Int) then (if 16 ≤ 20 then (if 20 ≤ (a0.size : Int) then (if 20 ≤ (ji21) then (if (ji21) ≤ t102 then (if t102 ≤ (a0.size : Int) then (some (t105, t106, t104 / 8192, Go.bits .and .i64 t104 8191, t107, t108, a0.extract 12 16, a0.extract 16 20, a0.extract 20 ((ji21) : Int).toNat, a0.extract ((ji21) : Int).toNat (t102 : Int).toNat, 0)) else (none)) else (none)) else (none)) else (none)) else (none)) else (none)) else (none)))))) = some (r1, r2, r3, r4, r5, r6, r7, r8, r9, r10, r11) := H
          have A26 := Aside0.mk A260
          clear A260
          replace H := Option.bind_eq_some_iff.mp H
          obtain ⟨t105, A270, H⟩ := H
          replace H : ((ipfour_take.f kj16 a0 4 2).bind fun t106 => ((ipfour_take.f kj16 a0 8 1).bind fun t107 => ((ipfour_take.f kj16 a0 9 1).bind fun t108 => (if 12 ≤ 16 then (if 16 ≤ (a0.size : Int) then (if 16 ≤ 20 then (if 20 ≤ (a0.size : Int) then (if 20 ≤ (ji21) then (if (ji21) ≤ t102 then (if t102 ≤ (a0.size : Int) then (some (t105, t106, t104 / 8192, Go.bits .and .i64 t104 8191, t107, t108, a0.extract 12 16, a0.extract 16 20, a0.extract 20 ((ji21) : Int).toNat, a0.extract ((ji21) : Int).toNat (t102 : Int).toNat, 0)) else (none)) else (none)) else (none)) else (none)) else (none)) else (none)) else (none))))) = some (r1, r2, r3, r4, r5, r6, r7, r8, r9, r10, r11) := H
          have A27 := Aside0.mk A270
          clear A270
          replace H := Option.bind_eq_some_iff.mp H
          obtain ⟨t106, A280, H⟩ := H
          replace H : ((ipfour_take.f kj16 a0 8 1).bind fun t107 => ((ipfour_take.f kj16 a0 9 1).bind fun t108 => (if 12 ≤ 16 then (if 16 ≤ (a0.size : Int) then (if 16 ≤ 20 then (if 20 ≤ (a0.size : Int) then (if 20 ≤ (ji21) then (if (ji21) ≤ t102 then (if t102 ≤ (a0.size : Int) then (some (t105, t106, t104 / 8192, Go.bits .and .i64 t104 8191, t107, t108, a0.extract 12 16, a0.extract 16 20, a0.extract 20 ((ji21) : Int).toNat, a0.extract ((ji21) : Int).toNat (t102 : Int).toNat, 0)) else (none)) else (none)) else (none)) else (none)) else (none)) else (none)) else (none)))) = some (r1, r2, r3, r4, r5, r6, r7, r8, r9, r10, r11) := H
          have A28 := Aside0.mk A280
          clear A280
          replace H := Option.bind_eq_some_iff.mp H
          obtain ⟨t107, A290, H⟩ := H
          replace H : ((ipfour_take.f kj16 a0 9 1).bind fun t108 => (if 12 ≤ 16 then (if 16 ≤ (a0.size : Int) then (if 16 ≤ 20 then (if 20 ≤ (a0.size : Int) then (if 20 ≤ (ji21) then (if (ji21) ≤ t102 then (if t102 ≤ (a0.size : Int) then (some (t105, t106, t104 / 8192, Go.bits .and .i64 t104 8191, t107, t108, a0.extract 12 16, a0.extract 16 20, a0.extract 20 ((ji21) : Int).toNat, a0.extract ((ji21) : Int).toNat (t102 : Int).toNat, 0)) else (none)) else (none)) else (none)) else (none)) else (none)) else (none)) else (none))) = some (r1, r2, r3, r4, r5, r6, r7, r8, r9, r10, r11) := H
          have A29 := Aside0.mk A290
          clear A290
          replace H := Option.bind_eq_some_iff.mp H
          obtain ⟨t108, A300, H⟩ := H
          replace H : (if 12 ≤ 16 then (if 16 ≤ (a0.size : Int) then (if 16 ≤ 20 then (if 20 ≤ (a0.size : Int) then (if 20 ≤ (ji21) then (if (ji21) ≤ t102 then (if t102 ≤ (a0.size : Int) then (some (t105, t106, t104 / 8192, Go.bits .and .i64 t104 8191, t107, t108, a0.extract 12 16, a0.extract 16 20, a0.extract 20 ((ji21) : Int).toNat, a0.extract ((ji21) : Int).toNat (t102 : Int).toNat, 0)) else (none)) else (none)) else (none)) else (none)) else (none)) else (none)) else (none)) = some (r1, r2, r3, r4, r5, r6, r7, r8, r9, r10, r11) := H
          have A30 := Aside0.mk A300
          clear A300
          by_cases c31 : 12 ≤ 16
          rotate_left
          ·rw [if_neg c31] at H
           exact absurd H (by simp)
          rw [if_pos c31] at H
          have c31b0 := eq_true c31
          have c31b1 : decide (12 ≤ 16) = true := decide_eq_true c31
          clear c31
          by_cases c32 : 16 ≤ (a0.size : Int)
          rotate_left
          ·rw [if_neg c32] at H
           exact absurd H (by simp)
          rw [if_pos c32] at H
          have c32b0 := eq_true c32
          have c32b1 : decide (16 ≤ (a0.size : Int)) = true := decide_eq_true c32
          clear c32
          by_cases c33 : 16 ≤ 20
          rotate_left
          ·rw [if_neg c33] at H
           exact absurd H (by simp)
          rw [if_pos c33] at H
          have c33b0 := eq_true c33
          have c33b1 : decide (16 ≤ 20) = true := decide_eq_true c33
          clear c33
          by_cases c34 : 20 ≤ (a0.size : Int)
          rotate_left
          ·rw [if_neg c34] at H
           exact absurd H (by simp)
          rw [if_pos c34] at H
          have c34b0 := eq_true c34
          have c34b1 : decide (20 ≤ (a0.size : Int)) = true := decide_eq_true c34
          clear c34
          by_cases c35 : 20 ≤ (ji21)
          rotate_left
          ·rw [if_neg c35] at H
           exact absurd H (by simp)
          rw [if_pos c35] at H
          have c35b0 := eq_true c35
          have c35b1 : decide (20 ≤ (ji21)) = true := decide_eq_true c35
          clear c35
          have c36b0 := eq_true (oD_ : (ji21) ≤ (a0.size : Int))
          have c37b0 := eq_true (oD_ : 0 ≤ (ji21))
          by_cases c38 : (ji21) ≤ t102
          rotate_left
          ·rw [if_neg c38] at H
           exact absurd H (by simp)
          rw [if_pos c38] at H
          have c38b0 := eq_true c38
          have c38b1 : decide ((ji21) ≤ t102) = true := decide_eq_true c38
          clear c38
          by_cases c39 : t102 ≤ (a0.size : Int)
          rotate_left
          ·rw [if_neg c39] at H
           exact absurd H (by simp)
          rw [if_pos c39] at H
          have c39b0 := eq_true c39
          have c39b1 : decide (t102 ≤ (a0.size : Int)) = true := decide_eq_true c39
          clear c39
          simp only [Option.some.injEq, Prod.mk.injEq] at H
          obtain ⟨rfl, rfl, rfl, rfl, rfl, rfl, rfl, rfl, rfl, rfl, rfl⟩ := H
          try go_wp2_with (first | ((with_reducible refine gate_callee (f := 16) rfl ?_); refine goesL_ (some 51) rfl rfl Try.func16 (by kernel_rfl) rfl #[.string (a0.extract 0 ((ji21) : Int).toNat)] rfl (by (try simp only [List.map_toArray, List.map_cons, List.map_nil]); first | done | (simp only [hji21]; rfl) | rfl | (simp only [List.length_drop, List.length_take]; rfl) | (simp only [ByteArray.size_append, ByteArray.size_extract, Nat.sub_zero, Int.natCast_add]; rfl) | (simp [ByteArray.size_append]; done)) ?_; (with_reducible refine (octet_Sum.calls kj16 (a0.extract 0 ((ji21) : Int).toNat) t103 _ A24.out).mono ?_); rintro e w' ⟨rfl, ⟨nd, rfl⟩⟩; refine ⟨_, rfl, ?_⟩; (try (rw [drewN_self wc]; generalize hq_ : World.drewN wc _ = wc; have n0_ : Aside0 (wc.heap[gb101]? = some (.cells #[.int .i64 0, .int .i64 0, .int .i64 0, .int .i64 0, .int .i64 0, .int .i64 0, .string ⟨#[]⟩, .string ⟨#[]⟩, .string ⟨#[]⟩] 27 (0, 0))) := ⟨by rw [← hq_]; exact (by (with_reducible repeat first | apply pN_ | apply pD_ | apply pA_); exact BK101.out)⟩; have n1_ : Aside0 (Below w.heap.size w wc) := ⟨by rw [← hq_]; exact (bU_ HB.out)⟩; clear BK101 HB hq_; have BK101 := n0_; have HB := n1_; clear n0_ n1_))) | ((with_reducible refine gate_callee (f := 17) rfl ?_); refine gL_ (some 55) rfl rfl Try.func17 (by kernel_rfl) rfl #[.string a0, .int .i64 6, .int .i64 2] rfl ?_; (with_reducible refine (ipfour_take.calls kj16 a0 6 2 t104 _ A26.out).mono ?_); rintro e w40 ⟨rfl, hb⟩; refine ⟨_, rfl, ?_⟩; have n0_ := Aside0.mk (bB_ BK101.out hb); have n1_ := Aside0.mk (below_step (bU_ HB.out) hb); clear BK101 HB; have BK101 := n0_; have HB := n1_; clear n0_ n1_; (try clear hb); (try clear hb2); (try clear hk); (try clear hi)))
          have n0_ := Aside0.mk (blk_drew BK101.out)
          have n1_ := Aside0.mk (below_drew1 HB.out)
          clear BK101
          clear HB
          have BK101 := n0_
          have HB := n1_
          clear n0_ n1_
          refine start_ (n := 22) (S := fun w' => True) (ds := []) #[false, false, false, false, false, false, false, false, false, false, false, false, false, false, false, false, false, false, false, false, false, false] (by kernel_rfl) rfl rfl trivial (fun hHeld => ?_); refine with_tabW ipfour_Take.tab13 ipfour_Take.bits13 (fun HT_ HW_ => ?_)
          generalize w40.drew = w41 at BK101 HB hHeld ⊢
          refine pure_ (i := 0) (N := some 56) (v := ?_) (a' := ?_) #[true, false, false, false, false, false, false, false, false, false, false, false, false, false, false, false, false, false, false, false, false, false] rfl rfl (any_of HT_.out (by kernel_rfl)) (fun _ _ _ h => h) (Or.inl ⟨by rfl, ?_⟩) ?_ ?_
          rotate_left
          ·intro w'
           go_simp
           with_reducible rfl
          rotate_left
          ·simp only [Act.put, s1_, s2_, s3_, i64_w, i32_w]
           rfl
          refine pure_ (i := 2) (N := some 58) (v := ?_) (a' := ?_) #[true, false, true, false, false, false, false, false, false, false, false, false, false, false, false, false, false, false, false, false, false, false] rfl rfl (any_of HT_.out (by kernel_rfl)) (fun _ _ _ h => h) (Or.inl ⟨by rfl, ?_⟩) ?_ ?_
          rotate_left
          ·intro w'
           go_simp
           with_reducible rfl
          rotate_left
          ·simp only [Act.put, s1_, s2_, s3_, i64_w, i32_w]
           rfl
          refine pure_ (i := 4) (N := some 60) (v := ?_) (a' := ?_) #[true, false, true, false, true, false, false, false, false, false, false, false, false, false, false, false, false, false, false, false, false, false] rfl rfl (any_of HT_.out (by kernel_rfl)) (fun _ _ _ h => h) (Or.inl ⟨by rfl, ?_⟩) ?_ ?_
          rotate_left
          ·intro w'
           go_simp
           with_reducible rfl
          rotate_left
          ·simp only [Act.put, s1_, s2_, s3_, i64_w, i32_w]
           rfl
          refine pure_ (i := 5) (N := some 61) (v := ?_) (a' := ?_) #[true, false, true, false, true, true, false, false, false, false, false, false, false, false, false, false, false, false, false, false, false, false] rfl rfl (any_of HT_.out (by kernel_rfl)) (fun _ _ _ h => h) (Or.inl ⟨by rfl, ?_⟩) ?_ ?_
          rotate_left
          ·intro w'
           go_simp
           with_reducible rfl
          rotate_left
          ·simp only [Act.put, s1_, s2_, s3_, i64_w, i32_w]
           rfl
          refine pure_ (i := 6) (N := some 62) (v := ?_) (a' := ?_) #[true, false, true, false, true, true, true, false, false, false, false, false, false, false, false, false, false, false, false, false, false, false] rfl rfl (any_of HT_.out (by kernel_rfl)) (fun _ _ _ h => h) (Or.inl ⟨by rfl, ?_⟩) ?_ ?_
          rotate_left
          ·intro w'
           go_simp
           with_reducible rfl
          rotate_left
          ·simp only [Act.put, s1_, s2_, s3_, i64_w, i32_w]
           rfl
          refine pure_ (i := 7) (N := some 63) (v := ?_) (a' := ?_) #[true, false, true, false, true, true, true, true, false, false, false, false, false, false, false, false, false, false, false, false, false, false] rfl rfl (any_of HT_.out (by kernel_rfl)) (fun _ _ _ h => h) (Or.inl ⟨by rfl, ?_⟩) ?_ ?_
          rotate_left
          ·intro w'
           go_simp
           with_reducible rfl
          rotate_left
          ·simp only [Act.put, s1_, s2_, s3_, i64_w, i32_w]
           rfl
          refine pure_ (i := 8) (N := some 64) (v := ?_) (a' := ?_) #[true, false, true, false, true, true, true, true, true, false, false, false, false, false, false, false, false, false, false, false, false, false] rfl rfl (any_of HT_.out (by kernel_rfl)) (fun _ _ _ h => h) (Or.inl ⟨by rfl, ?_⟩) ?_ ?_
          rotate_left
          ·intro w'
           go_simp
           with_reducible rfl
          rotate_left
          ·simp only [Act.put, s1_, s2_, s3_, i64_w, i32_w]
           rfl
          refine pure_ (i := 10) (N := some 66) (v := ?_) (a' := ?_) #[true, false, true, false, true, true, true, true, true, false, true, false, false, false, false, false, false, false, false, false, false, false] rfl rfl (any_of HT_.out (by kernel_rfl)) (fun _ _ _ h => h) (Or.inl ⟨by rfl, ?_⟩) ?_ ?_
          rotate_left
          ·intro w'
           go_simp
           with_reducible rfl
          rotate_left
          ·simp only [Act.put, s1_, s2_, s3_, i64_w, i32_w]
           rfl
          refine pure_ (i := 12) (N := some 68) (v := ?_) (a' := ?_) #[true, false, true, false, true, true, true, true, true, false, true, false, true, false, false, false, false, false, false, false, false, false] rfl rfl (any_of HT_.out (by kernel_rfl)) (fun _ _ _ h => h) (Or.inl ⟨by rfl, ?_⟩) ?_ ?_
          rotate_left
          ·intro w'
           go_simp
           with_reducible rfl
          rotate_left
          ·simp only [Act.put, s1_, s2_, s3_, i64_w, i32_w]
           rfl
          refine pure_ (i := 13) (N := some 69) (v := ?_) (a' := ?_) #[true, false, true, false, true, true, true, true, true, false, true, false, true, true, false, false, false, false, false, false, false, false] rfl rfl (any_of HT_.out (by kernel_rfl)) (fun _ _ _ h => h) (Or.inl ⟨by rfl, ?_⟩) ?_ ?_
          rotate_left
          ·intro w'
           go_simp
           with_reducible rfl
          rotate_left
          ·simp only [Act.put, s1_, s2_, s3_, i64_w, i32_w]
           rfl
          refine pure_ (i := 14) (N := some 70) (v := ?_) (a' := ?_) #[true, false, true, false, true, true, true, true, true, false, true, false, true, true, true, false, false, false, false, false, false, false] rfl rfl (any_of HT_.out (by kernel_rfl)) (fun _ _ _ h => h) (Or.inl ⟨by rfl, ?_⟩) ?_ ?_
          rotate_left
          ·intro w'
           go_simp
           with_reducible rfl
          rotate_left
          ·simp only [Act.put, s1_, s2_, s3_, i64_w, i32_w]
           rfl
          refine pure_ (i := 15) (N := some 71) (v := ?_) (a' := ?_) #[true, false, true, false, true, true, true, true, true, false, true, false, true, true, true, true, false, false, false, false, false, false] rfl rfl (any_of HT_.out (by kernel_rfl)) (fun _ _ _ h => h) (Or.inl ⟨by rfl, ?_⟩) ?_ ?_
          rotate_left
          ·intro w'
           go_simp
           with_reducible rfl
          rotate_left
          ·simp only [Act.put, s1_, s2_, s3_, i64_w, i32_w]
           rfl
          refine pure_ (i := 16) (N := some 72) (v := ?_) (a' := ?_) #[true, false, true, false, true, true, true, true, true, false, true, false, true, true, true, true, true, false, false, false, false, false] rfl rfl (any_of HT_.out (by kernel_rfl)) (fun _ _ _ h => h) (Or.inl ⟨by rfl, ?_⟩) ?_ ?_
          rotate_left
          ·intro w'
           go_simp
           with_reducible rfl
          rotate_left
          ·simp only [Act.put, s1_, s2_, s3_, i64_w, i32_w]
           rfl
          refine pure_ (i := 17) (N := some 73) (v := ?_) (a' := ?_) #[true, false, true, false, true, true, true, true, true, false, true, false, true, true, true, true, true, true, false, false, false, false] rfl rfl (any_of HT_.out (by kernel_rfl)) (fun _ _ _ h => h) (Or.inl ⟨by rfl, ?_⟩) ?_ ?_
          rotate_left
          ·intro w'
           go_simp
           with_reducible rfl
          rotate_left
          ·simp only [Act.put, s1_, s2_, s3_, i64_w, i32_w]
           rfl
          refine pure_ (i := 18) (N := some 74) (v := ?_) (a' := ?_) #[true, false, true, false, true, true, true, true, true, false, true, false, true, true, true, true, true, true, true, false, false, false] rfl rfl (any_of HT_.out (by kernel_rfl)) (fun _ _ _ h => h) (Or.inl ⟨by rfl, ?_⟩) ?_ ?_
          rotate_left
          ·intro w'
           go_simp
           with_reducible rfl
          rotate_left
          ·simp only [Act.put, s1_, s2_, s3_, i64_w, i32_w]
           rfl
          refine join_ (σ := Nat) 1 #[true, true, true, true, true, true, true, true, true, true, true, true, true, true, true, true, true, true, true, true, true, false] (fun s_ => [(57, .int .i64 t105), (59, .int .i64 t106), (65, .int .i64 t107), (67, .int .i64 t108), (8, .pointer (some ⟨s_, 0, none⟩)), (75, .agg #[.int .i64 t105, .int .i64 t106, .int .i64 (t104 / 8192), .int .i64 (Go.bits .and .i64 t104 8191), .int .i64 t107, .int .i64 t108, .string (a0.extract 12 16), .string (a0.extract 16 20), .string (a0.extract 20 ((ji21) : Int).toNat)])]) (fun s_ w' => (w'.heap[gb101]? = some (.cells #[.int .i64 0, .int .i64 0, .int .i64 0, .int .i64 0, .int .i64 0, .int .i64 0, .string ⟨#[]⟩, .string ⟨#[]⟩, .string ⟨#[]⟩] 27 (0, 0))) ∧ (w'.heap[s_]? = some (.cells #[.int .i64 0, .int .i64 0, .int .i64 0, .int .i64 0, .int .i64 0, .int .i64 0, .string ⟨#[]⟩, .string ⟨#[]⟩, .string ⟨#[]⟩] 27 (0, 0))) ∧ (w.heap.size ≤ s_) ∧ (w.heap.size ≤ s_) ∧ (gb101 ≠ s_) ∧ (s_ ≠ gb101) ∧ (Below w.heap.size w w')) ?_ ?_
          rotate_left
          ·intro hJ1_3_9_11_20
           refine join_ (σ := Unit) 2 #[true, true, true, true, true, true, true, true, true, true, true, true, true, true, true, true, true, true, true, true, false, false] (fun s_ => [(57, .int .i64 t105), (59, .int .i64 t106), (65, .int .i64 t107), (67, .int .i64 t108), (75, .agg #[.int .i64 t105, .int .i64 t106, .int .i64 (t104 / 8192), .int .i64 (Go.bits .and .i64 t104 8191), .int .i64 t107, .int .i64 t108, .string (a0.extract 12 16), .string (a0.extract 16 20), .string (a0.extract 20 ((ji21) : Int).toNat)])]) (fun s_ w' => (w'.heap[gb101]? = some (.cells #[.int .i64 0, .int .i64 0, .int .i64 0, .int .i64 0, .int .i64 0, .int .i64 0, .string ⟨#[]⟩, .string ⟨#[]⟩, .string ⟨#[]⟩] 27 (0, 0))) ∧ (Below w.heap.size w w')) ?_ ?_
           rotate_left
           ·intro hJ1_3_9_11
            refine join_ (σ := Nat) 3 #[true, true, true, true, true, true, true, true, true, true, true, false, true, true, true, true, true, true, true, false, true, false] (fun s_ => [(57, .int .i64 t105), (59, .int .i64 t106), (65, .int .i64 t107), (8, .pointer (some ⟨s_, 0, none⟩))]) (fun s_ w' => (w'.heap[gb101]? = some (.cells #[.int .i64 0, .int .i64 0, .int .i64 0, .int .i64 0, .int .i64 0, .int .i64 0, .string ⟨#[]⟩, .string ⟨#[]⟩, .string ⟨#[]⟩] 27 (0, 0))) ∧ (w'.heap[s_]? = some (.cells #[.int .i64 0, .int .i64 0, .int .i64 0, .int .i64 0, .int .i64 0, .int .i64 0, .string ⟨#[]⟩, .string ⟨#[]⟩, .string ⟨#[]⟩] 27 (0, 0))) ∧ (w.heap.size ≤ s_) ∧ (w.heap.size ≤ s_) ∧ (gb101 ≠ s_) ∧ (s_ ≠ gb101) ∧ (Below w.heap.size w w')) ?_ ?_
            rotate_left
            ·intro hJ1_3_9_20
             refine join_ (σ := Unit) 4 #[true, true, true, true, true, true, true, true, true, true, true, false, true, true, true, true, true, true, true, false, false, false] (fun s_ => [(57, .int .i64 t105), (59, .int .i64 t106), (65, .int .i64 t107)]) (fun s_ w' => (w'.heap[gb101]? = some (.cells #[.int .i64 0, .int .i64 0, .int .i64 0, .int .i64 0, .int .i64 0, .int .i64 0, .string ⟨#[]⟩, .string ⟨#[]⟩, .string ⟨#[]⟩] 27 (0, 0))) ∧ (Below w.heap.size w w')) ?_ ?_
             rotate_left
             ·intro hJ1_3_9
              refine join_ (σ := Nat) 4 #[true, true, true, true, true, true, true, true, true, false, true, false, true, true, true, true, true, true, true, false, true, false] (fun s_ => [(57, .int .i64 t105), (59, .int .i64 t106), (8, .pointer (some ⟨s_, 0, none⟩))]) (fun s_ w' => (w'.heap[gb101]? = some (.cells #[.int .i64 0, .int .i64 0, .int .i64 0, .int .i64 0, .int .i64 0, .int .i64 0, .string ⟨#[]⟩, .string ⟨#[]⟩, .string ⟨#[]⟩] 27 (0, 0))) ∧ (w'.heap[s_]? = some (.cells #[.int .i64 0, .int .i64 0, .int .i64 0, .int .i64 0, .int .i64 0, .int .i64 0, .string ⟨#[]⟩, .string ⟨#[]⟩, .string ⟨#[]⟩] 27 (0, 0))) ∧ (w.heap.size ≤ s_) ∧ (w.heap.size ≤ s_) ∧ (gb101 ≠ s_) ∧ (s_ ≠ gb101) ∧ (Below w.heap.size w w')) ?_ ?_
              rotate_left
              ·intro hJ1_3_20
               refine join_ (σ := Unit) 5 #[true, true, true, true, true, true, true, true, true, false, true, false, true, true, true, true, true, true, true, false, false, false] (fun s_ => [(57, .int .i64 t105), (59, .int .i64 t106)]) (fun s_ w' => (w'.heap[gb101]? = some (.cells #[.int .i64 0, .int .i64 0, .int .i64 0, .int .i64 0, .int .i64 0, .int .i64 0, .string ⟨#[]⟩, .string ⟨#[]⟩, .string ⟨#[]⟩] 27 (0, 0))) ∧ (Below w.heap.size w w')) ?_ ?_
               rotate_left
               ·intro hJ1_3
                refine join_ (σ := Nat) 5 #[true, true, true, false, true, true, true, true, true, false, true, false, true, true, true, true, true, true, true, false, true, false] (fun s_ => [(57, .int .i64 t105), (8, .pointer (some ⟨s_, 0, none⟩))]) (fun s_ w' => (w'.heap[gb101]? = some (.cells #[.int .i64 0, .int .i64 0, .int .i64 0, .int .i64 0, .int .i64 0, .int .i64 0, .string ⟨#[]⟩, .string ⟨#[]⟩, .string ⟨#[]⟩] 27 (0, 0))) ∧ (w'.heap[s_]? = some (.cells #[.int .i64 0, .int .i64 0, .int .i64 0, .int .i64 0, .int .i64 0, .int .i64 0, .string ⟨#[]⟩, .string ⟨#[]⟩, .string ⟨#[]⟩] 27 (0, 0))) ∧ (w.heap.size ≤ s_) ∧ (w.heap.size ≤ s_) ∧ (gb101 ≠ s_) ∧ (s_ ≠ gb101) ∧ (Below w.heap.size w w')) ?_ ?_
                rotate_left
                ·intro hJ1_20
                 refine join_ (σ := Unit) 6 #[true, true, true, false, true, true, true, true, true, false, true, false, true, true, true, true, true, true, true, false, false, false] (fun s_ => [(57, .int .i64 t105)]) (fun s_ w' => (w'.heap[gb101]? = some (.cells #[.int .i64 0, .int .i64 0, .int .i64 0, .int .i64 0, .int .i64 0, .int .i64 0, .string ⟨#[]⟩, .string ⟨#[]⟩, .string ⟨#[]⟩] 27 (0, 0))) ∧ (Below w.heap.size w w')) ?_ ?_
                 rotate_left
                 ·intro hJ1
                  refine join_ (σ := Nat) 6 #[true, false, true, false, true, true, true, true, true, false, true, false, true, true, true, true, true, true, true, false, true, false] (fun s_ => [(8, .pointer (some ⟨s_, 0, none⟩))]) (fun s_ w' => (w'.heap[gb101]? = some (.cells #[.int .i64 0, .int .i64 0, .int .i64 0, .int .i64 0, .int .i64 0, .int .i64 0, .string ⟨#[]⟩, .string ⟨#[]⟩, .string ⟨#[]⟩] 27 (0, 0))) ∧ (w'.heap[s_]? = some (.cells #[.int .i64 0, .int .i64 0, .int .i64 0, .int .i64 0, .int .i64 0, .int .i64 0, .string ⟨#[]⟩, .string ⟨#[]⟩, .string ⟨#[]⟩] 27 (0, 0))) ∧ (w.heap.size ≤ s_) ∧ (w.heap.size ≤ s_) ∧ (gb101 ≠ s_) ∧ (s_ ≠ gb101) ∧ (Below w.heap.size w w')) ?_ ?_
                  rotate_left
                  ·intro hJ20
                   refine two_ (i := 1) (j := 20) (Ni := some 57) (Nj := some 8) #[true, true, true, false, true, true, true, true, true, false, true, false, true, true, true, true, true, true, true, false, false, false] #[true, false, true, false, true, true, true, true, true, false, true, false, true, true, true, true, true, true, true, false, true, false] rfl rfl rfl rfl (two_of HT_.out (by kernel_rfl)) (by decide) (by decide) (fun K hK => ?_) (fun K hK => ?_)
                   ·skip
                    refine goes_ Try.func17 (by kernel_rfl) rfl #[.string a0, .int .i64 1, .int .i64 1] (by rfl) rfl rfl (by (try simp only [List.map_toArray, List.map_cons, List.map_nil]); first | done | rfl | (simp only [List.length_drop, List.length_take]; rfl) | (simp only [ByteArray.size_append, ByteArray.size_extract, Nat.sub_zero, Int.natCast_add]; rfl) | (simp [ByteArray.size_append]; done)) ?_
                    with_reducible refine (ipfour_take.calls kj16 a0 1 1 t105 _ A27.out).mono ?_
                    rintro e w42 ⟨rfl, hb⟩
                    refine ⟨_, rfl, ?_⟩
                    have n0_ := Aside0.mk (bB_ BK101.out hb)
                    have n1_ := Aside0.mk (below_step (bU_ HB.out) hb)
                    clear BK101
                    clear HB
                    have BK101 := n0_
                    have HB := n1_
                    clear n0_ n1_
                    (try clear hb)
                    (try clear hb2)
                    (try clear hk)
                    (try clear hi)
                    refine hK.out _ _ trivial (fun hHeld => ?_)
                    clear hK K
                    refine norm_ (a' := ?_) ?_ ?_
                    rotate_left
                    ·show Act.put _ (some 57) _ = _
                     simp only [Act.put, s1_, s2_, s3_, i64_w, i32_w]
                     rfl
                    exact norm_ (by first | (simp only [putAll, Act.put, s1_, s2_, s3_]; done) | (simp only [putAll, Act.put, s1_, s2_, s3_]; rfl)) (hJ1 () _ ⟨(by (with_reducible repeat first | apply pN_ | apply pD_ | apply pA_); exact BK101.out), (bU_ HB.out)⟩)
                   ·skip
                    refine box_step ?hg (N := 8) ?hd (cs := Z7_0) (t := 27) ?hr ?_; (case hd => rfl); (case hg => rfl); (case hr => first | (go_simp; done) | (go_simp; rfl))
                    intro gb109 hg w42 hbox hb
                    have n0_ := Aside0.mk (bB_ BK101.out hb)
                    have n1_ := Aside0.mk (below_step (bU_ HB.out) hb)
                    have n2_ := Aside0.mk (hbox)
                    have n3_ := Aside0.mk (bZ_ hg (bU_ HB.out) : w.heap.size ≤ gb109)
                    have n4_ := Aside0.mk (bZ_ hg (bU_ HB.out) : w.heap.size ≤ gb109)
                    have n5_ := Aside0.mk ((bN_ hg BK101.out : gb101 ≠ gb109))
                    have n6_ := Aside0.mk ((by rw [hg]; exact Nat.ne_of_gt (blk_lt (g := gb101) (o := .cells Z7_0 27 (0, 0)) (by (with_reducible repeat first | apply pN_ | apply pD_ | apply pA_); exact BK101.out)) : gb109 ≠ gb101))
                    clear BK101
                    clear HB
                    have BK101 := n0_
                    have HB := n1_
                    have BK109 := n2_
                    have GW109 := n3_
                    have GE109 := n4_
                    have NB101_109 := n5_
                    have NB109_101 := n6_
                    clear n0_ n1_ n2_ n3_ n4_ n5_ n6_
                    clear hb hbox hg
                    refine hK.out _ _ trivial (fun hHeld => ?_)
                    clear hK K
                    refine norm_ (a' := ?_) ?_ ?_
                    rotate_left
                    ·show Act.put _ (some 8) _ = _
                     simp only [Act.put, s1_, s2_, s3_, i64_w, i32_w]
                     rfl
                    exact norm_ (by first | (simp only [putAll, Act.put, s1_, s2_, s3_]; done) | (simp only [putAll, Act.put, s1_, s2_, s3_]; rfl)) (hJ20 (gb109) _ ⟨(by (with_reducible repeat first | apply pN_ | apply pD_ | apply pA_); exact BK101.out), (by (with_reducible repeat first | apply pN_ | apply pD_ | apply pA_); exact BK109.out), GW109.out, GE109.out, NB101_109.out, NB109_101.out, (bU_ HB.out)⟩)
                  ·skip
                   rintro gb109 w43 ⟨h0_, h1_, h2_, h3_, h4_, h5_, h6_⟩
                   have n0_ : Aside0 (w43.heap[gb101]? = some (.cells #[.int .i64 0, .int .i64 0, .int .i64 0, .int .i64 0, .int .i64 0, .int .i64 0, .string ⟨#[]⟩, .string ⟨#[]⟩, .string ⟨#[]⟩] 27 (0, 0))) := ⟨h0_⟩
                   have n1_ : Aside0 (w43.heap[gb109]? = some (.cells #[.int .i64 0, .int .i64 0, .int .i64 0, .int .i64 0, .int .i64 0, .int .i64 0, .string ⟨#[]⟩, .string ⟨#[]⟩, .string ⟨#[]⟩] 27 (0, 0))) := ⟨h1_⟩
                   have n2_ : Aside0 (w.heap.size ≤ gb109) := ⟨h2_⟩
                   have n3_ : Aside0 (w.heap.size ≤ gb109) := ⟨h3_⟩
                   have n4_ : Aside0 (gb101 ≠ gb109) := ⟨h4_⟩
                   have n5_ : Aside0 (gb109 ≠ gb101) := ⟨h5_⟩
                   have n6_ : Aside0 (Below w.heap.size w w43) := ⟨h6_⟩
                   clear BK101
                   clear HB
                   clear h0_ h1_ h2_ h3_ h4_ h5_ h6_
                   have BK101 := n0_
                   have BK109 := n1_
                   have GW109 := n2_
                   have GE109 := n3_
                   have NB101_109 := n4_
                   have NB109_101 := n5_
                   have HB := n6_
                   clear n0_ n1_ n2_ n3_ n4_ n5_ n6_
                   have hHeld := trivial
                   refine norm_ (a' := ?_) ?_ ?_
                   rotate_left
                   ·simp only [putAll, Act.put, s1_, s2_, s3_]
                    rfl
                   refine one_ (i := 1) (N := some 57) #[true, true, true, false, true, true, true, true, true, false, true, false, true, true, true, true, true, true, true, false, true, false] rfl rfl (one_of HT_.out (by kernel_rfl)) (by decide) (fun K hK => ?_)
                   refine goes_ Try.func17 (by kernel_rfl) rfl #[.string a0, .int .i64 1, .int .i64 1] (by rfl) rfl rfl (by (try simp only [List.map_toArray, List.map_cons, List.map_nil]); first | done | rfl | (simp only [List.length_drop, List.length_take]; rfl) | (simp only [ByteArray.size_append, ByteArray.size_extract, Nat.sub_zero, Int.natCast_add]; rfl) | (simp [ByteArray.size_append]; done)) ?_
                   with_reducible refine (ipfour_take.calls kj16 a0 1 1 t105 _ A27.out).mono ?_
                   rintro e w44 ⟨rfl, hb⟩
                   refine ⟨_, rfl, ?_⟩
                   have n0_ := Aside0.mk (bB_ BK101.out hb)
                   have n1_ := Aside0.mk (bB_ BK109.out hb)
                   have n2_ := Aside0.mk (below_step (bU_ HB.out) hb)
                   clear BK101
                   clear BK109
                   clear HB
                   have BK101 := n0_
                   have BK109 := n1_
                   have HB := n2_
                   clear n0_ n1_ n2_
                   (try clear hb)
                   (try clear hb2)
                   (try clear hk)
                   (try clear hi)
                   refine hK.out _ _ trivial (fun hHeld => ?_)
                   clear hK K
                   refine norm_ (a' := ?_) ?_ ?_
                   rotate_left
                   ·show Act.put _ (some 57) _ = _
                    simp only [Act.put, s1_, s2_, s3_, i64_w, i32_w]
                    rfl
                   exact norm_ (by first | (simp only [putAll, Act.put, s1_, s2_, s3_]; done) | (simp only [putAll, Act.put, s1_, s2_, s3_]; rfl)) (hJ1_20 (gb109) _ ⟨(by (with_reducible repeat first | apply pN_ | apply pD_ | apply pA_); exact BK101.out), (by (with_reducible repeat first | apply pN_ | apply pD_ | apply pA_); exact BK109.out), GW109.out, GE109.out, NB101_109.out, NB109_101.out, (bU_ HB.out)⟩)
                 ·skip
                  rintro _ w43 ⟨h0_, h1_⟩
                  have n0_ : Aside0 (w43.heap[gb101]? = some (.cells #[.int .i64 0, .int .i64 0, .int .i64 0, .int .i64 0, .int .i64 0, .int .i64 0, .string ⟨#[]⟩, .string ⟨#[]⟩, .string ⟨#[]⟩] 27 (0, 0))) := ⟨h0_⟩
                  have n1_ : Aside0 (Below w.heap.size w w43) := ⟨h1_⟩
                  clear BK101
                  clear HB
                  clear h0_ h1_
                  have BK101 := n0_
                  have HB := n1_
                  clear n0_ n1_
                  have hHeld := trivial
                  refine norm_ (a' := ?_) ?_ ?_
                  rotate_left
                  ·simp only [putAll, Act.put, s1_, s2_, s3_]
                   rfl
                  refine two_ (i := 3) (j := 20) (Ni := some 59) (Nj := some 8) #[true, true, true, true, true, true, true, true, true, false, true, false, true, true, true, true, true, true, true, false, false, false] #[true, true, true, false, true, true, true, true, true, false, true, false, true, true, true, true, true, true, true, false, true, false] rfl rfl rfl rfl (two_of HT_.out (by kernel_rfl)) (by decide) (by decide) (fun K hK => ?_) (fun K hK => ?_)
                  ·skip
                   refine goes_ Try.func17 (by kernel_rfl) rfl #[.string a0, .int .i64 4, .int .i64 2] (by rfl) rfl rfl (by (try simp only [List.map_toArray, List.map_cons, List.map_nil]); first | done | rfl | (simp only [List.length_drop, List.length_take]; rfl) | (simp only [ByteArray.size_append, ByteArray.size_extract, Nat.sub_zero, Int.natCast_add]; rfl) | (simp [ByteArray.size_append]; done)) ?_
                   with_reducible refine (ipfour_take.calls kj16 a0 4 2 t106 _ A28.out).mono ?_
                   rintro e w44 ⟨rfl, hb⟩
                   refine ⟨_, rfl, ?_⟩
                   have n0_ := Aside0.mk (bB_ BK101.out hb)
                   have n1_ := Aside0.mk (below_step (bU_ HB.out) hb)
                   clear BK101
                   clear HB
                   have BK101 := n0_
                   have HB := n1_
                   clear n0_ n1_
                   (try clear hb)
                   (try clear hb2)
                   (try clear hk)
                   (try clear hi)
                   refine hK.out _ _ trivial (fun hHeld => ?_)
                   clear hK K
                   refine norm_ (a' := ?_) ?_ ?_
                   rotate_left
                   ·show Act.put _ (some 59) _ = _
                    simp only [Act.put, s1_, s2_, s3_, i64_w, i32_w]
                    rfl
                   exact norm_ (by first | (simp only [putAll, Act.put, s1_, s2_, s3_]; done) | (simp only [putAll, Act.put, s1_, s2_, s3_]; rfl)) (hJ1_3 () _ ⟨(by (with_reducible repeat first | apply pN_ | apply pD_ | apply pA_); exact BK101.out), (bU_ HB.out)⟩)
                  ·skip
                   refine box_step ?hg (N := 8) ?hd (cs := Z7_0) (t := 27) ?hr ?_; (case hd => rfl); (case hg => rfl); (case hr => first | (go_simp; done) | (go_simp; rfl))
                   intro gb109 hg w44 hbox hb
                   have n0_ := Aside0.mk (bB_ BK101.out hb)
                   have n1_ := Aside0.mk (below_step (bU_ HB.out) hb)
                   have n2_ := Aside0.mk (hbox)
                   have n3_ := Aside0.mk (bZ_ hg (bU_ HB.out) : w.heap.size ≤ gb109)
                   have n4_ := Aside0.mk (bZ_ hg (bU_ HB.out) : w.heap.size ≤ gb109)
                   have n5_ := Aside0.mk ((bN_ hg BK101.out : gb101 ≠ gb109))
                   have n6_ := Aside0.mk ((by rw [hg]; exact Nat.ne_of_gt (blk_lt (g := gb101) (o := .cells Z7_0 27 (0, 0)) (by (with_reducible repeat first | apply pN_ | apply pD_ | apply pA_); exact BK101.out)) : gb109 ≠ gb101))
                   clear BK101
                   clear HB
                   have BK101 := n0_
                   have HB := n1_
                   have BK109 := n2_
                   have GW109 := n3_
                   have GE109 := n4_
                   have NB101_109 := n5_
                   have NB109_101 := n6_
                   clear n0_ n1_ n2_ n3_ n4_ n5_ n6_
                   clear hb hbox hg
                   refine hK.out _ _ trivial (fun hHeld => ?_)
                   clear hK K
                   refine norm_ (a' := ?_) ?_ ?_
                   rotate_left
                   ·show Act.put _ (some 8) _ = _
                    simp only [Act.put, s1_, s2_, s3_, i64_w, i32_w]
                    rfl
                   exact norm_ (by first | (simp only [putAll, Act.put, s1_, s2_, s3_]; done) | (simp only [putAll, Act.put, s1_, s2_, s3_]; rfl)) (hJ1_20 (gb109) _ ⟨(by (with_reducible repeat first | apply pN_ | apply pD_ | apply pA_); exact BK101.out), (by (with_reducible repeat first | apply pN_ | apply pD_ | apply pA_); exact BK109.out), GW109.out, GE109.out, NB101_109.out, NB109_101.out, (bU_ HB.out)⟩)
                ·skip
                 rintro gb109 w44 ⟨h0_, h1_, h2_, h3_, h4_, h5_, h6_⟩
                 have n0_ : Aside0 (w44.heap[gb101]? = some (.cells #[.int .i64 0, .int .i64 0, .int .i64 0, .int .i64 0, .int .i64 0, .int .i64 0, .string ⟨#[]⟩, .string ⟨#[]⟩, .string ⟨#[]⟩] 27 (0, 0))) := ⟨h0_⟩
                 have n1_ : Aside0 (w44.heap[gb109]? = some (.cells #[.int .i64 0, .int .i64 0, .int .i64 0, .int .i64 0, .int .i64 0, .int .i64 0, .string ⟨#[]⟩, .string ⟨#[]⟩, .string ⟨#[]⟩] 27 (0, 0))) := ⟨h1_⟩
                 have n2_ : Aside0 (w.heap.size ≤ gb109) := ⟨h2_⟩
                 have n3_ : Aside0 (w.heap.size ≤ gb109) := ⟨h3_⟩
                 have n4_ : Aside0 (gb101 ≠ gb109) := ⟨h4_⟩
                 have n5_ : Aside0 (gb109 ≠ gb101) := ⟨h5_⟩
                 have n6_ : Aside0 (Below w.heap.size w w44) := ⟨h6_⟩
                 clear BK101
                 clear HB
                 clear h0_ h1_ h2_ h3_ h4_ h5_ h6_
                 have BK101 := n0_
                 have BK109 := n1_
                 have GW109 := n2_
                 have GE109 := n3_
                 have NB101_109 := n4_
                 have NB109_101 := n5_
                 have HB := n6_
                 clear n0_ n1_ n2_ n3_ n4_ n5_ n6_
                 have hHeld := trivial
                 refine norm_ (a' := ?_) ?_ ?_
                 rotate_left
                 ·simp only [putAll, Act.put, s1_, s2_, s3_]
                  rfl
                 refine one_ (i := 3) (N := some 59) #[true, true, true, true, true, true, true, true, true, false, true, false, true, true, true, true, true, true, true, false, true, false] rfl rfl (one_of HT_.out (by kernel_rfl)) (by decide) (fun K hK => ?_)
                 refine goes_ Try.func17 (by kernel_rfl) rfl #[.string a0, .int .i64 4, .int .i64 2] (by rfl) rfl rfl (by (try simp only [List.map_toArray, List.map_cons, List.map_nil]); first | done | rfl | (simp only [List.length_drop, List.length_take]; rfl) | (simp only [ByteArray.size_append, ByteArray.size_extract, Nat.sub_zero, Int.natCast_add]; rfl) | (simp [ByteArray.size_append]; done)) ?_
                 with_reducible refine (ipfour_take.calls kj16 a0 4 2 t106 _ A28.out).mono ?_
                 rintro e w45 ⟨rfl, hb⟩
                 refine ⟨_, rfl, ?_⟩
                 have n0_ := Aside0.mk (bB_ BK101.out hb)
                 have n1_ := Aside0.mk (bB_ BK109.out hb)
                 have n2_ := Aside0.mk (below_step (bU_ HB.out) hb)
                 clear BK101
                 clear BK109
                 clear HB
                 have BK101 := n0_
                 have BK109 := n1_
                 have HB := n2_
                 clear n0_ n1_ n2_
                 (try clear hb)
                 (try clear hb2)
                 (try clear hk)
                 (try clear hi)
                 refine hK.out _ _ trivial (fun hHeld => ?_)
                 clear hK K
                 refine norm_ (a' := ?_) ?_ ?_
                 rotate_left
                 ·show Act.put _ (some 59) _ = _
                  simp only [Act.put, s1_, s2_, s3_, i64_w, i32_w]
                  rfl
                 exact norm_ (by first | (simp only [putAll, Act.put, s1_, s2_, s3_]; done) | (simp only [putAll, Act.put, s1_, s2_, s3_]; rfl)) (hJ1_3_20 (gb109) _ ⟨(by (with_reducible repeat first | apply pN_ | apply pD_ | apply pA_); exact BK101.out), (by (with_reducible repeat first | apply pN_ | apply pD_ | apply pA_); exact BK109.out), GW109.out, GE109.out, NB101_109.out, NB109_101.out, (bU_ HB.out)⟩)
               ·skip
                rintro _ w44 ⟨h0_, h1_⟩
                have n0_ : Aside0 (w44.heap[gb101]? = some (.cells #[.int .i64 0, .int .i64 0, .int .i64 0, .int .i64 0, .int .i64 0, .int .i64 0, .string ⟨#[]⟩, .string ⟨#[]⟩, .string ⟨#[]⟩] 27 (0, 0))) := ⟨h0_⟩
                have n1_ : Aside0 (Below w.heap.size w w44) := ⟨h1_⟩
                clear BK101
                clear HB
                clear h0_ h1_
                have BK101 := n0_
                have HB := n1_
                clear n0_ n1_
                have hHeld := trivial
                refine norm_ (a' := ?_) ?_ ?_
                rotate_left
                ·simp only [putAll, Act.put, s1_, s2_, s3_]
                 rfl
                refine two_ (i := 9) (j := 20) (Ni := some 65) (Nj := some 8) #[true, true, true, true, true, true, true, true, true, true, true, false, true, true, true, true, true, true, true, false, false, false] #[true, true, true, true, true, true, true, true, true, false, true, false, true, true, true, true, true, true, true, false, true, false] rfl rfl rfl rfl (two_of HT_.out (by kernel_rfl)) (by decide) (by decide) (fun K hK => ?_) (fun K hK => ?_)
                ·skip
                 refine goes_ Try.func17 (by kernel_rfl) rfl #[.string a0, .int .i64 8, .int .i64 1] (by rfl) rfl rfl (by (try simp only [List.map_toArray, List.map_cons, List.map_nil]); first | done | rfl | (simp only [List.length_drop, List.length_take]; rfl) | (simp only [ByteArray.size_append, ByteArray.size_extract, Nat.sub_zero, Int.natCast_add]; rfl) | (simp [ByteArray.size_append]; done)) ?_
                 with_reducible refine (ipfour_take.calls kj16 a0 8 1 t107 _ A29.out).mono ?_
                 rintro e w45 ⟨rfl, hb⟩
                 refine ⟨_, rfl, ?_⟩
                 have n0_ := Aside0.mk (bB_ BK101.out hb)
                 have n1_ := Aside0.mk (below_step (bU_ HB.out) hb)
                 clear BK101
                 clear HB
                 have BK101 := n0_
                 have HB := n1_
                 clear n0_ n1_
                 (try clear hb)
                 (try clear hb2)
                 (try clear hk)
                 (try clear hi)
                 refine hK.out _ _ trivial (fun hHeld => ?_)
                 clear hK K
                 refine norm_ (a' := ?_) ?_ ?_
                 rotate_left
                 ·show Act.put _ (some 65) _ = _
                  simp only [Act.put, s1_, s2_, s3_, i64_w, i32_w]
                  rfl
                 exact norm_ (by first | (simp only [putAll, Act.put, s1_, s2_, s3_]; done) | (simp only [putAll, Act.put, s1_, s2_, s3_]; rfl)) (hJ1_3_9 () _ ⟨(by (with_reducible repeat first | apply pN_ | apply pD_ | apply pA_); exact BK101.out), (bU_ HB.out)⟩)
                ·skip
                 refine box_step ?hg (N := 8) ?hd (cs := Z7_0) (t := 27) ?hr ?_; (case hd => rfl); (case hg => rfl); (case hr => first | (go_simp; done) | (go_simp; rfl))
                 intro gb109 hg w45 hbox hb
                 have n0_ := Aside0.mk (bB_ BK101.out hb)
                 have n1_ := Aside0.mk (below_step (bU_ HB.out) hb)
                 have n2_ := Aside0.mk (hbox)
                 have n3_ := Aside0.mk (bZ_ hg (bU_ HB.out) : w.heap.size ≤ gb109)
                 have n4_ := Aside0.mk (bZ_ hg (bU_ HB.out) : w.heap.size ≤ gb109)
                 have n5_ := Aside0.mk ((bN_ hg BK101.out : gb101 ≠ gb109))
                 have n6_ := Aside0.mk ((by rw [hg]; exact Nat.ne_of_gt (blk_lt (g := gb101) (o := .cells Z7_0 27 (0, 0)) (by (with_reducible repeat first | apply pN_ | apply pD_ | apply pA_); exact BK101.out)) : gb109 ≠ gb101))
                 clear BK101
                 clear HB
                 have BK101 := n0_
                 have HB := n1_
                 have BK109 := n2_
                 have GW109 := n3_
                 have GE109 := n4_
                 have NB101_109 := n5_
                 have NB109_101 := n6_
                 clear n0_ n1_ n2_ n3_ n4_ n5_ n6_
                 clear hb hbox hg
                 refine hK.out _ _ trivial (fun hHeld => ?_)
                 clear hK K
                 refine norm_ (a' := ?_) ?_ ?_
                 rotate_left
                 ·show Act.put _ (some 8) _ = _
                  simp only [Act.put, s1_, s2_, s3_, i64_w, i32_w]
                  rfl
                 exact norm_ (by first | (simp only [putAll, Act.put, s1_, s2_, s3_]; done) | (simp only [putAll, Act.put, s1_, s2_, s3_]; rfl)) (hJ1_3_20 (gb109) _ ⟨(by (with_reducible repeat first | apply pN_ | apply pD_ | apply pA_); exact BK101.out), (by (with_reducible repeat first | apply pN_ | apply pD_ | apply pA_); exact BK109.out), GW109.out, GE109.out, NB101_109.out, NB109_101.out, (bU_ HB.out)⟩)
              ·skip
               rintro gb109 w45 ⟨h0_, h1_, h2_, h3_, h4_, h5_, h6_⟩
               have n0_ : Aside0 (w45.heap[gb101]? = some (.cells #[.int .i64 0, .int .i64 0, .int .i64 0, .int .i64 0, .int .i64 0, .int .i64 0, .string ⟨#[]⟩, .string ⟨#[]⟩, .string ⟨#[]⟩] 27 (0, 0))) := ⟨h0_⟩
               have n1_ : Aside0 (w45.heap[gb109]? = some (.cells #[.int .i64 0, .int .i64 0, .int .i64 0, .int .i64 0, .int .i64 0, .int .i64 0, .string ⟨#[]⟩, .string ⟨#[]⟩, .string ⟨#[]⟩] 27 (0, 0))) := ⟨h1_⟩
               have n2_ : Aside0 (w.heap.size ≤ gb109) := ⟨h2_⟩
               have n3_ : Aside0 (w.heap.size ≤ gb109) := ⟨h3_⟩
               have n4_ : Aside0 (gb101 ≠ gb109) := ⟨h4_⟩
               have n5_ : Aside0 (gb109 ≠ gb101) := ⟨h5_⟩
               have n6_ : Aside0 (Below w.heap.size w w45) := ⟨h6_⟩
               clear BK101
               clear HB
               clear h0_ h1_ h2_ h3_ h4_ h5_ h6_
               have BK101 := n0_
               have BK109 := n1_
               have GW109 := n2_
               have GE109 := n3_
               have NB101_109 := n4_
               have NB109_101 := n5_
               have HB := n6_
               clear n0_ n1_ n2_ n3_ n4_ n5_ n6_
               have hHeld := trivial
               refine norm_ (a' := ?_) ?_ ?_
               rotate_left
               ·simp only [putAll, Act.put, s1_, s2_, s3_]
                rfl
               refine one_ (i := 9) (N := some 65) #[true, true, true, true, true, true, true, true, true, true, true, false, true, true, true, true, true, true, true, false, true, false] rfl rfl (one_of HT_.out (by kernel_rfl)) (by decide) (fun K hK => ?_)
               refine goes_ Try.func17 (by kernel_rfl) rfl #[.string a0, .int .i64 8, .int .i64 1] (by rfl) rfl rfl (by (try simp only [List.map_toArray, List.map_cons, List.map_nil]); first | done | rfl | (simp only [List.length_drop, List.length_take]; rfl) | (simp only [ByteArray.size_append, ByteArray.size_extract, Nat.sub_zero, Int.natCast_add]; rfl) | (simp [ByteArray.size_append]; done)) ?_
               with_reducible refine (ipfour_take.calls kj16 a0 8 1 t107 _ A29.out).mono ?_
               rintro e w46 ⟨rfl, hb⟩
               refine ⟨_, rfl, ?_⟩
               have n0_ := Aside0.mk (bB_ BK101.out hb)
               have n1_ := Aside0.mk (bB_ BK109.out hb)
               have n2_ := Aside0.mk (below_step (bU_ HB.out) hb)
               clear BK101
               clear BK109
               clear HB
               have BK101 := n0_
               have BK109 := n1_
               have HB := n2_
               clear n0_ n1_ n2_
               (try clear hb)
               (try clear hb2)
               (try clear hk)
               (try clear hi)
               refine hK.out _ _ trivial (fun hHeld => ?_)
               clear hK K
               refine norm_ (a' := ?_) ?_ ?_
               rotate_left
               ·show Act.put _ (some 65) _ = _
                simp only [Act.put, s1_, s2_, s3_, i64_w, i32_w]
                rfl
               exact norm_ (by first | (simp only [putAll, Act.put, s1_, s2_, s3_]; done) | (simp only [putAll, Act.put, s1_, s2_, s3_]; rfl)) (hJ1_3_9_20 (gb109) _ ⟨(by (with_reducible repeat first | apply pN_ | apply pD_ | apply pA_); exact BK101.out), (by (with_reducible repeat first | apply pN_ | apply pD_ | apply pA_); exact BK109.out), GW109.out, GE109.out, NB101_109.out, NB109_101.out, (bU_ HB.out)⟩)
             ·skip
              rintro _ w45 ⟨h0_, h1_⟩
              have n0_ : Aside0 (w45.heap[gb101]? = some (.cells #[.int .i64 0, .int .i64 0, .int .i64 0, .int .i64 0, .int .i64 0, .int .i64 0, .string ⟨#[]⟩, .string ⟨#[]⟩, .string ⟨#[]⟩] 27 (0, 0))) := ⟨h0_⟩
              have n1_ : Aside0 (Below w.heap.size w w45) := ⟨h1_⟩
              clear BK101
              clear HB
              clear h0_ h1_
              have BK101 := n0_
              have HB := n1_
              clear n0_ n1_
              have hHeld := trivial
              refine norm_ (a' := ?_) ?_ ?_
              rotate_left
              ·simp only [putAll, Act.put, s1_, s2_, s3_]
               rfl
              refine two_ (i := 11) (j := 20) (Ni := some 67) (Nj := some 8) #[true, true, true, true, true, true, true, true, true, true, true, true, true, true, true, true, true, true, true, false, false, false] #[true, true, true, true, true, true, true, true, true, true, true, false, true, true, true, true, true, true, true, false, true, false] rfl rfl rfl rfl (two_of HT_.out (by kernel_rfl)) (by decide) (by decide) (fun K hK => ?_) (fun K hK => ?_)
              ·skip
               refine goes_ Try.func17 (by kernel_rfl) rfl #[.string a0, .int .i64 9, .int .i64 1] (by rfl) rfl rfl (by (try simp only [List.map_toArray, List.map_cons, List.map_nil]); first | done | rfl | (simp only [List.length_drop, List.length_take]; rfl) | (simp only [ByteArray.size_append, ByteArray.size_extract, Nat.sub_zero, Int.natCast_add]; rfl) | (simp [ByteArray.size_append]; done)) ?_
               with_reducible refine (ipfour_take.calls kj16 a0 9 1 t108 _ A30.out).mono ?_
               rintro e w46 ⟨rfl, hb⟩
               refine ⟨_, rfl, ?_⟩
               have n0_ := Aside0.mk (bB_ BK101.out hb)
               have n1_ := Aside0.mk (below_step (bU_ HB.out) hb)
               clear BK101
               clear HB
               have BK101 := n0_
               have HB := n1_
               clear n0_ n1_
               (try clear hb)
               (try clear hb2)
               (try clear hk)
               (try clear hi)
               refine hK.out _ _ trivial (fun hHeld => ?_)
               clear hK K
               refine norm_ (a' := ?_) ?_ ?_
               rotate_left
               ·show Act.put _ (some 67) _ = _
                simp only [Act.put, s1_, s2_, s3_, i64_w, i32_w]
                rfl
               refine pure_ (i := 19) (N := some 75) (v := ?_) (a' := ?_) #[true, true, true, true, true, true, true, true, true, true, true, true, true, true, true, true, true, true, true, true, false, false] rfl rfl (any_of HT_.out (by kernel_rfl)) (fun _ _ _ h => h) (Or.inl ⟨by rfl, ?_⟩) ?_ ?_
               rotate_left
               ·intro w'
                go_simp
                with_reducible rfl
               rotate_left
               ·simp only [Act.put, s1_, s2_, s3_, i64_w, i32_w]
                rfl
               exact norm_ (by first | (simp only [putAll, Act.put, s1_, s2_, s3_]; done) | (simp only [putAll, Act.put, s1_, s2_, s3_]; rfl)) (hJ1_3_9_11 () _ ⟨(by (with_reducible repeat first | apply pN_ | apply pD_ | apply pA_); exact BK101.out), (bU_ HB.out)⟩)
              ·skip
               refine box_step ?hg (N := 8) ?hd (cs := Z7_0) (t := 27) ?hr ?_; (case hd => rfl); (case hg => rfl); (case hr => first | (go_simp; done) | (go_simp; rfl))
               intro gb109 hg w46 hbox hb
               have n0_ := Aside0.mk (bB_ BK101.out hb)
               have n1_ := Aside0.mk (below_step (bU_ HB.out) hb)
               have n2_ := Aside0.mk (hbox)
               have n3_ := Aside0.mk (bZ_ hg (bU_ HB.out) : w.heap.size ≤ gb109)
               have n4_ := Aside0.mk (bZ_ hg (bU_ HB.out) : w.heap.size ≤ gb109)
               have n5_ := Aside0.mk ((bN_ hg BK101.out : gb101 ≠ gb109))
               have n6_ := Aside0.mk ((by rw [hg]; exact Nat.ne_of_gt (blk_lt (g := gb101) (o := .cells Z7_0 27 (0, 0)) (by (with_reducible repeat first | apply pN_ | apply pD_ | apply pA_); exact BK101.out)) : gb109 ≠ gb101))
               clear BK101
               clear HB
               have BK101 := n0_
               have HB := n1_
               have BK109 := n2_
               have GW109 := n3_
               have GE109 := n4_
               have NB101_109 := n5_
               have NB109_101 := n6_
               clear n0_ n1_ n2_ n3_ n4_ n5_ n6_
               clear hb hbox hg
               refine hK.out _ _ trivial (fun hHeld => ?_)
               clear hK K
               refine norm_ (a' := ?_) ?_ ?_
               rotate_left
               ·show Act.put _ (some 8) _ = _
                simp only [Act.put, s1_, s2_, s3_, i64_w, i32_w]
                rfl
               exact norm_ (by first | (simp only [putAll, Act.put, s1_, s2_, s3_]; done) | (simp only [putAll, Act.put, s1_, s2_, s3_]; rfl)) (hJ1_3_9_20 (gb109) _ ⟨(by (with_reducible repeat first | apply pN_ | apply pD_ | apply pA_); exact BK101.out), (by (with_reducible repeat first | apply pN_ | apply pD_ | apply pA_); exact BK109.out), GW109.out, GE109.out, NB101_109.out, NB109_101.out, (bU_ HB.out)⟩)
            ·skip
             rintro gb109 w46 ⟨h0_, h1_, h2_, h3_, h4_, h5_, h6_⟩
             have n0_ : Aside0 (w46.heap[gb101]? = some (.cells #[.int .i64 0, .int .i64 0, .int .i64 0, .int .i64 0, .int .i64 0, .int .i64 0, .string ⟨#[]⟩, .string ⟨#[]⟩, .string ⟨#[]⟩] 27 (0, 0))) := ⟨h0_⟩
             have n1_ : Aside0 (w46.heap[gb109]? = some (.cells #[.int .i64 0, .int .i64 0, .int .i64 0, .int .i64 0, .int .i64 0, .int .i64 0, .string ⟨#[]⟩, .string ⟨#[]⟩, .string ⟨#[]⟩] 27 (0, 0))) := ⟨h1_⟩
             have n2_ : Aside0 (w.heap.size ≤ gb109) := ⟨h2_⟩
             have n3_ : Aside0 (w.heap.size ≤ gb109) := ⟨h3_⟩
             have n4_ : Aside0 (gb101 ≠ gb109) := ⟨h4_⟩
             have n5_ : Aside0 (gb109 ≠ gb101) := ⟨h5_⟩
             have n6_ : Aside0 (Below w.heap.size w w46) := ⟨h6_⟩
             clear BK101
             clear HB
             clear h0_ h1_ h2_ h3_ h4_ h5_ h6_
             have BK101 := n0_
             have BK109 := n1_
             have GW109 := n2_
             have GE109 := n3_
             have NB101_109 := n4_
             have NB109_101 := n5_
             have HB := n6_
             clear n0_ n1_ n2_ n3_ n4_ n5_ n6_
             have hHeld := trivial
             refine norm_ (a' := ?_) ?_ ?_
             rotate_left
             ·simp only [putAll, Act.put, s1_, s2_, s3_]
              rfl
             refine one_ (i := 11) (N := some 67) #[true, true, true, true, true, true, true, true, true, true, true, true, true, true, true, true, true, true, true, false, true, false] rfl rfl (one_of HT_.out (by kernel_rfl)) (by decide) (fun K hK => ?_)
             refine goes_ Try.func17 (by kernel_rfl) rfl #[.string a0, .int .i64 9, .int .i64 1] (by rfl) rfl rfl (by (try simp only [List.map_toArray, List.map_cons, List.map_nil]); first | done | rfl | (simp only [List.length_drop, List.length_take]; rfl) | (simp only [ByteArray.size_append, ByteArray.size_extract, Nat.sub_zero, Int.natCast_add]; rfl) | (simp [ByteArray.size_append]; done)) ?_
             with_reducible refine (ipfour_take.calls kj16 a0 9 1 t108 _ A30.out).mono ?_
             rintro e w47 ⟨rfl, hb⟩
             refine ⟨_, rfl, ?_⟩
             have n0_ := Aside0.mk (bB_ BK101.out hb)
             have n1_ := Aside0.mk (bB_ BK109.out hb)
             have n2_ := Aside0.mk (below_step (bU_ HB.out) hb)
             clear BK101
             clear BK109
             clear HB
             have BK101 := n0_
             have BK109 := n1_
             have HB := n2_
             clear n0_ n1_ n2_
             (try clear hb)
             (try clear hb2)
             (try clear hk)
             (try clear hi)
             refine hK.out _ _ trivial (fun hHeld => ?_)
             clear hK K
             refine norm_ (a' := ?_) ?_ ?_
             rotate_left
             ·show Act.put _ (some 67) _ = _
              simp only [Act.put, s1_, s2_, s3_, i64_w, i32_w]
              rfl
             refine pure_ (i := 19) (N := some 75) (v := ?_) (a' := ?_) #[true, true, true, true, true, true, true, true, true, true, true, true, true, true, true, true, true, true, true, true, true, false] rfl rfl (any_of HT_.out (by kernel_rfl)) (fun _ _ _ h => h) (Or.inl ⟨by rfl, ?_⟩) ?_ ?_
             rotate_left
             ·intro w'
              go_simp
              with_reducible rfl
             rotate_left
             ·simp only [Act.put, s1_, s2_, s3_, i64_w, i32_w]
              rfl
             exact norm_ (by first | (simp only [putAll, Act.put, s1_, s2_, s3_]; done) | (simp only [putAll, Act.put, s1_, s2_, s3_]; rfl)) (hJ1_3_9_11_20 (gb109) _ ⟨(by (with_reducible repeat first | apply pN_ | apply pD_ | apply pA_); exact BK101.out), (by (with_reducible repeat first | apply pN_ | apply pD_ | apply pA_); exact BK109.out), GW109.out, GE109.out, NB101_109.out, NB109_101.out, (bU_ HB.out)⟩)
           ·skip
            rintro _ w46 ⟨h0_, h1_⟩
            have n0_ : Aside0 (w46.heap[gb101]? = some (.cells #[.int .i64 0, .int .i64 0, .int .i64 0, .int .i64 0, .int .i64 0, .int .i64 0, .string ⟨#[]⟩, .string ⟨#[]⟩, .string ⟨#[]⟩] 27 (0, 0))) := ⟨h0_⟩
            have n1_ : Aside0 (Below w.heap.size w w46) := ⟨h1_⟩
            clear BK101
            clear HB
            clear h0_ h1_
            have BK101 := n0_
            have HB := n1_
            clear n0_ n1_
            have hHeld := trivial
            refine norm_ (a' := ?_) ?_ ?_
            rotate_left
            ·simp only [putAll, Act.put, s1_, s2_, s3_]
             rfl
            refine one_ (i := 20) (N := some 8) #[true, true, true, true, true, true, true, true, true, true, true, true, true, true, true, true, true, true, true, true, true, false] rfl rfl (one_of HT_.out (by kernel_rfl)) (by decide) (fun K hK => ?_)
            refine box_step ?hg (N := 8) ?hd (cs := Z7_0) (t := 27) ?hr ?_; (case hd => rfl); (case hg => rfl); (case hr => first | (go_simp; done) | (go_simp; rfl))
            intro gb109 hg w47 hbox hb
            have n0_ := Aside0.mk (bB_ BK101.out hb)
            have n1_ := Aside0.mk (below_step (bU_ HB.out) hb)
            have n2_ := Aside0.mk (hbox)
            have n3_ := Aside0.mk (bZ_ hg (bU_ HB.out) : w.heap.size ≤ gb109)
            have n4_ := Aside0.mk (bZ_ hg (bU_ HB.out) : w.heap.size ≤ gb109)
            have n5_ := Aside0.mk ((bN_ hg BK101.out : gb101 ≠ gb109))
            have n6_ := Aside0.mk ((by rw [hg]; exact Nat.ne_of_gt (blk_lt (g := gb101) (o := .cells Z7_0 27 (0, 0)) (by (with_reducible repeat first | apply pN_ | apply pD_ | apply pA_); exact BK101.out)) : gb109 ≠ gb101))
            clear BK101
            clear HB
            have BK101 := n0_
            have HB := n1_
            have BK109 := n2_
            have GW109 := n3_
            have GE109 := n4_
            have NB101_109 := n5_
            have NB109_101 := n6_
            clear n0_ n1_ n2_ n3_ n4_ n5_ n6_
            clear hb hbox hg
            refine hK.out _ _ trivial (fun hHeld => ?_)
            clear hK K
            refine norm_ (a' := ?_) ?_ ?_
            rotate_left
            ·show Act.put _ (some 8) _ = _
             simp only [Act.put, s1_, s2_, s3_, i64_w, i32_w]
             rfl
            exact norm_ (by first | (simp only [putAll, Act.put, s1_, s2_, s3_]; done) | (simp only [putAll, Act.put, s1_, s2_, s3_]; rfl)) (hJ1_3_9_11_20 (gb109) _ ⟨(by (with_reducible repeat first | apply pN_ | apply pD_ | apply pA_); exact BK101.out), (by (with_reducible repeat first | apply pN_ | apply pD_ | apply pA_); exact BK109.out), GW109.out, GE109.out, NB101_109.out, NB109_101.out, (bU_ HB.out)⟩)
          rintro gb109 w47 ⟨h0_, h1_, h2_, h3_, h4_, h5_, h6_⟩
          have n0_ : Aside0 (w47.heap[gb101]? = some (.cells #[.int .i64 0, .int .i64 0, .int .i64 0, .int .i64 0, .int .i64 0, .int .i64 0, .string ⟨#[]⟩, .string ⟨#[]⟩, .string ⟨#[]⟩] 27 (0, 0))) := ⟨h0_⟩
          have n1_ : Aside0 (w47.heap[gb109]? = some (.cells #[.int .i64 0, .int .i64 0, .int .i64 0, .int .i64 0, .int .i64 0, .int .i64 0, .string ⟨#[]⟩, .string ⟨#[]⟩, .string ⟨#[]⟩] 27 (0, 0))) := ⟨h1_⟩
          have n2_ : Aside0 (w.heap.size ≤ gb109) := ⟨h2_⟩
          have n3_ : Aside0 (w.heap.size ≤ gb109) := ⟨h3_⟩
          have n4_ : Aside0 (gb101 ≠ gb109) := ⟨h4_⟩
          have n5_ : Aside0 (gb109 ≠ gb101) := ⟨h5_⟩
          have n6_ : Aside0 (Below w.heap.size w w47) := ⟨h6_⟩
          clear BK101
          clear HB
          clear h0_ h1_ h2_ h3_ h4_ h5_ h6_
          have BK101 := n0_
          have BK109 := n1_
          have GW109 := n2_
          have GE109 := n3_
          have NB101_109 := n4_
          have NB109_101 := n5_
          have HB := n6_
          clear n0_ n1_ n2_ n3_ n4_ n5_ n6_
          have hHeld := trivial
          refine norm_ (a' := ?_) ?_ ?_
          rotate_left
          ·simp only [putAll, Act.put, s1_, s2_, s3_]
           rfl
          refine one_ (i := 21) (N := none) #[true, true, true, true, true, true, true, true, true, true, true, true, true, true, true, true, true, true, true, true, true, true] rfl rfl (one_of HT_.out (by kernel_rfl)) (by decide) (fun K hK => ?_)
          have hs48 : w47.cell? ⟨gb109, 0, none⟩ = some (.int .i64 0) := (blk_cell BK109.out 0).trans rfl
          have hfs48 := blk_frozen BK109.out 0
          have hns48_0 := NB101_109.out
          have hms48_0 := NB109_101.out
          have hs49 : w47.cell? ⟨gb109, 1, none⟩ = some (.int .i64 0) := (blk_cell BK109.out 1).trans rfl
          have hfs49 := blk_frozen BK109.out 1
          have hns49_0 := NB101_109.out
          have hms49_0 := NB109_101.out
          have hs50 : w47.cell? ⟨gb109, 2, none⟩ = some (.int .i64 0) := (blk_cell BK109.out 2).trans rfl
          have hfs50 := blk_frozen BK109.out 2
          have hns50_0 := NB101_109.out
          have hms50_0 := NB109_101.out
          have hs51 : w47.cell? ⟨gb109, 3, none⟩ = some (.int .i64 0) := (blk_cell BK109.out 3).trans rfl
          have hfs51 := blk_frozen BK109.out 3
          have hns51_0 := NB101_109.out
          have hms51_0 := NB109_101.out
          have hs52 : w47.cell? ⟨gb109, 4, none⟩ = some (.int .i64 0) := (blk_cell BK109.out 4).trans rfl
          have hfs52 := blk_frozen BK109.out 4
          have hns52_0 := NB101_109.out
          have hms52_0 := NB109_101.out
          have hs53 : w47.cell? ⟨gb109, 5, none⟩ = some (.int .i64 0) := (blk_cell BK109.out 5).trans rfl
          have hfs53 := blk_frozen BK109.out 5
          have hns53_0 := NB101_109.out
          have hms53_0 := NB109_101.out
          have hs54 : w47.cell? ⟨gb109, 6, none⟩ = some (.string ⟨#[]⟩) := (blk_cell BK109.out 6).trans rfl
          have hfs54 := blk_frozen BK109.out 6
          have hns54_0 := NB101_109.out
          have hms54_0 := NB109_101.out
          have hs55 : w47.cell? ⟨gb109, 7, none⟩ = some (.string ⟨#[]⟩) := (blk_cell BK109.out 7).trans rfl
          have hfs55 := blk_frozen BK109.out 7
          have hns55_0 := NB101_109.out
          have hms55_0 := NB109_101.out
          have hs56 : w47.cell? ⟨gb109, 8, none⟩ = some (.string ⟨#[]⟩) := (blk_cell BK109.out 8).trans rfl
          have hfs56 := blk_frozen BK109.out 8
          have hns56_0 := NB101_109.out
          have hms56_0 := NB109_101.out
          refine skip_ (w1 := ?_) (by rfl) rfl ?_ ?_
          rotate_left
          ·go_simp
           rfl
          refine hK.out _ _ trivial (fun hHeld => ?_)
          clear hK K
          refine done_ (done_of HT_.out (by kernel_rfl)) ?_
          try go_wp2
          have n0_ : Aside0 ((((((((((w47.setCell ⟨gb109, 0, none⟩ (.int .i64 t105)).setCell ⟨gb109, 1, none⟩ (.int .i64 t106)).setCell ⟨gb109, 2, none⟩ (.int .i64 (t104 / 8192))).setCell ⟨gb109, 3, none⟩ (.int .i64 (Go.bits .and .i64 t104 8191))).setCell ⟨gb109, 4, none⟩ (.int .i64 t107)).setCell ⟨gb109, 5, none⟩ (.int .i64 t108)).setCell ⟨gb109, 6, none⟩ (.string (a0.extract 12 16))).setCell ⟨gb109, 7, none⟩ (.string (a0.extract 16 20))).setCell ⟨gb109, 8, none⟩ (.string (a0.extract 20 ((ji21) : Int).toNat))).heap[gb101]? = some (.cells #[.int .i64 0, .int .i64 0, .int .i64 0, .int .i64 0, .int .i64 0, .int .i64 0, .string ⟨#[]⟩, .string ⟨#[]⟩, .string ⟨#[]⟩] 27 (0, 0))) := ⟨by (iterate 9 ((with_reducible repeat first | apply pN_ | apply pD_ | apply pA_); refine blk_far ?_ NB101_109.out _)); (with_reducible repeat first | apply pN_ | apply pD_ | apply pA_); exact BK101.out⟩
          have n1_ : Aside0 ((((((((((w47.setCell ⟨gb109, 0, none⟩ (.int .i64 t105)).setCell ⟨gb109, 1, none⟩ (.int .i64 t106)).setCell ⟨gb109, 2, none⟩ (.int .i64 (t104 / 8192))).setCell ⟨gb109, 3, none⟩ (.int .i64 (Go.bits .and .i64 t104 8191))).setCell ⟨gb109, 4, none⟩ (.int .i64 t107)).setCell ⟨gb109, 5, none⟩ (.int .i64 t108)).setCell ⟨gb109, 6, none⟩ (.string (a0.extract 12 16))).setCell ⟨gb109, 7, none⟩ (.string (a0.extract 16 20))).setCell ⟨gb109, 8, none⟩ (.string (a0.extract 20 ((ji21) : Int).toNat))).heap[gb109]? = some (.cells #[.int .i64 t105, .int .i64 t106, .int .i64 (t104 / 8192), .int .i64 (Go.bits .and .i64 t104 8191), .int .i64 t107, .int .i64 t108, .string (a0.extract 12 16), .string (a0.extract 16 20), .string (a0.extract 20 ((ji21) : Int).toNat)] 27 (0, 0))) := ⟨by (with_reducible repeat first | apply pN_ | apply pD_ | apply pA_); refine blk_put (cs := #[.int .i64 t105, .int .i64 t106, .int .i64 (t104 / 8192), .int .i64 (Go.bits .and .i64 t104 8191), .int .i64 t107, .int .i64 t108, .string (a0.extract 12 16), .string (a0.extract 16 20), .string ⟨#[]⟩]) ?_ 8 _ rfl; (with_reducible repeat first | apply pN_ | apply pD_ | apply pA_); refine blk_put (cs := #[.int .i64 t105, .int .i64 t106, .int .i64 (t104 / 8192), .int .i64 (Go.bits .and .i64 t104 8191), .int .i64 t107, .int .i64 t108, .string (a0.extract 12 16), .string ⟨#[]⟩, .string ⟨#[]⟩]) ?_ 7 _ rfl; (with_reducible repeat first | apply pN_ | apply pD_ | apply pA_); refine blk_put (cs := #[.int .i64 t105, .int .i64 t106, .int .i64 (t104 / 8192), .int .i64 (Go.bits .and .i64 t104 8191), .int .i64 t107, .int .i64 t108, .string ⟨#[]⟩, .string ⟨#[]⟩, .string ⟨#[]⟩]) ?_ 6 _ rfl; (with_reducible repeat first | apply pN_ | apply pD_ | apply pA_); refine blk_put (cs := #[.int .i64 t105, .int .i64 t106, .int .i64 (t104 / 8192), .int .i64 (Go.bits .and .i64 t104 8191), .int .i64 t107, .int .i64 0, .string ⟨#[]⟩, .string ⟨#[]⟩, .string ⟨#[]⟩]) ?_ 5 _ rfl; (with_reducible repeat first | apply pN_ | apply pD_ | apply pA_); refine blk_put (cs := #[.int .i64 t105, .int .i64 t106, .int .i64 (t104 / 8192), .int .i64 (Go.bits .and .i64 t104 8191), .int .i64 0, .int .i64 0, .string ⟨#[]⟩, .string ⟨#[]⟩, .string ⟨#[]⟩]) ?_ 4 _ rfl; (with_reducible repeat first | apply pN_ | apply pD_ | apply pA_); refine blk_put (cs := #[.int .i64 t105, .int .i64 t106, .int .i64 (t104 / 8192), .int .i64 0, .int .i64 0, .int .i64 0, .string ⟨#[]⟩, .string ⟨#[]⟩, .string ⟨#[]⟩]) ?_ 3 _ rfl; (with_reducible repeat first | apply pN_ | apply pD_ | apply pA_); refine blk_put (cs := #[.int .i64 t105, .int .i64 t106, .int .i64 0, .int .i64 0, .int .i64 0, .int .i64 0, .string ⟨#[]⟩, .string ⟨#[]⟩, .string ⟨#[]⟩]) ?_ 2 _ rfl; (with_reducible repeat first | apply pN_ | apply pD_ | apply pA_); refine blk_put (cs := #[.int .i64 t105, .int .i64 0, .int .i64 0, .int .i64 0, .int .i64 0, .int .i64 0, .string ⟨#[]⟩, .string ⟨#[]⟩, .string ⟨#[]⟩]) ?_ 1 _ rfl; (with_reducible repeat first | apply pN_ | apply pD_ | apply pA_); refine blk_put (cs := Z7_0) ?_ 0 _ rfl; (with_reducible repeat first | apply pN_ | apply pD_ | apply pA_); exact BK109.out⟩
          have n2_ : Aside0 (Below w.heap.size w (((((((((w47.setCell ⟨gb109, 0, none⟩ (.int .i64 t105)).setCell ⟨gb109, 1, none⟩ (.int .i64 t106)).setCell ⟨gb109, 2, none⟩ (.int .i64 (t104 / 8192))).setCell ⟨gb109, 3, none⟩ (.int .i64 (Go.bits .and .i64 t104 8191))).setCell ⟨gb109, 4, none⟩ (.int .i64 t107)).setCell ⟨gb109, 5, none⟩ (.int .i64 t108)).setCell ⟨gb109, 6, none⟩ (.string (a0.extract 12 16))).setCell ⟨gb109, 7, none⟩ (.string (a0.extract 16 20))).setCell ⟨gb109, 8, none⟩ (.string (a0.extract 20 ((ji21) : Int).toNat)))) := ⟨bU_ HB.out⟩
          (try clear BK101)
          (try clear BK109)
          (try clear HB)
          generalize (((((((((w47.setCell ⟨gb109, 0, none⟩ (.int .i64 t105)).setCell ⟨gb109, 1, none⟩ (.int .i64 t106)).setCell ⟨gb109, 2, none⟩ (.int .i64 (t104 / 8192))).setCell ⟨gb109, 3, none⟩ (.int .i64 (Go.bits .and .i64 t104 8191))).setCell ⟨gb109, 4, none⟩ (.int .i64 t107)).setCell ⟨gb109, 5, none⟩ (.int .i64 t108)).setCell ⟨gb109, 6, none⟩ (.string (a0.extract 12 16))).setCell ⟨gb109, 7, none⟩ (.string (a0.extract 16 20))).setCell ⟨gb109, 8, none⟩ (.string (a0.extract 20 ((ji21) : Int).toNat))) = w57 at n0_ n1_ n2_ ⊢
          have BK101 := n0_
          have BK109 := n1_
          have HB := n2_
          clear n0_ n1_ n2_
          have n0_ := Aside0.mk (blk_drew BK101.out)
          have n1_ := Aside0.mk (blk_drew BK109.out)
          have n2_ := Aside0.mk (below_drew1 HB.out)
          clear BK101
          clear BK109
          clear HB
          have BK101 := n0_
          have BK109 := n1_
          have HB := n2_
          clear n0_ n1_ n2_
          refine start_ (n := 8) (S := fun w' => w'.cell? ⟨gb109, 0, none⟩ = some (.int .i64 t105) ∧ w'.cell? ⟨gb109, 1, none⟩ = some (.int .i64 t106) ∧ w'.cell? ⟨gb109, 2, none⟩ = some (.int .i64 (t104 / 8192)) ∧ w'.cell? ⟨gb109, 3, none⟩ = some (.int .i64 (Go.bits .and .i64 t104 8191)) ∧ w'.cell? ⟨gb109, 4, none⟩ = some (.int .i64 t107) ∧ w'.cell? ⟨gb109, 5, none⟩ = some (.int .i64 t108) ∧ w'.cell? ⟨gb109, 6, none⟩ = some (.string (a0.extract 12 16)) ∧ w'.cell? ⟨gb109, 7, none⟩ = some (.string (a0.extract 16 20)) ∧ w'.cell? ⟨gb109, 8, none⟩ = some (.string (a0.extract 20 ((ji21) : Int).toNat))) (ds := []) #[false, false, false, false, false, false, false, false] (by kernel_rfl) rfl rfl ⟨(blk_cell BK109.out 0).trans rfl, (blk_cell BK109.out 1).trans rfl, (blk_cell BK109.out 2).trans rfl, (blk_cell BK109.out 3).trans rfl, (blk_cell BK109.out 4).trans rfl, (blk_cell BK109.out 5).trans rfl, (blk_cell BK109.out 6).trans rfl, (blk_cell BK109.out 7).trans rfl, (blk_cell BK109.out 8).trans rfl⟩ (fun hHeld => ?_); refine with_tabW ipfour_Take.tab14 ipfour_Take.bits14 (fun HT_ HW_ => ?_)
          generalize w57.drew = w58 at BK101 BK109 HB hHeld ⊢
          refine pure_ (i := 1) (N := some 77) (v := ?_) (a' := ?_) #[false, true, false, false, false, false, false, false] rfl rfl (any_of HT_.out (by kernel_rfl)) (fun _ _ _ h => h) (Or.inl ⟨by rfl, ?_⟩) ?_ ?_
          rotate_left
          ·intro w'
           go_simp
           with_reducible rfl
          rotate_left
          ·simp only [Act.put, s1_, s2_, s3_, i64_w, i32_w]
           rfl
          refine pure_ (i := 2) (N := some 78) (v := ?_) (a' := ?_) #[false, true, true, false, false, false, false, false] rfl rfl (any_of HT_.out (by kernel_rfl)) (fun _ _ _ h => h) (Or.inl ⟨by rfl, ?_⟩) ?_ ?_
          rotate_left
          ·intro w'
           go_simp
           with_reducible rfl
          rotate_left
          ·simp only [Act.put, s1_, s2_, s3_, i64_w, i32_w]
           rfl
          refine pure_ (i := 3) (N := some 79) (v := ?_) (a' := ?_) #[false, true, true, true, false, false, false, false] rfl rfl (any_of HT_.out (by kernel_rfl)) (fun _ _ _ h => h) (Or.inl ⟨by rfl, ?_⟩) ?_ ?_
          rotate_left
          ·intro w'
           go_simp
           with_reducible rfl
          rotate_left
          ·simp only [Act.put, s1_, s2_, s3_, i64_w, i32_w]
           rfl
          refine pure_ (i := 4) (N := some 80) (v := ?_) (a' := ?_) #[false, true, true, true, true, false, false, false] rfl rfl (any_of HT_.out (by kernel_rfl)) (fun _ _ _ h => h) (Or.inl ⟨by rfl, ?_⟩) ?_ ?_
          rotate_left
          ·intro w'
           go_simp
           with_reducible rfl
          rotate_left
          ·simp only [Act.put, s1_, s2_, s3_, i64_w, i32_w]
           rfl
          refine take_ (i := 0) (N := some 76) (v := ?_) (a' := ?_) #[true, true, true, true, true, false, false, false] rfl rfl (take_ofW HT_.out HW_.out (by kernel_rfl)) (fun _ _ _ h => h) (Or.inl ⟨by rfl, ?_⟩) hHeld ?_ ?_
          rotate_left
          ·rintro w' ⟨s0, s1, s2, s3, s4, s5, s6, s7, s8⟩
           go_simp
           with_reducible rfl
          rotate_left
          ·simp only [Act.put, s1_, s2_, s3_, i64_w, i32_w]
           rfl
          refine one_ (i := 5) (N := none) #[true, true, true, true, true, true, false, false] rfl rfl (one_of HT_.out (by kernel_rfl)) (by decide) (fun K hK => ?_)
          have hs59 : w58.cell? ⟨gb101, 0, none⟩ = some (.int .i64 0) := (blk_cell BK101.out 0).trans rfl
          have hfs59 := blk_frozen BK101.out 0
          have hns59_1 := NB109_101.out
          have hms59_1 := NB101_109.out
          have hs60 : w58.cell? ⟨gb101, 1, none⟩ = some (.int .i64 0) := (blk_cell BK101.out 1).trans rfl
          have hfs60 := blk_frozen BK101.out 1
          have hns60_1 := NB109_101.out
          have hms60_1 := NB101_109.out
          have hs61 : w58.cell? ⟨gb101, 2, none⟩ = some (.int .i64 0) := (blk_cell BK101.out 2).trans rfl
          have hfs61 := blk_frozen BK101.out 2
          have hns61_1 := NB109_101.out
          have hms61_1 := NB101_109.out
          have hs62 : w58.cell? ⟨gb101, 3, none⟩ = some (.int .i64 0) := (blk_cell BK101.out 3).trans rfl
          have hfs62 := blk_frozen BK101.out 3
          have hns62_1 := NB109_101.out
          have hms62_1 := NB101_109.out
          have hs63 : w58.cell? ⟨gb101, 4, none⟩ = some (.int .i64 0) := (blk_cell BK101.out 4).trans rfl
          have hfs63 := blk_frozen BK101.out 4
          have hns63_1 := NB109_101.out
          have hms63_1 := NB101_109.out
          have hs64 : w58.cell? ⟨gb101, 5, none⟩ = some (.int .i64 0) := (blk_cell BK101.out 5).trans rfl
          have hfs64 := blk_frozen BK101.out 5
          have hns64_1 := NB109_101.out
          have hms64_1 := NB101_109.out
          have hs65 : w58.cell? ⟨gb101, 6, none⟩ = some (.string ⟨#[]⟩) := (blk_cell BK101.out 6).trans rfl
          have hfs65 := blk_frozen BK101.out 6
          have hns65_1 := NB109_101.out
          have hms65_1 := NB101_109.out
          have hs66 : w58.cell? ⟨gb101, 7, none⟩ = some (.string ⟨#[]⟩) := (blk_cell BK101.out 7).trans rfl
          have hfs66 := blk_frozen BK101.out 7
          have hns66_1 := NB109_101.out
          have hms66_1 := NB101_109.out
          have hs67 : w58.cell? ⟨gb101, 8, none⟩ = some (.string ⟨#[]⟩) := (blk_cell BK101.out 8).trans rfl
          have hfs67 := blk_frozen BK101.out 8
          have hns67_1 := NB109_101.out
          have hms67_1 := NB101_109.out
          refine skip_ (w1 := ?_) (by rfl) rfl ?_ ?_
          rotate_left
          ·go_simp
           rfl
          refine hK.out _ _ ⟨((cell_far (p := ⟨gb101, _, none⟩) NB109_101.out _).trans (((cell_far (p := ⟨gb101, _, none⟩) NB109_101.out _).trans (((cell_far (p := ⟨gb101, _, none⟩) NB109_101.out _).trans (((cell_far (p := ⟨gb101, _, none⟩) NB109_101.out _).trans (((cell_far (p := ⟨gb101, _, none⟩) NB109_101.out _).trans (((cell_far (p := ⟨gb101, _, none⟩) NB109_101.out _).trans (((cell_far (p := ⟨gb101, _, none⟩) NB109_101.out _).trans (((cell_far (p := ⟨gb101, _, none⟩) NB109_101.out _).trans (((cell_far (p := ⟨gb101, _, none⟩) NB109_101.out _).trans (hHeld.1)))))))))))))))))), ((cell_far (p := ⟨gb101, _, none⟩) NB109_101.out _).trans (((cell_far (p := ⟨gb101, _, none⟩) NB109_101.out _).trans (((cell_far (p := ⟨gb101, _, none⟩) NB109_101.out _).trans (((cell_far (p := ⟨gb101, _, none⟩) NB109_101.out _).trans (((cell_far (p := ⟨gb101, _, none⟩) NB109_101.out _).trans (((cell_far (p := ⟨gb101, _, none⟩) NB109_101.out _).trans (((cell_far (p := ⟨gb101, _, none⟩) NB109_101.out _).trans (((cell_far (p := ⟨gb101, _, none⟩) NB109_101.out _).trans (((cell_far (p := ⟨gb101, _, none⟩) NB109_101.out _).trans (hHeld.2.1)))))))))))))))))), ((cell_far (p := ⟨gb101, _, none⟩) NB109_101.out _).trans (((cell_far (p := ⟨gb101, _, none⟩) NB109_101.out _).trans (((cell_far (p := ⟨gb101, _, none⟩) NB109_101.out _).trans (((cell_far (p := ⟨gb101, _, none⟩) NB109_101.out _).trans (((cell_far (p := ⟨gb101, _, none⟩) NB109_101.out _).trans (((cell_far (p := ⟨gb101, _, none⟩) NB109_101.out _).trans (((cell_far (p := ⟨gb101, _, none⟩) NB109_101.out _).trans (((cell_far (p := ⟨gb101, _, none⟩) NB109_101.out _).trans (((cell_far (p := ⟨gb101, _, none⟩) NB109_101.out _).trans (hHeld.2.2.1)))))))))))))))))), ((cell_far (p := ⟨gb101, _, none⟩) NB109_101.out _).trans (((cell_far (p := ⟨gb101, _, none⟩) NB109_101.out _).trans (((cell_far (p := ⟨gb101, _, none⟩) NB109_101.out _).trans (((cell_far (p := ⟨gb101, _, none⟩) NB109_101.out _).trans (((cell_far (p := ⟨gb101, _, none⟩) NB109_101.out _).trans (((cell_far (p := ⟨gb101, _, none⟩) NB109_101.out _).trans (((cell_far (p := ⟨gb101, _, none⟩) NB109_101.out _).trans (((cell_far (p := ⟨gb101, _, none⟩) NB109_101.out _).trans (((cell_far (p := ⟨gb101, _, none⟩) NB109_101.out _).trans (hHeld.2.2.2.1)))))))))))))))))), ((cell_far (p := ⟨gb101, _, none⟩) NB109_101.out _).trans (((cell_far (p := ⟨gb101, _, none⟩) NB109_101.out _).trans (((cell_far (p := ⟨gb101, _, none⟩) NB109_101.out _).trans (((cell_far (p := ⟨gb101, _, none⟩) NB109_101.out _).trans (((cell_far (p := ⟨gb101, _, none⟩) NB109_101.out _).trans (((cell_far (p := ⟨gb101, _, none⟩) NB109_101.out _).trans (((cell_far (p := ⟨gb101, _, none⟩) NB109_101.out _).trans (((cell_far (p := ⟨gb101, _, none⟩) NB109_101.out _).trans (((cell_far (p := ⟨gb101, _, none⟩) NB109_101.out _).trans (hHeld.2.2.2.2.1)))))))))))))))))), ((cell_far (p := ⟨gb101, _, none⟩) NB109_101.out _).trans (((cell_far (p := ⟨gb101, _, none⟩) NB109_101.out _).trans (((cell_far (p := ⟨gb101, _, none⟩) NB109_101.out _).trans (((cell_far (p := ⟨gb101, _, none⟩) NB109_101.out _).trans (((cell_far (p := ⟨gb101, _, none⟩) NB109_101.out _).trans (((cell_far (p := ⟨gb101, _, none⟩) NB109_101.out _).trans (((cell_far (p := ⟨gb101, _, none⟩) NB109_101.out _).trans (((cell_far (p := ⟨gb101, _, none⟩) NB109_101.out _).trans (((cell_far (p := ⟨gb101, _, none⟩) NB109_101.out _).trans (hHeld.2.2.2.2.2.1)))))))))))))))))), ((cell_far (p := ⟨gb101, _, none⟩) NB109_101.out _).trans (((cell_far (p := ⟨gb101, _, none⟩) NB109_101.out _).trans (((cell_far (p := ⟨gb101, _, none⟩) NB109_101.out _).trans (((cell_far (p := ⟨gb101, _, none⟩) NB109_101.out _).trans (((cell_far (p := ⟨gb101, _, none⟩) NB109_101.out _).trans (((cell_far (p := ⟨gb101, _, none⟩) NB109_101.out _).trans (((cell_far (p := ⟨gb101, _, none⟩) NB109_101.out _).trans (((cell_far (p := ⟨gb101, _, none⟩) NB109_101.out _).trans (((cell_far (p := ⟨gb101, _, none⟩) NB109_101.out _).trans (hHeld.2.2.2.2.2.2.1)))))))))))))))))), ((cell_far (p := ⟨gb101, _, none⟩) NB109_101.out _).trans (((cell_far (p := ⟨gb101, _, none⟩) NB109_101.out _).trans (((cell_far (p := ⟨gb101, _, none⟩) NB109_101.out _).trans (((cell_far (p := ⟨gb101, _, none⟩) NB109_101.out _).trans (((cell_far (p := ⟨gb101, _, none⟩) NB109_101.out _).trans (((cell_far (p := ⟨gb101, _, none⟩) NB109_101.out _).trans (((cell_far (p := ⟨gb101, _, none⟩) NB109_101.out _).trans (((cell_far (p := ⟨gb101, _, none⟩) NB109_101.out _).trans (((cell_far (p := ⟨gb101, _, none⟩) NB109_101.out _).trans (hHeld.2.2.2.2.2.2.2.1)))))))))))))))))), ((cell_far (p := ⟨gb101, _, none⟩) NB109_101.out _).trans (((cell_far (p := ⟨gb101, _, none⟩) NB109_101.out _).trans (((cell_far (p := ⟨gb101, _, none⟩) NB109_101.out _).trans (((cell_far (p := ⟨gb101, _, none⟩) NB109_101.out _).trans (((cell_far (p := ⟨gb101, _, none⟩) NB109_101.out _).trans (((cell_far (p := ⟨gb101, _, none⟩) NB109_101.out _).trans (((cell_far (p := ⟨gb101, _, none⟩) NB109_101.out _).trans (((cell_far (p := ⟨gb101, _, none⟩) NB109_101.out _).trans (((cell_far (p := ⟨gb101, _, none⟩) NB109_101.out _).trans (hHeld.2.2.2.2.2.2.2.2))))))))))))))))))⟩ (fun hHeld => ?_)
          clear hK K
          refine pure_ (i := 6) (N := some 3) (v := ?_) (a' := ?_) #[true, true, true, true, true, true, true, false] rfl rfl (any_of HT_.out (by kernel_rfl)) (fun _ _ _ h => h) (Or.inl ⟨by rfl, ?_⟩) ?_ ?_
          rotate_left
          ·intro w'
           go_simp
           with_reducible rfl
          rotate_left
          ·simp only [Act.put, s1_, s2_, s3_, i64_w, i32_w]
           rfl
          refine pure_ (i := 7) (N := some 4) (v := ?_) (a' := ?_) #[true, true, true, true, true, true, true, true] rfl rfl (any_of HT_.out (by kernel_rfl)) (fun _ _ _ h => h) (Or.inl ⟨by rfl, ?_⟩) ?_ ?_
          rotate_left
          ·intro w'
           go_simp
           with_reducible rfl
          rotate_left
          ·simp only [Act.put, s1_, s2_, s3_, i64_w, i32_w]
           rfl
          refine done_ (done_of HT_.out (by kernel_rfl)) ?_
          try go_wp2
          refine bodyPost_ret (results_ctt rfl _ _ gb101 27 #[.int .i64 t105, .int .i64 t106, .int .i64 (t104 / 8192), .int .i64 (Go.bits .and .i64 t104 8191), .int .i64 t107, .int .i64 t108, .string (a0.extract 12 16), .string (a0.extract 16 20), .string (a0.extract 20 ((ji21) : Int).toNat)] (0, 0) _ rfl (by (with_reducible repeat first | apply pN_ | apply pD_ | apply pA_); refine blk_put (cs := #[.int .i64 t105, .int .i64 t106, .int .i64 (t104 / 8192), .int .i64 (Go.bits .and .i64 t104 8191), .int .i64 t107, .int .i64 t108, .string (a0.extract 12 16), .string (a0.extract 16 20), .string ⟨#[]⟩]) ?_ 8 _ rfl; (with_reducible repeat first | apply pN_ | apply pD_ | apply pA_); refine blk_put (cs := #[.int .i64 t105, .int .i64 t106, .int .i64 (t104 / 8192), .int .i64 (Go.bits .and .i64 t104 8191), .int .i64 t107, .int .i64 t108, .string (a0.extract 12 16), .string ⟨#[]⟩, .string ⟨#[]⟩]) ?_ 7 _ rfl; (with_reducible repeat first | apply pN_ | apply pD_ | apply pA_); refine blk_put (cs := #[.int .i64 t105, .int .i64 t106, .int .i64 (t104 / 8192), .int .i64 (Go.bits .and .i64 t104 8191), .int .i64 t107, .int .i64 t108, .string ⟨#[]⟩, .string ⟨#[]⟩, .string ⟨#[]⟩]) ?_ 6 _ rfl; (with_reducible repeat first | apply pN_ | apply pD_ | apply pA_); refine blk_put (cs := #[.int .i64 t105, .int .i64 t106, .int .i64 (t104 / 8192), .int .i64 (Go.bits .and .i64 t104 8191), .int .i64 t107, .int .i64 0, .string ⟨#[]⟩, .string ⟨#[]⟩, .string ⟨#[]⟩]) ?_ 5 _ rfl; (with_reducible repeat first | apply pN_ | apply pD_ | apply pA_); refine blk_put (cs := #[.int .i64 t105, .int .i64 t106, .int .i64 (t104 / 8192), .int .i64 (Go.bits .and .i64 t104 8191), .int .i64 0, .int .i64 0, .string ⟨#[]⟩, .string ⟨#[]⟩, .string ⟨#[]⟩]) ?_ 4 _ rfl; (with_reducible repeat first | apply pN_ | apply pD_ | apply pA_); refine blk_put (cs := #[.int .i64 t105, .int .i64 t106, .int .i64 (t104 / 8192), .int .i64 0, .int .i64 0, .int .i64 0, .string ⟨#[]⟩, .string ⟨#[]⟩, .string ⟨#[]⟩]) ?_ 3 _ rfl; (with_reducible repeat first | apply pN_ | apply pD_ | apply pA_); refine blk_put (cs := #[.int .i64 t105, .int .i64 t106, .int .i64 0, .int .i64 0, .int .i64 0, .int .i64 0, .string ⟨#[]⟩, .string ⟨#[]⟩, .string ⟨#[]⟩]) ?_ 2 _ rfl; (with_reducible repeat first | apply pN_ | apply pD_ | apply pA_); refine blk_put (cs := #[.int .i64 t105, .int .i64 0, .int .i64 0, .int .i64 0, .int .i64 0, .int .i64 0, .string ⟨#[]⟩, .string ⟨#[]⟩, .string ⟨#[]⟩]) ?_ 1 _ rfl; (with_reducible repeat first | apply pN_ | apply pD_ | apply pA_); refine blk_put (cs := Z7_0) ?_ 0 _ rfl; (with_reducible repeat first | apply pN_ | apply pD_ | apply pA_); exact BK101.out) Try.underlying27 rfl (by kernel_rfl)) rfl ?_
          exact ⟨by first | rfl | (simp [errW_none, errW_some] <;> rfl) | (simp only [← hji21]; first | rfl | (simp [errW_none, errW_some] <;> rfl)) | (simp [*, errW_none, errW_some] <;> rfl), bU_ HB.out⟩
         ·rw [if_neg c25] at H
          have c25b0 : (t103 == 0) = false := beq_eq_false_iff_ne.mpr c25
          have c25b1 : (t103 != 0) = true := bne_iff_ne.mpr c25
          simp only [Option.some.injEq, Prod.mk.injEq] at H
          obtain ⟨rfl, rfl, rfl, rfl, rfl, rfl, rfl, rfl, rfl, rfl, rfl⟩ := H
          go_wp2_with (first | ((with_reducible refine gate_callee (f := 16) rfl ?_); refine goesL_ (some 51) rfl rfl Try.func16 (by kernel_rfl) rfl #[.string (a0.extract 0 ((ji21) : Int).toNat)] rfl (by (try simp only [List.map_toArray, List.map_cons, List.map_nil]); first | done | (simp only [hji21]; rfl) | rfl | (simp only [List.length_drop, List.length_take]; rfl) | (simp only [ByteArray.size_append, ByteArray.size_extract, Nat.sub_zero, Int.natCast_add]; rfl) | (simp [ByteArray.size_append]; done)) ?_; (with_reducible refine (octet_Sum.calls kj16 (a0.extract 0 ((ji21) : Int).toNat) t103 _ A24.out).mono ?_); rintro e w' ⟨rfl, ⟨nd, rfl⟩⟩; refine ⟨_, rfl, ?_⟩; (try (rw [drewN_self wc]; generalize hq_ : World.drewN wc _ = wc; have n0_ : Aside0 (wc.heap[gb101]? = some (.cells #[.int .i64 0, .int .i64 0, .int .i64 0, .int .i64 0, .int .i64 0, .int .i64 0, .string ⟨#[]⟩, .string ⟨#[]⟩, .string ⟨#[]⟩] 27 (0, 0))) := ⟨by rw [← hq_]; exact (by (with_reducible repeat first | apply pN_ | apply pD_ | apply pA_); exact BK101.out)⟩; have n1_ : Aside0 (Below w.heap.size w wc) := ⟨by rw [← hq_]; exact (bU_ HB.out)⟩; clear BK101 HB hq_; have BK101 := n0_; have HB := n1_; clear n0_ n1_)); have hcz68_0 : wc.cell? ⟨gb101, 0, none⟩ = some (.int .i64 0) := (blk_cell BK101.out 0).trans rfl; have hcz68_1 : wc.cell? ⟨gb101, 1, none⟩ = some (.int .i64 0) := (blk_cell BK101.out 1).trans rfl; have hcz68_2 : wc.cell? ⟨gb101, 2, none⟩ = some (.int .i64 0) := (blk_cell BK101.out 2).trans rfl; have hcz68_3 : wc.cell? ⟨gb101, 3, none⟩ = some (.int .i64 0) := (blk_cell BK101.out 3).trans rfl; have hcz68_4 : wc.cell? ⟨gb101, 4, none⟩ = some (.int .i64 0) := (blk_cell BK101.out 4).trans rfl; have hcz68_5 : wc.cell? ⟨gb101, 5, none⟩ = some (.int .i64 0) := (blk_cell BK101.out 5).trans rfl; have hcz68_6 : wc.cell? ⟨gb101, 6, none⟩ = some (.string ⟨#[]⟩) := (blk_cell BK101.out 6).trans rfl; have hcz68_7 : wc.cell? ⟨gb101, 7, none⟩ = some (.string ⟨#[]⟩) := (blk_cell BK101.out 7).trans rfl; have hcz68_8 : wc.cell? ⟨gb101, 8, none⟩ = some (.string ⟨#[]⟩) := (blk_cell BK101.out 8).trans rfl; have hfz68_0 := blk_frozen BK101.out 0; have hfz68_1 := blk_frozen BK101.out 1; have hfz68_2 := blk_frozen BK101.out 2; have hfz68_3 := blk_frozen BK101.out 3; have hfz68_4 := blk_frozen BK101.out 4; have hfz68_5 := blk_frozen BK101.out 5; have hfz68_6 := blk_frozen BK101.out 6; have hfz68_7 := blk_frozen BK101.out 7; have hfz68_8 := blk_frozen BK101.out 8))
          refine bodyPost_ret (results_ctt rfl _ _ gb101 27 #[.int .i64 0, .int .i64 0, .int .i64 0, .int .i64 0, .int .i64 0, .int .i64 0, .string ⟨#[]⟩, .string ⟨#[]⟩, .string ⟨#[]⟩] (0, 0) _ rfl (by (with_reducible repeat first | apply pN_ | apply pD_ | apply pA_); refine blk_put (cs := Z7_0) ?_ 8 _ rfl; (with_reducible repeat first | apply pN_ | apply pD_ | apply pA_); refine blk_put (cs := Z7_0) ?_ 7 _ rfl; (with_reducible repeat first | apply pN_ | apply pD_ | apply pA_); refine blk_put (cs := Z7_0) ?_ 6 _ rfl; (with_reducible repeat first | apply pN_ | apply pD_ | apply pA_); refine blk_put (cs := Z7_0) ?_ 5 _ rfl; (with_reducible repeat first | apply pN_ | apply pD_ | apply pA_); refine blk_put (cs := Z7_0) ?_ 4 _ rfl; (with_reducible repeat first | apply pN_ | apply pD_ | apply pA_); refine blk_put (cs := Z7_0) ?_ 3 _ rfl; (with_reducible repeat first | apply pN_ | apply pD_ | apply pA_); refine blk_put (cs := Z7_0) ?_ 2 _ rfl; (with_reducible repeat first | apply pN_ | apply pD_ | apply pA_); refine blk_put (cs := Z7_0) ?_ 1 _ rfl; (with_reducible repeat first | apply pN_ | apply pD_ | apply pA_); refine blk_put (cs := Z7_0) ?_ 0 _ rfl; (with_reducible repeat first | apply pN_ | apply pD_ | apply pA_); exact BK101.out) Try.underlying27 rfl (by kernel_rfl)) rfl ?_
          exact ⟨by first | rfl | (simp [errW_none, errW_some] <;> rfl) | (simp only [← hji21]; first | rfl | (simp [errW_none, errW_some] <;> rfl)) | (simp [*, errW_none, errW_some] <;> rfl), bU_ HB.out⟩
  ·rw [if_neg c9] at H
   have c9b0 : (((bt a0 0) / 16) == 4) = false := beq_eq_false_iff_ne.mpr c9
   have c9b1 : (((bt a0 0) / 16) != 4) = true := bne_iff_ne.mpr c9
   simp only [Option.some.injEq, Prod.mk.injEq] at H
   obtain ⟨rfl, rfl, rfl, rfl, rfl, rfl, rfl, rfl, rfl, rfl, rfl⟩ := H
   go_enter Try.func10, Try.ntmps10
   try go_wp2_with (first | ((with_reducible refine gate_dst (N := 2) rfl ?_); (try (refine gate_guard (by rfl) ?_; dsimp only)); refine box_event ?hg (N := 2) ?hd (cs := Z7_0) (t := 27) ?hr ?_; (case hd => rfl); (case hg => rfl); (case hr => first | (go_simp; done) | (go_simp; rfl)); intro gb101 hg w69 hbox hb; have n0_ := Aside0.mk (below_step (bU_ HB.out) hb); have n1_ := Aside0.mk (hbox); have n2_ := Aside0.mk (bZ_ hg (bU_ HB.out) : w.heap.size ≤ gb101); have n3_ := n2_; clear HB; have HB := n0_; have BK101 := n1_; have GW101 := n2_; have GE101 := n3_; clear n0_ n1_ n2_ n3_; clear hb hbox hg))
   have n0_ := Aside0.mk (blk_drew BK101.out)
   have n1_ := Aside0.mk (below_drew1 HB.out)
   clear BK101
   clear HB
   have BK101 := n0_
   have HB := n1_
   clear n0_ n1_
   have p6 : 0 ≤ (0 : Int) := (by omega)
   have q6 : 0 < a0.size := (by have : (0 : Int) < (a0.size : Int) := oD_; omega)
   have hx6 : ∀ h : 0 < a0.size, ((a0[0]'h).toNat : Int) = bt a0 0 := bt_at a0 0
   clear p6
   have qi6 : (0 < (a0.size : Int)) = True := eq_true oD_
   replace q6 := eq_true q6
   refine start_ (n := 9) (S := fun w' => True) (ds := []) #[false, false, false, false, false, false, false, false, false] (by kernel_rfl) rfl rfl trivial (fun hHeld => ?_); refine with_tabW ipfour_Take.tab3 ipfour_Take.bits3 (fun HT_ HW_ => ?_)
   generalize w69.drew = w70 at BK101 HB hHeld ⊢
   refine pure_ (i := 0) (N := some 13) (v := ?_) (a' := ?_) #[true, false, false, false, false, false, false, false, false] rfl rfl (any_of HT_.out (by kernel_rfl)) (fun _ _ _ h => h) (Or.inl ⟨by rfl, ?_⟩) ?_ ?_
   rotate_left
   ·intro w'
    go_simp
    with_reducible rfl
   rotate_left
   ·simp only [Act.put, s1_, s2_, s3_, i64_w, i32_w]
    rfl
   refine pure_ (i := 5) (N := some 18) (v := ?_) (a' := ?_) #[true, false, false, false, false, true, false, false, false] rfl rfl (any_of HT_.out (by kernel_rfl)) (fun _ _ _ h => h) (Or.inl ⟨by rfl, ?_⟩) ?_ ?_
   rotate_left
   ·intro w'
    go_simp
    with_reducible rfl
   rotate_left
   ·simp only [Act.put, s1_, s2_, s3_, i64_w, i32_w]
    rfl
   refine take_ (i := 1) (N := some 14) (v := ?_) (a' := ?_) #[true, true, false, false, false, true, false, false, false] rfl rfl (take_ofW HT_.out HW_.out (by kernel_rfl)) (fun _ _ _ h => h) (Or.inl ⟨by rfl, ?_⟩) hHeld ?_ ?_
   rotate_left
   ·intro w' _
    go_simp
    with_reducible rfl
   rotate_left
   ·simp only [Act.put, s1_, s2_, s3_, i64_w, i32_w]
    rfl
   refine pure_ (i := 2) (N := some 15) (v := ?_) (a' := ?_) #[true, true, true, false, false, true, false, false, false] rfl rfl (any_of HT_.out (by kernel_rfl)) (fun _ _ _ h => h) (Or.inl ⟨by rfl, ?_⟩) ?_ ?_
   rotate_left
   ·intro w'
    go_simp
    with_reducible rfl
   rotate_left
   ·simp only [Act.put, s1_, s2_, s3_, i64_w, i32_w]
    rfl
   refine pure_ (i := 3) (N := some 16) (v := ?_) (a' := ?_) #[true, true, true, true, false, true, false, false, false] rfl rfl (any_of HT_.out (by kernel_rfl)) (fun _ _ _ h => h) (Or.inl ⟨by rfl, ?_⟩) ?_ ?_
   rotate_left
   ·intro w'
    go_simp
    with_reducible rfl
   rotate_left
   ·simp only [Act.put, s1_, s2_, s3_, i64_w, i32_w]
    rfl
   refine pure_ (i := 4) (N := some 17) (v := ?_) (a' := ?_) #[true, true, true, true, true, true, false, false, false] rfl rfl (any_of HT_.out (by kernel_rfl)) (fun _ _ _ h => h) (Or.inl ⟨by rfl, ?_⟩) ?_ ?_
   rotate_left
   ·intro w'
    go_simp
    with_reducible rfl
   rotate_left
   ·simp only [Act.put, s1_, s2_, s3_, i64_w, i32_w]
    rfl
   refine one_ (i := 6) (N := some 19) #[true, true, true, true, true, true, true, false, false] rfl rfl (one_of HT_.out (by kernel_rfl)) (by decide) (fun K hK => ?_)
   refine goes_ Try.func17 (by kernel_rfl) rfl #[.string a0, .int .i64 2, .int .i64 2] (by rfl) rfl rfl (by (try simp only [List.map_toArray, List.map_cons, List.map_nil]); first | done | rfl | (simp only [List.length_drop, List.length_take]; rfl) | (simp only [ByteArray.size_append, ByteArray.size_extract, Nat.sub_zero, Int.natCast_add]; rfl) | (simp [ByteArray.size_append]; done)) ?_
   with_reducible refine (ipfour_take.calls k a0 2 2 t102 _ A7.out).mono ?_
   rintro e w71 ⟨rfl, hb⟩
   refine ⟨_, rfl, ?_⟩
   have n0_ := Aside0.mk (bB_ BK101.out hb)
   have n1_ := Aside0.mk (below_step (bU_ HB.out) hb)
   clear BK101
   clear HB
   have BK101 := n0_
   have HB := n1_
   clear n0_ n1_
   (try clear hb)
   (try clear hb2)
   (try clear hk)
   (try clear hi)
   refine hK.out _ _ trivial (fun hHeld => ?_)
   clear hK K
   refine norm_ (a' := ?_) ?_ ?_
   rotate_left
   ·show Act.put _ (some 19) _ = _
    simp only [Act.put, s1_, s2_, s3_, i64_w, i32_w]
    rfl
   refine pure_ (i := 7) (N := some 5) (v := ?_) (a' := ?_) #[true, true, true, true, true, true, true, true, false] rfl rfl (any_of HT_.out (by kernel_rfl)) (fun _ _ _ h => h) (Or.inl ⟨by rfl, ?_⟩) ?_ ?_
   rotate_left
   ·intro w'
    go_simp
    with_reducible rfl
   rotate_left
   ·simp only [Act.put, s1_, s2_, s3_, i64_w, i32_w]
    rfl
   refine pure_ (i := 8) (N := some 6) (v := ?_) (a' := ?_) #[true, true, true, true, true, true, true, true, true] rfl rfl (any_of HT_.out (by kernel_rfl)) (fun _ _ _ h => h) (Or.inl ⟨by rfl, ?_⟩) ?_ ?_
   rotate_left
   ·intro w'
    go_simp
    with_reducible rfl
   rotate_left
   ·simp only [Act.put, s1_, s2_, s3_, i64_w, i32_w]
    rfl
   refine done_ (done_of HT_.out (by kernel_rfl)) ?_
   have p8 : 0 ≤ (0 : Int) := (by omega)
   have q8 : 0 < a0.size := (by have : (0 : Int) < (a0.size : Int) := oD_; omega)
   have hx8 : ∀ h : 0 < a0.size, ((a0[0]'h).toNat : Int) = bt a0 0 := bt_at a0 0
   clear p8
   have qi8 : (0 < (a0.size : Int)) = True := eq_true oD_
   replace q8 := eq_true q8
   have hcz72_0 : w71.cell? ⟨gb101, 0, none⟩ = some (.int .i64 0) := (blk_cell BK101.out 0).trans rfl
   have hcz72_1 : w71.cell? ⟨gb101, 1, none⟩ = some (.int .i64 0) := (blk_cell BK101.out 1).trans rfl
   have hcz72_2 : w71.cell? ⟨gb101, 2, none⟩ = some (.int .i64 0) := (blk_cell BK101.out 2).trans rfl
   have hcz72_3 : w71.cell? ⟨gb101, 3, none⟩ = some (.int .i64 0) := (blk_cell BK101.out 3).trans rfl
   have hcz72_4 : w71.cell? ⟨gb101, 4, none⟩ = some (.int .i64 0) := (blk_cell BK101.out 4).trans rfl
   have hcz72_5 : w71.cell? ⟨gb101, 5, none⟩ = some (.int .i64 0) := (blk_cell BK101.out 5).trans rfl
   have hcz72_6 : w71.cell? ⟨gb101, 6, none⟩ = some (.string ⟨#[]⟩) := (blk_cell BK101.out 6).trans rfl
   have hcz72_7 : w71.cell? ⟨gb101, 7, none⟩ = some (.string ⟨#[]⟩) := (blk_cell BK101.out 7).trans rfl
   have hcz72_8 : w71.cell? ⟨gb101, 8, none⟩ = some (.string ⟨#[]⟩) := (blk_cell BK101.out 8).trans rfl
   have hfz72_0 := blk_frozen BK101.out 0
   have hfz72_1 := blk_frozen BK101.out 1
   have hfz72_2 := blk_frozen BK101.out 2
   have hfz72_3 := blk_frozen BK101.out 3
   have hfz72_4 := blk_frozen BK101.out 4
   have hfz72_5 := blk_frozen BK101.out 5
   have hfz72_6 := blk_frozen BK101.out 6
   have hfz72_7 := blk_frozen BK101.out 7
   have hfz72_8 := blk_frozen BK101.out 8
   try go_wp2
   refine bodyPost_ret (results_ctt rfl _ _ gb101 27 #[.int .i64 0, .int .i64 0, .int .i64 0, .int .i64 0, .int .i64 0, .int .i64 0, .string ⟨#[]⟩, .string ⟨#[]⟩, .string ⟨#[]⟩] (0, 0) _ rfl (by (with_reducible repeat first | apply pN_ | apply pD_ | apply pA_); refine blk_put (cs := Z7_0) ?_ 8 _ rfl; (with_reducible repeat first | apply pN_ | apply pD_ | apply pA_); refine blk_put (cs := Z7_0) ?_ 7 _ rfl; (with_reducible repeat first | apply pN_ | apply pD_ | apply pA_); refine blk_put (cs := Z7_0) ?_ 6 _ rfl; (with_reducible repeat first | apply pN_ | apply pD_ | apply pA_); refine blk_put (cs := Z7_0) ?_ 5 _ rfl; (with_reducible repeat first | apply pN_ | apply pD_ | apply pA_); refine blk_put (cs := Z7_0) ?_ 4 _ rfl; (with_reducible repeat first | apply pN_ | apply pD_ | apply pA_); refine blk_put (cs := Z7_0) ?_ 3 _ rfl; (with_reducible repeat first | apply pN_ | apply pD_ | apply pA_); refine blk_put (cs := Z7_0) ?_ 2 _ rfl; (with_reducible repeat first | apply pN_ | apply pD_ | apply pA_); refine blk_put (cs := Z7_0) ?_ 1 _ rfl; (with_reducible repeat first | apply pN_ | apply pD_ | apply pA_); refine blk_put (cs := Z7_0) ?_ 0 _ rfl; (with_reducible repeat first | apply pN_ | apply pD_ | apply pA_); exact BK101.out) Try.underlying27 rfl (by kernel_rfl)) rfl ?_
   exact rE_ (bU_ HB.out)
end Go.Proofs.Ytdmofjhncdkofaa.Q
