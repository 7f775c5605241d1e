-- made by a program of this session (wip/print-patch.py, over the kit's print)
import Derived.Test.YtfdhifigndmgaaaQx0
import Derived.Test.YtfdhifigndmgaaaQx3
import Derived.Test.YtfdhifigndmgaaaQx7
namespace Go.Proofs.Ytfdhifigndmgaaa.Q
open Go.RowKit Go.Proofs.YtfdhifigndmgaaaW.PrintWords Go.Proofs.YtfdhifigndmgaaaW.PrintLast Go.Proofs.YtfdhifigndmgaaaW.PrintMore
attribute [local go_sem] max2_int min2_int max_two min_two max_three min_three max_four min_four   -- for this text's walks alone
set_option linter.unusedVariables false
set_option linter.unusedSimpArgs false

attribute [local go_sem] cell_twice_ cell_twiceN_
/-! ### rillmeterlaw09_awake: function 12 -/
def rillmeterlaw09_awake.f (k : Nat)  : Option (Bool) := (flow_Key.f k (⟨#[115, 115, 115, 115, 115, 115, 115, 115, 115, 115, 115, 115, 115, 115, 115, 115]⟩ : ByteArray) (⟨#[100, 100, 100, 100, 100, 100, 100, 100, 100, 100, 100, 100, 100, 100, 100, 100]⟩ : ByteArray) 17 258 1).bind fun bt101 => ((flow_Of.f k bt101.1).bind fun bt103 => (if bt101.1.toList = ([115, 115, 115, 115, 115, 115, 115, 115, 115, 115, 115, 115, 115, 115, 115, 115, 100, 100, 100, 100, 100, 100, 100, 100, 100, 100, 100, 100, 100, 100, 100, 100, 17, 1, 2, 0, 1] : List UInt8) then (if bt101.2 = 0 then (if bt103.2.2.2.1 = 258 then (some (bt103.2.2.2.2.2 == 0)) else (some false)) else (some false)) else (some false)))
theorem rillmeterlaw09_awake.mono : ∀ k, LeO (rillmeterlaw09_awake.f k ) (rillmeterlaw09_awake.f (k + 1) ) := by
 intro  k
 unfold rillmeterlaw09_awake.f
 repeat' first
   | (with_reducible exact flow_Key.mono _ _ _ _ _ _)
   | (with_reducible exact flow_Of.mono _ _)
   | (with_reducible exact LeO.refl _)
   | (with_reducible exact LeO.none _)
   | (with_reducible refine LeO.ite ?_ ?_)
   | (with_reducible refine LeO.bind ?_ (fun _ => ?_))
   | exact flow_Key.mono _ _ _ _ _ _
   | exact flow_Of.mono _ _
   | exact LeO.none _
   | refine LeO.ite ?_ ?_
   | refine LeO.bind ?_ (fun _ => ?_)
set_option maxHeartbeats 8000000 in
set_option maxRecDepth 100000 in
theorem rillmeterlaw09_awake.calls (k : Nat)  (r : Bool) (w : World) (hrt : Aside0 (r = true)) (h : rillmeterlaw09_awake.f k  = some r) :
  Calls Try.prog 12 #[] w fun e w' => e = .returned (.bool r) ∧ Below w.heap.size w w' := by
 have hu23 := Try.underlying23
 have HB := Aside0.mk (Below.refl w.heap.size w)
 have H : ((flow_Key.f k (⟨#[115, 115, 115, 115, 115, 115, 115, 115, 115, 115, 115, 115, 115, 115, 115, 115]⟩ : ByteArray) (⟨#[100, 100, 100, 100, 100, 100, 100, 100, 100, 100, 100, 100, 100, 100, 100, 100]⟩ : ByteArray) 17 258 1).bind fun bt101 => ((flow_Of.f k bt101.1).bind fun bt103 => (if bt101.1.toList = ([115, 115, 115, 115, 115, 115, 115, 115, 115, 115, 115, 115, 115, 115, 115, 115, 100, 100, 100, 100, 100, 100, 100, 100, 100, 100, 100, 100, 100, 100, 100, 100, 17, 1, 2, 0, 1] : List UInt8) then (if bt101.2 = 0 then (if bt103.2.2.2.1 = 258 then (some (bt103.2.2.2.2.2 == 0)) else (some false)) else (some false)) else (some false)))) = some r := h
 clear h
 replace H := Option.bind_eq_some_iff.mp H
 obtain ⟨⟨t101, t102⟩, A10, H⟩ := H
 replace H : ((flow_Of.f k t101).bind fun bt103 => (if t101.toList = ([115, 115, 115, 115, 115, 115, 115, 115, 115, 115, 115, 115, 115, 115, 115, 115, 100, 100, 100, 100, 100, 100, 100, 100, 100, 100, 100, 100, 100, 100, 100, 100, 17, 1, 2, 0, 1] : List UInt8) then (if t102 = 0 then (if bt103.2.2.2.1 = 258 then (some (bt103.2.2.2.2.2 == 0)) else (some false)) else (some false)) else (some false))) = some r := H
 have A1 := Aside0.mk A10
 clear A10
 replace H := Option.bind_eq_some_iff.mp H
 obtain ⟨⟨t103, t104, t105, t106, t107, t108⟩, A20, H⟩ := H
 replace H : (if t101.toList = ([115, 115, 115, 115, 115, 115, 115, 115, 115, 115, 115, 115, 115, 115, 115, 115, 100, 100, 100, 100, 100, 100, 100, 100, 100, 100, 100, 100, 100, 100, 100, 100, 17, 1, 2, 0, 1] : List UInt8) then (if t102 = 0 then (if t106 = 258 then (some (t108 == 0)) else (some false)) else (some false)) else (some false)) = some r := H
 have A2 := Aside0.mk A20
 clear A20
 by_cases c3 : t101.toList = ([115, 115, 115, 115, 115, 115, 115, 115, 115, 115, 115, 115, 115, 115, 115, 115, 100, 100, 100, 100, 100, 100, 100, 100, 100, 100, 100, 100, 100, 100, 100, 100, 17, 1, 2, 0, 1] : List UInt8)
 rotate_left
 ·rw [if_neg c3] at H
  obtain rfl := Option.some.inj H
  exact absurd hrt.out (by decide)
 rw [if_pos c3] at H
 have c3b0 : (t101.toList == ([115, 115, 115, 115, 115, 115, 115, 115, 115, 115, 115, 115, 115, 115, 115, 115, 100, 100, 100, 100, 100, 100, 100, 100, 100, 100, 100, 100, 100, 100, 100, 100, 17, 1, 2, 0, 1] : List UInt8)) = true := beq_iff_eq.mpr c3
 have c3b1 : (t101.toList != ([115, 115, 115, 115, 115, 115, 115, 115, 115, 115, 115, 115, 115, 115, 115, 115, 100, 100, 100, 100, 100, 100, 100, 100, 100, 100, 100, 100, 100, 100, 100, 100, 17, 1, 2, 0, 1] : List UInt8)) = false := bne_eq_false_iff_eq.mpr c3
 clear c3
 by_cases c4 : t102 = 0
 rotate_left
 ·rw [if_neg c4] at H
  obtain rfl := Option.some.inj H
  exact absurd hrt.out (by decide)
 rw [if_pos c4] at H
 have c4b0 : (t102 == 0) = true := beq_iff_eq.mpr c4
 have c4b1 : (t102 != 0) = false := bne_eq_false_iff_eq.mpr c4
 clear c4
 by_cases c5 : t106 = 258
 rotate_left
 ·rw [if_neg c5] at H
  obtain rfl := Option.some.inj H
  exact absurd hrt.out (by decide)
 rw [if_pos c5] at H
 have c5b0 : (t106 == 258) = true := beq_iff_eq.mpr c5
 have c5b1 : (t106 != 258) = false := bne_eq_false_iff_eq.mpr c5
 clear c5
 obtain rfl := Option.some.inj H
 go_enter Try.func12, Try.ntmps12
 go_wp2_with (first | ((with_reducible refine gate_callee (f := 9) rfl ?_); refine gL_ (some 7) rfl rfl Try.func9 (by kernel_rfl) rfl #[.agg #[.string (⟨#[115, 115, 115, 115, 115, 115, 115, 115, 115, 115, 115, 115, 115, 115, 115, 115]⟩ : ByteArray), .string (⟨#[100, 100, 100, 100, 100, 100, 100, 100, 100, 100, 100, 100, 100, 100, 100, 100]⟩ : ByteArray), .int .i64 17, .int .i64 258, .int .i64 1]] rfl ?_; (with_reducible refine (flow_Key.calls k (⟨#[115, 115, 115, 115, 115, 115, 115, 115, 115, 115, 115, 115, 115, 115, 115, 115]⟩ : ByteArray) (⟨#[100, 100, 100, 100, 100, 100, 100, 100, 100, 100, 100, 100, 100, 100, 100, 100]⟩ : ByteArray) 17 258 1 t101 t102 _ A1.out).mono ?_); rintro e w6 ⟨rfl, hb⟩; refine ⟨_, rfl, ?_⟩; have n0_ := Aside0.mk (below_step (bU_ HB.out) hb); clear HB; have HB := n0_; clear n0_; (try clear hb); (try clear hb2); (try clear hk); (try clear hi)) | ((with_reducible refine gate_callee (f := 13) rfl ?_); refine gL_ (some 12) rfl rfl Try.func13 (by kernel_rfl) rfl #[.string t101] rfl ?_; (with_reducible refine (flow_Of.calls k t101 t103 t104 t105 t106 t107 t108 _ A2.out).mono ?_); rintro e w7 ⟨rfl, hb⟩; refine ⟨_, rfl, ?_⟩; have n0_ := Aside0.mk (below_step (bU_ HB.out) hb); clear HB; have HB := n0_; clear n0_; (try clear hb); (try clear hb2); (try clear hk); (try clear hi)) | ((with_reducible refine gate_dst (N := 3) rfl ?_); refine box_event ?hg (N := 3) ?hd (cs := #[.string ⟨#[]⟩, .string ⟨#[]⟩, .int .i64 0, .int .i64 0, .int .i64 0]) (t := 23) ?hr ?_; (case hd => rfl); (case hg => rfl); (case hr => first | (go_simp; done) | (go_simp; rfl)); intro gb109 hg w8 hbox hb; have n0_ := Aside0.mk (below_step (bU_ HB.out) hb); have n1_ := Aside0.mk (hbox); have n2_ := Aside0.mk ((by rw [hg]; exact (below_size (bU_ HB.out)) : w.heap.size ≤ gb109)); have n3_ := Aside0.mk ((by rw [hg]; exact (below_size (bU_ HB.out)) : w.heap.size ≤ gb109)); clear HB; have HB := n0_; have BK109 := n1_; have GW109 := n2_; have GE109 := n3_; clear n0_ n1_ n2_ n3_; clear hb hbox hg; have hcz9_0 : w8.cell? ⟨gb109, 0, none⟩ = some (.string ⟨#[]⟩) := (blk_cell BK109.out 0).trans rfl; have hcz9_1 : w8.cell? ⟨gb109, 1, none⟩ = some (.string ⟨#[]⟩) := (blk_cell BK109.out 1).trans rfl; have hcz9_2 : w8.cell? ⟨gb109, 2, none⟩ = some (.int .i64 0) := (blk_cell BK109.out 2).trans rfl; have hcz9_3 : w8.cell? ⟨gb109, 3, none⟩ = some (.int .i64 0) := (blk_cell BK109.out 3).trans rfl; have hcz9_4 : w8.cell? ⟨gb109, 4, none⟩ = some (.int .i64 0) := (blk_cell BK109.out 4).trans rfl; have hfz9_0 := blk_frozen BK109.out 0; have hfz9_1 := blk_frozen BK109.out 1; have hfz9_2 := blk_frozen BK109.out 2; have hfz9_3 := blk_frozen BK109.out 3; have hfz9_4 := blk_frozen BK109.out 4))
 go_ret
 exact ⟨by first | rfl | (simp [errW_none, errW_some] <;> rfl) | (simp [*, errW_none, errW_some] <;> rfl), bU_ HB.out⟩
/-! ### rillmeterref09_Key: function 14 -/
def rillmeterref09_Key.f (a0_0 : ByteArray) (a0_1 : ByteArray) (a0_2 : Int) (a0_3 : Int) (a0_4 : Int) : Option (ByteArray) := (some (([(a0_2) % 256, (wrap64 (Int.tdiv a0_3 256)) % 256, (Int.tmod a0_3 256) % 256, (wrap64 (Int.tdiv a0_4 256)) % 256, (Int.tmod a0_4 256) % 256] : List Int) : List Int)).bind fun y102 => (if a0_0.size + a0_1.size ≤ 9223372036854775807 then (if (a0_0 ++ a0_1).size + (strOfNums y102).size ≤ 9223372036854775807 then (some ((a0_0 ++ a0_1) ++ (strOfNums y102))) else (none)) else (none))
set_option maxHeartbeats 8000000 in
set_option maxRecDepth 100000 in
theorem rillmeterref09_Key.calls (a0_0 : ByteArray) (a0_1 : ByteArray) (a0_2 : Int) (a0_3 : Int) (a0_4 : Int) (r : ByteArray) (w : World) (h : rillmeterref09_Key.f a0_0 a0_1 a0_2 a0_3 a0_4 = some r) :
  Calls Try.prog 14 #[.agg #[.string a0_0, .string a0_1, .int .i64 a0_2, .int .i64 a0_3, .int .i64 a0_4]] w fun e w' => e = .returned (.string r) ∧ Below w.heap.size w w' := by
 have hu23 := Try.underlying23
 have HB := Aside0.mk (Below.refl w.heap.size w)
 have H : ((some (([(a0_2) % 256, (wrap64 (Int.tdiv a0_3 256)) % 256, (Int.tmod a0_3 256) % 256, (wrap64 (Int.tdiv a0_4 256)) % 256, (Int.tmod a0_4 256) % 256] : List Int) : List Int)).bind fun y102 => (if a0_0.size + a0_1.size ≤ 9223372036854775807 then (if (a0_0 ++ a0_1).size + (strOfNums y102).size ≤ 9223372036854775807 then (some ((a0_0 ++ a0_1) ++ (strOfNums y102))) else (none)) else (none))) = some r := h
 clear h
 obtain ⟨y102, hy102⟩ : ∃ y_ : List Int, y_ = (([(a0_2) % 256, (wrap64 (Int.tdiv a0_3 256)) % 256, (Int.tmod a0_3 256) % 256, (wrap64 (Int.tdiv a0_4 256)) % 256, (Int.tmod a0_4 256) % 256] : List Int)) := ⟨_, rfl⟩
 replace H : (if a0_0.size + a0_1.size ≤ 9223372036854775807 then (if (a0_0 ++ a0_1).size + (strOfNums y102).size ≤ 9223372036854775807 then (some ((a0_0 ++ a0_1) ++ (strOfNums y102))) else (none)) else (none)) = some r := by first | (rw [hy102]; with_reducible exact H) | (have H2_ := (Option.bind_some _ _).symm.trans H; rw [hy102]; with_reducible exact H2_) | (have H2_ := (Option.bind_some _ _).symm.trans H; with_reducible exact H2_) | with_reducible exact H | (rw [hy102]; exact H) | exact H
 have Ny102 := Aside0.mk hy102
 clear hy102
 by_cases c2 : a0_0.size + a0_1.size ≤ 9223372036854775807
 rotate_left
 ·rw [if_neg c2] at H
  exact absurd H (by simp)
 rw [if_pos c2] at H
 have c2b0 := eq_true c2
 have c2b1 : decide (a0_0.size + a0_1.size ≤ 9223372036854775807) = true := decide_eq_true c2
 try have c2b2 : (9223372036854775807 < a0_0.size + a0_1.size) = False := eq_false (Nat.not_lt.2 c2)
 try (have c2b3 := c2; simp only [ByteArray.size_append, ByteArray.size_extract, Nat.sub_zero, Nat.min_self] at c2b3; have c2b4 := eq_false (Nat.not_lt.2 c2b3))
 by_cases c3 : (a0_0 ++ a0_1).size + (strOfNums y102).size ≤ 9223372036854775807
 rotate_left
 ·rw [if_neg c3] at H
  exact absurd H (by simp)
 rw [if_pos c3] at H
 have c3b0 := eq_true c3
 have c3b1 : decide ((a0_0 ++ a0_1).size + (strOfNums y102).size ≤ 9223372036854775807) = true := decide_eq_true c3
 try have c3b2 : (9223372036854775807 < (a0_0 ++ a0_1).size + (strOfNums y102).size) = False := eq_false (Nat.not_lt.2 c3)
 try (have c3b3 := c3; simp only [ByteArray.size_append, ByteArray.size_extract, Nat.sub_zero, Nat.min_self] at c3b3; have c3b4 := eq_false (Nat.not_lt.2 c3b3))
 obtain rfl := Option.some.inj H
 go_enter Try.func14, Try.ntmps14
 go_wp2_with (first | ((with_reducible refine gate_dst (N := 1) rfl ?_); refine box_event ?hg (N := 1) ?hd (cs := #[.string a0_0, .string a0_1, .int .i64 a0_2, .int .i64 a0_3, .int .i64 a0_4]) (t := 23) ?hr ?_; (case hd => rfl); (case hg => rfl); (case hr => first | (go_simp; done) | (go_simp; rfl)); intro gb101 hg w4 hbox hb; have n0_ := Aside0.mk (below_step (bU_ HB.out) hb); have n1_ := Aside0.mk (hbox); have n2_ := Aside0.mk ((by rw [hg]; exact (below_size (bU_ HB.out)) : w.heap.size ≤ gb101)); have n3_ := Aside0.mk ((by rw [hg]; exact (below_size (bU_ HB.out)) : w.heap.size ≤ gb101)); clear HB; have HB := n0_; have BK101 := n1_; have GW101 := n2_; have GE101 := n3_; clear n0_ n1_ n2_ n3_; clear hb hbox hg; have hcz5_0 : w4.cell? ⟨gb101, 0, none⟩ = some (.string a0_0) := (blk_cell BK101.out 0).trans rfl; have hcz5_1 : w4.cell? ⟨gb101, 1, none⟩ = some (.string a0_1) := (blk_cell BK101.out 1).trans rfl; have hcz5_2 : w4.cell? ⟨gb101, 2, none⟩ = some (.int .i64 a0_2) := (blk_cell BK101.out 2).trans rfl; have hcz5_3 : w4.cell? ⟨gb101, 3, none⟩ = some (.int .i64 a0_3) := (blk_cell BK101.out 3).trans rfl; have hcz5_4 : w4.cell? ⟨gb101, 4, none⟩ = some (.int .i64 a0_4) := (blk_cell BK101.out 4).trans rfl; have hfz5_0 := blk_frozen BK101.out 0; have hfz5_1 := blk_frozen BK101.out 1; have hfz5_2 := blk_frozen BK101.out 2; have hfz5_3 := blk_frozen BK101.out 3; have hfz5_4 := blk_frozen BK101.out 4) | ((with_reducible refine gate_dst (N := 23) rfl ?_); refine Kd.R_lit (Kd.int .u8) _ 5 ?hg (N := 23) ?hd (xs := ([(a0_2) % 256, (wrap64 (Int.tdiv a0_3 256)) % 256, (Int.tmod a0_3 256) % 256, (wrap64 (Int.tdiv a0_4 256)) % 256, (Int.tmod a0_4 256) % 256] : List Int)) (inner := [.int .u8 ((a0_2) % 256), .int .u8 ((wrap64 (Int.tdiv a0_3 256)) % 256), .int .u8 ((Int.tmod a0_3 256) % 256), .int .u8 ((wrap64 (Int.tdiv a0_4 256)) % 256), .int .u8 ((Int.tmod a0_4 256) % 256)]) (ok := fun _ => True) (okp := fun _ => True) ?hr ?hp (fun _ hk => hk) trivial (Below.refl _ _) (Nat.le_refl _) (by simp) ?_; (case hd => rfl); (case hg => rfl); (case hr => first | (go_simp; done) | (go_simp; rfl)); (case hp => exact (Reps.one (show Kd.M (Kd.int .u8) _ _ _ ((a0_2) % 256) [.int .u8 ((a0_2) % 256)] from rfl) (Reps.one (show Kd.M (Kd.int .u8) _ _ _ ((wrap64 (Int.tdiv a0_3 256)) % 256) [.int .u8 ((wrap64 (Int.tdiv a0_3 256)) % 256)] from rfl) (Reps.one (show Kd.M (Kd.int .u8) _ _ _ ((Int.tmod a0_3 256) % 256) [.int .u8 ((Int.tmod a0_3 256) % 256)] from rfl) (Reps.one (show Kd.M (Kd.int .u8) _ _ _ ((wrap64 (Int.tdiv a0_4 256)) % 256) [.int .u8 ((wrap64 (Int.tdiv a0_4 256)) % 256)] from rfl) (Reps.one (show Kd.M (Kd.int .u8) _ _ _ ((Int.tmod a0_4 256) % 256) [.int .u8 ((Int.tmod a0_4 256) % 256)] from rfl) (Reps.none _ _))))))); intro v103 w6 ho7 hb hg_ hnew_; clear hg_ hnew_; (first | rw [← Ny102.out] at ho7 | (simp only [Int.reduceToNat] at ho7; rw [← Ny102.out] at ho7)); have n0_ := Aside0.mk (Kd.R_lower ho7 (below_size (bU_ HB.out))); have n1_ := Aside0.mk (blk_below (g := gb101) (o := .cells #[.string a0_0, .string a0_1, .int .i64 a0_2, .int .i64 a0_3, .int .i64 a0_4] 23 (0, 0)) (by (with_reducible repeat first | apply pN_ | apply pD_ | apply pA_); exact BK101.out) hb); have n2_ := Aside0.mk (below_step (bU_ HB.out) hb); clear BK101 HB; have HO104 := n0_; have BK101 := n1_; have HB := n2_; clear n0_ n1_ n2_; clear hb ho7; have hcz8_0 : w6.cell? ⟨gb101, 0, none⟩ = some (.string a0_0) := (blk_cell BK101.out 0).trans rfl; have hcz8_1 : w6.cell? ⟨gb101, 1, none⟩ = some (.string a0_1) := (blk_cell BK101.out 1).trans rfl; have hcz8_2 : w6.cell? ⟨gb101, 2, none⟩ = some (.int .i64 a0_2) := (blk_cell BK101.out 2).trans rfl; have hcz8_3 : w6.cell? ⟨gb101, 3, none⟩ = some (.int .i64 a0_3) := (blk_cell BK101.out 3).trans rfl; have hcz8_4 : w6.cell? ⟨gb101, 4, none⟩ = some (.int .i64 a0_4) := (blk_cell BK101.out 4).trans rfl; have hfz8_0 := blk_frozen BK101.out 0; have hfz8_1 := blk_frozen BK101.out 1; have hfz8_2 := blk_frozen BK101.out 2; have hfz8_3 := blk_frozen BK101.out 3; have hfz8_4 := blk_frozen BK101.out 4; have hcv9 := own_string (P := Try.prog) Try.underlying45 Try.underlying5 Try.underlying9 (Kd.own_of_R HO104.out)))
 go_ret
 exact ⟨by first | rfl | (simp [errW_none, errW_some] <;> rfl) | (simp [*, errW_none, errW_some] <;> rfl), bU_ HB.out⟩
/-! ### flow_Source: function 15 -/
def flow_Source.f (a0 : ByteArray) : Option (ByteArray) := if (a0.size : Int) = 37 then (if 0 ≤ 16 then (if 16 ≤ (a0.size : Int) then (some (a0.extract 0 16)) else (none)) else (none)) else (some (⟨#[]⟩ : ByteArray))
set_option maxHeartbeats 8000000 in
set_option maxRecDepth 100000 in
theorem flow_Source.calls (a0 : ByteArray) (r : ByteArray) (w : World) (h : flow_Source.f a0 = some r) :
  Calls Try.prog 15 #[.string a0] w fun e w' => e = .returned (.string r) ∧ Drawn0 w w' := by
 have H : (if (a0.size : Int) = 37 then (if 0 ≤ 16 then (if 16 ≤ (a0.size : Int) then (some (a0.extract 0 16)) else (none)) else (none)) else (some (⟨#[]⟩ : ByteArray))) = some r := h
 clear h
 by_cases c2 : (a0.size : Int) = 37
 ·rw [if_pos c2] at H
  have c2b0 : ((a0.size : Int) == 37) = true := beq_iff_eq.mpr c2
  have c2b1 : ((a0.size : Int) != 37) = false := bne_eq_false_iff_eq.mpr c2
  clear c2
  by_cases c3 : 0 ≤ 16
  rotate_left
  ·rw [if_neg c3] at H
   exact absurd H (by simp)
  rw [if_pos c3] at H
  have c3b0 := eq_true c3
  have c3b1 : decide (0 ≤ 16) = true := decide_eq_true c3
  clear c3
  by_cases c4 : 16 ≤ (a0.size : Int)
  rotate_left
  ·rw [if_neg c4] at H
   exact absurd H (by simp)
  rw [if_pos c4] at H
  have c4b0 := eq_true c4
  have c4b1 : decide (16 ≤ (a0.size : Int)) = true := decide_eq_true c4
  clear c4
  obtain rfl := Option.some.inj H
  go_enter Try.func15, Try.ntmps15
  go_wp2
  go_ret
  exact ⟨by first | rfl | (simp; done) | (simp [*]; done), by repeat (first | exact Drawn0.refl _ | apply Drawn0.step)⟩
 ·rw [if_neg c2] at H
  have c2b0 : ((a0.size : Int) == 37) = false := beq_eq_false_iff_ne.mpr c2
  have c2b1 : ((a0.size : Int) != 37) = true := bne_iff_ne.mpr c2
  obtain rfl := Option.some.inj H
  go_enter Try.func15, Try.ntmps15
  go_wp2
  go_ret
  exact ⟨by first | rfl | (simp; done) | (simp [*]; done), by repeat (first | exact Drawn0.refl _ | apply Drawn0.step)⟩
/-! ### flow_Target: function 16 -/
def flow_Target.f (a0 : ByteArray) : Option (ByteArray) := if (a0.size : Int) = 37 then (if 16 ≤ 32 then (if 32 ≤ (a0.size : Int) then (some (a0.extract 16 32)) else (none)) else (none)) else (some (⟨#[]⟩ : ByteArray))
set_option maxHeartbeats 8000000 in
set_option maxRecDepth 100000 in
theorem flow_Target.calls (a0 : ByteArray) (r : ByteArray) (w : World) (h : flow_Target.f a0 = some r) :
  Calls Try.prog 16 #[.string a0] w fun e w' => e = .returned (.string r) ∧ Drawn0 w w' := by
 have H : (if (a0.size : Int) = 37 then (if 16 ≤ 32 then (if 32 ≤ (a0.size : Int) then (some (a0.extract 16 32)) else (none)) else (none)) else (some (⟨#[]⟩ : ByteArray))) = some r := h
 clear h
 by_cases c2 : (a0.size : Int) = 37
 ·rw [if_pos c2] at H
  have c2b0 : ((a0.size : Int) == 37) = true := beq_iff_eq.mpr c2
  have c2b1 : ((a0.size : Int) != 37) = false := bne_eq_false_iff_eq.mpr c2
  clear c2
  by_cases c3 : 16 ≤ 32
  rotate_left
  ·rw [if_neg c3] at H
   exact absurd H (by simp)
  rw [if_pos c3] at H
  have c3b0 := eq_true c3
  have c3b1 : decide (16 ≤ 32) = true := decide_eq_true c3
  clear c3
  by_cases c4 : 32 ≤ (a0.size : Int)
  rotate_left
  ·rw [if_neg c4] at H
   exact absurd H (by simp)
  rw [if_pos c4] at H
  have c4b0 := eq_true c4
  have c4b1 : decide (32 ≤ (a0.size : Int)) = true := decide_eq_true c4
  clear c4
  obtain rfl := Option.some.inj H
  go_enter Try.func16, Try.ntmps16
  go_wp2
  go_ret
  exact ⟨by first | rfl | (simp; done) | (simp [*]; done), by repeat (first | exact Drawn0.refl _ | apply Drawn0.step)⟩
 ·rw [if_neg c2] at H
  have c2b0 : ((a0.size : Int) == 37) = false := beq_eq_false_iff_ne.mpr c2
  have c2b1 : ((a0.size : Int) != 37) = true := bne_iff_ne.mpr c2
  obtain rfl := Option.some.inj H
  go_enter Try.func16, Try.ntmps16
  go_wp2
  go_ret
  exact ⟨by first | rfl | (simp; done) | (simp [*]; done), by repeat (first | exact Drawn0.refl _ | apply Drawn0.step)⟩
end Go.Proofs.Ytfdhifigndmgaaa.Q
