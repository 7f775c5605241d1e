-- made by a program of this session (wip/print-patch.py, over the kit's print)
import Derived.Test.YtfdhifigndmgaaaQx0
import Derived.Test.YtfdhifigndmgaaaQx1
import Derived.Test.YtfdhifigndmgaaaQx3
import Derived.Test.YtfdhifigndmgaaaQx4
import Derived.Test.YtfdhifigndmgaaaQx5
import Derived.Test.YtfdhifigndmgaaaQx7
import Derived.Test.YtfdhifigndmgaaaQx8
namespace Go.Proofs.Ytfdhifigndmgaaa.Q
open Go.RowKit Go.Proofs.YtfdhifigndmgaaaW.PrintWords Go.Proofs.YtfdhifigndmgaaaW.PrintLast Go.Proofs.YtfdhifigndmgaaaW.PrintMore
attribute [local go_sem] max2_int min2_int max_two min_two max_three min_three max_four min_four   -- for this text's walks alone
set_option linter.unusedVariables false
set_option linter.unusedSimpArgs false

attribute [local go_sem] cell_twice_ cell_twiceN_
attribute [local go_sem high] eqA23
/-! ### rillmeterlaw09_FlowKeys: function 3 -/
def rillmeterlaw09_FlowKeys.f (k : Nat) (a0_0 : ByteArray) (a0_1 : ByteArray) (a0_2 : Int) (a0_3 : Int) (a0_4 : Int) : Option (Bool) := (flow_Key.f k a0_0 a0_1 a0_2 a0_3 a0_4).bind fun bt102 => ((rillmeterref09_Right.f k a0_0 a0_1 a0_2 a0_3 a0_4).bind fun t104 => ((flow_Right.f k a0_0 a0_1 a0_2 a0_3 a0_4).bind fun t105 => (if (t105 != t104) = true then (some false) else (if t104 = true then ((flow_Of.f k bt102.1).bind fun bt107 => ((rillmeterref09_Key.f a0_0 a0_1 a0_2 a0_3 a0_4).bind fun t114 => (if bt102.1.toList = t114.toList then (if bt102.2 = 0 then (if (bt107.1.toList == a0_0.toList && (bt107.2.1.toList == a0_1.toList && (bt107.2.2.1 == a0_2 && (bt107.2.2.2.1 == a0_3 && (bt107.2.2.2.2.1 == a0_4))))) = true then (if bt107.2.2.2.2.2 = 0 then ((flow_Source.f bt102.1).bind fun t115 => (if t115.toList = a0_0.toList then ((flow_Target.f bt102.1).bind fun t116 => (if t116.toList = a0_1.toList then ((rillmeterlaw09_awake.f k).bind fun t117 => (some t117)) else (some false))) else (some false))) else (some false)) else (some false)) else (some false)) else (some false)))) else (if bt102.1.toList = ([] : List UInt8) then (if bt102.2 = 1 then ((rillmeterlaw09_awake.f k).bind fun t106 => (some t106)) else (some false)) else (some false))))))
theorem rillmeterlaw09_FlowKeys.mono : ∀ a0 a1 a2 a3 a4 k, LeO (rillmeterlaw09_FlowKeys.f k a0 a1 a2 a3 a4) (rillmeterlaw09_FlowKeys.f (k + 1) a0 a1 a2 a3 a4) := by
 intro a0 a1 a2 a3 a4 k
 unfold rillmeterlaw09_FlowKeys.f
 repeat' first
   | (with_reducible exact flow_Key.mono _ _ _ _ _ _)
   | (with_reducible exact flow_Of.mono _ _)
   | (with_reducible exact flow_Right.mono _ _ _ _ _ _)
   | (with_reducible exact rillmeterlaw09_awake.mono _)
   | (with_reducible exact rillmeterref09_Right.mono _ _ _ _ _ _)
   | (with_reducible exact LeO.refl _)
   | (with_reducible exact LeO.none _)
   | (with_reducible refine LeO.ite ?_ ?_)
   | (with_reducible refine LeO.bind ?_ (fun _ => ?_))
   | exact flow_Key.mono _ _ _ _ _ _
   | exact flow_Of.mono _ _
   | exact flow_Right.mono _ _ _ _ _ _
   | exact rillmeterlaw09_awake.mono _
   | exact rillmeterref09_Right.mono _ _ _ _ _ _
   | exact LeO.none _
   | refine LeO.ite ?_ ?_
   | refine LeO.bind ?_ (fun _ => ?_)
def rillmeterlaw09_FlowKeys.T8 : Bool × List (List Nat × List Nat) := (true, [([], []), ([], []), ([1], [1]), ([0, 2], [0, 2]), ([3, 2], [3]), ([4], [4]), ([5, 4], [4, 5]), ([4, 6], [4, 6]), ([7, 4], [7]), ([8], [8]), ([8], [8]), ([9, 10, 8], [8, 9, 10]), ([8, 11], [8, 11]), ([12, 8], [12]), ([13], [13]), ([14, 13], [13, 14]), ([13, 15], [13, 15]), ([16, 13], [16]), ([17], [17]), ([18, 17, 17], [17, 18]), ([17], [17]), ([20, 17], [17, 20]), ([19, 21, 17], [17, 19, 21]), ([17, 22], [17, 22]), ([23, 19], [23]), ([24], [24]), ([25, 24, 24], [24, 25]), ([24], [24]), ([27, 24], [24, 27]), ([26, 28, 24], [24, 26, 28]), ([24, 29], [24, 29]), ([30, 26], [30]), ([31, 31], [31]), ([31, 32], [31, 32]), ([33, 32, 0, 1, 2, 3, 4, 5, 6, 7, 8, 9, 10, 11, 12, 13, 14, 15, 16, 17, 18, 19, 20, 21, 22, 23, 24, 25, 26, 27, 28, 29, 30, 31, 32, 33], [33])])
def rillmeterlaw09_FlowKeys.B8 : List Nat := [0, 0, 2, 7, 15, 31, 63, 127, 255, 511, 511, 2047, 4095, 8191, 16383, 32767, 65535, 131071, 262143, 524287, 262143, 1310719, 4194303, 8388607, 16777215, 33554431, 67108863, 33554431, 167772159, 536870911, 1073741823, 2147483647, 4294967295, 8589934591, 17179869183]
theorem rillmeterlaw09_FlowKeys.tab8 : rtab .any (opsOf Try.f3 8) = rillmeterlaw09_FlowKeys.T8 := by kernel_rfl
theorem rillmeterlaw09_FlowKeys.bits8 : waitsOk rillmeterlaw09_FlowKeys.T8.2 rillmeterlaw09_FlowKeys.B8 = true := by kernel_rfl
set_option maxHeartbeats 8000000 in
set_option maxRecDepth 100000 in
theorem rillmeterlaw09_FlowKeys.calls (k : Nat) (a0_0 : ByteArray) (a0_1 : ByteArray) (a0_2 : Int) (a0_3 : Int) (a0_4 : Int) (r : Bool) (w : World) (hrt : Aside0 (r = true)) (h : rillmeterlaw09_FlowKeys.f k a0_0 a0_1 a0_2 a0_3 a0_4 = some r) :
  Calls Try.prog 3 #[.agg #[.string a0_0, .string a0_1, .int .i64 a0_2, .int .i64 a0_3, .int .i64 a0_4]] w fun e w' => e = .returned (.bool r) ∧ Below w.heap.size w w' := by
 have hu23 := Try.underlying23
 have HB := Aside0.mk (Below.refl w.heap.size w)
 have H : ((flow_Key.f k a0_0 a0_1 a0_2 a0_3 a0_4).bind fun bt102 => ((rillmeterref09_Right.f k a0_0 a0_1 a0_2 a0_3 a0_4).bind fun t104 => ((flow_Right.f k a0_0 a0_1 a0_2 a0_3 a0_4).bind fun t105 => (if (t105 != t104) = true then (some false) else (if t104 = true then ((flow_Of.f k bt102.1).bind fun bt107 => ((rillmeterref09_Key.f a0_0 a0_1 a0_2 a0_3 a0_4).bind fun t114 => (if bt102.1.toList = t114.toList then (if bt102.2 = 0 then (if (bt107.1.toList == a0_0.toList && (bt107.2.1.toList == a0_1.toList && (bt107.2.2.1 == a0_2 && (bt107.2.2.2.1 == a0_3 && (bt107.2.2.2.2.1 == a0_4))))) = true then (if bt107.2.2.2.2.2 = 0 then ((flow_Source.f bt102.1).bind fun t115 => (if t115.toList = a0_0.toList then ((flow_Target.f bt102.1).bind fun t116 => (if t116.toList = a0_1.toList then ((rillmeterlaw09_awake.f k).bind fun t117 => (some t117)) else (some false))) else (some false))) else (some false)) else (some false)) else (some false)) else (some false)))) else (if bt102.1.toList = ([] : List UInt8) then (if bt102.2 = 1 then ((rillmeterlaw09_awake.f k).bind fun t106 => (some t106)) else (some false)) else (some false))))))) = some r := h
 clear h
 replace H := Option.bind_eq_some_iff.mp H
 obtain ⟨⟨t102, t103⟩, A20, H⟩ := H
 replace H : ((rillmeterref09_Right.f k a0_0 a0_1 a0_2 a0_3 a0_4).bind fun t104 => ((flow_Right.f k a0_0 a0_1 a0_2 a0_3 a0_4).bind fun t105 => (if (t105 != t104) = true then (some false) else (if t104 = true then ((flow_Of.f k t102).bind fun bt107 => ((rillmeterref09_Key.f a0_0 a0_1 a0_2 a0_3 a0_4).bind fun t114 => (if t102.toList = t114.toList then (if t103 = 0 then (if (bt107.1.toList == a0_0.toList && (bt107.2.1.toList == a0_1.toList && (bt107.2.2.1 == a0_2 && (bt107.2.2.2.1 == a0_3 && (bt107.2.2.2.2.1 == a0_4))))) = true then (if bt107.2.2.2.2.2 = 0 then ((flow_Source.f t102).bind fun t115 => (if t115.toList = a0_0.toList then ((flow_Target.f t102).bind fun t116 => (if t116.toList = a0_1.toList then ((rillmeterlaw09_awake.f k).bind fun t117 => (some t117)) else (some false))) else (some false))) else (some false)) else (some false)) else (some false)) else (some false)))) else (if t102.toList = ([] : List UInt8) then (if t103 = 1 then ((rillmeterlaw09_awake.f k).bind fun t106 => (some t106)) else (some false)) else (some false)))))) = some r := H
 have A2 := Aside0.mk A20
 clear A20
 replace H := Option.bind_eq_some_iff.mp H
 obtain ⟨t104, A30, H⟩ := H
 replace H : ((flow_Right.f k a0_0 a0_1 a0_2 a0_3 a0_4).bind fun t105 => (if (t105 != t104) = true then (some false) else (if t104 = true then ((flow_Of.f k t102).bind fun bt107 => ((rillmeterref09_Key.f a0_0 a0_1 a0_2 a0_3 a0_4).bind fun t114 => (if t102.toList = t114.toList then (if t103 = 0 then (if (bt107.1.toList == a0_0.toList && (bt107.2.1.toList == a0_1.toList && (bt107.2.2.1 == a0_2 && (bt107.2.2.2.1 == a0_3 && (bt107.2.2.2.2.1 == a0_4))))) = true then (if bt107.2.2.2.2.2 = 0 then ((flow_Source.f t102).bind fun t115 => (if t115.toList = a0_0.toList then ((flow_Target.f t102).bind fun t116 => (if t116.toList = a0_1.toList then ((rillmeterlaw09_awake.f k).bind fun t117 => (some t117)) else (some false))) else (some false))) else (some false)) else (some false)) else (some false)) else (some false)))) else (if t102.toList = ([] : List UInt8) then (if t103 = 1 then ((rillmeterlaw09_awake.f k).bind fun t106 => (some t106)) else (some false)) else (some false))))) = some r := H
 have A3 := Aside0.mk A30
 clear A30
 replace H := Option.bind_eq_some_iff.mp H
 obtain ⟨t105, A40, H⟩ := H
 replace H : (if (t105 != t104) = true then (some false) else (if t104 = true then ((flow_Of.f k t102).bind fun bt107 => ((rillmeterref09_Key.f a0_0 a0_1 a0_2 a0_3 a0_4).bind fun t114 => (if t102.toList = t114.toList then (if t103 = 0 then (if (bt107.1.toList == a0_0.toList && (bt107.2.1.toList == a0_1.toList && (bt107.2.2.1 == a0_2 && (bt107.2.2.2.1 == a0_3 && (bt107.2.2.2.2.1 == a0_4))))) = true then (if bt107.2.2.2.2.2 = 0 then ((flow_Source.f t102).bind fun t115 => (if t115.toList = a0_0.toList then ((flow_Target.f t102).bind fun t116 => (if t116.toList = a0_1.toList then ((rillmeterlaw09_awake.f k).bind fun t117 => (some t117)) else (some false))) else (some false))) else (some false)) else (some false)) else (some false)) else (some false)))) else (if t102.toList = ([] : List UInt8) then (if t103 = 1 then ((rillmeterlaw09_awake.f k).bind fun t106 => (some t106)) else (some false)) else (some false)))) = some r := H
 have A4 := Aside0.mk A40
 clear A40
 by_cases c5 : (t105 != t104) = true
 ·rw [if_pos c5] at H
  obtain rfl := Option.some.inj H
  exact absurd hrt.out (by decide)
 rw [if_neg c5] at H
 have c5b0 : (t105 != t104) = false := by simpa using c5
 (try (have c5b1 : decide (t105 = t104) = true := by simpa using c5))
 (try (have c5b2 : (t105 == t104) = true := by simpa using c5))
 clear c5
 have HC6 := Aside0.mk H
 clear H
 go_enter Try.func3, Try.ntmps3
 go_upto_if 20 with (first | ((with_reducible refine gate_dst (N := 1) rfl ?_); refine box_event ?hg (N := 1) ?hd (cs := #[.string a0_0, .string a0_1, .int .i64 a0_2, .int .i64 a0_3, .int .i64 a0_4]) (t := 23) ?hr ?_; (case hd => rfl); (case hg => rfl); (case hr => first | (go_simp; done) | (go_simp; rfl)); intro gb101 hg w7 hbox hb; have n0_ := Aside0.mk (below_step (bU_ HB.out) hb); have n1_ := Aside0.mk (hbox); have n2_ := Aside0.mk ((by rw [hg]; exact (below_size (bU_ HB.out)) : w.heap.size ≤ gb101)); have n3_ := Aside0.mk ((by rw [hg]; exact (below_size (bU_ HB.out)) : w.heap.size ≤ gb101)); clear HB; have HB := n0_; have BK101 := n1_; have GW101 := n2_; have GE101 := n3_; clear n0_ n1_ n2_ n3_; clear hb hbox hg; have hcz8_0 : w7.cell? ⟨gb101, 0, none⟩ = some (.string a0_0) := (blk_cell BK101.out 0).trans rfl; have hcz8_1 : w7.cell? ⟨gb101, 1, none⟩ = some (.string a0_1) := (blk_cell BK101.out 1).trans rfl; have hcz8_2 : w7.cell? ⟨gb101, 2, none⟩ = some (.int .i64 a0_2) := (blk_cell BK101.out 2).trans rfl; have hcz8_3 : w7.cell? ⟨gb101, 3, none⟩ = some (.int .i64 a0_3) := (blk_cell BK101.out 3).trans rfl; have hcz8_4 : w7.cell? ⟨gb101, 4, none⟩ = some (.int .i64 a0_4) := (blk_cell BK101.out 4).trans rfl; have hfz8_0 := blk_frozen BK101.out 0; have hfz8_1 := blk_frozen BK101.out 1; have hfz8_2 := blk_frozen BK101.out 2; have hfz8_3 := blk_frozen BK101.out 3; have hfz8_4 := blk_frozen BK101.out 4) | ((with_reducible refine gate_callee (f := 9) rfl ?_); refine gL_ (some 10) rfl rfl Try.func9 (by kernel_rfl) rfl #[.agg #[.string a0_0, .string a0_1, .int .i64 a0_2, .int .i64 a0_3, .int .i64 a0_4]] rfl ?_; (with_reducible refine (flow_Key.calls k a0_0 a0_1 a0_2 a0_3 a0_4 t102 t103 _ A2.out).mono ?_); rintro e w9 ⟨rfl, hb⟩; refine ⟨_, rfl, ?_⟩; have n0_ := Aside0.mk (blk_below (g := gb101) (o := .cells #[.string a0_0, .string a0_1, .int .i64 a0_2, .int .i64 a0_3, .int .i64 a0_4] 23 (0, 0)) (by (with_reducible repeat first | apply pN_ | apply pD_ | apply pA_); exact BK101.out) hb); have n1_ := Aside0.mk (below_step (bU_ HB.out) hb); clear BK101; clear HB; have BK101 := n0_; have HB := n1_; clear n0_ n1_; (try clear hb); (try clear hb2); (try clear hk); (try clear hi); have hcz10_0 : w9.cell? ⟨gb101, 0, none⟩ = some (.string a0_0) := (blk_cell BK101.out 0).trans rfl; have hcz10_1 : w9.cell? ⟨gb101, 1, none⟩ = some (.string a0_1) := (blk_cell BK101.out 1).trans rfl; have hcz10_2 : w9.cell? ⟨gb101, 2, none⟩ = some (.int .i64 a0_2) := (blk_cell BK101.out 2).trans rfl; have hcz10_3 : w9.cell? ⟨gb101, 3, none⟩ = some (.int .i64 a0_3) := (blk_cell BK101.out 3).trans rfl; have hcz10_4 : w9.cell? ⟨gb101, 4, none⟩ = some (.int .i64 a0_4) := (blk_cell BK101.out 4).trans rfl; have hfz10_0 := blk_frozen BK101.out 0; have hfz10_1 := blk_frozen BK101.out 1; have hfz10_2 := blk_frozen BK101.out 2; have hfz10_3 := blk_frozen BK101.out 3; have hfz10_4 := blk_frozen BK101.out 4) | ((with_reducible refine gate_callee (f := 10) rfl ?_); refine gL_ (some 14) rfl rfl Try.func10 (by kernel_rfl) rfl #[.agg #[.string a0_0, .string a0_1, .int .i64 a0_2, .int .i64 a0_3, .int .i64 a0_4]] rfl ?_; (with_reducible refine (rillmeterref09_Right.calls k a0_0 a0_1 a0_2 a0_3 a0_4 t104 _ A3.out).mono ?_); rintro e w11 ⟨rfl, hb⟩; refine ⟨_, rfl, ?_⟩; have n0_ := Aside0.mk (blk_below (g := gb101) (o := .cells #[.string a0_0, .string a0_1, .int .i64 a0_2, .int .i64 a0_3, .int .i64 a0_4] 23 (0, 0)) (by (with_reducible repeat first | apply pN_ | apply pD_ | apply pA_); exact BK101.out) hb); have n1_ := Aside0.mk (below_step (bU_ HB.out) hb); clear BK101; clear HB; have BK101 := n0_; have HB := n1_; clear n0_ n1_; (try clear hb); (try clear hb2); (try clear hk); (try clear hi); have hcz12_0 : w11.cell? ⟨gb101, 0, none⟩ = some (.string a0_0) := (blk_cell BK101.out 0).trans rfl; have hcz12_1 : w11.cell? ⟨gb101, 1, none⟩ = some (.string a0_1) := (blk_cell BK101.out 1).trans rfl; have hcz12_2 : w11.cell? ⟨gb101, 2, none⟩ = some (.int .i64 a0_2) := (blk_cell BK101.out 2).trans rfl; have hcz12_3 : w11.cell? ⟨gb101, 3, none⟩ = some (.int .i64 a0_3) := (blk_cell BK101.out 3).trans rfl; have hcz12_4 : w11.cell? ⟨gb101, 4, none⟩ = some (.int .i64 a0_4) := (blk_cell BK101.out 4).trans rfl; have hfz12_0 := blk_frozen BK101.out 0; have hfz12_1 := blk_frozen BK101.out 1; have hfz12_2 := blk_frozen BK101.out 2; have hfz12_3 := blk_frozen BK101.out 3; have hfz12_4 := blk_frozen BK101.out 4) | ((with_reducible refine gate_callee (f := 11) rfl ?_); refine gL_ (some 16) rfl rfl Try.func11 (by kernel_rfl) rfl #[.agg #[.string a0_0, .string a0_1, .int .i64 a0_2, .int .i64 a0_3, .int .i64 a0_4]] rfl ?_; (with_reducible refine (flow_Right.calls k a0_0 a0_1 a0_2 a0_3 a0_4 t105 _ A4.out).mono ?_); rintro e w13 ⟨rfl, hb⟩; refine ⟨_, rfl, ?_⟩; have n0_ := Aside0.mk (blk_below (g := gb101) (o := .cells #[.string a0_0, .string a0_1, .int .i64 a0_2, .int .i64 a0_3, .int .i64 a0_4] 23 (0, 0)) (by (with_reducible repeat first | apply pN_ | apply pD_ | apply pA_); exact BK101.out) hb); have n1_ := Aside0.mk (below_step (bU_ HB.out) hb); clear BK101; clear HB; have BK101 := n0_; have HB := n1_; clear n0_ n1_; (try clear hb); (try clear hb2); (try clear hk); (try clear hi)))
 (try simp only [Act.put, List.setIfInBounds_toArray, List.set_cons_zero, List.set_cons_succ])
 have H := HC6.out
 clear HC6
 by_cases c14 : t104 = true
 ·subst c14
  have H1 : ((flow_Of.f k t102).bind fun bt107 => ((rillmeterref09_Key.f a0_0 a0_1 a0_2 a0_3 a0_4).bind fun t114 => (if t102.toList = t114.toList then (if t103 = 0 then (if (bt107.1.toList == a0_0.toList && (bt107.2.1.toList == a0_1.toList && (bt107.2.2.1 == a0_2 && (bt107.2.2.2.1 == a0_3 && (bt107.2.2.2.2.1 == a0_4))))) = true then (if bt107.2.2.2.2.2 = 0 then ((flow_Source.f t102).bind fun t115 => (if t115.toList = a0_0.toList then ((flow_Target.f t102).bind fun t116 => (if t116.toList = a0_1.toList then ((rillmeterlaw09_awake.f k).bind fun t117 => (some t117)) else (some false))) else (some false))) else (some false)) else (some false)) else (some false)) else (some false)))) = some r := by rw [if_pos rfl] at H; exact H
  clear H
  have H := H1
  clear H1
  replace H := Option.bind_eq_some_iff.mp H
  obtain ⟨⟨t107, t108, t109, t110, t111, t112⟩, A150, H⟩ := H
  replace H : ((rillmeterref09_Key.f a0_0 a0_1 a0_2 a0_3 a0_4).bind fun t114 => (if t102.toList = t114.toList then (if t103 = 0 then (if (t107.toList == a0_0.toList && (t108.toList == a0_1.toList && (t109 == a0_2 && (t110 == a0_3 && (t111 == a0_4))))) = true then (if t112 = 0 then ((flow_Source.f t102).bind fun t115 => (if t115.toList = a0_0.toList then ((flow_Target.f t102).bind fun t116 => (if t116.toList = a0_1.toList then ((rillmeterlaw09_awake.f k).bind fun t117 => (some t117)) else (some false))) else (some false))) else (some false)) else (some false)) else (some false)) else (some false))) = some r := H
  have A15 := Aside0.mk A150
  clear A150
  replace H := Option.bind_eq_some_iff.mp H
  obtain ⟨t114, A160, H⟩ := H
  replace H : (if t102.toList = t114.toList then (if t103 = 0 then (if (t107.toList == a0_0.toList && (t108.toList == a0_1.toList && (t109 == a0_2 && (t110 == a0_3 && (t111 == a0_4))))) = true then (if t112 = 0 then ((flow_Source.f t102).bind fun t115 => (if t115.toList = a0_0.toList then ((flow_Target.f t102).bind fun t116 => (if t116.toList = a0_1.toList then ((rillmeterlaw09_awake.f k).bind fun t117 => (some t117)) else (some false))) else (some false))) else (some false)) else (some false)) else (some false)) else (some false)) = some r := H
  have A16 := Aside0.mk A160
  clear A160
  by_cases c17 : t102.toList = t114.toList
  ·rw [if_pos c17] at H
   have c17b0 : (t102.toList == t114.toList) = true := beq_iff_eq.mpr c17
   have c17b1 : (t102.toList != t114.toList) = false := bne_eq_false_iff_eq.mpr c17
   clear c17
   (first | rw [c17b0] | (simp only [i64_w, i32_w]; rw [c17b0]) | skip)
   by_cases c18 : t103 = 0
   ·rw [if_pos c18] at H
    have c18b0 : (t103 == 0) = true := beq_iff_eq.mpr c18
    have c18b1 : (t103 != 0) = false := bne_eq_false_iff_eq.mpr c18
    clear c18
    by_cases c19 : (t107.toList == a0_0.toList && (t108.toList == a0_1.toList && (t109 == a0_2 && (t110 == a0_3 && (t111 == a0_4))))) = true
    ·rw [if_pos c19] at H
     have c19b0 : (t107.toList == a0_0.toList && (t108.toList == a0_1.toList && (t109 == a0_2 && (t110 == a0_3 && (t111 == a0_4))))) = true := c19
     have c19b1 : (t107.toList == a0_0.toList) = true := by have h_ := c19; simp only [Bool.and_eq_true] at h_; exact h_.1
     have c19b2 : (t108.toList == a0_1.toList) = true := by have h_ := c19; simp only [Bool.and_eq_true] at h_; exact h_.2.1
     have c19b3 : (t109 == a0_2) = true := by have h_ := c19; simp only [Bool.and_eq_true] at h_; exact h_.2.2.1
     have c19b4 : (t110 == a0_3) = true := by have h_ := c19; simp only [Bool.and_eq_true] at h_; exact h_.2.2.2.1
     have c19b5 : (t111 == a0_4) = true := by have h_ := c19; simp only [Bool.and_eq_true] at h_; exact h_.2.2.2.2
     clear c19
     by_cases c20 : t112 = 0
     ·rw [if_pos c20] at H
      have c20b0 : (t112 == 0) = true := beq_iff_eq.mpr c20
      have c20b1 : (t112 != 0) = false := bne_eq_false_iff_eq.mpr c20
      clear c20
      replace H := Option.bind_eq_some_iff.mp H
      obtain ⟨t115, A210, H⟩ := H
      replace H : (if t115.toList = a0_0.toList then ((flow_Target.f t102).bind fun t116 => (if t116.toList = a0_1.toList then ((rillmeterlaw09_awake.f k).bind fun t117 => (some t117)) else (some false))) else (some false)) = some r := H
      have A21 := Aside0.mk A210
      clear A210
      by_cases c22 : t115.toList = a0_0.toList
      ·rw [if_pos c22] at H
       have c22b0 : (t115.toList == a0_0.toList) = true := beq_iff_eq.mpr c22
       have c22b1 : (t115.toList != a0_0.toList) = false := bne_eq_false_iff_eq.mpr c22
       clear c22
       replace H := Option.bind_eq_some_iff.mp H
       obtain ⟨t116, A230, H⟩ := H
       replace H : (if t116.toList = a0_1.toList then ((rillmeterlaw09_awake.f k).bind fun t117 => (some t117)) else (some false)) = some r := H
       have A23 := Aside0.mk A230
       clear A230
       by_cases c24 : t116.toList = a0_1.toList
       ·rw [if_pos c24] at H
        have c24b0 : (t116.toList == a0_1.toList) = true := beq_iff_eq.mpr c24
        have c24b1 : (t116.toList != a0_1.toList) = false := bne_eq_false_iff_eq.mpr c24
        clear c24
        replace H := Option.bind_eq_some_iff.mp H
        obtain ⟨t117, A250, H⟩ := H
        replace H : (some t117) = some r := H
        have A25 := Aside0.mk A250
        clear A250
        obtain rfl := Option.some.inj H
        try go_wp2_with (first | ((with_reducible refine gate_callee (f := 13) rfl ?_); refine gL_ (some 32) rfl rfl Try.func13 (by kernel_rfl) rfl #[.string t102] rfl ?_; (with_reducible refine (flow_Of.calls k t102 t107 t108 t109 t110 t111 t112 _ A15.out).mono ?_); rintro e w26 ⟨rfl, hb⟩; refine ⟨_, rfl, ?_⟩; have n0_ := Aside0.mk (blk_below (g := gb101) (o := .cells #[.string a0_0, .string a0_1, .int .i64 a0_2, .int .i64 a0_3, .int .i64 a0_4] 23 (0, 0)) (by (with_reducible repeat first | apply pN_ | apply pD_ | apply pA_); exact BK101.out) hb); have n1_ := Aside0.mk (below_step (bU_ HB.out) hb); clear BK101; clear HB; have BK101 := n0_; have HB := n1_; clear n0_ n1_; (try clear hb); (try clear hb2); (try clear hk); (try clear hi)) | ((with_reducible refine gate_dst (N := 6) rfl ?_); refine box_event ?hg (N := 6) ?hd (cs := #[.string (⟨#[]⟩ : ByteArray), .string (⟨#[]⟩ : ByteArray), .int .i64 0, .int .i64 0, .int .i64 0]) (t := 23) ?hr ?_; (case hd => rfl); (case hg => rfl); (case hr => first | (go_simp; done) | (go_simp; rfl)); intro gb113 hg w27 hbox hb; have n0_ := Aside0.mk (blk_below (g := gb101) (o := .cells #[.string a0_0, .string a0_1, .int .i64 a0_2, .int .i64 a0_3, .int .i64 a0_4] 23 (0, 0)) (by (with_reducible repeat first | apply pN_ | apply pD_ | apply pA_); exact BK101.out) hb); have n1_ := Aside0.mk (below_step (bU_ HB.out) hb); have n2_ := Aside0.mk (hbox); have n3_ := Aside0.mk ((by rw [hg]; exact (below_size (bU_ HB.out)) : w.heap.size ≤ gb113)); have n4_ := Aside0.mk ((by rw [hg]; exact (below_size (bU_ HB.out)) : w.heap.size ≤ gb113)); have n5_ := Aside0.mk ((by rw [hg]; exact Nat.ne_of_lt (blk_lt (g := gb101) (o := .cells #[.string a0_0, .string a0_1, .int .i64 a0_2, .int .i64 a0_3, .int .i64 a0_4] 23 (0, 0)) (by (with_reducible repeat first | apply pN_ | apply pD_ | apply pA_); exact BK101.out)) : gb101 ≠ gb113)); have n6_ := Aside0.mk ((by rw [hg]; exact Nat.ne_of_gt (blk_lt (g := gb101) (o := .cells #[.string a0_0, .string a0_1, .int .i64 a0_2, .int .i64 a0_3, .int .i64 a0_4] 23 (0, 0)) (by (with_reducible repeat first | apply pN_ | apply pD_ | apply pA_); exact BK101.out)) : gb113 ≠ gb101)); clear BK101; clear HB; have BK101 := n0_; have HB := n1_; have BK113 := n2_; have GW113 := n3_; have GE113 := n4_; have NB101_113 := n5_; have NB113_101 := n6_; clear n0_ n1_ n2_ n3_ n4_ n5_ n6_; clear hb hbox hg; have hnb28 := NB113_101.out; have hnc28 := NB101_113.out; have hcz29_0 : w27.cell? ⟨gb113, 0, none⟩ = some (.string (⟨#[]⟩ : ByteArray)) := (blk_cell BK113.out 0).trans rfl; have hcz29_1 : w27.cell? ⟨gb113, 1, none⟩ = some (.string (⟨#[]⟩ : ByteArray)) := (blk_cell BK113.out 1).trans rfl; have hcz29_2 : w27.cell? ⟨gb113, 2, none⟩ = some (.int .i64 0) := (blk_cell BK113.out 2).trans rfl; have hcz29_3 : w27.cell? ⟨gb113, 3, none⟩ = some (.int .i64 0) := (blk_cell BK113.out 3).trans rfl; have hcz29_4 : w27.cell? ⟨gb113, 4, none⟩ = some (.int .i64 0) := (blk_cell BK113.out 4).trans rfl; have hfz29_0 := blk_frozen BK113.out 0; have hfz29_1 := blk_frozen BK113.out 1; have hfz29_2 := blk_frozen BK113.out 2; have hfz29_3 := blk_frozen BK113.out 3; have hfz29_4 := blk_frozen BK113.out 4))
        have n0_ : Aside0 ((((((w27.setCell ⟨gb113, 0, none⟩ (.string t107)).setCell ⟨gb113, 1, none⟩ (.string t108)).setCell ⟨gb113, 2, none⟩ (.int .i64 t109)).setCell ⟨gb113, 3, none⟩ (.int .i64 t110)).setCell ⟨gb113, 4, none⟩ (.int .i64 t111)).heap[gb101]? = some (.cells #[.string a0_0, .string a0_1, .int .i64 a0_2, .int .i64 a0_3, .int .i64 a0_4] 23 (0, 0))) := ⟨by (with_reducible repeat first | apply pN_ | apply pD_ | apply pA_); refine blk_far ?_ NB101_113.out _; (with_reducible repeat first | apply pN_ | apply pD_ | apply pA_); refine blk_far ?_ NB101_113.out _; (with_reducible repeat first | apply pN_ | apply pD_ | apply pA_); refine blk_far ?_ NB101_113.out _; (with_reducible repeat first | apply pN_ | apply pD_ | apply pA_); refine blk_far ?_ NB101_113.out _; (with_reducible repeat first | apply pN_ | apply pD_ | apply pA_); refine blk_far ?_ NB101_113.out _; (with_reducible repeat first | apply pN_ | apply pD_ | apply pA_); exact BK101.out⟩
        have n1_ : Aside0 ((((((w27.setCell ⟨gb113, 0, none⟩ (.string t107)).setCell ⟨gb113, 1, none⟩ (.string t108)).setCell ⟨gb113, 2, none⟩ (.int .i64 t109)).setCell ⟨gb113, 3, none⟩ (.int .i64 t110)).setCell ⟨gb113, 4, none⟩ (.int .i64 t111)).heap[gb113]? = some (.cells #[.string t107, .string t108, .int .i64 t109, .int .i64 t110, .int .i64 t111] 23 (0, 0))) := ⟨by (with_reducible repeat first | apply pN_ | apply pD_ | apply pA_); refine blk_put (cs := #[.string t107, .string t108, .int .i64 t109, .int .i64 t110, .int .i64 0]) ?_ 4 _ rfl; (with_reducible repeat first | apply pN_ | apply pD_ | apply pA_); refine blk_put (cs := #[.string t107, .string t108, .int .i64 t109, .int .i64 0, .int .i64 0]) ?_ 3 _ rfl; (with_reducible repeat first | apply pN_ | apply pD_ | apply pA_); refine blk_put (cs := #[.string t107, .string t108, .int .i64 0, .int .i64 0, .int .i64 0]) ?_ 2 _ rfl; (with_reducible repeat first | apply pN_ | apply pD_ | apply pA_); refine blk_put (cs := #[.string t107, .string (⟨#[]⟩ : ByteArray), .int .i64 0, .int .i64 0, .int .i64 0]) ?_ 1 _ rfl; (with_reducible repeat first | apply pN_ | apply pD_ | apply pA_); refine blk_put (cs := #[.string (⟨#[]⟩ : ByteArray), .string (⟨#[]⟩ : ByteArray), .int .i64 0, .int .i64 0, .int .i64 0]) ?_ 0 _ rfl; (with_reducible repeat first | apply pN_ | apply pD_ | apply pA_); exact BK113.out⟩
        have n2_ : Aside0 (Below w.heap.size w (((((w27.setCell ⟨gb113, 0, none⟩ (.string t107)).setCell ⟨gb113, 1, none⟩ (.string t108)).setCell ⟨gb113, 2, none⟩ (.int .i64 t109)).setCell ⟨gb113, 3, none⟩ (.int .i64 t110)).setCell ⟨gb113, 4, none⟩ (.int .i64 t111))) := ⟨bU_ HB.out⟩
        (try clear BK101)
        (try clear BK113)
        (try clear HB)
        generalize (((((w27.setCell ⟨gb113, 0, none⟩ (.string t107)).setCell ⟨gb113, 1, none⟩ (.string t108)).setCell ⟨gb113, 2, none⟩ (.int .i64 t109)).setCell ⟨gb113, 3, none⟩ (.int .i64 t110)).setCell ⟨gb113, 4, none⟩ (.int .i64 t111)) = w30 at n0_ n1_ n2_ ⊢
        have BK101 := n0_
        have BK113 := n1_
        have HB := n2_
        clear n0_ n1_ n2_
        have n0_ := Aside0.mk (blk_drew BK101.out)
        have n1_ := Aside0.mk (blk_drew BK113.out)
        have n2_ := Aside0.mk (below_drew1 HB.out)
        clear BK101
        clear BK113
        clear HB
        have BK101 := n0_
        have BK113 := n1_
        have HB := n2_
        clear n0_ n1_ n2_
        refine start_ (n := 35) (S := fun w' => w'.cell? ⟨gb101, 0, none⟩ = some (.string a0_0) ∧ w'.cell? ⟨gb101, 1, none⟩ = some (.string a0_1) ∧ w'.cell? ⟨gb101, 2, none⟩ = some (.int .i64 a0_2) ∧ w'.cell? ⟨gb101, 3, none⟩ = some (.int .i64 a0_3) ∧ w'.cell? ⟨gb101, 4, none⟩ = some (.int .i64 a0_4) ∧ w'.cell? ⟨gb113, 0, none⟩ = some (.string t107) ∧ w'.cell? ⟨gb113, 1, none⟩ = some (.string t108) ∧ w'.cell? ⟨gb113, 2, none⟩ = some (.int .i64 t109) ∧ w'.cell? ⟨gb113, 3, none⟩ = some (.int .i64 t110) ∧ w'.cell? ⟨gb113, 4, none⟩ = some (.int .i64 t111)) (ds := []) #[false, false, false, false, false, false, false, false, false, false, false, false, false, false, false, false, false, false, false, false, false, false, false, false, false, false, false, false, false, false, false, false, false, false, false] (by kernel_rfl) rfl rfl ⟨(blk_cell BK101.out 0).trans rfl, (blk_cell BK101.out 1).trans rfl, (blk_cell BK101.out 2).trans rfl, (blk_cell BK101.out 3).trans rfl, (blk_cell BK101.out 4).trans rfl, (blk_cell BK113.out 0).trans rfl, (blk_cell BK113.out 1).trans rfl, (blk_cell BK113.out 2).trans rfl, (blk_cell BK113.out 3).trans rfl, (blk_cell BK113.out 4).trans rfl⟩ (fun hHeld => ?_); refine with_tabW rillmeterlaw09_FlowKeys.tab8 rillmeterlaw09_FlowKeys.bits8 (fun HT_ HW_ => ?_)
        generalize w30.drew = w31 at BK101 BK113 HB hHeld ⊢
        refine pure_ (i := 0) (N := some 35) (v := ?_) (a' := ?_) #[true, false, false, false, false, false, false, false, false, false, false, false, false, false, false, false, false, false, false, false, false, false, false, false, false, false, false, false, false, false, false, false, false, false, false] rfl rfl (any_of HT_.out (by kernel_rfl)) (fun _ _ _ h => h) (Or.inl ⟨by rfl, ?_⟩) ?_ ?_
        rotate_left
        ·intro w'
         go_simp
         with_reducible rfl
        rotate_left
        ·simp only [Act.put, List.setIfInBounds_toArray, List.set_cons_zero, List.set_cons_succ, i64_w, i32_w]
         rfl
        refine take_ (i := 1) (N := some 36) (v := ?_) (a' := ?_) #[true, true, false, false, false, false, false, false, false, false, false, false, false, false, false, false, false, false, false, false, false, false, false, false, false, false, false, false, false, false, false, false, false, false, false] rfl rfl (take_ofW HT_.out HW_.out (by kernel_rfl)) (fun _ _ _ h => h) (Or.inl ⟨by rfl, ?_⟩) hHeld ?_ ?_
        rotate_left
        ·rintro w' ⟨s0, s1, s2, s3, s4, s5, s6, s7, s8, s9⟩
         go_simp
         with_reducible rfl
        rotate_left
        ·simp only [Act.put, List.setIfInBounds_toArray, List.set_cons_zero, List.set_cons_succ, i64_w, i32_w]
         rfl
        refine one_ (i := 2) (N := some 37) #[true, true, true, false, false, false, false, false, false, false, false, false, false, false, false, false, false, false, false, false, false, false, false, false, false, false, false, false, false, false, false, false, false, false, false] rfl rfl (one_of HT_.out (by kernel_rfl)) (by decide) (fun K hK => ?_)
        refine goes_ Try.func14 (by kernel_rfl) rfl #[.agg #[.string a0_0, .string a0_1, .int .i64 a0_2, .int .i64 a0_3, .int .i64 a0_4]] (by rfl) rfl rfl (by (try simp only [List.map_toArray, List.map_cons, List.map_nil]); first | done | rfl | (simp only [List.length_drop, List.length_take]; rfl) | (simp only [ByteArray.size_append, ByteArray.size_extract, Nat.sub_zero, Int.natCast_add]; rfl) | (simp [ByteArray.size_append]; done)) ?_
        with_reducible refine (rillmeterref09_Key.calls a0_0 a0_1 a0_2 a0_3 a0_4 t114 _ A16.out).mono ?_
        rintro e w32 ⟨rfl, hb⟩
        refine ⟨_, rfl, ?_⟩
        have n0_ := Aside0.mk (blk_below (g := gb101) (o := .cells #[.string a0_0, .string a0_1, .int .i64 a0_2, .int .i64 a0_3, .int .i64 a0_4] 23 (0, 0)) (by (with_reducible repeat first | apply pN_ | apply pD_ | apply pA_); exact BK101.out) hb)
        have n1_ := Aside0.mk (blk_below (g := gb113) (o := .cells #[.string t107, .string t108, .int .i64 t109, .int .i64 t110, .int .i64 t111] 23 (0, 0)) (by (with_reducible repeat first | apply pN_ | apply pD_ | apply pA_); exact BK113.out) hb)
        have n2_ := Aside0.mk (below_step (bU_ HB.out) hb)
        clear BK101
        clear BK113
        clear HB
        have BK101 := n0_
        have BK113 := n1_
        have HB := n2_
        clear n0_ n1_ n2_
        (try clear hb)
        (try clear hb2)
        (try clear hk)
        (try clear hi)
        refine hK.out _ _ ⟨(blk_cell BK101.out 0).trans rfl, (blk_cell BK101.out 1).trans rfl, (blk_cell BK101.out 2).trans rfl, (blk_cell BK101.out 3).trans rfl, (blk_cell BK101.out 4).trans rfl, (blk_cell BK113.out 0).trans rfl, (blk_cell BK113.out 1).trans rfl, (blk_cell BK113.out 2).trans rfl, (blk_cell BK113.out 3).trans rfl, (blk_cell BK113.out 4).trans rfl⟩ (fun hHeld => ?_)
        clear hK K
        refine norm_ (a' := ?_) ?_ ?_
        rotate_left
        ·show Act.put _ (some 37) _ = _
         simp only [Act.put, List.setIfInBounds_toArray, List.set_cons_zero, List.set_cons_succ, i64_w, i32_w]
         rfl
        refine pure_ (i := 3) (N := some 38) (v := ?_) (a' := ?_) #[true, true, true, true, false, false, false, false, false, false, false, false, false, false, false, false, false, false, false, false, false, false, false, false, false, false, false, false, false, false, false, false, false, false, false] rfl rfl (any_of HT_.out (by kernel_rfl)) (fun _ _ _ h => h) (Or.inl ⟨by rfl, ?_⟩) ?_ ?_
        rotate_left
        ·intro w'
         go_simp
         with_reducible rfl
        rotate_left
        ·simp only [Act.put, List.setIfInBounds_toArray, List.set_cons_zero, List.set_cons_succ, i64_w, i32_w]
         rfl
        refine pure_ (i := 4) (N := some 39) (v := ?_) (a' := ?_) #[true, true, true, true, true, false, false, false, false, false, false, false, false, false, false, false, false, false, false, false, false, false, false, false, false, false, false, false, false, false, false, false, false, false, false] rfl rfl (any_of HT_.out (by kernel_rfl)) (fun _ _ _ h => h) (Or.inl ⟨by rfl, ?_⟩) ?_ ?_
        rotate_left
        ·intro w'
         go_simp
         with_reducible rfl
        rotate_left
        ·simp only [Act.put, List.setIfInBounds_toArray, List.set_cons_zero, List.set_cons_succ, i64_w, i32_w]
         rfl
        refine pure_ (i := 5) (N := some 40) (v := ?_) (a' := ?_) #[true, true, true, true, true, true, false, false, false, false, false, false, false, false, false, false, false, false, false, false, false, false, false, false, false, false, false, false, false, false, false, false, false, false, false] rfl rfl (any_of HT_.out (by kernel_rfl)) (fun _ _ _ h => h) (Or.inl ⟨by rfl, ?_⟩) ?_ ?_
        rotate_left
        ·intro w'
         go_simp
         with_reducible rfl
        rotate_left
        ·simp only [Act.put, List.setIfInBounds_toArray, List.set_cons_zero, List.set_cons_succ, i64_w, i32_w]
         rfl
        refine pure_ (i := 6) (N := some 41) (v := ?_) (a' := ?_) #[true, true, true, true, true, true, true, false, false, false, false, false, false, false, false, false, false, false, false, false, false, false, false, false, false, false, false, false, false, false, false, false, false, false, false] rfl rfl (any_of HT_.out (by kernel_rfl)) (fun _ _ _ h => h) (Or.inl ⟨by rfl, ?_⟩) ?_ ?_
        rotate_left
        ·intro w'
         go_simp
         with_reducible rfl
        rotate_left
        ·simp only [Act.put, List.setIfInBounds_toArray, List.set_cons_zero, List.set_cons_succ, i64_w, i32_w]
         rfl
        refine pure_ (i := 7) (N := some 42) (v := ?_) (a' := ?_) #[true, true, true, true, true, true, true, true, false, false, false, false, false, false, false, false, false, false, false, false, false, false, false, false, false, false, false, false, false, false, false, false, false, false, false] rfl rfl (any_of HT_.out (by kernel_rfl)) (fun _ _ _ h => h) (Or.inl ⟨by rfl, ?_⟩) ?_ ?_
        rotate_left
        ·intro w'
         go_simp
         with_reducible rfl
        rotate_left
        ·simp only [Act.put, List.setIfInBounds_toArray, List.set_cons_zero, List.set_cons_succ, i64_w, i32_w]
         rfl
        refine pure_ (i := 8) (N := some 43) (v := ?_) (a' := ?_) #[true, true, true, true, true, true, true, true, true, false, false, false, false, false, false, false, false, false, false, false, false, false, false, false, false, false, false, false, false, false, false, false, false, false, false] rfl rfl (any_of HT_.out (by kernel_rfl)) (fun _ _ _ h => h) (Or.inl ⟨by rfl, ?_⟩) ?_ ?_
        rotate_left
        ·intro w'
         go_simp
         with_reducible rfl
        rotate_left
        ·simp only [Act.put, List.setIfInBounds_toArray, List.set_cons_zero, List.set_cons_succ, i64_w, i32_w]
         rfl
        refine take_ (i := 9) (N := some 44) (v := ?_) (a' := ?_) #[true, true, true, true, true, true, true, true, true, true, false, false, false, false, false, false, false, false, false, false, false, false, false, false, false, false, false, false, false, false, false, false, false, false, false] rfl rfl (take_ofW HT_.out HW_.out (by kernel_rfl)) (fun _ _ _ h => h) (Or.inl ⟨by rfl, ?_⟩) hHeld ?_ ?_
        rotate_left
        ·rintro w' ⟨s0, s1, s2, s3, s4, s5, s6, s7, s8, s9⟩
         go_simp
         with_reducible rfl
        rotate_left
        ·simp only [Act.put, List.setIfInBounds_toArray, List.set_cons_zero, List.set_cons_succ, i64_w, i32_w]
         rfl
        refine take_ (i := 10) (N := some 45) (v := ?_) (a' := ?_) #[true, true, true, true, true, true, true, true, true, true, true, false, false, false, false, false, false, false, false, false, false, false, false, false, false, false, false, false, false, false, false, false, false, false, false] rfl rfl (take_ofW HT_.out HW_.out (by kernel_rfl)) (fun _ _ _ h => h) (Or.inl ⟨by rfl, ?_⟩) hHeld ?_ ?_
        rotate_left
        ·rintro w' ⟨s0, s1, s2, s3, s4, s5, s6, s7, s8, s9⟩
         go_simp
         with_reducible rfl
        rotate_left
        ·simp only [Act.put, List.setIfInBounds_toArray, List.set_cons_zero, List.set_cons_succ, i64_w, i32_w]
         rfl
        refine pure_ (i := 11) (N := some 46) (v := ?_) (a' := ?_) #[true, true, true, true, true, true, true, true, true, true, true, true, false, false, false, false, false, false, false, false, false, false, false, false, false, false, false, false, false, false, false, false, false, false, false] rfl rfl (any_of HT_.out (by kernel_rfl)) (fun _ _ _ h => h) (Or.inl ⟨by rfl, ?_⟩) ?_ ?_
        rotate_left
        ·intro w'
         go_simp
         with_reducible rfl
        rotate_left
        ·simp only [Act.put, List.setIfInBounds_toArray, List.set_cons_zero, List.set_cons_succ, i64_w, i32_w]
         rfl
        refine pure_ (i := 12) (N := some 47) (v := ?_) (a' := ?_) #[true, true, true, true, true, true, true, true, true, true, true, true, true, false, false, false, false, false, false, false, false, false, false, false, false, false, false, false, false, false, false, false, false, false, false] rfl rfl (any_of HT_.out (by kernel_rfl)) (fun _ _ _ h => h) (Or.inl ⟨by rfl, ?_⟩) ?_ ?_
        rotate_left
        ·intro w'
         go_simp
         with_reducible rfl
        rotate_left
        ·simp only [Act.put, List.setIfInBounds_toArray, List.set_cons_zero, List.set_cons_succ, i64_w, i32_w]
         rfl
        refine pure_ (i := 13) (N := some 48) (v := ?_) (a' := ?_) #[true, true, true, true, true, true, true, true, true, true, true, true, true, true, false, false, false, false, false, false, false, false, false, false, false, false, false, false, false, false, false, false, false, false, false] rfl rfl (any_of HT_.out (by kernel_rfl)) (fun _ _ _ h => h) (Or.inl ⟨by rfl, ?_⟩) ?_ ?_
        rotate_left
        ·intro w'
         go_simp
         with_reducible rfl
        rotate_left
        ·simp only [Act.put, List.setIfInBounds_toArray, List.set_cons_zero, List.set_cons_succ, i64_w, i32_w]
         rfl
        refine pure_ (i := 14) (N := some 49) (v := ?_) (a' := ?_) #[true, true, true, true, true, true, true, true, true, true, true, true, true, true, true, false, false, false, false, false, false, false, false, false, false, false, false, false, false, false, false, false, false, false, false] rfl rfl (any_of HT_.out (by kernel_rfl)) (fun _ _ _ h => h) (Or.inl ⟨by rfl, ?_⟩) ?_ ?_
        rotate_left
        ·intro w'
         go_simp
         with_reducible rfl
        rotate_left
        ·simp only [Act.put, List.setIfInBounds_toArray, List.set_cons_zero, List.set_cons_succ, i64_w, i32_w]
         rfl
        refine pure_ (i := 15) (N := some 50) (v := ?_) (a' := ?_) #[true, true, true, true, true, true, true, true, true, true, true, true, true, true, true, true, false, false, false, false, false, false, false, false, false, false, false, false, false, false, false, false, false, false, false] rfl rfl (any_of HT_.out (by kernel_rfl)) (fun _ _ _ h => h) (Or.inl ⟨by rfl, ?_⟩) ?_ ?_
        rotate_left
        ·intro w'
         go_simp
         with_reducible rfl
        rotate_left
        ·simp only [Act.put, List.setIfInBounds_toArray, List.set_cons_zero, List.set_cons_succ, i64_w, i32_w]
         rfl
        refine pure_ (i := 16) (N := some 51) (v := ?_) (a' := ?_) #[true, true, true, true, true, true, true, true, true, true, true, true, true, true, true, true, true, false, false, false, false, false, false, false, false, false, false, false, false, false, false, false, false, false, false] rfl rfl (any_of HT_.out (by kernel_rfl)) (fun _ _ _ h => h) (Or.inl ⟨by rfl, ?_⟩) ?_ ?_
        rotate_left
        ·intro w'
         go_simp
         with_reducible rfl
        rotate_left
        ·simp only [Act.put, List.setIfInBounds_toArray, List.set_cons_zero, List.set_cons_succ, i64_w, i32_w]
         rfl
        refine pure_ (i := 17) (N := some 52) (v := ?_) (a' := ?_) #[true, true, true, true, true, true, true, true, true, true, true, true, true, true, true, true, true, true, false, false, false, false, false, false, false, false, false, false, false, false, false, false, false, false, false] rfl rfl (any_of HT_.out (by kernel_rfl)) (fun _ _ _ h => h) (Or.inl ⟨by rfl, ?_⟩) ?_ ?_
        rotate_left
        ·intro w'
         go_simp
         with_reducible rfl
        rotate_left
        ·simp only [Act.put, List.setIfInBounds_toArray, List.set_cons_zero, List.set_cons_succ, i64_w, i32_w]
         rfl
        refine pure_ (i := 18) (N := some 53) (v := ?_) (a' := ?_) #[true, true, true, true, true, true, true, true, true, true, true, true, true, true, true, true, true, true, true, false, false, false, false, false, false, false, false, false, false, false, false, false, false, false, false] rfl rfl (any_of HT_.out (by kernel_rfl)) (fun _ _ _ h => h) (Or.inl ⟨by rfl, ?_⟩) ?_ ?_
        rotate_left
        ·intro w'
         go_simp
         with_reducible rfl
        rotate_left
        ·simp only [Act.put, List.setIfInBounds_toArray, List.set_cons_zero, List.set_cons_succ, i64_w, i32_w]
         rfl
        refine pure_ (i := 20) (N := some 55) (v := ?_) (a' := ?_) #[true, true, true, true, true, true, true, true, true, true, true, true, true, true, true, true, true, true, true, false, true, false, false, false, false, false, false, false, false, false, false, false, false, false, false] rfl rfl (any_of HT_.out (by kernel_rfl)) (fun _ _ _ h => h) (Or.inl ⟨by rfl, ?_⟩) ?_ ?_
        rotate_left
        ·intro w'
         go_simp
         with_reducible rfl
        rotate_left
        ·simp only [Act.put, List.setIfInBounds_toArray, List.set_cons_zero, List.set_cons_succ, i64_w, i32_w]
         rfl
        refine take_ (i := 21) (N := some 56) (v := ?_) (a' := ?_) #[true, true, true, true, true, true, true, true, true, true, true, true, true, true, true, true, true, true, true, false, true, true, false, false, false, false, false, false, false, false, false, false, false, false, false] rfl rfl (take_ofW HT_.out HW_.out (by kernel_rfl)) (fun _ _ _ h => h) (Or.inl ⟨by rfl, ?_⟩) hHeld ?_ ?_
        rotate_left
        ·rintro w' ⟨s0, s1, s2, s3, s4, s5, s6, s7, s8, s9⟩
         go_simp
         with_reducible rfl
        rotate_left
        ·simp only [Act.put, List.setIfInBounds_toArray, List.set_cons_zero, List.set_cons_succ, i64_w, i32_w]
         rfl
        refine one_ (i := 19) (N := some 54) #[true, true, true, true, true, true, true, true, true, true, true, true, true, true, true, true, true, true, true, true, true, true, false, false, false, false, false, false, false, false, false, false, false, false, false] rfl rfl (one_of HT_.out (by kernel_rfl)) (by decide) (fun K hK => ?_)
        refine goes_ Try.func15 (by kernel_rfl) rfl #[.string t102] (by rfl) rfl rfl (by (try simp only [List.map_toArray, List.map_cons, List.map_nil]); first | done | rfl | (simp only [List.length_drop, List.length_take]; rfl) | (simp only [ByteArray.size_append, ByteArray.size_extract, Nat.sub_zero, Int.natCast_add]; rfl) | (simp [ByteArray.size_append]; done)) ?_
        with_reducible refine (flow_Source.calls t102 t115 _ A21.out).mono ?_
        rintro e w' ⟨rfl, ⟨nd, rfl⟩⟩
        refine ⟨_, rfl, ?_⟩
        refine hK.out _ _ ⟨(blk_cell BK101.out 0).trans rfl, (blk_cell BK101.out 1).trans rfl, (blk_cell BK101.out 2).trans rfl, (blk_cell BK101.out 3).trans rfl, (blk_cell BK101.out 4).trans rfl, (blk_cell BK113.out 0).trans rfl, (blk_cell BK113.out 1).trans rfl, (blk_cell BK113.out 2).trans rfl, (blk_cell BK113.out 3).trans rfl, (blk_cell BK113.out 4).trans rfl⟩ (fun hHeld => ?_)
        clear hK K
        refine norm_ (a' := ?_) ?_ ?_
        rotate_left
        ·show Act.put _ (some 54) _ = _
         simp only [Act.put, List.setIfInBounds_toArray, List.set_cons_zero, List.set_cons_succ, i64_w, i32_w]
         rfl
        refine pure_ (i := 22) (N := some 57) (v := ?_) (a' := ?_) #[true, true, true, true, true, true, true, true, true, true, true, true, true, true, true, true, true, true, true, true, true, true, true, false, false, false, false, false, false, false, false, false, false, false, false] rfl rfl (any_of HT_.out (by kernel_rfl)) (fun _ _ _ h => h) (Or.inl ⟨by rfl, ?_⟩) ?_ ?_
        rotate_left
        ·intro w'
         go_simp
         with_reducible rfl
        rotate_left
        ·simp only [Act.put, List.setIfInBounds_toArray, List.set_cons_zero, List.set_cons_succ, i64_w, i32_w]
         rfl
        refine pure_ (i := 23) (N := some 58) (v := ?_) (a' := ?_) #[true, true, true, true, true, true, true, true, true, true, true, true, true, true, true, true, true, true, true, true, true, true, true, true, false, false, false, false, false, false, false, false, false, false, false] rfl rfl (any_of HT_.out (by kernel_rfl)) (fun _ _ _ h => h) (Or.inl ⟨by rfl, ?_⟩) ?_ ?_
        rotate_left
        ·intro w'
         go_simp
         with_reducible rfl
        rotate_left
        ·simp only [Act.put, List.setIfInBounds_toArray, List.set_cons_zero, List.set_cons_succ, i64_w, i32_w]
         rfl
        refine pure_ (i := 24) (N := some 59) (v := ?_) (a' := ?_) #[true, true, true, true, true, true, true, true, true, true, true, true, true, true, true, true, true, true, true, true, true, true, true, true, true, false, false, false, false, false, false, false, false, false, false] rfl rfl (any_of HT_.out (by kernel_rfl)) (fun _ _ _ h => h) (Or.inl ⟨by rfl, ?_⟩) ?_ ?_
        rotate_left
        ·intro w'
         go_simp
         with_reducible rfl
        rotate_left
        ·simp only [Act.put, List.setIfInBounds_toArray, List.set_cons_zero, List.set_cons_succ, i64_w, i32_w]
         rfl
        refine pure_ (i := 25) (N := some 60) (v := ?_) (a' := ?_) #[true, true, true, true, true, true, true, true, true, true, true, true, true, true, true, true, true, true, true, true, true, true, true, true, true, true, false, false, false, false, false, false, false, false, false] rfl rfl (any_of HT_.out (by kernel_rfl)) (fun _ _ _ h => h) (Or.inl ⟨by rfl, ?_⟩) ?_ ?_
        rotate_left
        ·intro w'
         go_simp
         with_reducible rfl
        rotate_left
        ·simp only [Act.put, List.setIfInBounds_toArray, List.set_cons_zero, List.set_cons_succ, i64_w, i32_w]
         rfl
        refine pure_ (i := 27) (N := some 62) (v := ?_) (a' := ?_) #[true, true, true, true, true, true, true, true, true, true, true, true, true, true, true, true, true, true, true, true, true, true, true, true, true, true, false, true, false, false, false, false, false, false, false] rfl rfl (any_of HT_.out (by kernel_rfl)) (fun _ _ _ h => h) (Or.inl ⟨by rfl, ?_⟩) ?_ ?_
        rotate_left
        ·intro w'
         go_simp
         with_reducible rfl
        rotate_left
        ·simp only [Act.put, List.setIfInBounds_toArray, List.set_cons_zero, List.set_cons_succ, i64_w, i32_w]
         rfl
        refine take_ (i := 28) (N := some 63) (v := ?_) (a' := ?_) #[true, true, true, true, true, true, true, true, true, true, true, true, true, true, true, true, true, true, true, true, true, true, true, true, true, true, false, true, true, false, false, false, false, false, false] rfl rfl (take_ofW HT_.out HW_.out (by kernel_rfl)) (fun _ _ _ h => h) (Or.inl ⟨by rfl, ?_⟩) hHeld ?_ ?_
        rotate_left
        ·rintro w' ⟨s0, s1, s2, s3, s4, s5, s6, s7, s8, s9⟩
         go_simp
         with_reducible rfl
        rotate_left
        ·simp only [Act.put, List.setIfInBounds_toArray, List.set_cons_zero, List.set_cons_succ, i64_w, i32_w]
         rfl
        refine one_ (i := 26) (N := some 61) #[true, true, true, true, true, true, true, true, true, true, true, true, true, true, true, true, true, true, true, true, true, true, true, true, true, true, true, true, true, false, false, false, false, false, false] rfl rfl (one_of HT_.out (by kernel_rfl)) (by decide) (fun K hK => ?_)
        refine goes_ Try.func16 (by kernel_rfl) rfl #[.string t102] (by rfl) rfl rfl (by (try simp only [List.map_toArray, List.map_cons, List.map_nil]); first | done | rfl | (simp only [List.length_drop, List.length_take]; rfl) | (simp only [ByteArray.size_append, ByteArray.size_extract, Nat.sub_zero, Int.natCast_add]; rfl) | (simp [ByteArray.size_append]; done)) ?_
        with_reducible refine (flow_Target.calls t102 t116 _ A23.out).mono ?_
        rintro e w' ⟨rfl, ⟨nd, rfl⟩⟩
        refine ⟨_, rfl, ?_⟩
        refine hK.out _ _ ⟨(blk_cell BK101.out 0).trans rfl, (blk_cell BK101.out 1).trans rfl, (blk_cell BK101.out 2).trans rfl, (blk_cell BK101.out 3).trans rfl, (blk_cell BK101.out 4).trans rfl, (blk_cell BK113.out 0).trans rfl, (blk_cell BK113.out 1).trans rfl, (blk_cell BK113.out 2).trans rfl, (blk_cell BK113.out 3).trans rfl, (blk_cell BK113.out 4).trans rfl⟩ (fun hHeld => ?_)
        clear hK K
        refine norm_ (a' := ?_) ?_ ?_
        rotate_left
        ·show Act.put _ (some 61) _ = _
         simp only [Act.put, List.setIfInBounds_toArray, List.set_cons_zero, List.set_cons_succ, i64_w, i32_w]
         rfl
        refine pure_ (i := 29) (N := some 64) (v := ?_) (a' := ?_) #[true, true, true, true, true, true, true, true, true, true, true, true, true, true, true, true, true, true, true, true, true, true, true, true, true, true, true, true, true, true, false, false, false, false, false] rfl rfl (any_of HT_.out (by kernel_rfl)) (fun _ _ _ h => h) (Or.inl ⟨by rfl, ?_⟩) ?_ ?_
        rotate_left
        ·intro w'
         go_simp
         with_reducible rfl
        rotate_left
        ·simp only [Act.put, List.setIfInBounds_toArray, List.set_cons_zero, List.set_cons_succ, i64_w, i32_w]
         rfl
        refine pure_ (i := 30) (N := some 65) (v := ?_) (a' := ?_) #[true, true, true, true, true, true, true, true, true, true, true, true, true, true, true, true, true, true, true, true, true, true, true, true, true, true, true, true, true, true, true, false, false, false, false] rfl rfl (any_of HT_.out (by kernel_rfl)) (fun _ _ _ h => h) (Or.inl ⟨by rfl, ?_⟩) ?_ ?_
        rotate_left
        ·intro w'
         go_simp
         with_reducible rfl
        rotate_left
        ·simp only [Act.put, List.setIfInBounds_toArray, List.set_cons_zero, List.set_cons_succ, i64_w, i32_w]
         rfl
        refine pure_ (i := 31) (N := some 66) (v := ?_) (a' := ?_) #[true, true, true, true, true, true, true, true, true, true, true, true, true, true, true, true, true, true, true, true, true, true, true, true, true, true, true, true, true, true, true, true, false, false, false] rfl rfl (any_of HT_.out (by kernel_rfl)) (fun _ _ _ h => h) (Or.inl ⟨by rfl, ?_⟩) ?_ ?_
        rotate_left
        ·intro w'
         go_simp
         with_reducible rfl
        rotate_left
        ·simp only [Act.put, List.setIfInBounds_toArray, List.set_cons_zero, List.set_cons_succ, i64_w, i32_w]
         rfl
        refine one_ (i := 32) (N := some 67) #[true, true, true, true, true, true, true, true, true, true, true, true, true, true, true, true, true, true, true, true, true, true, true, true, true, true, true, true, true, true, true, true, true, false, false] rfl rfl (one_of HT_.out (by kernel_rfl)) (by decide) (fun K hK => ?_)
        refine goes_ Try.func12 (by kernel_rfl) rfl #[] (by rfl) rfl rfl (by (try simp only [List.map_toArray, List.map_cons, List.map_nil]); first | done | rfl | (simp only [List.length_drop, List.length_take]; rfl) | (simp only [ByteArray.size_append, ByteArray.size_extract, Nat.sub_zero, Int.natCast_add]; rfl) | (simp [ByteArray.size_append]; done)) ?_
        with_reducible refine (rillmeterlaw09_awake.calls k  t117 _ hrt A25.out).mono ?_
        rintro e w33 ⟨rfl, hb⟩
        refine ⟨_, rfl, ?_⟩
        have n0_ := Aside0.mk (blk_below (g := gb101) (o := .cells #[.string a0_0, .string a0_1, .int .i64 a0_2, .int .i64 a0_3, .int .i64 a0_4] 23 (0, 0)) (by (with_reducible repeat first | apply pN_ | apply pD_ | apply pA_); exact BK101.out) hb)
        have n1_ := Aside0.mk (blk_below (g := gb113) (o := .cells #[.string t107, .string t108, .int .i64 t109, .int .i64 t110, .int .i64 t111] 23 (0, 0)) (by (with_reducible repeat first | apply pN_ | apply pD_ | apply pA_); exact BK113.out) hb)
        have n2_ := Aside0.mk (below_step (bU_ HB.out) hb)
        clear BK101
        clear BK113
        clear HB
        have BK101 := n0_
        have BK113 := n1_
        have HB := n2_
        clear n0_ n1_ n2_
        (try clear hb)
        (try clear hb2)
        (try clear hk)
        (try clear hi)
        refine hK.out _ _ ⟨(blk_cell BK101.out 0).trans rfl, (blk_cell BK101.out 1).trans rfl, (blk_cell BK101.out 2).trans rfl, (blk_cell BK101.out 3).trans rfl, (blk_cell BK101.out 4).trans rfl, (blk_cell BK113.out 0).trans rfl, (blk_cell BK113.out 1).trans rfl, (blk_cell BK113.out 2).trans rfl, (blk_cell BK113.out 3).trans rfl, (blk_cell BK113.out 4).trans rfl⟩ (fun hHeld => ?_)
        clear hK K
        refine norm_ (a' := ?_) ?_ ?_
        rotate_left
        ·show Act.put _ (some 67) _ = _
         simp only [Act.put, List.setIfInBounds_toArray, List.set_cons_zero, List.set_cons_succ, i64_w, i32_w]
         rfl
        refine pure_ (i := 33) (N := some 68) (v := ?_) (a' := ?_) #[true, true, true, true, true, true, true, true, true, true, true, true, true, true, true, true, true, true, true, true, true, true, true, true, true, true, true, true, true, true, true, true, true, true, false] rfl rfl (any_of HT_.out (by kernel_rfl)) (fun _ _ _ h => h) (Or.inl ⟨by rfl, ?_⟩) ?_ ?_
        rotate_left
        ·intro w'
         go_simp
         with_reducible rfl
        rotate_left
        ·simp only [Act.put, List.setIfInBounds_toArray, List.set_cons_zero, List.set_cons_succ, i64_w, i32_w]
         rfl
        refine pure_ (i := 34) (N := some 2) (v := ?_) (a' := ?_) #[true, true, true, true, true, true, true, true, true, true, true, true, true, true, true, true, true, true, true, true, true, true, true, true, true, true, true, true, true, true, true, true, true, true, true] rfl rfl (any_of HT_.out (by kernel_rfl)) (fun _ _ _ h => h) (Or.inl ⟨by rfl, ?_⟩) ?_ ?_
        rotate_left
        ·intro w'
         go_simp
         with_reducible rfl
        rotate_left
        ·simp only [Act.put, List.setIfInBounds_toArray, List.set_cons_zero, List.set_cons_succ, i64_w, i32_w]
         rfl
        refine done_ (done_of HT_.out (by kernel_rfl)) ?_
        try go_wp2
        go_ret
        exact ⟨by first | rfl | (simp [errW_none, errW_some] <;> rfl) | (simp [*, errW_none, errW_some] <;> rfl), bU_ HB.out⟩
       ·rw [if_neg c24] at H
        have c24b0 : (t116.toList == a0_1.toList) = false := beq_eq_false_iff_ne.mpr c24
        have c24b1 : (t116.toList != a0_1.toList) = true := bne_iff_ne.mpr c24
        obtain rfl := Option.some.inj H
        exact absurd hrt.out (by decide)
      ·rw [if_neg c22] at H
       have c22b0 : (t115.toList == a0_0.toList) = false := beq_eq_false_iff_ne.mpr c22
       have c22b1 : (t115.toList != a0_0.toList) = true := bne_iff_ne.mpr c22
       obtain rfl := Option.some.inj H
       exact absurd hrt.out (by decide)
     ·rw [if_neg c20] at H
      have c20b0 : (t112 == 0) = false := beq_eq_false_iff_ne.mpr c20
      have c20b1 : (t112 != 0) = true := bne_iff_ne.mpr c20
      obtain rfl := Option.some.inj H
      exact absurd hrt.out (by decide)
    ·rw [if_neg c19] at H
     have c19b0 : (t107.toList == a0_0.toList && (t108.toList == a0_1.toList && (t109 == a0_2 && (t110 == a0_3 && (t111 == a0_4))))) = false := by simpa using c19
     (try (have c19b1 : (t107.toList = a0_0.toList ∧ t108.toList = a0_1.toList ∧ t109 = a0_2 ∧ t110 = a0_3 ∧ t111 = a0_4) = False := by have h_ := c19; simp only [Bool.and_eq_true, beq_iff_eq] at h_; exact eq_false h_))
     clear c19
     obtain rfl := Option.some.inj H
     exact absurd hrt.out (by decide)
   ·rw [if_neg c18] at H
    have c18b0 : (t103 == 0) = false := beq_eq_false_iff_ne.mpr c18
    have c18b1 : (t103 != 0) = true := bne_iff_ne.mpr c18
    obtain rfl := Option.some.inj H
    exact absurd hrt.out (by decide)
  ·rw [if_neg c17] at H
   have c17b0 : (t102.toList == t114.toList) = false := beq_eq_false_iff_ne.mpr c17
   have c17b1 : (t102.toList != t114.toList) = true := bne_iff_ne.mpr c17
   (first | rw [c17b0] | (simp only [i64_w, i32_w]; rw [c17b0]) | skip)
   obtain rfl := Option.some.inj H
   exact absurd hrt.out (by decide)
 ·replace c14 := Bool.eq_false_iff.mpr c14
  subst c14
  have H1 : (if t102.toList = ([] : List UInt8) then (if t103 = 1 then ((rillmeterlaw09_awake.f k).bind fun t106 => (some t106)) else (some false)) else (some false)) = some r := by rw [if_neg (show ¬ (false = true) by decide)] at H; exact H
  clear H
  have H := H1
  clear H1
  by_cases c34 : t102.toList = ([] : List UInt8)
  rotate_left
  ·rw [if_neg c34] at H
   obtain rfl := Option.some.inj H
   exact absurd hrt.out (by decide)
  rw [if_pos c34] at H
  have c34b0 : (t102.toList == ([] : List UInt8)) = true := beq_iff_eq.mpr c34
  have c34b1 : (t102.toList != ([] : List UInt8)) = false := bne_eq_false_iff_eq.mpr c34
  clear c34
  by_cases c35 : t103 = 1
  rotate_left
  ·rw [if_neg c35] at H
   obtain rfl := Option.some.inj H
   exact absurd hrt.out (by decide)
  rw [if_pos c35] at H
  have c35b0 : (t103 == 1) = true := beq_iff_eq.mpr c35
  have c35b1 : (t103 != 1) = false := bne_eq_false_iff_eq.mpr c35
  clear c35
  replace H := Option.bind_eq_some_iff.mp H
  obtain ⟨t106, A360, H⟩ := H
  replace H : (some t106) = some r := H
  have A36 := Aside0.mk A360
  clear A360
  obtain rfl := Option.some.inj H
  go_wp2_with (first | (go_at_call 12; (with_reducible refine (rillmeterlaw09_awake.calls k  t106 _ hrt A36.out).mono ?_); rintro e w37 ⟨rfl, hb⟩; have n0_ := Aside0.mk (blk_below (g := gb101) (o := .cells #[.string a0_0, .string a0_1, .int .i64 a0_2, .int .i64 a0_3, .int .i64 a0_4] 23 (0, 0)) (by (with_reducible repeat first | apply pN_ | apply pD_ | apply pA_); exact BK101.out) hb); have n1_ := Aside0.mk (below_step (bU_ HB.out) hb); clear BK101; clear HB; have BK101 := n0_; have HB := n1_; clear n0_ n1_; (try clear hb); (try clear hb2); (try clear hk); (try clear hi)))
  go_ret
  exact ⟨by first | rfl | (simp [errW_none, errW_some] <;> rfl) | (simp [*, errW_none, errW_some] <;> rfl), bU_ HB.out⟩

end Go.Proofs.Ytfdhifigndmgaaa.Q
