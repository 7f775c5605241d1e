-- made by a program of this session (wip/print-patch.py, over the kit's print)
import Derived.Test.YtfdhifigndmgaaaQx0
import Derived.Test.YtfdhifigndmgaaaQx1
import Derived.Test.YtfdhifigndmgaaaQx3
import Derived.Test.YtfdhifigndmgaaaQx5
import Derived.Test.YtfdhifigndmgaaaQx7
import Derived.Test.YtfdhifigndmgaaaQx8
import Derived.Test.YtfdhifigndmgaaaQx10
namespace Go.Proofs.Ytfdhifigndmgaaa.Q
open Go.RowKit Go.Proofs.YtfdhifigndmgaaaW.PrintWords Go.Proofs.YtfdhifigndmgaaaW.PrintLast Go.Proofs.YtfdhifigndmgaaaW.PrintMore
attribute [local go_sem] max2_int min2_int max_two min_two max_three min_three max_four min_four   -- for this text's walks alone
set_option linter.unusedVariables false
set_option linter.unusedSimpArgs false

attribute [local go_sem] cell_twice_ cell_twiceN_
abbrev Z11_0 : Array Value := #[.string ⟨#[]⟩, .string ⟨#[]⟩, .int .i64 0, .int .i64 0, .int .i64 0]
attribute [local go_sem high] eqA23
/-! ### rillmeterlaw09_FlowBack: function 4 -/
def rillmeterlaw09_FlowBack.f (k : Nat) (a0 : ByteArray) : Option (Bool) := if (a0.size : Int) > 1024 then ((rillmeterlaw09_awake.f k).bind fun t101 => (some t101)) else ((flow_Of.f k a0).bind fun bt102 => ((rillmeterref09_Of.f a0).bind fun bt109 => (if bt109.2.2.2.2.2 = true then ((flow_Key.f k bt102.1 bt102.2.1 bt102.2.2.1 bt102.2.2.2.1 bt102.2.2.2.2.1).bind fun bt116 => (if (bt102.1.toList == bt109.1.toList && (bt102.2.1.toList == bt109.2.1.toList && (bt102.2.2.1 == bt109.2.2.1 && (bt102.2.2.2.1 == bt109.2.2.2.1 && (bt102.2.2.2.2.1 == bt109.2.2.2.2.1))))) = true then (if bt102.2.2.2.2.2 = 0 then (if bt116.1.toList = a0.toList then (if bt116.2 = 0 then ((flow_Right.f k bt102.1 bt102.2.1 bt102.2.2.1 bt102.2.2.2.1 bt102.2.2.2.2.1).bind fun t118 => (if t118 = true then ((rillmeterlaw09_awake.f k).bind fun t119 => (some t119)) else (some false))) else (some false)) else (some false)) else (some false)) else (some false))) else (if (bt102.1.toList == ([] : List UInt8) && (bt102.2.1.toList == ([] : List UInt8) && (bt102.2.2.1 == 0 && (bt102.2.2.2.1 == 0 && (bt102.2.2.2.2.1 == 0))))) = true then (if bt102.2.2.2.2.2 = 1 then ((flow_Source.f a0).bind fun t120 => (if t120.toList = ([] : List UInt8) then ((flow_Target.f a0).bind fun t121 => (if t121.toList = ([] : List UInt8) then ((rillmeterlaw09_awake.f k).bind fun t122 => (some t122)) else (some false))) else (some false))) else (some false)) else (some false)))))
theorem rillmeterlaw09_FlowBack.mono : ∀ a0 k, LeO (rillmeterlaw09_FlowBack.f k a0) (rillmeterlaw09_FlowBack.f (k + 1) a0) := by
 intro a0 k
 unfold rillmeterlaw09_FlowBack.f
 repeat' first
   | (with_reducible exact flow_Key.mono _ _ _ _ _ _)
   | (with_reducible exact flow_Of.mono _ _)
   | (with_reducible exact flow_Right.mono _ _ _ _ _ _)
   | (with_reducible exact rillmeterlaw09_awake.mono _)
   | (with_reducible exact LeO.refl _)
   | (with_reducible exact LeO.none _)
   | (with_reducible refine LeO.ite ?_ ?_)
   | (with_reducible refine LeO.bind ?_ (fun _ => ?_))
   | exact flow_Key.mono _ _ _ _ _ _
   | exact flow_Of.mono _ _
   | exact flow_Right.mono _ _ _ _ _ _
   | exact rillmeterlaw09_awake.mono _
   | exact LeO.none _
   | refine LeO.ite ?_ ?_
   | refine LeO.bind ?_ (fun _ => ?_)
set_option maxHeartbeats 8000000 in
set_option maxRecDepth 100000 in
theorem rillmeterlaw09_FlowBack.calls (k : Nat) (a0 : ByteArray) (r : Bool) (w : World) (hrt : Aside0 (r = true)) (h : rillmeterlaw09_FlowBack.f k a0 = some r) :
  Calls Try.prog 4 #[.string a0] w fun e w' => e = .returned (.bool r) ∧ Below w.heap.size w w' := by
 have hu23 := Try.underlying23
 have HB := Aside0.mk (Below.refl w.heap.size w)
 have H : (if (a0.size : Int) > 1024 then ((rillmeterlaw09_awake.f k).bind fun t101 => (some t101)) else ((flow_Of.f k a0).bind fun bt102 => ((rillmeterref09_Of.f a0).bind fun bt109 => (if bt109.2.2.2.2.2 = true then ((flow_Key.f k bt102.1 bt102.2.1 bt102.2.2.1 bt102.2.2.2.1 bt102.2.2.2.2.1).bind fun bt116 => (if (bt102.1.toList == bt109.1.toList && (bt102.2.1.toList == bt109.2.1.toList && (bt102.2.2.1 == bt109.2.2.1 && (bt102.2.2.2.1 == bt109.2.2.2.1 && (bt102.2.2.2.2.1 == bt109.2.2.2.2.1))))) = true then (if bt102.2.2.2.2.2 = 0 then (if bt116.1.toList = a0.toList then (if bt116.2 = 0 then ((flow_Right.f k bt102.1 bt102.2.1 bt102.2.2.1 bt102.2.2.2.1 bt102.2.2.2.2.1).bind fun t118 => (if t118 = true then ((rillmeterlaw09_awake.f k).bind fun t119 => (some t119)) else (some false))) else (some false)) else (some false)) else (some false)) else (some false))) else (if (bt102.1.toList == ([] : List UInt8) && (bt102.2.1.toList == ([] : List UInt8) && (bt102.2.2.1 == 0 && (bt102.2.2.2.1 == 0 && (bt102.2.2.2.2.1 == 0))))) = true then (if bt102.2.2.2.2.2 = 1 then ((flow_Source.f a0).bind fun t120 => (if t120.toList = ([] : List UInt8) then ((flow_Target.f a0).bind fun t121 => (if t121.toList = ([] : List UInt8) then ((rillmeterlaw09_awake.f k).bind fun t122 => (some t122)) else (some false))) else (some false))) else (some false)) else (some false)))))) = some r := h
 clear h
 by_cases c2 : (a0.size : Int) > 1024
 ·rw [if_pos c2] at H
  have c2b0 : decide (1024 < (a0.size : Int)) = true := decide_eq_true c2
  have c2b1 : decide (1024 < a0.size) = true := decide_eq_true (by omega)
  clear c2
  replace H := Option.bind_eq_some_iff.mp H
  obtain ⟨t101, A30, H⟩ := H
  replace H : (some t101) = some r := H
  have A3 := Aside0.mk A30
  clear A30
  obtain rfl := Option.some.inj H
  go_enter Try.func4, Try.ntmps4
  go_wp2_with (first | ((with_reducible refine gate_callee (f := 12) rfl ?_); refine gL_ (some 12) rfl rfl Try.func12 (by kernel_rfl) rfl #[] rfl ?_; (with_reducible refine (rillmeterlaw09_awake.calls k  t101 _ hrt A3.out).mono ?_); rintro e w4 ⟨rfl, hb⟩; refine ⟨_, rfl, ?_⟩; have n0_ := Aside0.mk (below_step (bU_ HB.out) hb); clear HB; have HB := n0_; clear n0_; (try clear hb); (try clear hb2); (try clear hk); (try clear hi)))
  go_ret
  exact ⟨by first | rfl | (simp [errW_none, errW_some] <;> rfl) | (simp [*, errW_none, errW_some] <;> rfl), bU_ HB.out⟩
 ·rw [if_neg c2] at H
  have c2b0 : decide (1024 < (a0.size : Int)) = false := decide_eq_false c2
  have c2b1 : decide (1024 < a0.size) = false := decide_eq_false (by omega)
  clear c2
  replace H := Option.bind_eq_some_iff.mp H
  obtain ⟨⟨t102, t103, t104, t105, t106, t107⟩, A50, H⟩ := H
  replace H : ((rillmeterref09_Of.f a0).bind fun bt109 => (if bt109.2.2.2.2.2 = true then ((flow_Key.f k t102 t103 t104 t105 t106).bind fun bt116 => (if (t102.toList == bt109.1.toList && (t103.toList == bt109.2.1.toList && (t104 == bt109.2.2.1 && (t105 == bt109.2.2.2.1 && (t106 == bt109.2.2.2.2.1))))) = true then (if t107 = 0 then (if bt116.1.toList = a0.toList then (if bt116.2 = 0 then ((flow_Right.f k t102 t103 t104 t105 t106).bind fun t118 => (if t118 = true then ((rillmeterlaw09_awake.f k).bind fun t119 => (some t119)) else (some false))) else (some false)) else (some false)) else (some false)) else (some false))) else (if (t102.toList == ([] : List UInt8) && (t103.toList == ([] : List UInt8) && (t104 == 0 && (t105 == 0 && (t106 == 0))))) = true then (if t107 = 1 then ((flow_Source.f a0).bind fun t120 => (if t120.toList = ([] : List UInt8) then ((flow_Target.f a0).bind fun t121 => (if t121.toList = ([] : List UInt8) then ((rillmeterlaw09_awake.f k).bind fun t122 => (some t122)) else (some false))) else (some false))) else (some false)) else (some false)))) = some r := H
  have A5 := Aside0.mk A50
  clear A50
  replace H := Option.bind_eq_some_iff.mp H
  obtain ⟨⟨t109, t110, t111, t112, t113, t114⟩, A60, H⟩ := H
  replace H : (if t114 = true then ((flow_Key.f k t102 t103 t104 t105 t106).bind fun bt116 => (if (t102.toList == t109.toList && (t103.toList == t110.toList && (t104 == t111 && (t105 == t112 && (t106 == t113))))) = true then (if t107 = 0 then (if bt116.1.toList = a0.toList then (if bt116.2 = 0 then ((flow_Right.f k t102 t103 t104 t105 t106).bind fun t118 => (if t118 = true then ((rillmeterlaw09_awake.f k).bind fun t119 => (some t119)) else (some false))) else (some false)) else (some false)) else (some false)) else (some false))) else (if (t102.toList == ([] : List UInt8) && (t103.toList == ([] : List UInt8) && (t104 == 0 && (t105 == 0 && (t106 == 0))))) = true then (if t107 = 1 then ((flow_Source.f a0).bind fun t120 => (if t120.toList = ([] : List UInt8) then ((flow_Target.f a0).bind fun t121 => (if t121.toList = ([] : List UInt8) then ((rillmeterlaw09_awake.f k).bind fun t122 => (some t122)) else (some false))) else (some false))) else (some false)) else (some false))) = some r := H
  have A6 := Aside0.mk A60
  clear A60
  by_cases c7 : t114 = true
  ·subst c7
   have H1 : ((flow_Key.f k t102 t103 t104 t105 t106).bind fun bt116 => (if (t102.toList == t109.toList && (t103.toList == t110.toList && (t104 == t111 && (t105 == t112 && (t106 == t113))))) = true then (if t107 = 0 then (if bt116.1.toList = a0.toList then (if bt116.2 = 0 then ((flow_Right.f k t102 t103 t104 t105 t106).bind fun t118 => (if t118 = true then ((rillmeterlaw09_awake.f k).bind fun t119 => (some t119)) else (some false))) else (some false)) else (some false)) else (some false)) else (some false))) = some r := by rw [if_pos rfl] at H; exact H
   clear H
   have H := H1
   clear H1
   replace H := Option.bind_eq_some_iff.mp H
   obtain ⟨⟨t116, t117⟩, A80, H⟩ := H
   replace H : (if (t102.toList == t109.toList && (t103.toList == t110.toList && (t104 == t111 && (t105 == t112 && (t106 == t113))))) = true then (if t107 = 0 then (if t116.toList = a0.toList then (if t117 = 0 then ((flow_Right.f k t102 t103 t104 t105 t106).bind fun t118 => (if t118 = true then ((rillmeterlaw09_awake.f k).bind fun t119 => (some t119)) else (some false))) else (some false)) else (some false)) else (some false)) else (some false)) = some r := H
   have A8 := Aside0.mk A80
   clear A80
   by_cases c9 : (t102.toList == t109.toList && (t103.toList == t110.toList && (t104 == t111 && (t105 == t112 && (t106 == t113))))) = true
   rotate_left
   ·rw [if_neg c9] at H
    obtain rfl := Option.some.inj H
    exact absurd hrt.out (by decide)
   rw [if_pos c9] at H
   have c9b0 : (t102.toList == t109.toList && (t103.toList == t110.toList && (t104 == t111 && (t105 == t112 && (t106 == t113))))) = true := c9
   have c9b1 : (t102.toList == t109.toList) = true := by have h_ := c9; simp only [Bool.and_eq_true] at h_; exact h_.1
   have c9b2 : (t103.toList == t110.toList) = true := by have h_ := c9; simp only [Bool.and_eq_true] at h_; exact h_.2.1
   have c9b3 : (t104 == t111) = true := by have h_ := c9; simp only [Bool.and_eq_true] at h_; exact h_.2.2.1
   have c9b4 : (t105 == t112) = true := by have h_ := c9; simp only [Bool.and_eq_true] at h_; exact h_.2.2.2.1
   have c9b5 : (t106 == t113) = true := by have h_ := c9; simp only [Bool.and_eq_true] at h_; exact h_.2.2.2.2
   clear c9
   by_cases c10 : t107 = 0
   rotate_left
   ·rw [if_neg c10] at H
    obtain rfl := Option.some.inj H
    exact absurd hrt.out (by decide)
   rw [if_pos c10] at H
   have c10b0 : (t107 == 0) = true := beq_iff_eq.mpr c10
   have c10b1 : (t107 != 0) = false := bne_eq_false_iff_eq.mpr c10
   clear c10
   by_cases c11 : t116.toList = a0.toList
   rotate_left
   ·rw [if_neg c11] at H
    obtain rfl := Option.some.inj H
    exact absurd hrt.out (by decide)
   rw [if_pos c11] at H
   have c11b0 : (t116.toList == a0.toList) = true := beq_iff_eq.mpr c11
   have c11b1 : (t116.toList != a0.toList) = false := bne_eq_false_iff_eq.mpr c11
   clear c11
   by_cases c12 : t117 = 0
   rotate_left
   ·rw [if_neg c12] at H
    obtain rfl := Option.some.inj H
    exact absurd hrt.out (by decide)
   rw [if_pos c12] at H
   have c12b0 : (t117 == 0) = true := beq_iff_eq.mpr c12
   have c12b1 : (t117 != 0) = false := bne_eq_false_iff_eq.mpr c12
   clear c12
   replace H := Option.bind_eq_some_iff.mp H
   obtain ⟨t118, A130, H⟩ := H
   replace H : (if t118 = true then ((rillmeterlaw09_awake.f k).bind fun t119 => (some t119)) else (some false)) = some r := H
   have A13 := Aside0.mk A130
   clear A130
   by_cases c14 : t118 = true
   ·subst c14
    have H1 : ((rillmeterlaw09_awake.f k).bind fun t119 => (some t119)) = some r := by rw [if_pos rfl] at H; exact H
    clear H
    have H := H1
    clear H1
    replace H := Option.bind_eq_some_iff.mp H
    obtain ⟨t119, A150, H⟩ := H
    replace H : (some t119) = some r := H
    have A15 := Aside0.mk A150
    clear A150
    obtain rfl := Option.some.inj H
    go_enter Try.func4, Try.ntmps4
    go_wp2_with (first | ((with_reducible refine gate_callee (f := 13) rfl ?_); refine gL_ (some 15) rfl rfl Try.func13 (by kernel_rfl) rfl #[.string a0] rfl ?_; (with_reducible refine (flow_Of.calls k a0 t102 t103 t104 t105 t106 t107 _ A5.out).mono ?_); rintro e w16 ⟨rfl, hb⟩; refine ⟨_, rfl, ?_⟩; have n0_ := Aside0.mk (below_step (bU_ HB.out) hb); clear HB; have HB := n0_; clear n0_; (try clear hb); (try clear hb2); (try clear hk); (try clear hi)) | ((with_reducible refine gate_dst (N := 3) rfl ?_); refine box_event ?hg (N := 3) ?hd (cs := Z11_0) (t := 23) ?hr ?_; (case hd => rfl); (case hg => rfl); (case hr => first | (go_simp; done) | (go_simp; rfl)); intro gb108 hg w17 hbox hb; have n0_ := Aside0.mk (below_step (bU_ HB.out) hb); have n1_ := Aside0.mk (hbox); have n2_ := Aside0.mk ((by rw [hg]; exact (below_size (bU_ HB.out)) : w.heap.size ≤ gb108)); have n3_ := Aside0.mk ((by rw [hg]; exact (below_size (bU_ HB.out)) : w.heap.size ≤ gb108)); clear HB; have HB := n0_; have BK108 := n1_; have GW108 := n2_; have GE108 := n3_; clear n0_ n1_ n2_ n3_; clear hb hbox hg; have hcz18_0 : w17.cell? ⟨gb108, 0, none⟩ = some (.string ⟨#[]⟩) := (blk_cell BK108.out 0).trans rfl; have hcz18_1 : w17.cell? ⟨gb108, 1, none⟩ = some (.string ⟨#[]⟩) := (blk_cell BK108.out 1).trans rfl; have hcz18_2 : w17.cell? ⟨gb108, 2, none⟩ = some (.int .i64 0) := (blk_cell BK108.out 2).trans rfl; have hcz18_3 : w17.cell? ⟨gb108, 3, none⟩ = some (.int .i64 0) := (blk_cell BK108.out 3).trans rfl; have hcz18_4 : w17.cell? ⟨gb108, 4, none⟩ = some (.int .i64 0) := (blk_cell BK108.out 4).trans rfl; have hfz18_0 := blk_frozen BK108.out 0; have hfz18_1 := blk_frozen BK108.out 1; have hfz18_2 := blk_frozen BK108.out 2; have hfz18_3 := blk_frozen BK108.out 3; have hfz18_4 := blk_frozen BK108.out 4) | ((with_reducible refine gate_callee (f := 17) rfl ?_); refine gL_ (some 20) rfl rfl Try.func17 (by kernel_rfl) rfl #[.string a0] rfl ?_; (with_reducible refine (rillmeterref09_Of.calls a0 t109 t110 t111 t112 t113 true _ A6.out).mono ?_); rintro e w19 ⟨rfl, hb⟩; refine ⟨_, rfl, ?_⟩; have n0_ := Aside0.mk (blk_below (g := gb108) (o := .cells #[.string t102, .string t103, .int .i64 t104, .int .i64 t105, .int .i64 t106] 23 (0, 0)) (by (with_reducible repeat first | apply pN_ | apply pD_ | apply pA_); refine blk_put (cs := #[.string t102, .string t103, .int .i64 t104, .int .i64 t105, .int .i64 0]) ?_ 4 _ rfl; (with_reducible repeat first | apply pN_ | apply pD_ | apply pA_); refine blk_put (cs := #[.string t102, .string t103, .int .i64 t104, .int .i64 0, .int .i64 0]) ?_ 3 _ rfl; (with_reducible repeat first | apply pN_ | apply pD_ | apply pA_); refine blk_put (cs := #[.string t102, .string t103, .int .i64 0, .int .i64 0, .int .i64 0]) ?_ 2 _ rfl; (with_reducible repeat first | apply pN_ | apply pD_ | apply pA_); refine blk_put (cs := #[.string t102, .string ⟨#[]⟩, .int .i64 0, .int .i64 0, .int .i64 0]) ?_ 1 _ rfl; (with_reducible repeat first | apply pN_ | apply pD_ | apply pA_); refine blk_put (cs := Z11_0) ?_ 0 _ rfl; (with_reducible repeat first | apply pN_ | apply pD_ | apply pA_); exact BK108.out) hb); have n1_ := Aside0.mk (below_step (bU_ HB.out) hb); clear BK108 HB; have BK108 := n0_; have HB := n1_; clear n0_ n1_; (try clear hb); (try clear hb2); (try clear hk); (try clear hi)) | ((with_reducible refine gate_dst (N := 5) rfl ?_); refine box_event ?hg (N := 5) ?hd (cs := Z11_0) (t := 23) ?hr ?_; (case hd => rfl); (case hg => rfl); (case hr => first | (go_simp; done) | (go_simp; rfl)); intro gb115 hg w20 hbox hb; have n0_ := Aside0.mk (blk_below (g := gb108) (o := .cells #[.string t102, .string t103, .int .i64 t104, .int .i64 t105, .int .i64 t106] 23 (0, 0)) (by (with_reducible repeat first | apply pN_ | apply pD_ | apply pA_); exact BK108.out) hb); have n1_ := Aside0.mk (below_step (bU_ HB.out) hb); have n2_ := Aside0.mk (hbox); have n3_ := Aside0.mk ((by rw [hg]; exact (below_size (bU_ HB.out)) : w.heap.size ≤ gb115)); have n4_ := Aside0.mk ((by rw [hg]; exact (below_size (bU_ HB.out)) : w.heap.size ≤ gb115)); have n5_ := Aside0.mk ((by rw [hg]; exact Nat.ne_of_lt (blk_lt (g := gb108) (o := .cells #[.string t102, .string t103, .int .i64 t104, .int .i64 t105, .int .i64 t106] 23 (0, 0)) (by (with_reducible repeat first | apply pN_ | apply pD_ | apply pA_); exact BK108.out)) : gb108 ≠ gb115)); have n6_ := Aside0.mk (Ne.symm n5_.out); clear BK108 HB; have BK108 := n0_; have HB := n1_; have BK115 := n2_; have GW115 := n3_; have GE115 := n4_; have NB108_115 := n5_; have NB115_108 := n6_; clear n0_ n1_ n2_ n3_ n4_ n5_ n6_; clear hb hbox hg; have hnb21 := NB115_108.out; have hnc21 := NB108_115.out; have hcz22_0 : w20.cell? ⟨gb115, 0, none⟩ = some (.string ⟨#[]⟩) := (blk_cell BK115.out 0).trans rfl; have hcz22_1 : w20.cell? ⟨gb115, 1, none⟩ = some (.string ⟨#[]⟩) := (blk_cell BK115.out 1).trans rfl; have hcz22_2 : w20.cell? ⟨gb115, 2, none⟩ = some (.int .i64 0) := (blk_cell BK115.out 2).trans rfl; have hcz22_3 : w20.cell? ⟨gb115, 3, none⟩ = some (.int .i64 0) := (blk_cell BK115.out 3).trans rfl; have hcz22_4 : w20.cell? ⟨gb115, 4, none⟩ = some (.int .i64 0) := (blk_cell BK115.out 4).trans rfl; have hfz22_0 := blk_frozen BK115.out 0; have hfz22_1 := blk_frozen BK115.out 1; have hfz22_2 := blk_frozen BK115.out 2; have hfz22_3 := blk_frozen BK115.out 3; have hfz22_4 := blk_frozen BK115.out 4; have hcz23_0 : w20.cell? ⟨gb108, 0, none⟩ = some (.string t102) := (blk_cell BK108.out 0).trans rfl; have hcz23_1 : w20.cell? ⟨gb108, 1, none⟩ = some (.string t103) := (blk_cell BK108.out 1).trans rfl; have hcz23_2 : w20.cell? ⟨gb108, 2, none⟩ = some (.int .i64 t104) := (blk_cell BK108.out 2).trans rfl; have hcz23_3 : w20.cell? ⟨gb108, 3, none⟩ = some (.int .i64 t105) := (blk_cell BK108.out 3).trans rfl; have hcz23_4 : w20.cell? ⟨gb108, 4, none⟩ = some (.int .i64 t106) := (blk_cell BK108.out 4).trans rfl; have hfz23_0 := blk_frozen BK108.out 0; have hfz23_1 := blk_frozen BK108.out 1; have hfz23_2 := blk_frozen BK108.out 2; have hfz23_3 := blk_frozen BK108.out 3; have hfz23_4 := blk_frozen BK108.out 4) | ((with_reducible refine gate_callee (f := 9) rfl ?_); refine gL_ (some 47) rfl rfl Try.func9 (by kernel_rfl) rfl #[.agg #[.string t102, .string t103, .int .i64 t104, .int .i64 t105, .int .i64 t106]] rfl ?_; (with_reducible refine (flow_Key.calls k t102 t103 t104 t105 t106 t116 t117 _ A8.out).mono ?_); rintro e w24 ⟨rfl, hb⟩; refine ⟨_, rfl, ?_⟩; have n0_ := Aside0.mk (blk_below (g := gb108) (o := .cells #[.string t102, .string t103, .int .i64 t104, .int .i64 t105, .int .i64 t106] 23 (0, 0)) (by (iterate 5 ((with_reducible repeat first | apply pN_ | apply pD_ | apply pA_); refine blk_far ?_ NB108_115.out _)); (with_reducible repeat first | apply pN_ | apply pD_ | apply pA_); exact BK108.out) hb); have n1_ := Aside0.mk (blk_below (g := gb115) (o := .cells #[.string t109, .string t110, .int .i64 t111, .int .i64 t112, .int .i64 t113] 23 (0, 0)) (by (with_reducible repeat first | apply pN_ | apply pD_ | apply pA_); refine blk_put (cs := #[.string t109, .string t110, .int .i64 t111, .int .i64 t112, .int .i64 0]) ?_ 4 _ rfl; (with_reducible repeat first | apply pN_ | apply pD_ | apply pA_); refine blk_put (cs := #[.string t109, .string t110, .int .i64 t111, .int .i64 0, .int .i64 0]) ?_ 3 _ rfl; (with_reducible repeat first | apply pN_ | apply pD_ | apply pA_); refine blk_put (cs := #[.string t109, .string t110, .int .i64 0, .int .i64 0, .int .i64 0]) ?_ 2 _ rfl; (with_reducible repeat first | apply pN_ | apply pD_ | apply pA_); refine blk_put (cs := #[.string t109, .string ⟨#[]⟩, .int .i64 0, .int .i64 0, .int .i64 0]) ?_ 1 _ rfl; (with_reducible repeat first | apply pN_ | apply pD_ | apply pA_); refine blk_put (cs := Z11_0) ?_ 0 _ rfl; (with_reducible repeat first | apply pN_ | apply pD_ | apply pA_); exact BK115.out) hb); have n2_ := Aside0.mk (below_step (bU_ HB.out) hb); clear BK108 BK115 HB; have BK108 := n0_; have BK115 := n1_; have HB := n2_; clear n0_ n1_ n2_; (try clear hb); (try clear hb2); (try clear hk); (try clear hi); have hcz25_0 : w24.cell? ⟨gb108, 0, none⟩ = some (.string t102) := (blk_cell BK108.out 0).trans rfl; have hcz25_1 : w24.cell? ⟨gb108, 1, none⟩ = some (.string t103) := (blk_cell BK108.out 1).trans rfl; have hcz25_2 : w24.cell? ⟨gb108, 2, none⟩ = some (.int .i64 t104) := (blk_cell BK108.out 2).trans rfl; have hcz25_3 : w24.cell? ⟨gb108, 3, none⟩ = some (.int .i64 t105) := (blk_cell BK108.out 3).trans rfl; have hcz25_4 : w24.cell? ⟨gb108, 4, none⟩ = some (.int .i64 t106) := (blk_cell BK108.out 4).trans rfl; have hfz25_0 := blk_frozen BK108.out 0; have hfz25_1 := blk_frozen BK108.out 1; have hfz25_2 := blk_frozen BK108.out 2; have hfz25_3 := blk_frozen BK108.out 3; have hfz25_4 := blk_frozen BK108.out 4; have hcz26_0 : w24.cell? ⟨gb115, 0, none⟩ = some (.string t109) := (blk_cell BK115.out 0).trans rfl; have hcz26_1 : w24.cell? ⟨gb115, 1, none⟩ = some (.string t110) := (blk_cell BK115.out 1).trans rfl; have hcz26_2 : w24.cell? ⟨gb115, 2, none⟩ = some (.int .i64 t111) := (blk_cell BK115.out 2).trans rfl; have hcz26_3 : w24.cell? ⟨gb115, 3, none⟩ = some (.int .i64 t112) := (blk_cell BK115.out 3).trans rfl; have hcz26_4 : w24.cell? ⟨gb115, 4, none⟩ = some (.int .i64 t113) := (blk_cell BK115.out 4).trans rfl; have hfz26_0 := blk_frozen BK115.out 0; have hfz26_1 := blk_frozen BK115.out 1; have hfz26_2 := blk_frozen BK115.out 2; have hfz26_3 := blk_frozen BK115.out 3; have hfz26_4 := blk_frozen BK115.out 4) | (go_at_call 11; (with_reducible refine (flow_Right.calls k t102 t103 t104 t105 t106 true _ A13.out).mono ?_); rintro e w27 ⟨rfl, hb⟩; have n0_ := Aside0.mk (blk_below (g := gb108) (o := .cells #[.string t102, .string t103, .int .i64 t104, .int .i64 t105, .int .i64 t106] 23 (0, 0)) (by (with_reducible repeat first | apply pN_ | apply pD_ | apply pA_); exact BK108.out) hb); have n1_ := Aside0.mk (blk_below (g := gb115) (o := .cells #[.string t109, .string t110, .int .i64 t111, .int .i64 t112, .int .i64 t113] 23 (0, 0)) (by (with_reducible repeat first | apply pN_ | apply pD_ | apply pA_); exact BK115.out) hb); have n2_ := Aside0.mk (below_step (bU_ HB.out) hb); clear BK108 BK115 HB; have BK108 := n0_; have BK115 := n1_; have HB := n2_; clear n0_ n1_ n2_; (try clear hb); (try clear hb2); (try clear hk); (try clear hi)) | (go_at_call 12; (with_reducible refine (rillmeterlaw09_awake.calls k  t119 _ hrt A15.out).mono ?_); rintro e w28 ⟨rfl, hb⟩; have n0_ := Aside0.mk (blk_below (g := gb108) (o := .cells #[.string t102, .string t103, .int .i64 t104, .int .i64 t105, .int .i64 t106] 23 (0, 0)) (by (with_reducible repeat first | apply pN_ | apply pD_ | apply pA_); exact BK108.out) hb); have n1_ := Aside0.mk (blk_below (g := gb115) (o := .cells #[.string t109, .string t110, .int .i64 t111, .int .i64 t112, .int .i64 t113] 23 (0, 0)) (by (with_reducible repeat first | apply pN_ | apply pD_ | apply pA_); exact BK115.out) hb); have n2_ := Aside0.mk (below_step (bU_ HB.out) hb); clear BK108 BK115 HB; have BK108 := n0_; have BK115 := n1_; have HB := n2_; clear n0_ n1_ n2_; (try clear hb); (try clear hb2); (try clear hk); (try clear hi)))
    go_ret
    exact ⟨by first | rfl | (simp [errW_none, errW_some] <;> rfl) | (simp [*, errW_none, errW_some] <;> rfl), bU_ HB.out⟩
   ·replace c14 := Bool.eq_false_iff.mpr c14
    subst c14
    have H1 : (some false) = some r := by rw [if_neg (show ¬ (false = true) by decide)] at H; exact H
    clear H
    have H := H1
    clear H1
    obtain rfl := Option.some.inj H
    exact absurd hrt.out (by decide)
  ·replace c7 := Bool.eq_false_iff.mpr c7
   subst c7
   have H1 : (if (t102.toList == ([] : List UInt8) && (t103.toList == ([] : List UInt8) && (t104 == 0 && (t105 == 0 && (t106 == 0))))) = true then (if t107 = 1 then ((flow_Source.f a0).bind fun t120 => (if t120.toList = ([] : List UInt8) then ((flow_Target.f a0).bind fun t121 => (if t121.toList = ([] : List UInt8) then ((rillmeterlaw09_awake.f k).bind fun t122 => (some t122)) else (some false))) else (some false))) else (some false)) else (some false)) = some r := by rw [if_neg (show ¬ (false = true) by decide)] at H; exact H
   clear H
   have H := H1
   clear H1
   by_cases c29 : (t102.toList == ([] : List UInt8) && (t103.toList == ([] : List UInt8) && (t104 == 0 && (t105 == 0 && (t106 == 0))))) = true
   rotate_left
   ·rw [if_neg c29] at H
    obtain rfl := Option.some.inj H
    exact absurd hrt.out (by decide)
   rw [if_pos c29] at H
   have c29b0 : (t102.toList == ([] : List UInt8) && (t103.toList == ([] : List UInt8) && (t104 == 0 && (t105 == 0 && (t106 == 0))))) = true := c29
   have c29b1 : (t102.toList == ([] : List UInt8)) = true := by have h_ := c29; simp only [Bool.and_eq_true] at h_; exact h_.1
   have c29b2 : (t103.toList == ([] : List UInt8)) = true := by have h_ := c29; simp only [Bool.and_eq_true] at h_; exact h_.2.1
   have c29b3 : (t104 == 0) = true := by have h_ := c29; simp only [Bool.and_eq_true] at h_; exact h_.2.2.1
   have c29b4 : (t105 == 0) = true := by have h_ := c29; simp only [Bool.and_eq_true] at h_; exact h_.2.2.2.1
   have c29b5 : (t106 == 0) = true := by have h_ := c29; simp only [Bool.and_eq_true] at h_; exact h_.2.2.2.2
   clear c29
   by_cases c30 : t107 = 1
   rotate_left
   ·rw [if_neg c30] at H
    obtain rfl := Option.some.inj H
    exact absurd hrt.out (by decide)
   rw [if_pos c30] at H
   have c30b0 : (t107 == 1) = true := beq_iff_eq.mpr c30
   have c30b1 : (t107 != 1) = false := bne_eq_false_iff_eq.mpr c30
   clear c30
   replace H := Option.bind_eq_some_iff.mp H
   obtain ⟨t120, A310, H⟩ := H
   replace H : (if t120.toList = ([] : List UInt8) then ((flow_Target.f a0).bind fun t121 => (if t121.toList = ([] : List UInt8) then ((rillmeterlaw09_awake.f k).bind fun t122 => (some t122)) else (some false))) else (some false)) = some r := H
   have A31 := Aside0.mk A310
   clear A310
   by_cases c32 : t120.toList = ([] : List UInt8)
   rotate_left
   ·rw [if_neg c32] at H
    obtain rfl := Option.some.inj H
    exact absurd hrt.out (by decide)
   rw [if_pos c32] at H
   have c32b0 : (t120.toList == ([] : List UInt8)) = true := beq_iff_eq.mpr c32
   have c32b1 : (t120.toList != ([] : List UInt8)) = false := bne_eq_false_iff_eq.mpr c32
   clear c32
   replace H := Option.bind_eq_some_iff.mp H
   obtain ⟨t121, A330, H⟩ := H
   replace H : (if t121.toList = ([] : List UInt8) then ((rillmeterlaw09_awake.f k).bind fun t122 => (some t122)) else (some false)) = some r := H
   have A33 := Aside0.mk A330
   clear A330
   by_cases c34 : t121.toList = ([] : List UInt8)
   rotate_left
   ·rw [if_neg c34] at H
    obtain rfl := Option.some.inj H
    exact absurd hrt.out (by decide)
   rw [if_pos c34] at H
   have c34b0 : (t121.toList == ([] : List UInt8)) = true := beq_iff_eq.mpr c34
   have c34b1 : (t121.toList != ([] : List UInt8)) = false := bne_eq_false_iff_eq.mpr c34
   clear c34
   replace H := Option.bind_eq_some_iff.mp H
   obtain ⟨t122, A350, H⟩ := H
   replace H : (some t122) = some r := H
   have A35 := Aside0.mk A350
   clear A350
   obtain rfl := Option.some.inj H
   go_enter Try.func4, Try.ntmps4
   go_wp2_with (first | ((with_reducible refine gate_callee (f := 13) rfl ?_); refine gL_ (some 15) rfl rfl Try.func13 (by kernel_rfl) rfl #[.string a0] rfl ?_; (with_reducible refine (flow_Of.calls k a0 t102 t103 t104 t105 t106 t107 _ A5.out).mono ?_); rintro e w36 ⟨rfl, hb⟩; refine ⟨_, rfl, ?_⟩; have n0_ := Aside0.mk (below_step (bU_ HB.out) hb); clear HB; have HB := n0_; clear n0_; (try clear hb); (try clear hb2); (try clear hk); (try clear hi)) | ((with_reducible refine gate_dst (N := 3) rfl ?_); refine box_event ?hg (N := 3) ?hd (cs := Z11_0) (t := 23) ?hr ?_; (case hd => rfl); (case hg => rfl); (case hr => first | (go_simp; done) | (go_simp; rfl)); intro gb108 hg w37 hbox hb; have n0_ := Aside0.mk (below_step (bU_ HB.out) hb); have n1_ := Aside0.mk (hbox); have n2_ := Aside0.mk ((by rw [hg]; exact (below_size (bU_ HB.out)) : w.heap.size ≤ gb108)); have n3_ := Aside0.mk ((by rw [hg]; exact (below_size (bU_ HB.out)) : w.heap.size ≤ gb108)); clear HB; have HB := n0_; have BK108 := n1_; have GW108 := n2_; have GE108 := n3_; clear n0_ n1_ n2_ n3_; clear hb hbox hg; have hcz38_0 : w37.cell? ⟨gb108, 0, none⟩ = some (.string ⟨#[]⟩) := (blk_cell BK108.out 0).trans rfl; have hcz38_1 : w37.cell? ⟨gb108, 1, none⟩ = some (.string ⟨#[]⟩) := (blk_cell BK108.out 1).trans rfl; have hcz38_2 : w37.cell? ⟨gb108, 2, none⟩ = some (.int .i64 0) := (blk_cell BK108.out 2).trans rfl; have hcz38_3 : w37.cell? ⟨gb108, 3, none⟩ = some (.int .i64 0) := (blk_cell BK108.out 3).trans rfl; have hcz38_4 : w37.cell? ⟨gb108, 4, none⟩ = some (.int .i64 0) := (blk_cell BK108.out 4).trans rfl; have hfz38_0 := blk_frozen BK108.out 0; have hfz38_1 := blk_frozen BK108.out 1; have hfz38_2 := blk_frozen BK108.out 2; have hfz38_3 := blk_frozen BK108.out 3; have hfz38_4 := blk_frozen BK108.out 4) | ((with_reducible refine gate_callee (f := 17) rfl ?_); refine gL_ (some 20) rfl rfl Try.func17 (by kernel_rfl) rfl #[.string a0] rfl ?_; (with_reducible refine (rillmeterref09_Of.calls a0 t109 t110 t111 t112 t113 false _ A6.out).mono ?_); rintro e w39 ⟨rfl, hb⟩; refine ⟨_, rfl, ?_⟩; have n0_ := Aside0.mk (blk_below (g := gb108) (o := .cells #[.string t102, .string t103, .int .i64 t104, .int .i64 t105, .int .i64 t106] 23 (0, 0)) (by (with_reducible repeat first | apply pN_ | apply pD_ | apply pA_); refine blk_put (cs := #[.string t102, .string t103, .int .i64 t104, .int .i64 t105, .int .i64 0]) ?_ 4 _ rfl; (with_reducible repeat first | apply pN_ | apply pD_ | apply pA_); refine blk_put (cs := #[.string t102, .string t103, .int .i64 t104, .int .i64 0, .int .i64 0]) ?_ 3 _ rfl; (with_reducible repeat first | apply pN_ | apply pD_ | apply pA_); refine blk_put (cs := #[.string t102, .string t103, .int .i64 0, .int .i64 0, .int .i64 0]) ?_ 2 _ rfl; (with_reducible repeat first | apply pN_ | apply pD_ | apply pA_); refine blk_put (cs := #[.string t102, .string ⟨#[]⟩, .int .i64 0, .int .i64 0, .int .i64 0]) ?_ 1 _ rfl; (with_reducible repeat first | apply pN_ | apply pD_ | apply pA_); refine blk_put (cs := Z11_0) ?_ 0 _ rfl; (with_reducible repeat first | apply pN_ | apply pD_ | apply pA_); exact BK108.out) hb); have n1_ := Aside0.mk (below_step (bU_ HB.out) hb); clear BK108 HB; have BK108 := n0_; have HB := n1_; clear n0_ n1_; (try clear hb); (try clear hb2); (try clear hk); (try clear hi)) | ((with_reducible refine gate_dst (N := 5) rfl ?_); refine box_event ?hg (N := 5) ?hd (cs := Z11_0) (t := 23) ?hr ?_; (case hd => rfl); (case hg => rfl); (case hr => first | (go_simp; done) | (go_simp; rfl)); intro gb115 hg w40 hbox hb; have n0_ := Aside0.mk (blk_below (g := gb108) (o := .cells #[.string t102, .string t103, .int .i64 t104, .int .i64 t105, .int .i64 t106] 23 (0, 0)) (by (with_reducible repeat first | apply pN_ | apply pD_ | apply pA_); exact BK108.out) hb); have n1_ := Aside0.mk (below_step (bU_ HB.out) hb); have n2_ := Aside0.mk (hbox); have n3_ := Aside0.mk ((by rw [hg]; exact (below_size (bU_ HB.out)) : w.heap.size ≤ gb115)); have n4_ := Aside0.mk ((by rw [hg]; exact (below_size (bU_ HB.out)) : w.heap.size ≤ gb115)); have n5_ := Aside0.mk ((by rw [hg]; exact Nat.ne_of_lt (blk_lt (g := gb108) (o := .cells #[.string t102, .string t103, .int .i64 t104, .int .i64 t105, .int .i64 t106] 23 (0, 0)) (by (with_reducible repeat first | apply pN_ | apply pD_ | apply pA_); exact BK108.out)) : gb108 ≠ gb115)); have n6_ := Aside0.mk (Ne.symm n5_.out); clear BK108 HB; have BK108 := n0_; have HB := n1_; have BK115 := n2_; have GW115 := n3_; have GE115 := n4_; have NB108_115 := n5_; have NB115_108 := n6_; clear n0_ n1_ n2_ n3_ n4_ n5_ n6_; clear hb hbox hg; have hnb41 := NB115_108.out; have hnc41 := NB108_115.out; have hcz42_0 : w40.cell? ⟨gb115, 0, none⟩ = some (.string ⟨#[]⟩) := (blk_cell BK115.out 0).trans rfl; have hcz42_1 : w40.cell? ⟨gb115, 1, none⟩ = some (.string ⟨#[]⟩) := (blk_cell BK115.out 1).trans rfl; have hcz42_2 : w40.cell? ⟨gb115, 2, none⟩ = some (.int .i64 0) := (blk_cell BK115.out 2).trans rfl; have hcz42_3 : w40.cell? ⟨gb115, 3, none⟩ = some (.int .i64 0) := (blk_cell BK115.out 3).trans rfl; have hcz42_4 : w40.cell? ⟨gb115, 4, none⟩ = some (.int .i64 0) := (blk_cell BK115.out 4).trans rfl; have hfz42_0 := blk_frozen BK115.out 0; have hfz42_1 := blk_frozen BK115.out 1; have hfz42_2 := blk_frozen BK115.out 2; have hfz42_3 := blk_frozen BK115.out 3; have hfz42_4 := blk_frozen BK115.out 4; have hcz43_0 : w40.cell? ⟨gb108, 0, none⟩ = some (.string t102) := (blk_cell BK108.out 0).trans rfl; have hcz43_1 : w40.cell? ⟨gb108, 1, none⟩ = some (.string t103) := (blk_cell BK108.out 1).trans rfl; have hcz43_2 : w40.cell? ⟨gb108, 2, none⟩ = some (.int .i64 t104) := (blk_cell BK108.out 2).trans rfl; have hcz43_3 : w40.cell? ⟨gb108, 3, none⟩ = some (.int .i64 t105) := (blk_cell BK108.out 3).trans rfl; have hcz43_4 : w40.cell? ⟨gb108, 4, none⟩ = some (.int .i64 t106) := (blk_cell BK108.out 4).trans rfl; have hfz43_0 := blk_frozen BK108.out 0; have hfz43_1 := blk_frozen BK108.out 1; have hfz43_2 := blk_frozen BK108.out 2; have hfz43_3 := blk_frozen BK108.out 3; have hfz43_4 := blk_frozen BK108.out 4) | (go_at_call 15; (with_reducible refine (flow_Source.calls a0 t120 _ A31.out).mono ?_); rintro e w' ⟨rfl, ⟨nd, rfl⟩⟩) | (go_at_call 16; (with_reducible refine (flow_Target.calls a0 t121 _ A33.out).mono ?_); rintro e w' ⟨rfl, ⟨nd, rfl⟩⟩) | (go_at_call 12; (with_reducible refine (rillmeterlaw09_awake.calls k  t122 _ hrt A35.out).mono ?_); rintro e w44 ⟨rfl, hb⟩; have n0_ := Aside0.mk (blk_below (g := gb108) (o := .cells #[.string t102, .string t103, .int .i64 t104, .int .i64 t105, .int .i64 t106] 23 (0, 0)) (by (iterate 5 ((with_reducible repeat first | apply pN_ | apply pD_ | apply pA_); refine blk_far ?_ NB108_115.out _)); (with_reducible repeat first | apply pN_ | apply pD_ | apply pA_); exact BK108.out) hb); have n1_ := Aside0.mk (blk_below (g := gb115) (o := .cells #[.string t109, .string t110, .int .i64 t111, .int .i64 t112, .int .i64 t113] 23 (0, 0)) (by (with_reducible repeat first | apply pN_ | apply pD_ | apply pA_); refine blk_put (cs := #[.string t109, .string t110, .int .i64 t111, .int .i64 t112, .int .i64 0]) ?_ 4 _ rfl; (with_reducible repeat first | apply pN_ | apply pD_ | apply pA_); refine blk_put (cs := #[.string t109, .string t110, .int .i64 t111, .int .i64 0, .int .i64 0]) ?_ 3 _ rfl; (with_reducible repeat first | apply pN_ | apply pD_ | apply pA_); refine blk_put (cs := #[.string t109, .string t110, .int .i64 0, .int .i64 0, .int .i64 0]) ?_ 2 _ rfl; (with_reducible repeat first | apply pN_ | apply pD_ | apply pA_); refine blk_put (cs := #[.string t109, .string ⟨#[]⟩, .int .i64 0, .int .i64 0, .int .i64 0]) ?_ 1 _ rfl; (with_reducible repeat first | apply pN_ | apply pD_ | apply pA_); refine blk_put (cs := Z11_0) ?_ 0 _ rfl; (with_reducible repeat first | apply pN_ | apply pD_ | apply pA_); exact BK115.out) hb); have n2_ := Aside0.mk (below_step (bU_ HB.out) hb); clear BK108 BK115 HB; have BK108 := n0_; have BK115 := n1_; have HB := n2_; clear n0_ n1_ n2_; (try clear hb); (try clear hb2); (try clear hk); (try clear hi)))
   go_ret
   exact ⟨by first | rfl | (simp [errW_none, errW_some] <;> rfl) | (simp [*, errW_none, errW_some] <;> rfl), bU_ HB.out⟩

/-- THE ONE PURE STATEMENT of rillmeterlaw09_FlowBack: yours. -/
def rillmeterlaw09_FlowBack.Pure : Prop := ∀ (a0 : ByteArray), a0.size ≤ 140737488351232 → ∃ k, rillmeterlaw09_FlowBack.f k a0 = some true
theorem rillmeterlaw09_FlowBack.walk (P : rillmeterlaw09_FlowBack.Pure) (a0 : ByteArray) (w : World) (w0 : a0.size ≤ 140737488351232) :
  Calls Try.prog 4 #[.string a0] w fun e w' => e = .returned (.bool true) ∧ Below w.heap.size w w' := by
 obtain ⟨k, h⟩ := P a0 w0
 refine (rillmeterlaw09_FlowBack.calls k a0 true w (Aside0.mk rfl) h).mono ?_
 rintro e w' ⟨rfl, hd⟩
 exact ⟨rfl, hd⟩
/-! ### ether_tag: function 34 -/
def ether_tag.f (a0 : Int) : Option (Bool) := if a0 = 33024 then (some true) else (some (a0 == 34984))
set_option maxHeartbeats 8000000 in
set_option maxRecDepth 100000 in
theorem ether_tag.calls (a0 : Int) (r : Bool) (w : World) (h : ether_tag.f a0 = some r) :
  Calls Try.prog 34 #[.int .i64 a0] w fun e w' => e = .returned (.bool r) ∧ Drawn0 w w' := by
 have H : (if a0 = 33024 then (some true) else (some (a0 == 34984))) = some r := h
 clear h
 by_cases c2 : a0 = 33024
 ·rw [if_pos c2] at H
  have c2b0 : (a0 == 33024) = true := beq_iff_eq.mpr c2
  have c2b1 : (a0 != 33024) = false := bne_eq_false_iff_eq.mpr c2
  clear c2
  obtain rfl := Option.some.inj H
  go_enter Try.func34, Try.ntmps34
  go_wp2
  go_ret
  exact ⟨by first | rfl | (simp; done) | (simp [*]; done), by repeat (first | exact Drawn0.refl _ | apply Drawn0.step)⟩
 ·rw [if_neg c2] at H
  have c2b0 : (a0 == 33024) = false := beq_eq_false_iff_ne.mpr c2
  have c2b1 : (a0 != 33024) = true := bne_iff_ne.mpr c2
  obtain rfl := Option.some.inj H
  go_enter Try.func34, Try.ntmps34
  go_wp2
  go_ret
  exact ⟨by first | rfl | (simp; done) | (simp [*]; done), by repeat (first | exact Drawn0.refl _ | apply Drawn0.step)⟩
end Go.Proofs.Ytfdhifigndmgaaa.Q
