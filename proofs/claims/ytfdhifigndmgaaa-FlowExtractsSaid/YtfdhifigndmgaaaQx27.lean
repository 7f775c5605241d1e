-- made by a program of this session (wip/print-patch.py, over the kit's print)
import Derived.Test.YtfdhifigndmgaaaQx0
import Derived.Test.YtfdhifigndmgaaaQx1
import Derived.Test.YtfdhifigndmgaaaQx6
import Derived.Test.YtfdhifigndmgaaaQx17
import Derived.Test.YtfdhifigndmgaaaQx26
namespace Go.Proofs.Ytfdhifigndmgaaa.Q
open Go.RowKit Go.Proofs.YtfdhifigndmgaaaW.PrintWords Go.Proofs.YtfdhifigndmgaaaW.PrintLast Go.Proofs.YtfdhifigndmgaaaW.PrintMore
attribute [local go_sem] max2_int min2_int max_two min_two max_three min_three max_four min_four   -- for this text's walks alone
set_option linter.unusedVariables false
set_option linter.unusedSimpArgs false

attribute [local go_sem] cell_twice_ cell_twiceN_
abbrev Z27_0 : Array Value := #[.string ⟨#[]⟩, .string ⟨#[]⟩, .int .i64 0, .int .i64 0, .int .i64 0]
attribute [local go_sem high] eqA23
/-! ### rillmeterlaw09_FlowExtracts: function 5 -/
def rillmeterlaw09_FlowExtracts.f (k : Nat) (a0 : ByteArray) : Option (Bool) := if (a0.size : Int) > 4096 then ((rillmeterlaw09_awake.f k).bind fun t101 => (some t101)) else ((flow_Extract.f k a0).bind fun bt102 => ((rillmeterref09_Extract.f k a0).bind fun bt109 => (if (bt102.1.toList == bt109.1.toList && (bt102.2.1.toList == bt109.2.1.toList && (bt102.2.2.1 == bt109.2.2.1 && (bt102.2.2.2.1 == bt109.2.2.2.1 && (bt102.2.2.2.2.1 == bt109.2.2.2.2.1))))) = true then (if bt102.2.2.2.2.2 = bt109.2.2.2.2.2 then ((rillmeterlaw09_awake.f k).bind fun t116 => (some t116)) else (some false)) else (some false))))
theorem rillmeterlaw09_FlowExtracts.mono : ∀ a0 k, LeO (rillmeterlaw09_FlowExtracts.f k a0) (rillmeterlaw09_FlowExtracts.f (k + 1) a0) := by
 intro a0 k
 unfold rillmeterlaw09_FlowExtracts.f
 repeat' first
   | (with_reducible exact flow_Extract.mono _ _)
   | (with_reducible exact rillmeterlaw09_awake.mono _)
   | (with_reducible exact rillmeterref09_Extract.mono _ _)
   | (with_reducible exact LeO.refl _)
   | (with_reducible exact LeO.none _)
   | (with_reducible refine LeO.ite ?_ ?_)
   | (with_reducible refine LeO.bind ?_ (fun _ => ?_))
   | exact flow_Extract.mono _ _
   | exact rillmeterlaw09_awake.mono _
   | exact rillmeterref09_Extract.mono _ _
   | exact LeO.none _
   | refine LeO.ite ?_ ?_
   | refine LeO.bind ?_ (fun _ => ?_)
set_option maxHeartbeats 8000000 in
set_option maxRecDepth 100000 in
theorem rillmeterlaw09_FlowExtracts.calls (k : Nat) (a0 : ByteArray) (r : Bool) (w : World) (hrt : Aside0 (r = true)) (h : rillmeterlaw09_FlowExtracts.f k a0 = some r) :
  Calls Try.prog 5 #[.string a0] w fun e w' => e = .returned (.bool r) ∧ Below w.heap.size w w' := by
 have hu23 := Try.underlying23
 have HB := Aside0.mk (Below.refl w.heap.size w)
 have H : (if (a0.size : Int) > 4096 then ((rillmeterlaw09_awake.f k).bind fun t101 => (some t101)) else ((flow_Extract.f k a0).bind fun bt102 => ((rillmeterref09_Extract.f k a0).bind fun bt109 => (if (bt102.1.toList == bt109.1.toList && (bt102.2.1.toList == bt109.2.1.toList && (bt102.2.2.1 == bt109.2.2.1 && (bt102.2.2.2.1 == bt109.2.2.2.1 && (bt102.2.2.2.2.1 == bt109.2.2.2.2.1))))) = true then (if bt102.2.2.2.2.2 = bt109.2.2.2.2.2 then ((rillmeterlaw09_awake.f k).bind fun t116 => (some t116)) else (some false)) else (some false))))) = some r := h
 clear h
 by_cases c2 : (a0.size : Int) > 4096
 ·rw [if_pos c2] at H
  have c2b0 : decide (4096 < (a0.size : Int)) = true := decide_eq_true c2
  have c2b1 : decide (4096 < a0.size) = true := decide_eq_true (by omega)
  clear c2
  replace H := Option.bind_eq_some_iff.mp H
  obtain ⟨t101, A30, H⟩ := H
  replace H : (some t101) = some r := H
  have A3 := Aside0.mk A30
  clear A30
  obtain rfl := Option.some.inj H
  go_enter Try.func5, Try.ntmps5
  go_wp2_with (first | ((with_reducible refine gate_callee (f := 12) rfl ?_); refine gL_ (some 10) rfl rfl Try.func12 (by kernel_rfl) rfl #[] rfl ?_; (with_reducible refine (rillmeterlaw09_awake.calls k  t101 _ hrt A3.out).mono ?_); rintro e w4 ⟨rfl, hb⟩; refine ⟨_, rfl, ?_⟩; have n0_ := Aside0.mk (below_step (bU_ HB.out) hb); clear HB; have HB := n0_; clear n0_; (try clear hb); (try clear hb2); (try clear hk); (try clear hi)))
  go_ret
  exact rE_ (bU_ HB.out)
 ·rw [if_neg c2] at H
  have c2b0 : decide (4096 < (a0.size : Int)) = false := decide_eq_false c2
  have c2b1 : decide (4096 < a0.size) = false := decide_eq_false (by omega)
  clear c2
  replace H := Option.bind_eq_some_iff.mp H
  obtain ⟨⟨t102, t103, t104, t105, t106, t107⟩, A50, H⟩ := H
  replace H : ((rillmeterref09_Extract.f k a0).bind fun bt109 => (if (t102.toList == bt109.1.toList && (t103.toList == bt109.2.1.toList && (t104 == bt109.2.2.1 && (t105 == bt109.2.2.2.1 && (t106 == bt109.2.2.2.2.1))))) = true then (if t107 = bt109.2.2.2.2.2 then ((rillmeterlaw09_awake.f k).bind fun t116 => (some t116)) else (some false)) else (some false))) = some r := H
  have A5 := Aside0.mk A50
  clear A50
  replace H := Option.bind_eq_some_iff.mp H
  obtain ⟨⟨t109, t110, t111, t112, t113, t114⟩, A60, H⟩ := H
  replace H : (if (t102.toList == t109.toList && (t103.toList == t110.toList && (t104 == t111 && (t105 == t112 && (t106 == t113))))) = true then (if t107 = t114 then ((rillmeterlaw09_awake.f k).bind fun t116 => (some t116)) else (some false)) else (some false)) = some r := H
  have A6 := Aside0.mk A60
  clear A60
  by_cases c7 : (t102.toList == t109.toList && (t103.toList == t110.toList && (t104 == t111 && (t105 == t112 && (t106 == t113))))) = true
  rotate_left
  ·rw [if_neg c7] at H
   obtain rfl := Option.some.inj H
   exact absurd hrt.out (by decide)
  rw [if_pos c7] at H
  have c7b0 : (t102.toList == t109.toList && (t103.toList == t110.toList && (t104 == t111 && (t105 == t112 && (t106 == t113))))) = true := c7
  have c7b1 : (t102.toList == t109.toList) = true := by have h_ := c7; simp only [Bool.and_eq_true] at h_; exact h_.1
  have c7b2 : (t103.toList == t110.toList) = true := by have h_ := c7; simp only [Bool.and_eq_true] at h_; exact h_.2.1
  have c7b3 : (t104 == t111) = true := by have h_ := c7; simp only [Bool.and_eq_true] at h_; exact h_.2.2.1
  have c7b4 : (t105 == t112) = true := by have h_ := c7; simp only [Bool.and_eq_true] at h_; exact h_.2.2.2.1
  have c7b5 : (t106 == t113) = true := by have h_ := c7; simp only [Bool.and_eq_true] at h_; exact h_.2.2.2.2
  clear c7
  by_cases c8 : t107 = t114
  rotate_left
  ·rw [if_neg c8] at H
   obtain rfl := Option.some.inj H
   exact absurd hrt.out (by decide)
  rw [if_pos c8] at H
  have c8b0 : (t107 == t114) = true := beq_iff_eq.mpr c8
  have c8b1 : (t107 != t114) = false := bne_eq_false_iff_eq.mpr c8
  clear c8
  replace H := Option.bind_eq_some_iff.mp H
  obtain ⟨t116, A90, H⟩ := H
  replace H : (some t116) = some r := H
  have A9 := Aside0.mk A90
  clear A90
  obtain rfl := Option.some.inj H
  go_enter Try.func5, Try.ntmps5
  go_wp2_with (first | ((with_reducible refine gate_callee (f := 18) rfl ?_); refine gL_ (some 13) rfl rfl Try.func18 (by kernel_rfl) rfl #[.string a0] rfl ?_; (with_reducible refine (flow_Extract.calls k a0 t102 t103 t104 t105 t106 t107 _ A5.out).mono ?_); rintro e w10 ⟨rfl, hb⟩; refine ⟨_, rfl, ?_⟩; have n0_ := Aside0.mk (below_step (bU_ HB.out) hb); clear HB; have HB := n0_; clear n0_; (try clear hb); (try clear hb2); (try clear hk); (try clear hi)) | ((with_reducible refine gate_dst (N := 3) rfl ?_); refine bE_ (N := 3) (cs := Z27_0) (t := 23) ?_; intro gb108 hg w11 hbox hb; have n0_ := Aside0.mk (below_step (bU_ HB.out) hb); have n1_ := Aside0.mk (hbox); have n2_ := Aside0.mk (bZ_ hg (bU_ HB.out) : w.heap.size ≤ gb108); have n3_ := n2_; clear HB; have HB := n0_; have BK108 := n1_; have GW108 := n2_; have GE108 := n3_; clear n0_ n1_ n2_ n3_; clear hb hbox hg; have hcz12_0 : w11.cell? ⟨gb108, 0, none⟩ = some (.string ⟨#[]⟩) := (blk_cell BK108.out 0).trans rfl; have hcz12_1 : w11.cell? ⟨gb108, 1, none⟩ = some (.string ⟨#[]⟩) := (blk_cell BK108.out 1).trans rfl; have hcz12_2 : w11.cell? ⟨gb108, 2, none⟩ = some (.int .i64 0) := (blk_cell BK108.out 2).trans rfl; have hcz12_3 : w11.cell? ⟨gb108, 3, none⟩ = some (.int .i64 0) := (blk_cell BK108.out 3).trans rfl; have hcz12_4 : w11.cell? ⟨gb108, 4, none⟩ = some (.int .i64 0) := (blk_cell BK108.out 4).trans rfl; have hfz12_0 := blk_frozen BK108.out 0; have hfz12_1 := blk_frozen BK108.out 1; have hfz12_2 := blk_frozen BK108.out 2; have hfz12_3 := blk_frozen BK108.out 3; have hfz12_4 := blk_frozen BK108.out 4) | ((with_reducible refine gate_callee (f := 19) rfl ?_); refine gL_ (some 18) rfl rfl Try.func19 (by kernel_rfl) rfl #[.string a0] rfl ?_; (with_reducible refine (rillmeterref09_Extract.calls k a0 t109 t110 t111 t112 t113 t114 _ A6.out).mono ?_); rintro e w13 ⟨rfl, hb⟩; refine ⟨_, rfl, ?_⟩; have n0_ := Aside0.mk (blk_below (g := gb108) (o := .cells #[.string t102, .string t103, .int .i64 t104, .int .i64 t105, .int .i64 t106] 23 (0, 0)) (by (with_reducible repeat first | apply pN_ | apply pD_ | apply pA_); refine blk_put (cs := #[.string t102, .string t103, .int .i64 t104, .int .i64 t105, .int .i64 0]) ?_ 4 _ rfl; (with_reducible repeat first | apply pN_ | apply pD_ | apply pA_); refine blk_put (cs := #[.string t102, .string t103, .int .i64 t104, .int .i64 0, .int .i64 0]) ?_ 3 _ rfl; (with_reducible repeat first | apply pN_ | apply pD_ | apply pA_); refine blk_put (cs := #[.string t102, .string t103, .int .i64 0, .int .i64 0, .int .i64 0]) ?_ 2 _ rfl; (with_reducible repeat first | apply pN_ | apply pD_ | apply pA_); refine blk_put (cs := #[.string t102, .string ⟨#[]⟩, .int .i64 0, .int .i64 0, .int .i64 0]) ?_ 1 _ rfl; (with_reducible repeat first | apply pN_ | apply pD_ | apply pA_); refine blk_put (cs := Z27_0) ?_ 0 _ rfl; (with_reducible repeat first | apply pN_ | apply pD_ | apply pA_); exact BK108.out) hb); have n1_ := Aside0.mk (below_step (bU_ HB.out) hb); clear BK108 HB; have BK108 := n0_; have HB := n1_; clear n0_ n1_; (try clear hb); (try clear hb2); (try clear hk); (try clear hi)) | ((with_reducible refine gate_dst (N := 5) rfl ?_); refine bE_ (N := 5) (cs := Z27_0) (t := 23) ?_; intro gb115 hg w14 hbox hb; have n0_ := Aside0.mk (bB_ BK108.out hb); have n1_ := Aside0.mk (below_step (bU_ HB.out) hb); have n2_ := Aside0.mk (hbox); have n3_ := Aside0.mk (bZ_ hg (bU_ HB.out) : w.heap.size ≤ gb115); have n4_ := n3_; have n5_ := Aside0.mk ((bN_ hg BK108.out : gb108 ≠ gb115)); have n6_ := Aside0.mk (Ne.symm n5_.out); clear BK108 HB; have BK108 := n0_; have HB := n1_; have BK115 := n2_; have GW115 := n3_; have GE115 := n4_; have NB108_115 := n5_; have NB115_108 := n6_; clear n0_ n1_ n2_ n3_ n4_ n5_ n6_; clear hb hbox hg; have hnb15 := NB115_108.out; have hnc15 := NB108_115.out; have hcz16_0 : w14.cell? ⟨gb115, 0, none⟩ = some (.string ⟨#[]⟩) := (blk_cell BK115.out 0).trans rfl; have hcz16_1 : w14.cell? ⟨gb115, 1, none⟩ = some (.string ⟨#[]⟩) := (blk_cell BK115.out 1).trans rfl; have hcz16_2 : w14.cell? ⟨gb115, 2, none⟩ = some (.int .i64 0) := (blk_cell BK115.out 2).trans rfl; have hcz16_3 : w14.cell? ⟨gb115, 3, none⟩ = some (.int .i64 0) := (blk_cell BK115.out 3).trans rfl; have hcz16_4 : w14.cell? ⟨gb115, 4, none⟩ = some (.int .i64 0) := (blk_cell BK115.out 4).trans rfl; have hfz16_0 := blk_frozen BK115.out 0; have hfz16_1 := blk_frozen BK115.out 1; have hfz16_2 := blk_frozen BK115.out 2; have hfz16_3 := blk_frozen BK115.out 3; have hfz16_4 := blk_frozen BK115.out 4; have hcz17_0 : w14.cell? ⟨gb108, 0, none⟩ = some (.string t102) := (blk_cell BK108.out 0).trans rfl; have hcz17_1 : w14.cell? ⟨gb108, 1, none⟩ = some (.string t103) := (blk_cell BK108.out 1).trans rfl; have hcz17_2 : w14.cell? ⟨gb108, 2, none⟩ = some (.int .i64 t104) := (blk_cell BK108.out 2).trans rfl; have hcz17_3 : w14.cell? ⟨gb108, 3, none⟩ = some (.int .i64 t105) := (blk_cell BK108.out 3).trans rfl; have hcz17_4 : w14.cell? ⟨gb108, 4, none⟩ = some (.int .i64 t106) := (blk_cell BK108.out 4).trans rfl; have hfz17_0 := blk_frozen BK108.out 0; have hfz17_1 := blk_frozen BK108.out 1; have hfz17_2 := blk_frozen BK108.out 2; have hfz17_3 := blk_frozen BK108.out 3; have hfz17_4 := blk_frozen BK108.out 4) | (go_at_call 12; (with_reducible refine (rillmeterlaw09_awake.calls k  t116 _ hrt A9.out).mono ?_); rintro e w18 ⟨rfl, hb⟩; have n0_ := Aside0.mk (blk_below (g := gb108) (o := .cells #[.string t102, .string t103, .int .i64 t104, .int .i64 t105, .int .i64 t106] 23 (0, 0)) (by (iterate 5 ((with_reducible repeat first | apply pN_ | apply pD_ | apply pA_); refine blk_far ?_ NB108_115.out _)); (with_reducible repeat first | apply pN_ | apply pD_ | apply pA_); exact BK108.out) hb); have n1_ := Aside0.mk (blk_below (g := gb115) (o := .cells #[.string t109, .string t110, .int .i64 t111, .int .i64 t112, .int .i64 t113] 23 (0, 0)) (by (with_reducible repeat first | apply pN_ | apply pD_ | apply pA_); refine blk_put (cs := #[.string t109, .string t110, .int .i64 t111, .int .i64 t112, .int .i64 0]) ?_ 4 _ rfl; (with_reducible repeat first | apply pN_ | apply pD_ | apply pA_); refine blk_put (cs := #[.string t109, .string t110, .int .i64 t111, .int .i64 0, .int .i64 0]) ?_ 3 _ rfl; (with_reducible repeat first | apply pN_ | apply pD_ | apply pA_); refine blk_put (cs := #[.string t109, .string t110, .int .i64 0, .int .i64 0, .int .i64 0]) ?_ 2 _ rfl; (with_reducible repeat first | apply pN_ | apply pD_ | apply pA_); refine blk_put (cs := #[.string t109, .string ⟨#[]⟩, .int .i64 0, .int .i64 0, .int .i64 0]) ?_ 1 _ rfl; (with_reducible repeat first | apply pN_ | apply pD_ | apply pA_); refine blk_put (cs := Z27_0) ?_ 0 _ rfl; (with_reducible repeat first | apply pN_ | apply pD_ | apply pA_); exact BK115.out) hb); have n2_ := Aside0.mk (below_step (bU_ HB.out) hb); clear BK108 BK115 HB; have BK108 := n0_; have BK115 := n1_; have HB := n2_; clear n0_ n1_ n2_; (try clear hb); (try clear hb2); (try clear hk); (try clear hi)))
  go_ret
  exact rE_ (bU_ HB.out)

/-- THE ONE PURE STATEMENT of rillmeterlaw09_FlowExtracts: yours. -/
def rillmeterlaw09_FlowExtracts.Pure : Prop := ∀ (a0 : ByteArray), a0.size ≤ 140737488351232 → ∃ k, rillmeterlaw09_FlowExtracts.f k a0 = some true
theorem rillmeterlaw09_FlowExtracts.walk (P : rillmeterlaw09_FlowExtracts.Pure) (a0 : ByteArray) (w : World) (w0 : a0.size ≤ 140737488351232) :
  Calls Try.prog 5 #[.string a0] w fun e w' => e = .returned (.bool true) ∧ Below w.heap.size w w' := by
 obtain ⟨k, h⟩ := P a0 w0
 refine (rillmeterlaw09_FlowExtracts.calls k a0 true w (Aside0.mk rfl) h).mono ?_
 rintro e w' ⟨rfl, hd⟩
 exact ⟨rfl, hd⟩
end Go.Proofs.Ytfdhifigndmgaaa.Q
