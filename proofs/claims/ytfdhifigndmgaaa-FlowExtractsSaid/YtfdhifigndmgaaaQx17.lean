-- made by a program of this session (wip/print-patch.py, over the kit's print)
import Derived.Test.YtfdhifigndmgaaaQx0
import Derived.Test.YtfdhifigndmgaaaQx7
import Derived.Test.YtfdhifigndmgaaaQx14
import Derived.Test.YtfdhifigndmgaaaQx16
namespace Go.Proofs.Ytfdhifigndmgaaa.Q
open Go.RowKit Go.Proofs.YtfdhifigndmgaaaW.PrintWords Go.Proofs.YtfdhifigndmgaaaW.PrintLast Go.Proofs.YtfdhifigndmgaaaW.PrintMore
attribute [local go_sem] max2_int min2_int max_two min_two max_three min_three max_four min_four   -- for this text's walks alone
set_option linter.unusedVariables false
set_option linter.unusedSimpArgs false

attribute [local go_sem] cell_twice_ cell_twiceN_
abbrev Z17_0 : Array Value := #[.string ⟨#[]⟩, .string ⟨#[]⟩, .int .i64 0, .int .i64 0, .int .i64 0]
abbrev Z17_1 : Array Value := #[.string ⟨#[]⟩, .string ⟨#[]⟩, .slice none 0 0, .int .i64 0]
/-! ### flow_Extract: function 18 -/
def flow_Extract.j0 : Nat → ByteArray → Bool → ByteArray → ByteArray → Int → Int → Int → Option (ByteArray × ByteArray × Int × Int × Int × Int)
 | 0, _, _, _, _, _, _, _ => none
 | k + 1, x8, x42, x119000, x119001, x119002, x119003, x119004 => if x42 = true then (some (x119000, x119001, x119002, x119003, x119004, 0)) else ((port_Take.f k x119002 x8).bind fun bt119 => (if bt119.2.2.2 = 0 then (some (x119000, x119001, x119002, bt119.1, bt119.2.1, 0)) else (some ((⟨#[]⟩ : ByteArray), (⟨#[]⟩ : ByteArray), 0, 0, 0, bt119.2.2.2))))
def flow_Extract.f (k : Nat) (a0 : ByteArray) : Option (ByteArray × ByteArray × Int × Int × Int × Int) := if (a0.size : Int) > 2048 then (some ((⟨#[]⟩ : ByteArray), (⟨#[]⟩ : ByteArray), 0, 0, 0, 4)) else ((ether_Take.f k a0).bind fun bt102 => (if bt102.2.2.2.2.2 = 0 then ((flow_network.f k bt102.2.2.2.1 bt102.2.2.2.2.1).bind fun bt111 => (if bt111.2.2.2.2.2.2 = 0 then (if bt111.2.2.1 = 6 then (flow_Extract.j0 k bt111.2.2.2.2.2.1 false bt111.1 bt111.2.1 bt111.2.2.1 bt111.2.2.2.1 bt111.2.2.2.2.1) else (flow_Extract.j0 k bt111.2.2.2.2.2.1 (bt111.2.2.1 != 17) bt111.1 bt111.2.1 bt111.2.2.1 bt111.2.2.2.1 bt111.2.2.2.2.1)) else (some ((⟨#[]⟩ : ByteArray), (⟨#[]⟩ : ByteArray), 0, 0, 0, bt111.2.2.2.2.2.2)))) else (some ((⟨#[]⟩ : ByteArray), (⟨#[]⟩ : ByteArray), 0, 0, 0, bt102.2.2.2.2.2))))
theorem flow_Extract.mono_l : ∀ k, (∀ y0 y1 y2 y3 y4 y5 y6, LeO (flow_Extract.j0 k y0 y1 y2 y3 y4 y5 y6) (flow_Extract.j0 (k + 1) y0 y1 y2 y3 y4 y5 y6))
 | 0 => fun _ _ _ _ _ _ _ r h => by simp [flow_Extract.j0] at h
 | k + 1 => by
  have ih0 := flow_Extract.mono_l k
  ·intro y0 y1 y2 y3 y4 y5 y6
   unfold flow_Extract.j0
   repeat' first
   | (with_reducible exact ih0 _ _ _ _ _ _ _)
   | (with_reducible exact ether_Take.mono _ _)
   | (with_reducible exact flow_network.mono _ _ _)
   | (with_reducible exact port_Take.mono _ _ _)
   | (with_reducible exact LeO.refl _)
   | (with_reducible exact LeO.none _)
   | (with_reducible refine LeO.ite ?_ ?_)
   | (with_reducible refine LeO.bind ?_ (fun _ => ?_))
   | exact ih0 _ _ _ _ _ _ _
   | exact ether_Take.mono _ _
   | exact flow_network.mono _ _ _
   | exact port_Take.mono _ _ _
   | exact LeO.none _
   | refine LeO.ite ?_ ?_
   | refine LeO.bind ?_ (fun _ => ?_)
theorem flow_Extract.mono : ∀ a0 k, LeO (flow_Extract.f k a0) (flow_Extract.f (k + 1) a0) := by
 intro a0 k
 have ih0 := flow_Extract.mono_l k
 unfold flow_Extract.f
 repeat' first
   | (with_reducible exact ih0 _ _ _ _ _ _ _)
   | (with_reducible exact ether_Take.mono _ _)
   | (with_reducible exact flow_network.mono _ _ _)
   | (with_reducible exact port_Take.mono _ _ _)
   | (with_reducible exact LeO.refl _)
   | (with_reducible exact LeO.none _)
   | (with_reducible refine LeO.ite ?_ ?_)
   | (with_reducible refine LeO.bind ?_ (fun _ => ?_))
   | exact ih0 _ _ _ _ _ _ _
   | exact ether_Take.mono _ _
   | exact flow_network.mono _ _ _
   | exact port_Take.mono _ _ _
   | exact LeO.none _
   | refine LeO.ite ?_ ?_
   | refine LeO.bind ?_ (fun _ => ?_)
set_option maxHeartbeats 8000000 in
set_option maxRecDepth 100000 in
theorem flow_Extract.calls (k : Nat) (a0 : ByteArray) (r1 : ByteArray) (r2 : ByteArray) (r3 : Int) (r4 : Int) (r5 : Int) (r6 : Int) (w : World) (h : flow_Extract.f k a0 = some (r1, r2, r3, r4, r5, r6)) :
  Calls Try.prog 18 #[.string a0] w fun e w' => e = .returned (.tuple #[.agg #[.string r1, .string r2, .int .i64 r3, .int .i64 r4, .int .i64 r5], .int .i64 r6]) ∧ Below w.heap.size w w' := by
 have hu23 := Try.underlying23
 have hu41 := Try.underlying41
 have HB := Aside0.mk (Below.refl w.heap.size w)
 have H : (if (a0.size : Int) > 2048 then (some ((⟨#[]⟩ : ByteArray), (⟨#[]⟩ : ByteArray), 0, 0, 0, 4)) else ((ether_Take.f k a0).bind fun bt102 => (if bt102.2.2.2.2.2 = 0 then ((flow_network.f k bt102.2.2.2.1 bt102.2.2.2.2.1).bind fun bt111 => (if bt111.2.2.2.2.2.2 = 0 then (if bt111.2.2.1 = 6 then (flow_Extract.j0 k bt111.2.2.2.2.2.1 false bt111.1 bt111.2.1 bt111.2.2.1 bt111.2.2.2.1 bt111.2.2.2.2.1) else (flow_Extract.j0 k bt111.2.2.2.2.2.1 (bt111.2.2.1 != 17) bt111.1 bt111.2.1 bt111.2.2.1 bt111.2.2.2.1 bt111.2.2.2.2.1)) else (some ((⟨#[]⟩ : ByteArray), (⟨#[]⟩ : ByteArray), 0, 0, 0, bt111.2.2.2.2.2.2)))) else (some ((⟨#[]⟩ : ByteArray), (⟨#[]⟩ : ByteArray), 0, 0, 0, bt102.2.2.2.2.2))))) = some (r1, r2, r3, r4, r5, r6) := h
 clear h
 by_cases c2 : (a0.size : Int) > 2048
 ·rw [if_pos c2] at H
  have c2b0 : decide (2048 < (a0.size : Int)) = true := decide_eq_true c2
  have c2b1 : decide (2048 < a0.size) = true := decide_eq_true (by omega)
  clear c2
  simp only [Option.some.injEq, Prod.mk.injEq] at H
  obtain ⟨rfl, rfl, rfl, rfl, rfl, rfl⟩ := H
  go_enter Try.func18, Try.ntmps18
  go_wp2_with (first | ((with_reducible refine gate_dst (N := 2) rfl ?_); refine bE_ (N := 2) (cs := Z17_0) (t := 23) ?_; intro gb101 hg w3 hbox hb; have n0_ := Aside0.mk (below_step (bU_ HB.out) hb); have n1_ := Aside0.mk (hbox); have n2_ := Aside0.mk (bZ_ hg (bU_ HB.out) : w.heap.size ≤ gb101); have n3_ := n2_; clear HB; have HB := n0_; have BK101 := n1_; have GW101 := n2_; have GE101 := n3_; clear n0_ n1_ n2_ n3_; clear hb hbox hg; have hcz4_0 : w3.cell? ⟨gb101, 0, none⟩ = some (.string ⟨#[]⟩) := (blk_cell BK101.out 0).trans rfl; have hcz4_1 : w3.cell? ⟨gb101, 1, none⟩ = some (.string ⟨#[]⟩) := (blk_cell BK101.out 1).trans rfl; have hcz4_2 : w3.cell? ⟨gb101, 2, none⟩ = some (.int .i64 0) := (blk_cell BK101.out 2).trans rfl; have hcz4_3 : w3.cell? ⟨gb101, 3, none⟩ = some (.int .i64 0) := (blk_cell BK101.out 3).trans rfl; have hcz4_4 : w3.cell? ⟨gb101, 4, none⟩ = some (.int .i64 0) := (blk_cell BK101.out 4).trans rfl; have hfz4_0 := blk_frozen BK101.out 0; have hfz4_1 := blk_frozen BK101.out 1; have hfz4_2 := blk_frozen BK101.out 2; have hfz4_3 := blk_frozen BK101.out 3; have hfz4_4 := blk_frozen BK101.out 4))
  refine bodyPost_ret (results_ct rfl _ _ gb101 23 #[.string ⟨#[]⟩, .string ⟨#[]⟩, .int .i64 0, .int .i64 0, .int .i64 0] (0, 0) _ rfl (by (with_reducible repeat first | apply pN_ | apply pD_ | apply pA_); refine blk_put (cs := Z17_0) ?_ 4 _ rfl; (with_reducible repeat first | apply pN_ | apply pD_ | apply pA_); refine blk_put (cs := Z17_0) ?_ 3 _ rfl; (with_reducible repeat first | apply pN_ | apply pD_ | apply pA_); refine blk_put (cs := Z17_0) ?_ 2 _ rfl; (with_reducible repeat first | apply pN_ | apply pD_ | apply pA_); refine blk_put (cs := Z17_0) ?_ 1 _ rfl; (with_reducible repeat first | apply pN_ | apply pD_ | apply pA_); refine blk_put (cs := Z17_0) ?_ 0 _ rfl; (with_reducible repeat first | apply pN_ | apply pD_ | apply pA_); exact BK101.out) Try.underlying23 rfl (by kernel_rfl)) rfl ?_
  exact rE_ (bU_ HB.out)
 ·rw [if_neg c2] at H
  have c2b0 : decide (2048 < (a0.size : Int)) = false := decide_eq_false c2
  have c2b1 : decide (2048 < a0.size) = false := decide_eq_false (by omega)
  clear c2
  replace H := Option.bind_eq_some_iff.mp H
  obtain ⟨⟨t102, t103, t104, t107, t108, t109⟩, A50, H⟩ := H
  replace H : (if t109 = 0 then ((flow_network.f k t107 t108).bind fun bt111 => (if bt111.2.2.2.2.2.2 = 0 then (if bt111.2.2.1 = 6 then (flow_Extract.j0 k bt111.2.2.2.2.2.1 false bt111.1 bt111.2.1 bt111.2.2.1 bt111.2.2.2.1 bt111.2.2.2.2.1) else (flow_Extract.j0 k bt111.2.2.2.2.2.1 (bt111.2.2.1 != 17) bt111.1 bt111.2.1 bt111.2.2.1 bt111.2.2.2.1 bt111.2.2.2.2.1)) else (some ((⟨#[]⟩ : ByteArray), (⟨#[]⟩ : ByteArray), 0, 0, 0, bt111.2.2.2.2.2.2)))) else (some ((⟨#[]⟩ : ByteArray), (⟨#[]⟩ : ByteArray), 0, 0, 0, t109))) = some (r1, r2, r3, r4, r5, r6) := H
  have A5 := Aside0.mk A50
  clear A50
  by_cases c6 : t109 = 0
  ·rw [if_pos c6] at H
   have c6b0 : (t109 == 0) = true := beq_iff_eq.mpr c6
   have c6b1 : (t109 != 0) = false := bne_eq_false_iff_eq.mpr c6
   clear c6
   replace H := Option.bind_eq_some_iff.mp H
   obtain ⟨⟨t111, t112, t113, t114, t115, t116, t117⟩, A70, H⟩ := H
   replace H : (if t117 = 0 then (if t113 = 6 then (flow_Extract.j0 k t116 false t111 t112 t113 t114 t115) else (flow_Extract.j0 k t116 (t113 != 17) t111 t112 t113 t114 t115)) else (some ((⟨#[]⟩ : ByteArray), (⟨#[]⟩ : ByteArray), 0, 0, 0, t117))) = some (r1, r2, r3, r4, r5, r6) := H
   have A7 := Aside0.mk A70
   clear A70
   by_cases c8 : t117 = 0
   ·rw [if_pos c8] at H
    have c8b0 : (t117 == 0) = true := beq_iff_eq.mpr c8
    have c8b1 : (t117 != 0) = false := bne_eq_false_iff_eq.mpr c8
    clear c8
    have HC9 := Aside0.mk H
    clear H
    go_enter Try.func18, Try.ntmps18
    go_upto_region 9 with (first | ((with_reducible refine gate_dst (N := 2) rfl ?_); refine bE_ (N := 2) (cs := Z17_0) (t := 23) ?_; intro gb101 hg w10 hbox hb; have n0_ := Aside0.mk (below_step (bU_ HB.out) hb); have n1_ := Aside0.mk (hbox); have n2_ := Aside0.mk (bZ_ hg (bU_ HB.out) : w.heap.size ≤ gb101); have n3_ := n2_; clear HB; have HB := n0_; have BK101 := n1_; have GW101 := n2_; have GE101 := n3_; clear n0_ n1_ n2_ n3_; clear hb hbox hg) | ((with_reducible refine gate_callee (f := 20) rfl ?_); refine gL_ (some 15) rfl rfl Try.func20 (by kernel_rfl) rfl #[.string a0] rfl ?_; (with_reducible refine (ether_Take.calls k a0 t102 t103 t104 t107 t108 t109 _ A5.out).mono ?_); rintro e w11 ⟨v105, rfl, ho0, hb⟩; refine ⟨_, rfl, ?_⟩; have n0_ := Aside0.mk (Kd.R_lower ho0 (below_size (bU_ HB.out))); have n1_ := Aside0.mk (bB_ BK101.out hb); have n2_ := Aside0.mk (below_step (bU_ HB.out) hb); clear BK101 HB; have HO106 := n0_; have BK101 := n1_; have HB := n2_; clear n0_ n1_ n2_; (try clear hb); (try clear hb2); (try clear hk); (try clear hi); (try clear ho0)) | ((with_reducible refine gate_dst (N := 4) rfl ?_); refine bE_ (N := 4) (cs := Z17_1) (t := 41) ?_; intro gb110 hg w12 hbox hb; have n0_ := Aside0.mk (rB_ HO106.out hb); have n1_ := Aside0.mk (bB_ BK101.out hb); have n2_ := Aside0.mk (below_step (bU_ HB.out) hb); have n3_ := Aside0.mk (hbox); have n4_ := Aside0.mk (bZ_ hg (bU_ HB.out) : w.heap.size ≤ gb110); have n5_ := n4_; have n6_ := Aside0.mk ((bN_ hg BK101.out : gb101 ≠ gb110)); have n7_ := Aside0.mk (Ne.symm n6_.out); clear HO106 BK101 HB; have HO106 := n0_; have BK101 := n1_; have HB := n2_; have BK110 := n3_; have GW110 := n4_; have GE110 := n5_; have NB101_110 := n6_; have NB110_101 := n7_; clear n0_ n1_ n2_ n3_ n4_ n5_ n6_ n7_; clear hb hbox hg; have hnb13 := NB110_101.out; have hnc13 := NB101_110.out; have hcz14_0 : w12.cell? ⟨gb110, 0, none⟩ = some (.string ⟨#[]⟩) := (blk_cell BK110.out 0).trans rfl; have hcz14_1 : w12.cell? ⟨gb110, 1, none⟩ = some (.string ⟨#[]⟩) := (blk_cell BK110.out 1).trans rfl; have hcz14_2 : w12.cell? ⟨gb110, 2, none⟩ = some (.slice none 0 0) := (blk_cell BK110.out 2).trans rfl; have hcz14_3 : w12.cell? ⟨gb110, 3, none⟩ = some (.int .i64 0) := (blk_cell BK110.out 3).trans rfl; have hfz14_0 := blk_frozen BK110.out 0; have hfz14_1 := blk_frozen BK110.out 1; have hfz14_2 := blk_frozen BK110.out 2; have hfz14_3 := blk_frozen BK110.out 3; obtain ⟨Ao15, co15, eo15⟩ := Kd.R_slice HO106.out; subst eo15) | ((with_reducible refine gate_callee (f := 26) rfl ?_); refine gL_ (some 27) rfl rfl Try.func26 (by kernel_rfl) rfl #[.int .i64 t107, .string t108] rfl ?_; (with_reducible refine (flow_network.calls k t107 t108 t111 t112 t113 t114 t115 t116 t117 _ A7.out).mono ?_); rintro e w16 ⟨rfl, hb⟩; refine ⟨_, rfl, ?_⟩; have n0_ := Aside0.mk (Kd.R_below (by (with_reducible repeat first | apply Kd.R_alloc | apply Kd.R_drewN | apply Kd.R_drew); exact (Kd.R_mono (Kd.R_far (p := ⟨gb110, 3, none⟩) (Kd.R_far (p := ⟨gb110, 2, none⟩) (Kd.R_far (p := ⟨gb110, 1, none⟩) (Kd.R_far (p := ⟨gb110, 0, none⟩) (Kd.R_types HO106.out BK110.out (by decide)) (fun _ hk => hk.2) (.string t102)) (fun _ hk => hk.2) (.string t103)) (fun _ hk => hk.2) (.slice Ao15 t104.length co15)) (fun _ hk => hk.2) (.int .i64 t107)) (fun _ h_ => h_.1))) hb); have n1_ := Aside0.mk (blk_below (g := gb101) (o := .cells Z17_0 23 (0, 0)) (by (iterate 4 ((with_reducible repeat first | apply pN_ | apply pD_ | apply pA_); refine blk_far ?_ NB101_110.out _)); (with_reducible repeat first | apply pN_ | apply pD_ | apply pA_); exact BK101.out) hb); have n2_ := Aside0.mk (blk_below (g := gb110) (o := .cells #[.string t102, .string t103, .slice Ao15 t104.length co15, .int .i64 t107] 41 (0, 0)) (by (with_reducible repeat first | apply pN_ | apply pD_ | apply pA_); refine blk_put (cs := #[.string t102, .string t103, .slice Ao15 t104.length co15, .int .i64 0]) ?_ 3 _ rfl; (with_reducible repeat first | apply pN_ | apply pD_ | apply pA_); refine blk_put (cs := #[.string t102, .string t103, .slice none 0 0, .int .i64 0]) ?_ 2 _ rfl; (with_reducible repeat first | apply pN_ | apply pD_ | apply pA_); refine blk_put (cs := #[.string t102, .string ⟨#[]⟩, .slice none 0 0, .int .i64 0]) ?_ 1 _ rfl; (with_reducible repeat first | apply pN_ | apply pD_ | apply pA_); refine blk_put (cs := Z17_1) ?_ 0 _ rfl; (with_reducible repeat first | apply pN_ | apply pD_ | apply pA_); exact BK110.out) hb); have n3_ := Aside0.mk (below_step (bU_ HB.out) hb); clear HO106 BK101 BK110 HB; have HO106 := n0_; have BK101 := n1_; have BK110 := n2_; have HB := n3_; clear n0_ n1_ n2_ n3_; (try clear hb); (try clear hb2); (try clear hk); (try clear hi)) | ((with_reducible refine gate_dst (N := 7) rfl ?_); refine bE_ (N := 7) (cs := Z17_0) (t := 23) ?_; intro gb118 hg w17 hbox hb; have n0_ := Aside0.mk (rB_ HO106.out hb); have n1_ := Aside0.mk (bB_ BK101.out hb); have n2_ := Aside0.mk (bB_ BK110.out hb); have n3_ := Aside0.mk (below_step (bU_ HB.out) hb); have n4_ := Aside0.mk (hbox); have n5_ := Aside0.mk (bZ_ hg (bU_ HB.out) : w.heap.size ≤ gb118); have n6_ := n5_; have n7_ := Aside0.mk ((bN_ hg BK101.out : gb101 ≠ gb118)); have n8_ := Aside0.mk (Ne.symm n7_.out); have n9_ := Aside0.mk ((bN_ hg BK110.out : gb110 ≠ gb118)); have n10_ := Aside0.mk (Ne.symm n9_.out); clear HO106 BK101 BK110 HB; have HO106 := n0_; have BK101 := n1_; have BK110 := n2_; have HB := n3_; have BK118 := n4_; have GW118 := n5_; have GE118 := n6_; have NB101_118 := n7_; have NB118_101 := n8_; have NB110_118 := n9_; have NB118_110 := n10_; clear n0_ n1_ n2_ n3_ n4_ n5_ n6_ n7_ n8_ n9_ n10_; clear hb hbox hg; have hnb18 := NB118_101.out; have hnc18 := NB101_118.out; have hnb19 := NB118_110.out; have hnc19 := NB110_118.out; have hcz20_0 : w17.cell? ⟨gb118, 0, none⟩ = some (.string ⟨#[]⟩) := (blk_cell BK118.out 0).trans rfl; have hcz20_1 : w17.cell? ⟨gb118, 1, none⟩ = some (.string ⟨#[]⟩) := (blk_cell BK118.out 1).trans rfl; have hcz20_2 : w17.cell? ⟨gb118, 2, none⟩ = some (.int .i64 0) := (blk_cell BK118.out 2).trans rfl; have hcz20_3 : w17.cell? ⟨gb118, 3, none⟩ = some (.int .i64 0) := (blk_cell BK118.out 3).trans rfl; have hcz20_4 : w17.cell? ⟨gb118, 4, none⟩ = some (.int .i64 0) := (blk_cell BK118.out 4).trans rfl; have hfz20_0 := blk_frozen BK118.out 0; have hfz20_1 := blk_frozen BK118.out 1; have hfz20_2 := blk_frozen BK118.out 2; have hfz20_3 := blk_frozen BK118.out 3; have hfz20_4 := blk_frozen BK118.out 4))
    (try simp only [Act.put, s1_, s2_, s3_])
    go_cut [42] (fun v42 wc => ∃ (kq : Nat) (x42_8 : Bool), v42 = .bool x42_8 ∧ Aside0 (flow_Extract.j0 kq t116 x42_8 t111 t112 t113 t114 t115 = some (r1, r2, r3, r4, r5, r6)) ∧ Aside0 (kq ≤ k) ∧ Aside0 (Kd.R k81 81 wc w.heap.size (fun _ => True) (.slice Ao15 t104.length co15) t104) ∧ Aside0 (wc.heap[gb101]? = some (.cells #[.string ⟨#[]⟩, .string ⟨#[]⟩, .int .i64 0, .int .i64 0, .int .i64 0] 23 (0, 0))) ∧ Aside0 (wc.heap[gb110]? = some (.cells #[.string t102, .string t103, (.slice Ao15 t104.length co15), .int .i64 t107] 41 (0, 0))) ∧ Aside0 (wc.heap[gb118]? = some (.cells #[.string t111, .string t112, .int .i64 t113, .int .i64 t114, .int .i64 t115] 23 (0, 0))) ∧ Aside0 (Below w.heap.size w wc))
    case first =>
     have H := HC9.out
     clear HC9
     by_cases c21 : t113 = 6
     ·rw [if_pos c21] at H
      have c21b0 : (t113 == 6) = true := beq_iff_eq.mpr c21
      have c21b1 : (t113 != 6) = false := bne_eq_false_iff_eq.mpr c21
      clear c21
      (first | rw [c21b0] | (simp only [i64_w, i32_w]; rw [c21b0]) | skip)
      have H' := Aside0.mk H
      clear H
      have hnb22 := NB118_101.out
      have hnc22 := NB101_118.out
      have hnb23 := NB118_110.out
      have hnc23 := NB110_118.out
      have hcz24_0 : w17.cell? ⟨gb118, 0, none⟩ = some (.string ⟨#[]⟩) := (blk_cell BK118.out 0).trans rfl
      have hcz24_1 : w17.cell? ⟨gb118, 1, none⟩ = some (.string ⟨#[]⟩) := (blk_cell BK118.out 1).trans rfl
      have hcz24_2 : w17.cell? ⟨gb118, 2, none⟩ = some (.int .i64 0) := (blk_cell BK118.out 2).trans rfl
      have hcz24_3 : w17.cell? ⟨gb118, 3, none⟩ = some (.int .i64 0) := (blk_cell BK118.out 3).trans rfl
      have hcz24_4 : w17.cell? ⟨gb118, 4, none⟩ = some (.int .i64 0) := (blk_cell BK118.out 4).trans rfl
      have hfz24_0 := blk_frozen BK118.out 0; have hfz24_1 := blk_frozen BK118.out 1; have hfz24_2 := blk_frozen BK118.out 2; have hfz24_3 := blk_frozen BK118.out 3; have hfz24_4 := blk_frozen BK118.out 4
      go_wp2
      go_meet
      case rel => exact ⟨_, (false), (by first | rfl | (simp; done) | (simp [*]; done)), H', ⟨by first | omega | exact Nat.le_refl _⟩, ⟨by (with_reducible repeat first | apply Kd.R_alloc | apply Kd.R_drewN | apply Kd.R_drew); exact Kd.R_mono (Kd.R_far (p := ⟨gb118, 4, none⟩) (Kd.R_far (p := ⟨gb118, 3, none⟩) (Kd.R_far (p := ⟨gb118, 2, none⟩) (Kd.R_far (p := ⟨gb118, 1, none⟩) (Kd.R_far (p := ⟨gb118, 0, none⟩) (Kd.R_types HO106.out BK118.out (by decide)) (fun _ hk => hk.2) (.string t111)) (fun _ hk => hk.2) (.string t112)) (fun _ hk => hk.2) (.int .i64 t113)) (fun _ hk => hk.2) (.int .i64 t114)) (fun _ hk => hk.2) (.int .i64 t115)) (fun _ hk => trivial)⟩, ⟨by (iterate 5 ((with_reducible repeat first | apply pN_ | apply pD_ | apply pA_); refine blk_far ?_ NB101_118.out _)); (with_reducible repeat first | apply pN_ | apply pD_ | apply pA_); exact BK101.out⟩, ⟨by (iterate 5 ((with_reducible repeat first | apply pN_ | apply pD_ | apply pA_); refine blk_far ?_ NB110_118.out _)); (with_reducible repeat first | apply pN_ | apply pD_ | apply pA_); exact BK110.out⟩, ⟨by (with_reducible repeat first | apply pN_ | apply pD_ | apply pA_); refine blk_put (cs := #[.string t111, .string t112, .int .i64 t113, .int .i64 t114, .int .i64 0]) ?_ 4 _ rfl; (with_reducible repeat first | apply pN_ | apply pD_ | apply pA_); refine blk_put (cs := #[.string t111, .string t112, .int .i64 t113, .int .i64 0, .int .i64 0]) ?_ 3 _ rfl; (with_reducible repeat first | apply pN_ | apply pD_ | apply pA_); refine blk_put (cs := #[.string t111, .string t112, .int .i64 0, .int .i64 0, .int .i64 0]) ?_ 2 _ rfl; (with_reducible repeat first | apply pN_ | apply pD_ | apply pA_); refine blk_put (cs := #[.string t111, .string ⟨#[]⟩, .int .i64 0, .int .i64 0, .int .i64 0]) ?_ 1 _ rfl; (with_reducible repeat first | apply pN_ | apply pD_ | apply pA_); refine blk_put (cs := Z17_0) ?_ 0 _ rfl; (with_reducible repeat first | apply pN_ | apply pD_ | apply pA_); exact BK118.out⟩, ⟨bU_ HB.out⟩⟩
     ·rw [if_neg c21] at H
      have c21b0 : (t113 == 6) = false := beq_eq_false_iff_ne.mpr c21
      have c21b1 : (t113 != 6) = true := bne_iff_ne.mpr c21
      (first | rw [c21b0] | (simp only [i64_w, i32_w]; rw [c21b0]) | skip)
      have H' := Aside0.mk H
      clear H
      have hnb25 := NB118_101.out
      have hnc25 := NB101_118.out
      have hnb26 := NB118_110.out
      have hnc26 := NB110_118.out
      have hcz27_0 : w17.cell? ⟨gb118, 0, none⟩ = some (.string ⟨#[]⟩) := (blk_cell BK118.out 0).trans rfl
      have hcz27_1 : w17.cell? ⟨gb118, 1, none⟩ = some (.string ⟨#[]⟩) := (blk_cell BK118.out 1).trans rfl
      have hcz27_2 : w17.cell? ⟨gb118, 2, none⟩ = some (.int .i64 0) := (blk_cell BK118.out 2).trans rfl
      have hcz27_3 : w17.cell? ⟨gb118, 3, none⟩ = some (.int .i64 0) := (blk_cell BK118.out 3).trans rfl
      have hcz27_4 : w17.cell? ⟨gb118, 4, none⟩ = some (.int .i64 0) := (blk_cell BK118.out 4).trans rfl
      have hfz27_0 := blk_frozen BK118.out 0; have hfz27_1 := blk_frozen BK118.out 1; have hfz27_2 := blk_frozen BK118.out 2; have hfz27_3 := blk_frozen BK118.out 3; have hfz27_4 := blk_frozen BK118.out 4
      go_wp2
      go_meet
      case rel => exact ⟨_, ((t113 != 17)), (by first | rfl | (simp; done) | (simp [*]; done)), H', ⟨by first | omega | exact Nat.le_refl _⟩, ⟨by (with_reducible repeat first | apply Kd.R_alloc | apply Kd.R_drewN | apply Kd.R_drew); exact Kd.R_mono (Kd.R_far (p := ⟨gb118, 4, none⟩) (Kd.R_far (p := ⟨gb118, 3, none⟩) (Kd.R_far (p := ⟨gb118, 2, none⟩) (Kd.R_far (p := ⟨gb118, 1, none⟩) (Kd.R_far (p := ⟨gb118, 0, none⟩) (Kd.R_types HO106.out BK118.out (by decide)) (fun _ hk => hk.2) (.string t111)) (fun _ hk => hk.2) (.string t112)) (fun _ hk => hk.2) (.int .i64 t113)) (fun _ hk => hk.2) (.int .i64 t114)) (fun _ hk => hk.2) (.int .i64 t115)) (fun _ hk => trivial)⟩, ⟨by (iterate 5 ((with_reducible repeat first | apply pN_ | apply pD_ | apply pA_); refine blk_far ?_ NB101_118.out _)); (with_reducible repeat first | apply pN_ | apply pD_ | apply pA_); exact BK101.out⟩, ⟨by (iterate 5 ((with_reducible repeat first | apply pN_ | apply pD_ | apply pA_); refine blk_far ?_ NB110_118.out _)); (with_reducible repeat first | apply pN_ | apply pD_ | apply pA_); exact BK110.out⟩, ⟨by (with_reducible repeat first | apply pN_ | apply pD_ | apply pA_); refine blk_put (cs := #[.string t111, .string t112, .int .i64 t113, .int .i64 t114, .int .i64 0]) ?_ 4 _ rfl; (with_reducible repeat first | apply pN_ | apply pD_ | apply pA_); refine blk_put (cs := #[.string t111, .string t112, .int .i64 t113, .int .i64 0, .int .i64 0]) ?_ 3 _ rfl; (with_reducible repeat first | apply pN_ | apply pD_ | apply pA_); refine blk_put (cs := #[.string t111, .string t112, .int .i64 0, .int .i64 0, .int .i64 0]) ?_ 2 _ rfl; (with_reducible repeat first | apply pN_ | apply pD_ | apply pA_); refine blk_put (cs := #[.string t111, .string ⟨#[]⟩, .int .i64 0, .int .i64 0, .int .i64 0]) ?_ 1 _ rfl; (with_reducible repeat first | apply pN_ | apply pD_ | apply pA_); refine blk_put (cs := Z17_0) ?_ 0 _ rfl; (with_reducible repeat first | apply pN_ | apply pD_ | apply pA_); exact BK118.out⟩, ⟨bU_ HB.out⟩⟩
    case rest =>
     clear HC9
     (try clear c1); (try clear c2); (try clear c2b0); (try clear c2b1); (try clear p2); (try clear c6); (try clear c6b0); (try clear c6b1); (try clear c8); (try clear c8b0); (try clear c8b1); (try clear c13); (try clear c18); (try clear c19); (try clear c20); (try clear c21); (try clear c21b0); (try clear c21b1); (try clear c22); (try clear c23); (try clear c25); (try clear c26); (try clear hcz14_0); (try clear hcz14_1); (try clear hcz14_2); (try clear hcz14_3); (try clear hcz20_0); (try clear hcz20_1); (try clear hcz20_2); (try clear hcz20_3); (try clear hcz20_4); (try clear hcz24_0); (try clear hcz24_1); (try clear hcz24_2); (try clear hcz24_3); (try clear hcz24_4); (try clear hcz27_0); (try clear hcz27_1); (try clear hcz27_2); (try clear hcz27_3); (try clear hcz27_4); (try clear hcz4_0); (try clear hcz4_1); (try clear hcz4_2); (try clear hcz4_3); (try clear hcz4_4); (try clear hfz14_0); (try clear hfz14_1); (try clear hfz14_2); (try clear hfz14_3); (try clear hfz20_0); (try clear hfz20_1); (try clear hfz20_2); (try clear hfz20_3); (try clear hfz20_4); (try clear hfz24_0); (try clear hfz24_1); (try clear hfz24_2); (try clear hfz24_3); (try clear hfz24_4); (try clear hfz27_0); (try clear hfz27_1); (try clear hfz27_2); (try clear hfz27_3); (try clear hfz27_4); (try clear hfz4_0); (try clear hfz4_1); (try clear hfz4_2); (try clear hfz4_3); (try clear hfz4_4)
     obtain ⟨kq, x42_8, rfl, HA, HJ8, HO_111002, BK101, BK110, BK118, HB⟩ := hcut
     cases kq with
     | zero => exact absurd HA.out (by simp [flow_Extract.j0])
     | succ kj8 =>
      have H := HA.out
      clear HA
      simp only [flow_Extract.j0] at H
      by_cases c28 : x42_8 = true
      ·subst c28
       have H1 : (some (t111, t112, t113, t114, t115, 0)) = some (r1, r2, r3, r4, r5, r6) := by rw [if_pos rfl] at H; exact H
       clear H
       have H := H1
       clear H1
       simp only [Option.some.injEq, Prod.mk.injEq] at H
       obtain ⟨rfl, rfl, rfl, rfl, rfl, rfl⟩ := H
       have hnb29 := NB118_101.out
       have hnc29 := NB101_118.out
       have hnb30 := NB118_110.out
       have hnc30 := NB110_118.out
       have hcz31_0 : wc.cell? ⟨gb118, 0, none⟩ = some (.string t111) := (blk_cell BK118.out 0).trans rfl
       have hcz31_1 : wc.cell? ⟨gb118, 1, none⟩ = some (.string t112) := (blk_cell BK118.out 1).trans rfl
       have hcz31_2 : wc.cell? ⟨gb118, 2, none⟩ = some (.int .i64 t113) := (blk_cell BK118.out 2).trans rfl
       have hcz31_3 : wc.cell? ⟨gb118, 3, none⟩ = some (.int .i64 t114) := (blk_cell BK118.out 3).trans rfl
       have hcz31_4 : wc.cell? ⟨gb118, 4, none⟩ = some (.int .i64 t115) := (blk_cell BK118.out 4).trans rfl
       have hfz31_0 := blk_frozen BK118.out 0; have hfz31_1 := blk_frozen BK118.out 1; have hfz31_2 := blk_frozen BK118.out 2; have hfz31_3 := blk_frozen BK118.out 3; have hfz31_4 := blk_frozen BK118.out 4
       have hnb32 := NB101_110.out
       have hnc32 := NB110_101.out
       have hcz33_0 : wc.cell? ⟨gb101, 0, none⟩ = some (.string ⟨#[]⟩) := (blk_cell BK101.out 0).trans rfl
       have hcz33_1 : wc.cell? ⟨gb101, 1, none⟩ = some (.string ⟨#[]⟩) := (blk_cell BK101.out 1).trans rfl
       have hcz33_2 : wc.cell? ⟨gb101, 2, none⟩ = some (.int .i64 0) := (blk_cell BK101.out 2).trans rfl
       have hcz33_3 : wc.cell? ⟨gb101, 3, none⟩ = some (.int .i64 0) := (blk_cell BK101.out 3).trans rfl
       have hcz33_4 : wc.cell? ⟨gb101, 4, none⟩ = some (.int .i64 0) := (blk_cell BK101.out 4).trans rfl
       have hfz33_0 := blk_frozen BK101.out 0; have hfz33_1 := blk_frozen BK101.out 1; have hfz33_2 := blk_frozen BK101.out 2; have hfz33_3 := blk_frozen BK101.out 3; have hfz33_4 := blk_frozen BK101.out 4
       go_wp2
       refine bodyPost_ret (results_ct rfl _ _ gb101 23 #[.string t111, .string t112, .int .i64 t113, .int .i64 t114, .int .i64 t115] (0, 0) _ rfl (by (with_reducible repeat first | apply pN_ | apply pD_ | apply pA_); refine blk_put (cs := #[.string t111, .string t112, .int .i64 t113, .int .i64 t114, .int .i64 0]) ?_ 4 _ rfl; (with_reducible repeat first | apply pN_ | apply pD_ | apply pA_); refine blk_put (cs := #[.string t111, .string t112, .int .i64 t113, .int .i64 0, .int .i64 0]) ?_ 3 _ rfl; (with_reducible repeat first | apply pN_ | apply pD_ | apply pA_); refine blk_put (cs := #[.string t111, .string t112, .int .i64 0, .int .i64 0, .int .i64 0]) ?_ 2 _ rfl; (with_reducible repeat first | apply pN_ | apply pD_ | apply pA_); refine blk_put (cs := #[.string t111, .string ⟨#[]⟩, .int .i64 0, .int .i64 0, .int .i64 0]) ?_ 1 _ rfl; (with_reducible repeat first | apply pN_ | apply pD_ | apply pA_); refine blk_put (cs := Z17_0) ?_ 0 _ rfl; (with_reducible repeat first | apply pN_ | apply pD_ | apply pA_); exact BK101.out) Try.underlying23 rfl (by kernel_rfl)) rfl ?_
       exact rE_ (bU_ HB.out)
      ·replace c28 := Bool.eq_false_iff.mpr c28
       subst c28
       have H1 : ((port_Take.f kj8 t113 t116).bind fun bt119 => (if bt119.2.2.2 = 0 then (some (t111, t112, t113, bt119.1, bt119.2.1, 0)) else (some ((⟨#[]⟩ : ByteArray), (⟨#[]⟩ : ByteArray), 0, 0, 0, bt119.2.2.2)))) = some (r1, r2, r3, r4, r5, r6) := by rw [if_neg (show ¬ (false = true) by decide)] at H; exact H
       clear H
       have H := H1
       clear H1
       replace H := Option.bind_eq_some_iff.mp H
       obtain ⟨⟨t119, t120, t121, t122⟩, A340, H⟩ := H
       replace H : (if t122 = 0 then (some (t111, t112, t113, t119, t120, 0)) else (some ((⟨#[]⟩ : ByteArray), (⟨#[]⟩ : ByteArray), 0, 0, 0, t122))) = some (r1, r2, r3, r4, r5, r6) := H
       have A34 := Aside0.mk A340
       clear A340
       by_cases c35 : t122 = 0
       ·rw [if_pos c35] at H
        have c35b0 : (t122 == 0) = true := beq_iff_eq.mpr c35
        have c35b1 : (t122 != 0) = false := bne_eq_false_iff_eq.mpr c35
        clear c35
        simp only [Option.some.injEq, Prod.mk.injEq] at H
        obtain ⟨rfl, rfl, rfl, rfl, rfl, rfl⟩ := H
        have hnb36 := NB118_101.out
        have hnc36 := NB101_118.out
        have hnb37 := NB118_110.out
        have hnc37 := NB110_118.out
        have hcz38_0 : wc.cell? ⟨gb118, 0, none⟩ = some (.string t111) := (blk_cell BK118.out 0).trans rfl
        have hcz38_1 : wc.cell? ⟨gb118, 1, none⟩ = some (.string t112) := (blk_cell BK118.out 1).trans rfl
        have hcz38_2 : wc.cell? ⟨gb118, 2, none⟩ = some (.int .i64 t113) := (blk_cell BK118.out 2).trans rfl
        have hcz38_3 : wc.cell? ⟨gb118, 3, none⟩ = some (.int .i64 t114) := (blk_cell BK118.out 3).trans rfl
        have hcz38_4 : wc.cell? ⟨gb118, 4, none⟩ = some (.int .i64 t115) := (blk_cell BK118.out 4).trans rfl
        have hfz38_0 := blk_frozen BK118.out 0; have hfz38_1 := blk_frozen BK118.out 1; have hfz38_2 := blk_frozen BK118.out 2; have hfz38_3 := blk_frozen BK118.out 3; have hfz38_4 := blk_frozen BK118.out 4
        go_wp2_with (first | ((with_reducible refine gate_callee (f := 27) rfl ?_); refine gL_ (some 48) rfl rfl Try.func27 (by kernel_rfl) rfl #[.int .i64 t113, .string t116] rfl ?_; (with_reducible refine (port_Take.calls kj8 t113 t116 t119 t120 t121 t122 _ A34.out).mono ?_); rintro e w39 ⟨rfl, hb⟩; refine ⟨_, rfl, ?_⟩; have n0_ := Aside0.mk (rB_ HO_111002.out hb); have n1_ := Aside0.mk (bB_ BK101.out hb); have n2_ := Aside0.mk (bB_ BK110.out hb); have n3_ := Aside0.mk (bB_ BK118.out hb); have n4_ := Aside0.mk (below_step (bU_ HB.out) hb); clear HO_111002 BK101 BK110 BK118 HB; have HO_111002 := n0_; have BK101 := n1_; have BK110 := n2_; have BK118 := n3_; have HB := n4_; clear n0_ n1_ n2_ n3_ n4_; (try clear hb); (try clear hb2); (try clear hk); (try clear hi); have hcz40_0 : w39.cell? ⟨gb118, 0, none⟩ = some (.string t111) := (blk_cell BK118.out 0).trans rfl; have hcz40_1 : w39.cell? ⟨gb118, 1, none⟩ = some (.string t112) := (blk_cell BK118.out 1).trans rfl; have hcz40_2 : w39.cell? ⟨gb118, 2, none⟩ = some (.int .i64 t113) := (blk_cell BK118.out 2).trans rfl; have hcz40_3 : w39.cell? ⟨gb118, 3, none⟩ = some (.int .i64 t114) := (blk_cell BK118.out 3).trans rfl; have hcz40_4 : w39.cell? ⟨gb118, 4, none⟩ = some (.int .i64 t115) := (blk_cell BK118.out 4).trans rfl; have hfz40_0 := blk_frozen BK118.out 0; have hfz40_1 := blk_frozen BK118.out 1; have hfz40_2 := blk_frozen BK118.out 2; have hfz40_3 := blk_frozen BK118.out 3; have hfz40_4 := blk_frozen BK118.out 4; have hnb41 := NB101_110.out; have hnc41 := NB110_101.out; have hcz42_0 : w39.cell? ⟨gb101, 0, none⟩ = some (.string ⟨#[]⟩) := (blk_cell BK101.out 0).trans rfl; have hcz42_1 : w39.cell? ⟨gb101, 1, none⟩ = some (.string ⟨#[]⟩) := (blk_cell BK101.out 1).trans rfl; have hcz42_2 : w39.cell? ⟨gb101, 2, none⟩ = some (.int .i64 0) := (blk_cell BK101.out 2).trans rfl; have hcz42_3 : w39.cell? ⟨gb101, 3, none⟩ = some (.int .i64 0) := (blk_cell BK101.out 3).trans rfl; have hcz42_4 : w39.cell? ⟨gb101, 4, none⟩ = some (.int .i64 0) := (blk_cell BK101.out 4).trans rfl; have hfz42_0 := blk_frozen BK101.out 0; have hfz42_1 := blk_frozen BK101.out 1; have hfz42_2 := blk_frozen BK101.out 2; have hfz42_3 := blk_frozen BK101.out 3; have hfz42_4 := blk_frozen BK101.out 4))
        refine bodyPost_ret (results_ct rfl _ _ gb101 23 #[.string t111, .string t112, .int .i64 t113, .int .i64 t119, .int .i64 t120] (0, 0) _ rfl (by (with_reducible repeat first | apply pN_ | apply pD_ | apply pA_); refine blk_put (cs := #[.string t111, .string t112, .int .i64 t113, .int .i64 t119, .int .i64 0]) ?_ 4 _ rfl; (with_reducible repeat first | apply pN_ | apply pD_ | apply pA_); refine blk_put (cs := #[.string t111, .string t112, .int .i64 t113, .int .i64 0, .int .i64 0]) ?_ 3 _ rfl; (with_reducible repeat first | apply pN_ | apply pD_ | apply pA_); refine blk_put (cs := #[.string t111, .string t112, .int .i64 0, .int .i64 0, .int .i64 0]) ?_ 2 _ rfl; (with_reducible repeat first | apply pN_ | apply pD_ | apply pA_); refine blk_put (cs := #[.string t111, .string ⟨#[]⟩, .int .i64 0, .int .i64 0, .int .i64 0]) ?_ 1 _ rfl; (with_reducible repeat first | apply pN_ | apply pD_ | apply pA_); refine blk_put (cs := Z17_0) ?_ 0 _ rfl; (iterate 2 ((with_reducible repeat first | apply pN_ | apply pD_ | apply pA_); refine blk_far ?_ NB101_118.out _)); (with_reducible repeat first | apply pN_ | apply pD_ | apply pA_); exact BK101.out) Try.underlying23 rfl (by kernel_rfl)) rfl ?_
        exact rE_ (bU_ HB.out)
       ·rw [if_neg c35] at H
        have c35b0 : (t122 == 0) = false := beq_eq_false_iff_ne.mpr c35
        have c35b1 : (t122 != 0) = true := bne_iff_ne.mpr c35
        simp only [Option.some.injEq, Prod.mk.injEq] at H
        obtain ⟨rfl, rfl, rfl, rfl, rfl, rfl⟩ := H
        have hnb43 := NB118_101.out
        have hnc43 := NB101_118.out
        have hnb44 := NB118_110.out
        have hnc44 := NB110_118.out
        have hcz45_0 : wc.cell? ⟨gb118, 0, none⟩ = some (.string t111) := (blk_cell BK118.out 0).trans rfl
        have hcz45_1 : wc.cell? ⟨gb118, 1, none⟩ = some (.string t112) := (blk_cell BK118.out 1).trans rfl
        have hcz45_2 : wc.cell? ⟨gb118, 2, none⟩ = some (.int .i64 t113) := (blk_cell BK118.out 2).trans rfl
        have hcz45_3 : wc.cell? ⟨gb118, 3, none⟩ = some (.int .i64 t114) := (blk_cell BK118.out 3).trans rfl
        have hcz45_4 : wc.cell? ⟨gb118, 4, none⟩ = some (.int .i64 t115) := (blk_cell BK118.out 4).trans rfl
        have hfz45_0 := blk_frozen BK118.out 0; have hfz45_1 := blk_frozen BK118.out 1; have hfz45_2 := blk_frozen BK118.out 2; have hfz45_3 := blk_frozen BK118.out 3; have hfz45_4 := blk_frozen BK118.out 4
        go_wp2_with (first | ((with_reducible refine gate_callee (f := 27) rfl ?_); refine gL_ (some 48) rfl rfl Try.func27 (by kernel_rfl) rfl #[.int .i64 t113, .string t116] rfl ?_; (with_reducible refine (port_Take.calls kj8 t113 t116 t119 t120 t121 t122 _ A34.out).mono ?_); rintro e w46 ⟨rfl, hb⟩; refine ⟨_, rfl, ?_⟩; have n0_ := Aside0.mk (rB_ HO_111002.out hb); have n1_ := Aside0.mk (bB_ BK101.out hb); have n2_ := Aside0.mk (bB_ BK110.out hb); have n3_ := Aside0.mk (bB_ BK118.out hb); have n4_ := Aside0.mk (below_step (bU_ HB.out) hb); clear HO_111002 BK101 BK110 BK118 HB; have HO_111002 := n0_; have BK101 := n1_; have BK110 := n2_; have BK118 := n3_; have HB := n4_; clear n0_ n1_ n2_ n3_ n4_; (try clear hb); (try clear hb2); (try clear hk); (try clear hi); have hcz47_0 : w46.cell? ⟨gb118, 0, none⟩ = some (.string t111) := (blk_cell BK118.out 0).trans rfl; have hcz47_1 : w46.cell? ⟨gb118, 1, none⟩ = some (.string t112) := (blk_cell BK118.out 1).trans rfl; have hcz47_2 : w46.cell? ⟨gb118, 2, none⟩ = some (.int .i64 t113) := (blk_cell BK118.out 2).trans rfl; have hcz47_3 : w46.cell? ⟨gb118, 3, none⟩ = some (.int .i64 t114) := (blk_cell BK118.out 3).trans rfl; have hcz47_4 : w46.cell? ⟨gb118, 4, none⟩ = some (.int .i64 t115) := (blk_cell BK118.out 4).trans rfl; have hfz47_0 := blk_frozen BK118.out 0; have hfz47_1 := blk_frozen BK118.out 1; have hfz47_2 := blk_frozen BK118.out 2; have hfz47_3 := blk_frozen BK118.out 3; have hfz47_4 := blk_frozen BK118.out 4; have hnb48 := NB101_110.out; have hnc48 := NB110_101.out; have hcz49_0 : w46.cell? ⟨gb101, 0, none⟩ = some (.string ⟨#[]⟩) := (blk_cell BK101.out 0).trans rfl; have hcz49_1 : w46.cell? ⟨gb101, 1, none⟩ = some (.string ⟨#[]⟩) := (blk_cell BK101.out 1).trans rfl; have hcz49_2 : w46.cell? ⟨gb101, 2, none⟩ = some (.int .i64 0) := (blk_cell BK101.out 2).trans rfl; have hcz49_3 : w46.cell? ⟨gb101, 3, none⟩ = some (.int .i64 0) := (blk_cell BK101.out 3).trans rfl; have hcz49_4 : w46.cell? ⟨gb101, 4, none⟩ = some (.int .i64 0) := (blk_cell BK101.out 4).trans rfl; have hfz49_0 := blk_frozen BK101.out 0; have hfz49_1 := blk_frozen BK101.out 1; have hfz49_2 := blk_frozen BK101.out 2; have hfz49_3 := blk_frozen BK101.out 3; have hfz49_4 := blk_frozen BK101.out 4))
        refine bodyPost_ret (results_ct rfl _ _ gb101 23 #[.string ⟨#[]⟩, .string ⟨#[]⟩, .int .i64 0, .int .i64 0, .int .i64 0] (0, 0) _ rfl (by (with_reducible repeat first | apply pN_ | apply pD_ | apply pA_); refine blk_put (cs := Z17_0) ?_ 4 _ rfl; (with_reducible repeat first | apply pN_ | apply pD_ | apply pA_); refine blk_put (cs := Z17_0) ?_ 3 _ rfl; (with_reducible repeat first | apply pN_ | apply pD_ | apply pA_); refine blk_put (cs := Z17_0) ?_ 2 _ rfl; (with_reducible repeat first | apply pN_ | apply pD_ | apply pA_); refine blk_put (cs := Z17_0) ?_ 1 _ rfl; (with_reducible repeat first | apply pN_ | apply pD_ | apply pA_); refine blk_put (cs := Z17_0) ?_ 0 _ rfl; (iterate 2 ((with_reducible repeat first | apply pN_ | apply pD_ | apply pA_); refine blk_far ?_ NB101_118.out _)); (with_reducible repeat first | apply pN_ | apply pD_ | apply pA_); exact BK101.out) Try.underlying23 rfl (by kernel_rfl)) rfl ?_
        exact rE_ (bU_ HB.out)
   ·rw [if_neg c8] at H
    have c8b0 : (t117 == 0) = false := beq_eq_false_iff_ne.mpr c8
    have c8b1 : (t117 != 0) = true := bne_iff_ne.mpr c8
    simp only [Option.some.injEq, Prod.mk.injEq] at H
    obtain ⟨rfl, rfl, rfl, rfl, rfl, rfl⟩ := H
    go_enter Try.func18, Try.ntmps18
    go_wp2_with (first | ((with_reducible refine gate_dst (N := 2) rfl ?_); refine bE_ (N := 2) (cs := Z17_0) (t := 23) ?_; intro gb101 hg w50 hbox hb; have n0_ := Aside0.mk (below_step (bU_ HB.out) hb); have n1_ := Aside0.mk (hbox); have n2_ := Aside0.mk (bZ_ hg (bU_ HB.out) : w.heap.size ≤ gb101); have n3_ := n2_; clear HB; have HB := n0_; have BK101 := n1_; have GW101 := n2_; have GE101 := n3_; clear n0_ n1_ n2_ n3_; clear hb hbox hg) | ((with_reducible refine gate_callee (f := 20) rfl ?_); refine gL_ (some 15) rfl rfl Try.func20 (by kernel_rfl) rfl #[.string a0] rfl ?_; (with_reducible refine (ether_Take.calls k a0 t102 t103 t104 t107 t108 t109 _ A5.out).mono ?_); rintro e w51 ⟨v105, rfl, ho0, hb⟩; refine ⟨_, rfl, ?_⟩; have n0_ := Aside0.mk (Kd.R_lower ho0 (below_size (bU_ HB.out))); have n1_ := Aside0.mk (bB_ BK101.out hb); have n2_ := Aside0.mk (below_step (bU_ HB.out) hb); clear BK101 HB; have HO106 := n0_; have BK101 := n1_; have HB := n2_; clear n0_ n1_ n2_; (try clear hb); (try clear hb2); (try clear hk); (try clear hi); (try clear ho0)) | ((with_reducible refine gate_dst (N := 4) rfl ?_); refine bE_ (N := 4) (cs := Z17_1) (t := 41) ?_; intro gb110 hg w52 hbox hb; have n0_ := Aside0.mk (rB_ HO106.out hb); have n1_ := Aside0.mk (bB_ BK101.out hb); have n2_ := Aside0.mk (below_step (bU_ HB.out) hb); have n3_ := Aside0.mk (hbox); have n4_ := Aside0.mk (bZ_ hg (bU_ HB.out) : w.heap.size ≤ gb110); have n5_ := n4_; have n6_ := Aside0.mk ((bN_ hg BK101.out : gb101 ≠ gb110)); have n7_ := Aside0.mk (Ne.symm n6_.out); clear HO106 BK101 HB; have HO106 := n0_; have BK101 := n1_; have HB := n2_; have BK110 := n3_; have GW110 := n4_; have GE110 := n5_; have NB101_110 := n6_; have NB110_101 := n7_; clear n0_ n1_ n2_ n3_ n4_ n5_ n6_ n7_; clear hb hbox hg; have hnb53 := NB110_101.out; have hnc53 := NB101_110.out; have hcz54_0 : w52.cell? ⟨gb110, 0, none⟩ = some (.string ⟨#[]⟩) := (blk_cell BK110.out 0).trans rfl; have hcz54_1 : w52.cell? ⟨gb110, 1, none⟩ = some (.string ⟨#[]⟩) := (blk_cell BK110.out 1).trans rfl; have hcz54_2 : w52.cell? ⟨gb110, 2, none⟩ = some (.slice none 0 0) := (blk_cell BK110.out 2).trans rfl; have hcz54_3 : w52.cell? ⟨gb110, 3, none⟩ = some (.int .i64 0) := (blk_cell BK110.out 3).trans rfl; have hfz54_0 := blk_frozen BK110.out 0; have hfz54_1 := blk_frozen BK110.out 1; have hfz54_2 := blk_frozen BK110.out 2; have hfz54_3 := blk_frozen BK110.out 3; obtain ⟨Ao55, co55, eo55⟩ := Kd.R_slice HO106.out; subst eo55) | ((with_reducible refine gate_callee (f := 26) rfl ?_); refine gL_ (some 27) rfl rfl Try.func26 (by kernel_rfl) rfl #[.int .i64 t107, .string t108] rfl ?_; (with_reducible refine (flow_network.calls k t107 t108 t111 t112 t113 t114 t115 t116 t117 _ A7.out).mono ?_); rintro e w56 ⟨rfl, hb⟩; refine ⟨_, rfl, ?_⟩; have n0_ := Aside0.mk (Kd.R_below (by (with_reducible repeat first | apply Kd.R_alloc | apply Kd.R_drewN | apply Kd.R_drew); exact (Kd.R_mono (Kd.R_far (p := ⟨gb110, 3, none⟩) (Kd.R_far (p := ⟨gb110, 2, none⟩) (Kd.R_far (p := ⟨gb110, 1, none⟩) (Kd.R_far (p := ⟨gb110, 0, none⟩) (Kd.R_types HO106.out BK110.out (by decide)) (fun _ hk => hk.2) (.string t102)) (fun _ hk => hk.2) (.string t103)) (fun _ hk => hk.2) (.slice Ao55 t104.length co55)) (fun _ hk => hk.2) (.int .i64 t107)) (fun _ h_ => h_.1))) hb); have n1_ := Aside0.mk (blk_below (g := gb101) (o := .cells Z17_0 23 (0, 0)) (by (iterate 4 ((with_reducible repeat first | apply pN_ | apply pD_ | apply pA_); refine blk_far ?_ NB101_110.out _)); (with_reducible repeat first | apply pN_ | apply pD_ | apply pA_); exact BK101.out) hb); have n2_ := Aside0.mk (blk_below (g := gb110) (o := .cells #[.string t102, .string t103, .slice Ao55 t104.length co55, .int .i64 t107] 41 (0, 0)) (by (with_reducible repeat first | apply pN_ | apply pD_ | apply pA_); refine blk_put (cs := #[.string t102, .string t103, .slice Ao55 t104.length co55, .int .i64 0]) ?_ 3 _ rfl; (with_reducible repeat first | apply pN_ | apply pD_ | apply pA_); refine blk_put (cs := #[.string t102, .string t103, .slice none 0 0, .int .i64 0]) ?_ 2 _ rfl; (with_reducible repeat first | apply pN_ | apply pD_ | apply pA_); refine blk_put (cs := #[.string t102, .string ⟨#[]⟩, .slice none 0 0, .int .i64 0]) ?_ 1 _ rfl; (with_reducible repeat first | apply pN_ | apply pD_ | apply pA_); refine blk_put (cs := Z17_1) ?_ 0 _ rfl; (with_reducible repeat first | apply pN_ | apply pD_ | apply pA_); exact BK110.out) hb); have n3_ := Aside0.mk (below_step (bU_ HB.out) hb); clear HO106 BK101 BK110 HB; have HO106 := n0_; have BK101 := n1_; have BK110 := n2_; have HB := n3_; clear n0_ n1_ n2_ n3_; (try clear hb); (try clear hb2); (try clear hk); (try clear hi)) | ((with_reducible refine gate_dst (N := 7) rfl ?_); refine bE_ (N := 7) (cs := Z17_0) (t := 23) ?_; intro gb118 hg w57 hbox hb; have n0_ := Aside0.mk (rB_ HO106.out hb); have n1_ := Aside0.mk (bB_ BK101.out hb); have n2_ := Aside0.mk (bB_ BK110.out hb); have n3_ := Aside0.mk (below_step (bU_ HB.out) hb); have n4_ := Aside0.mk (hbox); have n5_ := Aside0.mk (bZ_ hg (bU_ HB.out) : w.heap.size ≤ gb118); have n6_ := n5_; have n7_ := Aside0.mk ((bN_ hg BK101.out : gb101 ≠ gb118)); have n8_ := Aside0.mk (Ne.symm n7_.out); have n9_ := Aside0.mk ((bN_ hg BK110.out : gb110 ≠ gb118)); have n10_ := Aside0.mk (Ne.symm n9_.out); clear HO106 BK101 BK110 HB; have HO106 := n0_; have BK101 := n1_; have BK110 := n2_; have HB := n3_; have BK118 := n4_; have GW118 := n5_; have GE118 := n6_; have NB101_118 := n7_; have NB118_101 := n8_; have NB110_118 := n9_; have NB118_110 := n10_; clear n0_ n1_ n2_ n3_ n4_ n5_ n6_ n7_ n8_ n9_ n10_; clear hb hbox hg; have hnb58 := NB118_101.out; have hnc58 := NB101_118.out; have hnb59 := NB118_110.out; have hnc59 := NB110_118.out; have hcz60_0 : w57.cell? ⟨gb118, 0, none⟩ = some (.string ⟨#[]⟩) := (blk_cell BK118.out 0).trans rfl; have hcz60_1 : w57.cell? ⟨gb118, 1, none⟩ = some (.string ⟨#[]⟩) := (blk_cell BK118.out 1).trans rfl; have hcz60_2 : w57.cell? ⟨gb118, 2, none⟩ = some (.int .i64 0) := (blk_cell BK118.out 2).trans rfl; have hcz60_3 : w57.cell? ⟨gb118, 3, none⟩ = some (.int .i64 0) := (blk_cell BK118.out 3).trans rfl; have hcz60_4 : w57.cell? ⟨gb118, 4, none⟩ = some (.int .i64 0) := (blk_cell BK118.out 4).trans rfl; have hfz60_0 := blk_frozen BK118.out 0; have hfz60_1 := blk_frozen BK118.out 1; have hfz60_2 := blk_frozen BK118.out 2; have hfz60_3 := blk_frozen BK118.out 3; have hfz60_4 := blk_frozen BK118.out 4; have hcz61_0 : w57.cell? ⟨gb101, 0, none⟩ = some (.string ⟨#[]⟩) := (blk_cell BK101.out 0).trans rfl; have hcz61_1 : w57.cell? ⟨gb101, 1, none⟩ = some (.string ⟨#[]⟩) := (blk_cell BK101.out 1).trans rfl; have hcz61_2 : w57.cell? ⟨gb101, 2, none⟩ = some (.int .i64 0) := (blk_cell BK101.out 2).trans rfl; have hcz61_3 : w57.cell? ⟨gb101, 3, none⟩ = some (.int .i64 0) := (blk_cell BK101.out 3).trans rfl; have hcz61_4 : w57.cell? ⟨gb101, 4, none⟩ = some (.int .i64 0) := (blk_cell BK101.out 4).trans rfl; have hfz61_0 := blk_frozen BK101.out 0; have hfz61_1 := blk_frozen BK101.out 1; have hfz61_2 := blk_frozen BK101.out 2; have hfz61_3 := blk_frozen BK101.out 3; have hfz61_4 := blk_frozen BK101.out 4))
    refine bodyPost_ret (results_ct rfl _ _ gb101 23 #[.string ⟨#[]⟩, .string ⟨#[]⟩, .int .i64 0, .int .i64 0, .int .i64 0] (0, 0) _ rfl (by (with_reducible repeat first | apply pN_ | apply pD_ | apply pA_); refine blk_put (cs := Z17_0) ?_ 4 _ rfl; (with_reducible repeat first | apply pN_ | apply pD_ | apply pA_); refine blk_put (cs := Z17_0) ?_ 3 _ rfl; (with_reducible repeat first | apply pN_ | apply pD_ | apply pA_); refine blk_put (cs := Z17_0) ?_ 2 _ rfl; (with_reducible repeat first | apply pN_ | apply pD_ | apply pA_); refine blk_put (cs := Z17_0) ?_ 1 _ rfl; (with_reducible repeat first | apply pN_ | apply pD_ | apply pA_); refine blk_put (cs := Z17_0) ?_ 0 _ rfl; (iterate 5 ((with_reducible repeat first | apply pN_ | apply pD_ | apply pA_); refine blk_far ?_ NB101_118.out _)); (with_reducible repeat first | apply pN_ | apply pD_ | apply pA_); exact BK101.out) Try.underlying23 rfl (by kernel_rfl)) rfl ?_
    exact rE_ (bU_ HB.out)
  ·rw [if_neg c6] at H
   have c6b0 : (t109 == 0) = false := beq_eq_false_iff_ne.mpr c6
   have c6b1 : (t109 != 0) = true := bne_iff_ne.mpr c6
   simp only [Option.some.injEq, Prod.mk.injEq] at H
   obtain ⟨rfl, rfl, rfl, rfl, rfl, rfl⟩ := H
   go_enter Try.func18, Try.ntmps18
   go_wp2_with (first | ((with_reducible refine gate_dst (N := 2) rfl ?_); refine bE_ (N := 2) (cs := Z17_0) (t := 23) ?_; intro gb101 hg w62 hbox hb; have n0_ := Aside0.mk (below_step (bU_ HB.out) hb); have n1_ := Aside0.mk (hbox); have n2_ := Aside0.mk (bZ_ hg (bU_ HB.out) : w.heap.size ≤ gb101); have n3_ := n2_; clear HB; have HB := n0_; have BK101 := n1_; have GW101 := n2_; have GE101 := n3_; clear n0_ n1_ n2_ n3_; clear hb hbox hg) | ((with_reducible refine gate_callee (f := 20) rfl ?_); refine gL_ (some 15) rfl rfl Try.func20 (by kernel_rfl) rfl #[.string a0] rfl ?_; (with_reducible refine (ether_Take.calls k a0 t102 t103 t104 t107 t108 t109 _ A5.out).mono ?_); rintro e w63 ⟨v105, rfl, ho0, hb⟩; refine ⟨_, rfl, ?_⟩; have n0_ := Aside0.mk (Kd.R_lower ho0 (below_size (bU_ HB.out))); have n1_ := Aside0.mk (bB_ BK101.out hb); have n2_ := Aside0.mk (below_step (bU_ HB.out) hb); clear BK101 HB; have HO106 := n0_; have BK101 := n1_; have HB := n2_; clear n0_ n1_ n2_; (try clear hb); (try clear hb2); (try clear hk); (try clear hi); (try clear ho0)) | ((with_reducible refine gate_dst (N := 4) rfl ?_); refine bE_ (N := 4) (cs := Z17_1) (t := 41) ?_; intro gb110 hg w64 hbox hb; have n0_ := Aside0.mk (rB_ HO106.out hb); have n1_ := Aside0.mk (bB_ BK101.out hb); have n2_ := Aside0.mk (below_step (bU_ HB.out) hb); have n3_ := Aside0.mk (hbox); have n4_ := Aside0.mk (bZ_ hg (bU_ HB.out) : w.heap.size ≤ gb110); have n5_ := n4_; have n6_ := Aside0.mk ((bN_ hg BK101.out : gb101 ≠ gb110)); have n7_ := Aside0.mk (Ne.symm n6_.out); clear HO106 BK101 HB; have HO106 := n0_; have BK101 := n1_; have HB := n2_; have BK110 := n3_; have GW110 := n4_; have GE110 := n5_; have NB101_110 := n6_; have NB110_101 := n7_; clear n0_ n1_ n2_ n3_ n4_ n5_ n6_ n7_; clear hb hbox hg; have hnb65 := NB110_101.out; have hnc65 := NB101_110.out; have hcz66_0 : w64.cell? ⟨gb110, 0, none⟩ = some (.string ⟨#[]⟩) := (blk_cell BK110.out 0).trans rfl; have hcz66_1 : w64.cell? ⟨gb110, 1, none⟩ = some (.string ⟨#[]⟩) := (blk_cell BK110.out 1).trans rfl; have hcz66_2 : w64.cell? ⟨gb110, 2, none⟩ = some (.slice none 0 0) := (blk_cell BK110.out 2).trans rfl; have hcz66_3 : w64.cell? ⟨gb110, 3, none⟩ = some (.int .i64 0) := (blk_cell BK110.out 3).trans rfl; have hfz66_0 := blk_frozen BK110.out 0; have hfz66_1 := blk_frozen BK110.out 1; have hfz66_2 := blk_frozen BK110.out 2; have hfz66_3 := blk_frozen BK110.out 3; obtain ⟨Ao67, co67, eo67⟩ := Kd.R_slice HO106.out; subst eo67; have hcz68_0 : w64.cell? ⟨gb101, 0, none⟩ = some (.string ⟨#[]⟩) := (blk_cell BK101.out 0).trans rfl; have hcz68_1 : w64.cell? ⟨gb101, 1, none⟩ = some (.string ⟨#[]⟩) := (blk_cell BK101.out 1).trans rfl; have hcz68_2 : w64.cell? ⟨gb101, 2, none⟩ = some (.int .i64 0) := (blk_cell BK101.out 2).trans rfl; have hcz68_3 : w64.cell? ⟨gb101, 3, none⟩ = some (.int .i64 0) := (blk_cell BK101.out 3).trans rfl; have hcz68_4 : w64.cell? ⟨gb101, 4, none⟩ = some (.int .i64 0) := (blk_cell BK101.out 4).trans rfl; have hfz68_0 := blk_frozen BK101.out 0; have hfz68_1 := blk_frozen BK101.out 1; have hfz68_2 := blk_frozen BK101.out 2; have hfz68_3 := blk_frozen BK101.out 3; have hfz68_4 := blk_frozen BK101.out 4))
   refine bodyPost_ret (results_ct rfl _ _ gb101 23 #[.string ⟨#[]⟩, .string ⟨#[]⟩, .int .i64 0, .int .i64 0, .int .i64 0] (0, 0) _ rfl (by (with_reducible repeat first | apply pN_ | apply pD_ | apply pA_); refine blk_put (cs := Z17_0) ?_ 4 _ rfl; (with_reducible repeat first | apply pN_ | apply pD_ | apply pA_); refine blk_put (cs := Z17_0) ?_ 3 _ rfl; (with_reducible repeat first | apply pN_ | apply pD_ | apply pA_); refine blk_put (cs := Z17_0) ?_ 2 _ rfl; (with_reducible repeat first | apply pN_ | apply pD_ | apply pA_); refine blk_put (cs := Z17_0) ?_ 1 _ rfl; (with_reducible repeat first | apply pN_ | apply pD_ | apply pA_); refine blk_put (cs := Z17_0) ?_ 0 _ rfl; (iterate 4 ((with_reducible repeat first | apply pN_ | apply pD_ | apply pA_); refine blk_far ?_ NB101_110.out _)); (with_reducible repeat first | apply pN_ | apply pD_ | apply pA_); exact BK101.out) Try.underlying23 rfl (by kernel_rfl)) rfl ?_
   exact rE_ (bU_ HB.out)
end Go.Proofs.Ytfdhifigndmgaaa.Q
