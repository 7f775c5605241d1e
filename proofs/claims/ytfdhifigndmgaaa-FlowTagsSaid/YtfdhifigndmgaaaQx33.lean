-- made by a program of this session (wip/print-patch.py, over the kit's print)
import Derived.Test.YtfdhifigndmgaaaQx0
import Derived.Test.YtfdhifigndmgaaaQx1
import Derived.Test.YtfdhifigndmgaaaQx8
import Derived.Test.YtfdhifigndmgaaaQx12
import Derived.Test.YtfdhifigndmgaaaQx22
namespace Go.Proofs.Ytfdhifigndmgaaa.Q
open Go.RowKit Go.Proofs.YtfdhifigndmgaaaW.PrintWords Go.Proofs.YtfdhifigndmgaaaW.PrintLast Go.Proofs.YtfdhifigndmgaaaW.PrintMore
attribute [local go_sem] max2_int min2_int max_two min_two max_three min_three max_four min_four   -- for this text's walks alone
set_option linter.unusedVariables false
set_option linter.unusedSimpArgs false

attribute [local go_sem] cell_twice_ cell_twiceN_
attribute [local go_sem high] eqA23
/-! ### rillmeterlaw09_FlowTags: function 6 -/
mutual
def rillmeterlaw09_FlowTags.j0 : Nat → ByteArray → Int → ByteArray → Bool → Option (Bool)
 | 0, _, _, _, _ => none
 | k + 1, x0, x1, x2, x27 => if x27 = true then ((rillmeterlaw09_awake.f k).bind fun t101 => (some t101)) else ((flow_Extract.f k x0).bind fun bt102 => ((ether_Take.f k x0).bind fun bt109 => (if bt102.2.2.2.2.2 = 0 then (rillmeterlaw09_FlowTags.j1 k x0 x1 x2 (decide ((bt109.2.2.1.length : Int) > 1)) bt102.1 bt102.2.1 bt102.2.2.1 bt102.2.2.2.1 bt102.2.2.2.2.1) else (rillmeterlaw09_FlowTags.j1 k x0 x1 x2 true bt102.1 bt102.2.1 bt102.2.2.1 bt102.2.2.2.1 bt102.2.2.2.2.1))))
def rillmeterlaw09_FlowTags.j1 : Nat → ByteArray → Int → ByteArray → Bool → ByteArray → ByteArray → Int → Int → Int → Option (Bool)
 | 0, _, _, _, _, _, _, _, _, _ => none
 | k + 1, x0, x1, x2, x47, x109000, x109001, x109002, x109003, x109004 => if x47 = true then ((rillmeterlaw09_awake.f k).bind fun t118 => (some t118)) else ((some (([129, 0, (x1 / 256) % 256, (x1) % 256] : List Int) : List Int)).bind fun y119 => (if 0 ≤ 12 then (if 12 ≤ (x0.size : Int) then (if (x0.extract 0 12).size + (strOfNums y119).size ≤ 9223372036854775807 then (if ((x0.extract 0 12) ++ (strOfNums y119)).size + (x0.extract 12 x0.size).size ≤ 9223372036854775807 then (if (((x0.extract 0 12) ++ (strOfNums y119)) ++ (x0.extract 12 x0.size)).size + x2.size ≤ 9223372036854775807 then ((flow_Extract.f k ((((x0.extract 0 12) ++ (strOfNums y119)) ++ (x0.extract 12 x0.size)) ++ x2)).bind fun bt122 => (if (bt122.1.toList == x109000.toList && (bt122.2.1.toList == x109001.toList && (bt122.2.2.1 == x109002 && (bt122.2.2.2.1 == x109003 && (bt122.2.2.2.2.1 == x109004))))) = true then (if bt122.2.2.2.2.2 = 0 then ((rillmeterlaw09_awake.f k).bind fun t129 => (some t129)) else (some false)) else (some false))) else (none)) else (none)) else (none)) else (none)) else (none)))
end
def rillmeterlaw09_FlowTags.f (k : Nat) (a0 : ByteArray) (a1 : Int) (a2 : ByteArray) : Option (Bool) := if (a0.size : Int) > 1024 then (rillmeterlaw09_FlowTags.j0 k a0 a1 a2 true) else (if (a2.size : Int) > 100 then (rillmeterlaw09_FlowTags.j0 k a0 a1 a2 true) else (rillmeterlaw09_FlowTags.j0 k a0 a1 a2 (decide ((a0.size : Int) < 14))))
theorem rillmeterlaw09_FlowTags.mono_l : ∀ k, (∀ y0 y1 y2 y3, LeO (rillmeterlaw09_FlowTags.j0 k y0 y1 y2 y3) (rillmeterlaw09_FlowTags.j0 (k + 1) y0 y1 y2 y3)) ∧ (∀ y0 y1 y2 y3 y4 y5 y6 y7 y8, LeO (rillmeterlaw09_FlowTags.j1 k y0 y1 y2 y3 y4 y5 y6 y7 y8) (rillmeterlaw09_FlowTags.j1 (k + 1) y0 y1 y2 y3 y4 y5 y6 y7 y8))
 | 0 => ⟨fun _ _ _ _ r h => by simp [rillmeterlaw09_FlowTags.j0] at h, fun _ _ _ _ _ _ _ _ _ r h => by simp [rillmeterlaw09_FlowTags.j1] at h⟩
 | k + 1 => by
  obtain ⟨ih0, ih1⟩ := rillmeterlaw09_FlowTags.mono_l k
  refine ⟨?_, ?_⟩
  ·intro y0 y1 y2 y3
   unfold rillmeterlaw09_FlowTags.j0
   repeat' first
   | (with_reducible exact ih0 _ _ _ _)
   | (with_reducible exact ih1 _ _ _ _ _ _ _ _ _)
   | (with_reducible exact ether_Take.mono _ _)
   | (with_reducible exact flow_Extract.mono _ _)
   | (with_reducible exact rillmeterlaw09_awake.mono _)
   | (with_reducible exact LeO.refl _)
   | (with_reducible exact LeO.none _)
   | (with_reducible refine LeO.ite ?_ ?_)
   | (with_reducible refine LeO.bind ?_ (fun _ => ?_))
   | exact ih0 _ _ _ _
   | exact ih1 _ _ _ _ _ _ _ _ _
   | exact ether_Take.mono _ _
   | exact flow_Extract.mono _ _
   | exact rillmeterlaw09_awake.mono _
   | exact LeO.none _
   | refine LeO.ite ?_ ?_
   | refine LeO.bind ?_ (fun _ => ?_)
  ·intro y0 y1 y2 y3 y4 y5 y6 y7 y8
   unfold rillmeterlaw09_FlowTags.j1
   repeat' first
   | (with_reducible exact ih0 _ _ _ _)
   | (with_reducible exact ih1 _ _ _ _ _ _ _ _ _)
   | (with_reducible exact ether_Take.mono _ _)
   | (with_reducible exact flow_Extract.mono _ _)
   | (with_reducible exact rillmeterlaw09_awake.mono _)
   | (with_reducible exact LeO.refl _)
   | (with_reducible exact LeO.none _)
   | (with_reducible refine LeO.ite ?_ ?_)
   | (with_reducible refine LeO.bind ?_ (fun _ => ?_))
   | exact ih0 _ _ _ _
   | exact ih1 _ _ _ _ _ _ _ _ _
   | exact ether_Take.mono _ _
   | exact flow_Extract.mono _ _
   | exact rillmeterlaw09_awake.mono _
   | exact LeO.none _
   | refine LeO.ite ?_ ?_
   | refine LeO.bind ?_ (fun _ => ?_)
theorem rillmeterlaw09_FlowTags.mono : ∀ a0 a1 a2 k, LeO (rillmeterlaw09_FlowTags.f k a0 a1 a2) (rillmeterlaw09_FlowTags.f (k + 1) a0 a1 a2) := by
 intro a0 a1 a2 k
 obtain ⟨ih0, ih1⟩ := rillmeterlaw09_FlowTags.mono_l k
 unfold rillmeterlaw09_FlowTags.f
 repeat' first
   | (with_reducible exact ih0 _ _ _ _)
   | (with_reducible exact ih1 _ _ _ _ _ _ _ _ _)
   | (with_reducible exact ether_Take.mono _ _)
   | (with_reducible exact flow_Extract.mono _ _)
   | (with_reducible exact rillmeterlaw09_awake.mono _)
   | (with_reducible exact LeO.refl _)
   | (with_reducible exact LeO.none _)
   | (with_reducible refine LeO.ite ?_ ?_)
   | (with_reducible refine LeO.bind ?_ (fun _ => ?_))
   | exact ih0 _ _ _ _
   | exact ih1 _ _ _ _ _ _ _ _ _
   | exact ether_Take.mono _ _
   | exact flow_Extract.mono _ _
   | exact rillmeterlaw09_awake.mono _
   | exact LeO.none _
   | refine LeO.ite ?_ ?_
   | refine LeO.bind ?_ (fun _ => ?_)
def rillmeterlaw09_FlowTags.T8 : Bool × List (List Nat × List Nat) := (true, [([], []), ([0], [0]), ([], []), ([1, 2], [1, 2]), ([], []), ([4], [4]), ([3, 5], [3, 5]), ([], []), ([6, 7], [6, 7]), ([8], [8]), ([9], [9]), ([10], [10]), ([10], [10]), ([], []), ([13, 11, 9, 0, 1, 2, 3, 4, 5, 6, 7, 8, 9, 10, 11, 13], [11, 13]), ([12, 14, 0, 1, 2, 3, 4, 5, 6, 7, 8, 9, 10, 11, 12, 13, 14], [12])])
def rillmeterlaw09_FlowTags.B8 : List Nat := [0, 1, 0, 7, 0, 16, 63, 0, 255, 511, 1023, 2047, 2047, 0, 12287, 32767]
theorem rillmeterlaw09_FlowTags.tab8 : rtab .any (opsOf Try.f6 8) = rillmeterlaw09_FlowTags.T8 := by kernel_rfl
theorem rillmeterlaw09_FlowTags.bits8 : waitsOk rillmeterlaw09_FlowTags.T8.2 rillmeterlaw09_FlowTags.B8 = true := by kernel_rfl
set_option maxHeartbeats 8000000 in
set_option maxRecDepth 100000 in
theorem rillmeterlaw09_FlowTags.calls (k : Nat) (a0 : ByteArray) (a1 : Int) (a2 : ByteArray) (r : Bool) (w : World) (hrt : Aside0 (r = true)) (h : rillmeterlaw09_FlowTags.f k a0 a1 a2 = some r) :
  Calls Try.prog 6 #[.string a0, .int .u16 a1, .string a2] w fun e w' => e = .returned (.bool r) ∧ Below w.heap.size w w' := by
 have hu23 := Try.underlying23
 have hu41 := Try.underlying41
 have HB := Aside0.mk (Below.refl w.heap.size w)
 have H : (if (a0.size : Int) > 1024 then (rillmeterlaw09_FlowTags.j0 k a0 a1 a2 true) else (if (a2.size : Int) > 100 then (rillmeterlaw09_FlowTags.j0 k a0 a1 a2 true) else (rillmeterlaw09_FlowTags.j0 k a0 a1 a2 (decide ((a0.size : Int) < 14))))) = some r := h
 clear h
 have HC4 := Aside0.mk H
 clear H
 go_enter Try.func6, Try.ntmps6
 go_upto_region 1 with (fail)
 go_cut [27] (fun v27 wc => ∃ (kq : Nat) (x27_3 : Bool), v27 = .bool x27_3 ∧ Aside0 (rillmeterlaw09_FlowTags.j0 kq a0 a1 a2 x27_3 = some r) ∧ Aside0 (kq ≤ k) ∧ Aside0 (Below w.heap.size w wc))
 case first =>
  have H := HC4.out
  clear HC4
  by_cases c5 : (a0.size : Int) > 1024
  ·rw [if_pos c5] at H
   have c5b0 : decide (1024 < (a0.size : Int)) = true := decide_eq_true c5
   have c5b1 : decide (1024 < a0.size) = true := decide_eq_true (by omega)
   clear c5
   (first | rw [c5b0] | (simp only [i64_w, i32_w]; rw [c5b0]) | skip)
   have H' := Aside0.mk H
   clear H
   go_wp2
   go_meet
   case rel => exact ⟨_, (true), (by first | rfl | (simp; done) | (simp [*]; done)), H', ⟨by first | omega | exact Nat.le_refl _⟩, ⟨bU_ HB.out⟩⟩
  ·rw [if_neg c5] at H
   have c5b0 : decide (1024 < (a0.size : Int)) = false := decide_eq_false c5
   have c5b1 : decide (1024 < a0.size) = false := decide_eq_false (by omega)
   clear c5
   (first | rw [c5b0] | (simp only [i64_w, i32_w]; rw [c5b0]) | skip)
   by_cases c6 : (a2.size : Int) > 100
   ·rw [if_pos c6] at H
    have c6b0 : decide (100 < (a2.size : Int)) = true := decide_eq_true c6
    have c6b1 : decide (100 < a2.size) = true := decide_eq_true (by omega)
    clear c6
    have H' := Aside0.mk H
    clear H
    go_wp2
    go_meet
    case rel => exact ⟨_, (true), (by first | rfl | (simp; done) | (simp [*]; done)), H', ⟨by first | omega | exact Nat.le_refl _⟩, ⟨bU_ HB.out⟩⟩
   ·rw [if_neg c6] at H
    have c6b0 : decide (100 < (a2.size : Int)) = false := decide_eq_false c6
    have c6b1 : decide (100 < a2.size) = false := decide_eq_false (by omega)
    clear c6
    have H' := Aside0.mk H
    clear H
    go_wp2
    go_meet
    case rel => exact ⟨_, (decide ((a0.size : Int) < 14)), (by first | rfl | (simp; done) | (simp [*]; done)), H', ⟨by first | omega | exact Nat.le_refl _⟩, ⟨bU_ HB.out⟩⟩
 case rest =>
  clear HC4
  try clear p2
  try clear c5
  try clear c5b0
  try clear c5b1
  try clear c6
  try clear c6b0
  try clear c6b1
  obtain ⟨kq, x27_3, rfl, HA, HJ3, HB⟩ := hcut
  cases kq with
  | zero => exact absurd HA.out (by simp [rillmeterlaw09_FlowTags.j0])
  | succ kj3 =>
   have H := HA.out
   clear HA
   simp only [rillmeterlaw09_FlowTags.j0] at H
   by_cases c7 : x27_3 = true
   ·subst c7
    have H1 : ((rillmeterlaw09_awake.f kj3).bind fun t101 => (some t101)) = some r := by rw [if_pos rfl] at H; exact H
    clear H
    have H := H1
    clear H1
    replace H := Option.bind_eq_some_iff.mp H
    obtain ⟨t101, A80, H⟩ := H
    replace H : (some t101) = some r := H
    have A8 := Aside0.mk A80
    clear A80
    obtain rfl := Option.some.inj H
    go_wp2_with (first | ((with_reducible refine gate_callee (f := 12) rfl ?_); refine gL_ (some 28) rfl rfl Try.func12 (by kernel_rfl) rfl #[] rfl ?_; (with_reducible refine (rillmeterlaw09_awake.calls kj3  t101 _ hrt A8.out).mono ?_); rintro e w9 ⟨rfl, hb⟩; refine ⟨_, rfl, ?_⟩; have n0_ := Aside0.mk (below_step (bU_ HB.out) hb); clear HB; have HB := n0_; clear n0_; (try clear hb); (try clear hb2); (try clear hk); (try clear hi)))
    go_ret
    exact ⟨by first | rfl | (simp [errW_none, errW_some] <;> rfl) | (simp [*, errW_none, errW_some] <;> rfl), bU_ HB.out⟩
   ·replace c7 := Bool.eq_false_iff.mpr c7
    subst c7
    have H1 : ((flow_Extract.f kj3 a0).bind fun bt102 => ((ether_Take.f kj3 a0).bind fun bt109 => (if bt102.2.2.2.2.2 = 0 then (rillmeterlaw09_FlowTags.j1 kj3 a0 a1 a2 (decide ((bt109.2.2.1.length : Int) > 1)) bt102.1 bt102.2.1 bt102.2.2.1 bt102.2.2.2.1 bt102.2.2.2.2.1) else (rillmeterlaw09_FlowTags.j1 kj3 a0 a1 a2 true bt102.1 bt102.2.1 bt102.2.2.1 bt102.2.2.2.1 bt102.2.2.2.2.1)))) = some r := by rw [if_neg (show ¬ (false = true) by decide)] at H; exact H
    clear H
    have H := H1
    clear H1
    replace H := Option.bind_eq_some_iff.mp H
    obtain ⟨⟨t102, t103, t104, t105, t106, t107⟩, A100, H⟩ := H
    replace H : ((ether_Take.f kj3 a0).bind fun bt109 => (if t107 = 0 then (rillmeterlaw09_FlowTags.j1 kj3 a0 a1 a2 (decide ((bt109.2.2.1.length : Int) > 1)) t102 t103 t104 t105 t106) else (rillmeterlaw09_FlowTags.j1 kj3 a0 a1 a2 true t102 t103 t104 t105 t106))) = some r := H
    have A10 := Aside0.mk A100
    clear A100
    replace H := Option.bind_eq_some_iff.mp H
    obtain ⟨⟨t109, t110, t111, t114, t115, t116⟩, A110, H⟩ := H
    replace H : (if t107 = 0 then (rillmeterlaw09_FlowTags.j1 kj3 a0 a1 a2 (decide ((t111.length : Int) > 1)) t102 t103 t104 t105 t106) else (rillmeterlaw09_FlowTags.j1 kj3 a0 a1 a2 true t102 t103 t104 t105 t106)) = some r := H
    have A11 := Aside0.mk A110
    clear A110
    have HC12 := Aside0.mk H
    clear H
    go_upto_region 5 with (first | ((with_reducible refine gate_callee (f := 18) rfl ?_); refine gL_ (some 31) rfl rfl Try.func18 (by kernel_rfl) rfl #[.string a0] rfl ?_; (with_reducible refine (flow_Extract.calls kj3 a0 t102 t103 t104 t105 t106 t107 _ A10.out).mono ?_); rintro e w13 ⟨rfl, hb⟩; refine ⟨_, rfl, ?_⟩; have n0_ := Aside0.mk (below_step (bU_ HB.out) hb); clear HB; have HB := n0_; clear n0_; (try clear hb); (try clear hb2); (try clear hk); (try clear hi)) | ((with_reducible refine gate_dst (N := 7) rfl ?_); (try (refine gate_guard (by rfl) ?_; dsimp only)); refine box_event ?hg (N := 7) ?hd (cs := #[.string (⟨#[]⟩ : ByteArray), .string (⟨#[]⟩ : ByteArray), .int .i64 0, .int .i64 0, .int .i64 0]) (t := 23) ?hr ?_; (case hd => rfl); (case hg => rfl); (case hr => first | (go_simp; done) | (go_simp; rfl)); intro gb108 hg w14 hbox hb; have n0_ := Aside0.mk (below_step (bU_ HB.out) hb); have n1_ := Aside0.mk (hbox); have n2_ := Aside0.mk ((by rw [hg]; exact (below_size (bU_ HB.out)) : w.heap.size ≤ gb108)); have n3_ := Aside0.mk ((by rw [hg]; exact (below_size (bU_ HB.out)) : w.heap.size ≤ gb108)); clear HB; have HB := n0_; have BK108 := n1_; have GW108 := n2_; have GE108 := n3_; clear n0_ n1_ n2_ n3_; clear hb hbox hg; have hcz15_0 : w14.cell? ⟨gb108, 0, none⟩ = some (.string (⟨#[]⟩ : ByteArray)) := (blk_cell BK108.out 0).trans rfl; have hcz15_1 : w14.cell? ⟨gb108, 1, none⟩ = some (.string (⟨#[]⟩ : ByteArray)) := (blk_cell BK108.out 1).trans rfl; have hcz15_2 : w14.cell? ⟨gb108, 2, none⟩ = some (.int .i64 0) := (blk_cell BK108.out 2).trans rfl; have hcz15_3 : w14.cell? ⟨gb108, 3, none⟩ = some (.int .i64 0) := (blk_cell BK108.out 3).trans rfl; have hcz15_4 : w14.cell? ⟨gb108, 4, none⟩ = some (.int .i64 0) := (blk_cell BK108.out 4).trans rfl; have hfz15_0 := blk_frozen BK108.out 0; have hfz15_1 := blk_frozen BK108.out 1; have hfz15_2 := blk_frozen BK108.out 2; have hfz15_3 := blk_frozen BK108.out 3; have hfz15_4 := blk_frozen BK108.out 4) | ((with_reducible refine gate_callee (f := 20) rfl ?_); refine gL_ (some 36) rfl rfl Try.func20 (by kernel_rfl) rfl #[.string a0] rfl ?_; (with_reducible refine (ether_Take.calls kj3 a0 t109 t110 t111 t114 t115 t116 _ A11.out).mono ?_); rintro e w16 ⟨v112, rfl, ho0, hb⟩; refine ⟨_, rfl, ?_⟩; have n0_ := Aside0.mk (Kd.R_lower ho0 (below_size (bU_ HB.out))); have n1_ := Aside0.mk (blk_below (g := gb108) (o := .cells #[.string t102, .string t103, .int .i64 t104, .int .i64 t105, .int .i64 t106] 23 (0, 0)) (by (with_reducible repeat first | apply pN_ | apply pD_ | apply pA_); refine blk_put (cs := #[.string t102, .string t103, .int .i64 t104, .int .i64 t105, .int .i64 0]) ?_ 4 _ rfl; (with_reducible repeat first | apply pN_ | apply pD_ | apply pA_); refine blk_put (cs := #[.string t102, .string t103, .int .i64 t104, .int .i64 0, .int .i64 0]) ?_ 3 _ rfl; (with_reducible repeat first | apply pN_ | apply pD_ | apply pA_); refine blk_put (cs := #[.string t102, .string t103, .int .i64 0, .int .i64 0, .int .i64 0]) ?_ 2 _ rfl; (with_reducible repeat first | apply pN_ | apply pD_ | apply pA_); refine blk_put (cs := #[.string t102, .string (⟨#[]⟩ : ByteArray), .int .i64 0, .int .i64 0, .int .i64 0]) ?_ 1 _ rfl; (with_reducible repeat first | apply pN_ | apply pD_ | apply pA_); refine blk_put (cs := #[.string (⟨#[]⟩ : ByteArray), .string (⟨#[]⟩ : ByteArray), .int .i64 0, .int .i64 0, .int .i64 0]) ?_ 0 _ rfl; (with_reducible repeat first | apply pN_ | apply pD_ | apply pA_); exact BK108.out) hb); have n2_ := Aside0.mk (below_step (bU_ HB.out) hb); clear BK108; clear HB; have HO113 := n0_; have BK108 := n1_; have HB := n2_; clear n0_ n1_ n2_; (try clear hb); (try clear hb2); (try clear hk); (try clear hi); (try clear ho0)) | ((with_reducible refine gate_dst (N := 9) rfl ?_); (try (refine gate_guard (by rfl) ?_; dsimp only)); refine box_event ?hg (N := 9) ?hd (cs := #[.string (⟨#[]⟩ : ByteArray), .string (⟨#[]⟩ : ByteArray), .slice none 0 0, .int .i64 0]) (t := 41) ?hr ?_; (case hd => rfl); (case hg => rfl); (case hr => first | (go_simp; done) | (go_simp; rfl)); intro gb117 hg w17 hbox hb; have n0_ := Aside0.mk (Kd.R_below (by (with_reducible repeat first | apply Kd.R_alloc | apply Kd.R_drewN | apply Kd.R_drew); exact HO113.out) hb); have n1_ := Aside0.mk (blk_below (g := gb108) (o := .cells #[.string t102, .string t103, .int .i64 t104, .int .i64 t105, .int .i64 t106] 23 (0, 0)) (by (with_reducible repeat first | apply pN_ | apply pD_ | apply pA_); exact BK108.out) hb); have n2_ := Aside0.mk (below_step (bU_ HB.out) hb); have n3_ := Aside0.mk (hbox); have n4_ := Aside0.mk ((by rw [hg]; exact (below_size (bU_ HB.out)) : w.heap.size ≤ gb117)); have n5_ := Aside0.mk ((by rw [hg]; exact (below_size (bU_ HB.out)) : w.heap.size ≤ gb117)); have n6_ := Aside0.mk ((by rw [hg]; exact Nat.ne_of_lt (blk_lt (g := gb108) (o := .cells #[.string t102, .string t103, .int .i64 t104, .int .i64 t105, .int .i64 t106] 23 (0, 0)) (by (with_reducible repeat first | apply pN_ | apply pD_ | apply pA_); exact BK108.out)) : gb108 ≠ gb117)); have n7_ := Aside0.mk ((by rw [hg]; exact Nat.ne_of_gt (blk_lt (g := gb108) (o := .cells #[.string t102, .string t103, .int .i64 t104, .int .i64 t105, .int .i64 t106] 23 (0, 0)) (by (with_reducible repeat first | apply pN_ | apply pD_ | apply pA_); exact BK108.out)) : gb117 ≠ gb108)); clear HO113; clear BK108; clear HB; have HO113 := n0_; have BK108 := n1_; have HB := n2_; have BK117 := n3_; have GW117 := n4_; have GE117 := n5_; have NB108_117 := n6_; have NB117_108 := n7_; clear n0_ n1_ n2_ n3_ n4_ n5_ n6_ n7_; clear hb hbox hg; have hnb18 := NB117_108.out; have hnc18 := NB108_117.out; have hcz19_0 : w17.cell? ⟨gb117, 0, none⟩ = some (.string (⟨#[]⟩ : ByteArray)) := (blk_cell BK117.out 0).trans rfl; have hcz19_1 : w17.cell? ⟨gb117, 1, none⟩ = some (.string (⟨#[]⟩ : ByteArray)) := (blk_cell BK117.out 1).trans rfl; have hcz19_2 : w17.cell? ⟨gb117, 2, none⟩ = some (.slice none 0 0) := (blk_cell BK117.out 2).trans rfl; have hcz19_3 : w17.cell? ⟨gb117, 3, none⟩ = some (.int .i64 0) := (blk_cell BK117.out 3).trans rfl; have hfz19_0 := blk_frozen BK117.out 0; have hfz19_1 := blk_frozen BK117.out 1; have hfz19_2 := blk_frozen BK117.out 2; have hfz19_3 := blk_frozen BK117.out 3; obtain ⟨Ao20, co20, eo20⟩ := Kd.R_slice HO113.out; subst eo20))
    (try simp only [Act.put, List.setIfInBounds_toArray, List.set_cons_zero, List.set_cons_succ])
    go_cut [47] (fun v47 wc => ∃ (kq : Nat) (x47_11 : Bool), v47 = .bool x47_11 ∧ Aside0 (rillmeterlaw09_FlowTags.j1 kq a0 a1 a2 x47_11 t102 t103 t104 t105 t106 = some r) ∧ Aside0 (kq ≤ kj3) ∧ Aside0 (Kd.R k81 81 wc w.heap.size (fun _ => True) (.slice Ao20 t111.length co20) t111) ∧ Aside0 (wc.heap[gb108]? = some (.cells #[.string t102, .string t103, .int .i64 t104, .int .i64 t105, .int .i64 t106] 23 (0, 0))) ∧ Aside0 (wc.heap[gb117]? = some (.cells #[.string t109, .string t110, (.slice Ao20 t111.length co20), .int .i64 t114] 41 (0, 0))) ∧ Aside0 (Below w.heap.size w wc))
    case first =>
     have H := HC12.out
     clear HC12
     by_cases c21 : t107 = 0
     ·rw [if_pos c21] at H
      have c21b0 : (t107 == 0) = true := beq_iff_eq.mpr c21
      have c21b1 : (t107 != 0) = false := bne_eq_false_iff_eq.mpr c21
      clear c21
      (first | rw [c21b0] | (simp only [i64_w, i32_w]; rw [c21b0]) | skip)
      have H' := Aside0.mk H
      clear H
      have hnb22 := NB117_108.out
      have hnc22 := NB108_117.out
      have hcz23_0 : w17.cell? ⟨gb117, 0, none⟩ = some (.string (⟨#[]⟩ : ByteArray)) := (blk_cell BK117.out 0).trans rfl
      have hcz23_1 : w17.cell? ⟨gb117, 1, none⟩ = some (.string (⟨#[]⟩ : ByteArray)) := (blk_cell BK117.out 1).trans rfl
      have hcz23_2 : w17.cell? ⟨gb117, 2, none⟩ = some (.slice none 0 0) := (blk_cell BK117.out 2).trans rfl
      have hcz23_3 : w17.cell? ⟨gb117, 3, none⟩ = some (.int .i64 0) := (blk_cell BK117.out 3).trans rfl
      have hfz23_0 := blk_frozen BK117.out 0
      have hfz23_1 := blk_frozen BK117.out 1
      have hfz23_2 := blk_frozen BK117.out 2
      have hfz23_3 := blk_frozen BK117.out 3
      go_wp2
      go_meet
      case rel => exact ⟨_, (decide ((t111.length : Int) > 1)), (by first | rfl | (simp; done) | (simp [*]; done)), H', ⟨by have := HJ3.out; first | omega | exact Nat.le_refl _⟩, ⟨by (with_reducible repeat first | apply Kd.R_alloc | apply Kd.R_drewN | apply Kd.R_drew); exact Kd.R_mono (Kd.R_far (p := ⟨gb117, 3, none⟩) (Kd.R_far (p := ⟨gb117, 2, none⟩) (Kd.R_far (p := ⟨gb117, 1, none⟩) (Kd.R_far (p := ⟨gb117, 0, none⟩) (Kd.R_types HO113.out BK117.out (by decide)) (fun _ hk => hk.2) (.string t109)) (fun _ hk => hk.2) (.string t110)) (fun _ hk => hk.2) (.slice Ao20 t111.length co20)) (fun _ hk => hk.2) (.int .i64 t114)) (fun _ hk => trivial)⟩, ⟨by (with_reducible repeat first | apply pN_ | apply pD_ | apply pA_); refine blk_far ?_ NB108_117.out _; (with_reducible repeat first | apply pN_ | apply pD_ | apply pA_); refine blk_far ?_ NB108_117.out _; (with_reducible repeat first | apply pN_ | apply pD_ | apply pA_); refine blk_far ?_ NB108_117.out _; (with_reducible repeat first | apply pN_ | apply pD_ | apply pA_); refine blk_far ?_ NB108_117.out _; (with_reducible repeat first | apply pN_ | apply pD_ | apply pA_); exact BK108.out⟩, ⟨by (with_reducible repeat first | apply pN_ | apply pD_ | apply pA_); refine blk_put (cs := #[.string t109, .string t110, .slice Ao20 t111.length co20, .int .i64 0]) ?_ 3 _ rfl; (with_reducible repeat first | apply pN_ | apply pD_ | apply pA_); refine blk_put (cs := #[.string t109, .string t110, .slice none 0 0, .int .i64 0]) ?_ 2 _ rfl; (with_reducible repeat first | apply pN_ | apply pD_ | apply pA_); refine blk_put (cs := #[.string t109, .string (⟨#[]⟩ : ByteArray), .slice none 0 0, .int .i64 0]) ?_ 1 _ rfl; (with_reducible repeat first | apply pN_ | apply pD_ | apply pA_); refine blk_put (cs := #[.string (⟨#[]⟩ : ByteArray), .string (⟨#[]⟩ : ByteArray), .slice none 0 0, .int .i64 0]) ?_ 0 _ rfl; (with_reducible repeat first | apply pN_ | apply pD_ | apply pA_); exact BK117.out⟩, ⟨bU_ HB.out⟩⟩
     ·rw [if_neg c21] at H
      have c21b0 : (t107 == 0) = false := beq_eq_false_iff_ne.mpr c21
      have c21b1 : (t107 != 0) = true := bne_iff_ne.mpr c21
      (first | rw [c21b0] | (simp only [i64_w, i32_w]; rw [c21b0]) | skip)
      have H' := Aside0.mk H
      clear H
      go_wp2
      go_meet
      case rel => exact ⟨_, (true), (by first | rfl | (simp; done) | (simp [*]; done)), H', ⟨by have := HJ3.out; first | omega | exact Nat.le_refl _⟩, ⟨by (with_reducible repeat first | apply Kd.R_alloc | apply Kd.R_drewN | apply Kd.R_drew); exact Kd.R_mono (Kd.R_far (p := ⟨gb117, 3, none⟩) (Kd.R_far (p := ⟨gb117, 2, none⟩) (Kd.R_far (p := ⟨gb117, 1, none⟩) (Kd.R_far (p := ⟨gb117, 0, none⟩) (Kd.R_types HO113.out BK117.out (by decide)) (fun _ hk => hk.2) (.string t109)) (fun _ hk => hk.2) (.string t110)) (fun _ hk => hk.2) (.slice Ao20 t111.length co20)) (fun _ hk => hk.2) (.int .i64 t114)) (fun _ hk => trivial)⟩, ⟨by (with_reducible repeat first | apply pN_ | apply pD_ | apply pA_); refine blk_far ?_ NB108_117.out _; (with_reducible repeat first | apply pN_ | apply pD_ | apply pA_); refine blk_far ?_ NB108_117.out _; (with_reducible repeat first | apply pN_ | apply pD_ | apply pA_); refine blk_far ?_ NB108_117.out _; (with_reducible repeat first | apply pN_ | apply pD_ | apply pA_); refine blk_far ?_ NB108_117.out _; (with_reducible repeat first | apply pN_ | apply pD_ | apply pA_); exact BK108.out⟩, ⟨by (with_reducible repeat first | apply pN_ | apply pD_ | apply pA_); refine blk_put (cs := #[.string t109, .string t110, .slice Ao20 t111.length co20, .int .i64 0]) ?_ 3 _ rfl; (with_reducible repeat first | apply pN_ | apply pD_ | apply pA_); refine blk_put (cs := #[.string t109, .string t110, .slice none 0 0, .int .i64 0]) ?_ 2 _ rfl; (with_reducible repeat first | apply pN_ | apply pD_ | apply pA_); refine blk_put (cs := #[.string t109, .string (⟨#[]⟩ : ByteArray), .slice none 0 0, .int .i64 0]) ?_ 1 _ rfl; (with_reducible repeat first | apply pN_ | apply pD_ | apply pA_); refine blk_put (cs := #[.string (⟨#[]⟩ : ByteArray), .string (⟨#[]⟩ : ByteArray), .slice none 0 0, .int .i64 0]) ?_ 0 _ rfl; (with_reducible repeat first | apply pN_ | apply pD_ | apply pA_); exact BK117.out⟩, ⟨bU_ HB.out⟩⟩
    case rest =>
     clear HC12
     try clear c1
     try clear c2
     try clear p2
     try clear c5
     try clear c5b0
     try clear c5b1
     try clear c6
     try clear c6b0
     try clear c6b1
     try clear c7
     try clear c12
     try clear c18
     try clear c20
     try clear c21
     try clear c21b0
     try clear c21b1
     try clear c22
     try clear hcz15_0
     try clear hcz15_1
     try clear hcz15_2
     try clear hcz15_3
     try clear hcz15_4
     try clear hcz19_0
     try clear hcz19_1
     try clear hcz19_2
     try clear hcz19_3
     try clear hcz23_0
     try clear hcz23_1
     try clear hcz23_2
     try clear hcz23_3
     try clear hfz15_0
     try clear hfz15_1
     try clear hfz15_2
     try clear hfz15_3
     try clear hfz15_4
     try clear hfz19_0
     try clear hfz19_1
     try clear hfz19_2
     try clear hfz19_3
     try clear hfz23_0
     try clear hfz23_1
     try clear hfz23_2
     try clear hfz23_3
     try clear p2
     obtain ⟨kq, x47_11, rfl, HA, HJ11, HO_118002, BK108, BK117, HB⟩ := hcut
     cases kq with
     | zero => exact absurd HA.out (by simp [rillmeterlaw09_FlowTags.j1])
     | succ kj11 =>
      have H := HA.out
      clear HA
      simp only [rillmeterlaw09_FlowTags.j1] at H
      by_cases c24 : x47_11 = true
      ·subst c24
       have H1 : ((rillmeterlaw09_awake.f kj11).bind fun t118 => (some t118)) = some r := by rw [if_pos rfl] at H; exact H
       clear H
       have H := H1
       clear H1
       replace H := Option.bind_eq_some_iff.mp H
       obtain ⟨t118, A250, H⟩ := H
       replace H : (some t118) = some r := H
       have A25 := Aside0.mk A250
       clear A250
       obtain rfl := Option.some.inj H
       go_wp2_with (first | ((with_reducible refine gate_callee (f := 12) rfl ?_); refine gL_ (some 48) rfl rfl Try.func12 (by kernel_rfl) rfl #[] rfl ?_; (with_reducible refine (rillmeterlaw09_awake.calls kj11  t118 _ hrt A25.out).mono ?_); rintro e w26 ⟨rfl, hb⟩; refine ⟨_, rfl, ?_⟩; have n0_ := Aside0.mk (Kd.R_below (by (with_reducible repeat first | apply Kd.R_alloc | apply Kd.R_drewN | apply Kd.R_drew); exact HO_118002.out) hb); have n1_ := Aside0.mk (blk_below (g := gb108) (o := .cells #[.string t102, .string t103, .int .i64 t104, .int .i64 t105, .int .i64 t106] 23 (0, 0)) (by (with_reducible repeat first | apply pN_ | apply pD_ | apply pA_); exact BK108.out) hb); have n2_ := Aside0.mk (blk_below (g := gb117) (o := .cells #[.string t109, .string t110, .slice Ao20 t111.length co20, .int .i64 t114] 41 (0, 0)) (by (with_reducible repeat first | apply pN_ | apply pD_ | apply pA_); exact BK117.out) hb); have n3_ := Aside0.mk (below_step (bU_ HB.out) hb); clear HO_118002; clear BK108; clear BK117; clear HB; have HO_118002 := n0_; have BK108 := n1_; have BK117 := n2_; have HB := n3_; clear n0_ n1_ n2_ n3_; (try clear hb); (try clear hb2); (try clear hk); (try clear hi)))
       go_ret
       exact ⟨by first | rfl | (simp [errW_none, errW_some] <;> rfl) | (simp [*, errW_none, errW_some] <;> rfl), bU_ HB.out⟩
      ·replace c24 := Bool.eq_false_iff.mpr c24
       subst c24
       have H1 : ((some (([129, 0, (a1 / 256) % 256, (a1) % 256] : List Int) : List Int)).bind fun y119 => (if 0 ≤ 12 then (if 12 ≤ (a0.size : Int) then (if (a0.extract 0 12).size + (strOfNums y119).size ≤ 9223372036854775807 then (if ((a0.extract 0 12) ++ (strOfNums y119)).size + (a0.extract 12 a0.size).size ≤ 9223372036854775807 then (if (((a0.extract 0 12) ++ (strOfNums y119)) ++ (a0.extract 12 a0.size)).size + a2.size ≤ 9223372036854775807 then ((flow_Extract.f kj11 ((((a0.extract 0 12) ++ (strOfNums y119)) ++ (a0.extract 12 a0.size)) ++ a2)).bind fun bt122 => (if (bt122.1.toList == t102.toList && (bt122.2.1.toList == t103.toList && (bt122.2.2.1 == t104 && (bt122.2.2.2.1 == t105 && (bt122.2.2.2.2.1 == t106))))) = true then (if bt122.2.2.2.2.2 = 0 then ((rillmeterlaw09_awake.f kj11).bind fun t129 => (some t129)) else (some false)) else (some false))) else (none)) else (none)) else (none)) else (none)) else (none))) = some r := by rw [if_neg (show ¬ (false = true) by decide)] at H; exact H
       clear H
       have H := H1
       clear H1
       obtain ⟨y119, hy119⟩ : ∃ y_ : List Int, y_ = (([129, 0, (a1 / 256) % 256, (a1) % 256] : List Int)) := ⟨_, rfl⟩
       replace H : (if 0 ≤ 12 then (if 12 ≤ (a0.size : Int) then (if (a0.extract 0 12).size + (strOfNums y119).size ≤ 9223372036854775807 then (if ((a0.extract 0 12) ++ (strOfNums y119)).size + (a0.extract 12 a0.size).size ≤ 9223372036854775807 then (if (((a0.extract 0 12) ++ (strOfNums y119)) ++ (a0.extract 12 a0.size)).size + a2.size ≤ 9223372036854775807 then ((flow_Extract.f kj11 ((((a0.extract 0 12) ++ (strOfNums y119)) ++ (a0.extract 12 a0.size)) ++ a2)).bind fun bt122 => (if (bt122.1.toList == t102.toList && (bt122.2.1.toList == t103.toList && (bt122.2.2.1 == t104 && (bt122.2.2.2.1 == t105 && (bt122.2.2.2.2.1 == t106))))) = true then (if bt122.2.2.2.2.2 = 0 then ((rillmeterlaw09_awake.f kj11).bind fun t129 => (some t129)) else (some false)) else (some false))) else (none)) else (none)) else (none)) else (none)) else (none)) = some r := by first | (rw [hy119]; with_reducible exact H) | (have H2_ := (Option.bind_some _ _).symm.trans H; rw [hy119]; with_reducible exact H2_) | (have H2_ := (Option.bind_some _ _).symm.trans H; with_reducible exact H2_) | with_reducible exact H | (rw [hy119]; exact H) | exact H
       have Ny119 := Aside0.mk hy119
       clear hy119
       by_cases c27 : 0 ≤ 12
       rotate_left
       ·rw [if_neg c27] at H
        exact absurd H (by simp)
       rw [if_pos c27] at H
       have c27b0 := eq_true c27
       have c27b1 : decide (0 ≤ 12) = true := decide_eq_true c27
       clear c27
       by_cases c28 : 12 ≤ (a0.size : Int)
       rotate_left
       ·rw [if_neg c28] at H
        exact absurd H (by simp)
       rw [if_pos c28] at H
       have c28b0 := eq_true c28
       have c28b1 : decide (12 ≤ (a0.size : Int)) = true := decide_eq_true c28
       clear c28
       by_cases c29 : (a0.extract 0 12).size + (strOfNums y119).size ≤ 9223372036854775807
       rotate_left
       ·rw [if_neg c29] at H
        exact absurd H (by simp)
       rw [if_pos c29] at H
       have c29b0 := eq_true c29
       have c29b1 : decide ((a0.extract 0 12).size + (strOfNums y119).size ≤ 9223372036854775807) = true := decide_eq_true c29
       try have c29b2 : (9223372036854775807 < (a0.extract 0 12).size + (strOfNums y119).size) = False := eq_false (Nat.not_lt.2 c29)
       try (have c29b3 := c29; simp only [ByteArray.size_append, ByteArray.size_extract, Nat.sub_zero, Nat.min_self] at c29b3; have c29b4 := eq_false (Nat.not_lt.2 c29b3))
       have c30b0 := eq_true (of_decide_eq_true (by first | (with_reducible assumption) | assumption) : 12 ≤ (a0.size : Int))
       by_cases c31 : ((a0.extract 0 12) ++ (strOfNums y119)).size + (a0.extract 12 a0.size).size ≤ 9223372036854775807
       rotate_left
       ·rw [if_neg c31] at H
        exact absurd H (by simp)
       rw [if_pos c31] at H
       have c31b0 := eq_true c31
       have c31b1 : decide (((a0.extract 0 12) ++ (strOfNums y119)).size + (a0.extract 12 a0.size).size ≤ 9223372036854775807) = true := decide_eq_true c31
       try have c31b2 : (9223372036854775807 < ((a0.extract 0 12) ++ (strOfNums y119)).size + (a0.extract 12 a0.size).size) = False := eq_false (Nat.not_lt.2 c31)
       try (have c31b3 := c31; simp only [ByteArray.size_append, ByteArray.size_extract, Nat.sub_zero, Nat.min_self] at c31b3; have c31b4 := eq_false (Nat.not_lt.2 c31b3))
       by_cases c32 : (((a0.extract 0 12) ++ (strOfNums y119)) ++ (a0.extract 12 a0.size)).size + a2.size ≤ 9223372036854775807
       rotate_left
       ·rw [if_neg c32] at H
        exact absurd H (by simp)
       rw [if_pos c32] at H
       have c32b0 := eq_true c32
       have c32b1 : decide ((((a0.extract 0 12) ++ (strOfNums y119)) ++ (a0.extract 12 a0.size)).size + a2.size ≤ 9223372036854775807) = true := decide_eq_true c32
       try have c32b2 : (9223372036854775807 < (((a0.extract 0 12) ++ (strOfNums y119)) ++ (a0.extract 12 a0.size)).size + a2.size) = False := eq_false (Nat.not_lt.2 c32)
       try (have c32b3 := c32; simp only [ByteArray.size_append, ByteArray.size_extract, Nat.sub_zero, Nat.min_self] at c32b3; have c32b4 := eq_false (Nat.not_lt.2 c32b3))
       replace H := Option.bind_eq_some_iff.mp H
       obtain ⟨⟨t122, t123, t124, t125, t126, t127⟩, A330, H⟩ := H
       replace H : (if (t122.toList == t102.toList && (t123.toList == t103.toList && (t124 == t104 && (t125 == t105 && (t126 == t106))))) = true then (if t127 = 0 then ((rillmeterlaw09_awake.f kj11).bind fun t129 => (some t129)) else (some false)) else (some false)) = some r := H
       have A33 := Aside0.mk A330
       clear A330
       by_cases c34 : (t122.toList == t102.toList && (t123.toList == t103.toList && (t124 == t104 && (t125 == t105 && (t126 == t106))))) = true
       rotate_left
       ·rw [if_neg c34] at H
        obtain rfl := Option.some.inj H
        exact absurd hrt.out (by decide)
       rw [if_pos c34] at H
       have c34b0 : (t122.toList == t102.toList && (t123.toList == t103.toList && (t124 == t104 && (t125 == t105 && (t126 == t106))))) = true := c34
       have c34b1 : (t122.toList == t102.toList) = true := by have h_ := c34; simp only [Bool.and_eq_true] at h_; exact h_.1
       have c34b2 : (t123.toList == t103.toList) = true := by have h_ := c34; simp only [Bool.and_eq_true] at h_; exact h_.2.1
       have c34b3 : (t124 == t104) = true := by have h_ := c34; simp only [Bool.and_eq_true] at h_; exact h_.2.2.1
       have c34b4 : (t125 == t105) = true := by have h_ := c34; simp only [Bool.and_eq_true] at h_; exact h_.2.2.2.1
       have c34b5 : (t126 == t106) = true := by have h_ := c34; simp only [Bool.and_eq_true] at h_; exact h_.2.2.2.2
       clear c34
       by_cases c35 : t127 = 0
       rotate_left
       ·rw [if_neg c35] at H
        obtain rfl := Option.some.inj H
        exact absurd hrt.out (by decide)
       rw [if_pos c35] at H
       have c35b0 : (t127 == 0) = true := beq_iff_eq.mpr c35
       have c35b1 : (t127 != 0) = false := bne_eq_false_iff_eq.mpr c35
       clear c35
       replace H := Option.bind_eq_some_iff.mp H
       obtain ⟨t129, A360, H⟩ := H
       replace H : (some t129) = some r := H
       have A36 := Aside0.mk A360
       clear A360
       obtain rfl := Option.some.inj H
       try go_wp2_with (first | ((with_reducible refine gate_dst (N := 54) rfl ?_); (try (refine gate_guard (by rfl) ?_; dsimp only)); refine Kd.R_lit (Kd.int .u8) _ 5 ?hg (N := 54) ?hd (xs := ([129, 0, (a1 / 256) % 256, (a1) % 256] : List Int)) (inner := [.int .u8 129, .int .u8 0, .int .u8 ((a1 / 256) % 256), .int .u8 ((a1) % 256)]) (ok := fun _ => True) (okp := fun _ => True) ?hr ?hp (fun _ hk => hk) trivial (Below.refl _ _) (Nat.le_refl _) (by simp) ?_; (case hd => rfl); (case hg => rfl); (case hr => first | (go_simp; done) | (go_simp; rfl)); (case hp => exact (Reps.one (show Kd.M (Kd.int .u8) _ _ _ 129 [.int .u8 129] from rfl) (Reps.one (show Kd.M (Kd.int .u8) _ _ _ 0 [.int .u8 0] from rfl) (Reps.one (show Kd.M (Kd.int .u8) _ _ _ ((a1 / 256) % 256) [.int .u8 ((a1 / 256) % 256)] from rfl) (Reps.one (show Kd.M (Kd.int .u8) _ _ _ ((a1) % 256) [.int .u8 ((a1) % 256)] from rfl) (Reps.none _ _)))))); intro v120 w37 ho38 hb hg_ hnew_; clear hg_ hnew_; (first | rw [← Ny119.out] at ho38 | (simp only [Int.reduceToNat] at ho38; rw [← Ny119.out] at ho38)); have n0_ := Aside0.mk (Kd.R_below (by (with_reducible repeat first | apply Kd.R_alloc | apply Kd.R_drewN | apply Kd.R_drew); exact HO_118002.out) hb); have n1_ := Aside0.mk (Kd.R_lower ho38 (below_size (bU_ HB.out))); have n2_ := Aside0.mk (blk_below (g := gb108) (o := .cells #[.string t102, .string t103, .int .i64 t104, .int .i64 t105, .int .i64 t106] 23 (0, 0)) (by (with_reducible repeat first | apply pN_ | apply pD_ | apply pA_); exact BK108.out) hb); have n3_ := Aside0.mk (blk_below (g := gb117) (o := .cells #[.string t109, .string t110, .slice Ao20 t111.length co20, .int .i64 t114] 41 (0, 0)) (by (with_reducible repeat first | apply pN_ | apply pD_ | apply pA_); exact BK117.out) hb); have n4_ := Aside0.mk (below_step (bU_ HB.out) hb); clear HO_118002; clear BK108; clear BK117; clear HB; have HO_118002 := n0_; have HO121 := n1_; have BK108 := n2_; have BK117 := n3_; have HB := n4_; clear n0_ n1_ n2_ n3_ n4_; clear hb ho38; have hcv39 := own_string (P := Try.prog) Try.underlying45 Try.underlying5 Try.underlying9 (Kd.own_of_R HO121.out)))
       have n0_ := Aside0.mk (Kd.R_drew HO_118002.out)
       have n1_ := Aside0.mk (Kd.R_drew HO121.out)
       have n2_ := Aside0.mk (blk_drew BK108.out)
       have n3_ := Aside0.mk (blk_drew BK117.out)
       have n4_ := Aside0.mk (below_drew1 HB.out)
       clear HO_118002
       clear HO121
       clear BK108
       clear BK117
       clear HB
       have HO_118002 := n0_
       have HO121 := n1_
       have BK108 := n2_
       have BK117 := n3_
       have HB := n4_
       clear n0_ n1_ n2_ n3_ n4_
       refine start_ (n := 16) (S := fun w' => True) (ds := []) #[false, false, false, false, false, false, false, false, false, false, false, false, false, false, false, false] (by kernel_rfl) rfl rfl trivial (fun hHeld => ?_); refine with_tabW rillmeterlaw09_FlowTags.tab8 rillmeterlaw09_FlowTags.bits8 (fun HT_ HW_ => ?_)
       generalize w37.drew = w40 at HO_118002 HO121 BK108 BK117 HB hHeld ⊢
       refine pure_ (i := 0) (N := some 57) (v := ?_) (a' := ?_) #[true, false, false, false, false, false, false, false, false, false, false, false, false, false, false, false] rfl rfl (any_of HT_.out (by kernel_rfl)) (fun _ _ _ h => h) (Or.inl ⟨by rfl, ?_⟩) ?_ ?_
       rotate_left
       ·intro w'
        go_simp
        with_reducible rfl
       rotate_left
       ·simp only [Act.put, List.setIfInBounds_toArray, List.set_cons_zero, List.set_cons_succ, i64_w, i32_w]
        rfl
       refine pure_ (i := 1) (N := some 58) (v := ?_) (a' := ?_) #[true, true, false, false, false, false, false, false, false, false, false, false, false, false, false, false] rfl rfl (any_of HT_.out (by kernel_rfl)) (fun _ _ _ h => h) (Or.inl ⟨by rfl, ?_⟩) ?_ ?_
       rotate_left
       ·intro w'
        go_simp
        with_reducible rfl
       rotate_left
       ·simp only [Act.put, List.setIfInBounds_toArray, List.set_cons_zero, List.set_cons_succ, i64_w, i32_w]
        rfl
       refine pure_ (i := 2) (N := some 59) (v := ?_) (a' := ?_) #[true, true, true, false, false, false, false, false, false, false, false, false, false, false, false, false] rfl rfl (any_of HT_.out (by kernel_rfl)) (fun _ _ _ h => h) (Or.inl ⟨by rfl, ?_⟩) ?_ ?_
       rotate_left
       ·intro w'
        go_simp
        with_reducible rfl
       rotate_left
       ·simp only [Act.put, List.setIfInBounds_toArray, List.set_cons_zero, List.set_cons_succ, i64_w, i32_w]
        rfl
       refine pure_ (i := 3) (N := some 60) (v := ?_) (a' := ?_) #[true, true, true, true, false, false, false, false, false, false, false, false, false, false, false, false] rfl rfl (any_of HT_.out (by kernel_rfl)) (fun _ _ _ h => h) (Or.inl ⟨by rfl, ?_⟩) ?_ ?_
       rotate_left
       ·intro w'
        go_simp
        with_reducible rfl
       rotate_left
       ·simp only [Act.put, List.setIfInBounds_toArray, List.set_cons_zero, List.set_cons_succ, i64_w, i32_w]
        rfl
       refine pure_ (i := 4) (N := some 61) (v := ?_) (a' := ?_) #[true, true, true, true, true, false, false, false, false, false, false, false, false, false, false, false] rfl rfl (any_of HT_.out (by kernel_rfl)) (fun _ _ _ h => h) (Or.inl ⟨by rfl, ?_⟩) ?_ ?_
       rotate_left
       ·intro w'
        go_simp
        with_reducible rfl
       rotate_left
       ·simp only [Act.put, List.setIfInBounds_toArray, List.set_cons_zero, List.set_cons_succ, i64_w, i32_w]
        rfl
       refine pure_ (i := 5) (N := some 62) (v := ?_) (a' := ?_) #[true, true, true, true, true, true, false, false, false, false, false, false, false, false, false, false] rfl rfl (any_of HT_.out (by kernel_rfl)) (fun _ _ _ h => h) (Or.inl ⟨by rfl, ?_⟩) ?_ ?_
       rotate_left
       ·intro w'
        go_simp
        with_reducible rfl
       rotate_left
       ·simp only [Act.put, List.setIfInBounds_toArray, List.set_cons_zero, List.set_cons_succ, i64_w, i32_w]
        rfl
       refine pure_ (i := 6) (N := some 63) (v := ?_) (a' := ?_) #[true, true, true, true, true, true, true, false, false, false, false, false, false, false, false, false] rfl rfl (any_of HT_.out (by kernel_rfl)) (fun _ _ _ h => h) (Or.inl ⟨by rfl, ?_⟩) ?_ ?_
       rotate_left
       ·intro w'
        go_simp
        with_reducible rfl
       rotate_left
       ·simp only [Act.put, List.setIfInBounds_toArray, List.set_cons_zero, List.set_cons_succ, i64_w, i32_w]
        rfl
       refine pure_ (i := 7) (N := some 64) (v := ?_) (a' := ?_) #[true, true, true, true, true, true, true, true, false, false, false, false, false, false, false, false] rfl rfl (any_of HT_.out (by kernel_rfl)) (fun _ _ _ h => h) (Or.inl ⟨by rfl, ?_⟩) ?_ ?_
       rotate_left
       ·intro w'
        go_simp
        with_reducible rfl
       rotate_left
       ·simp only [Act.put, List.setIfInBounds_toArray, List.set_cons_zero, List.set_cons_succ, i64_w, i32_w]
        rfl
       refine pure_ (i := 8) (N := some 65) (v := ?_) (a' := ?_) #[true, true, true, true, true, true, true, true, true, false, false, false, false, false, false, false] rfl rfl (any_of HT_.out (by kernel_rfl)) (fun _ _ _ h => h) (Or.inl ⟨by rfl, ?_⟩) ?_ ?_
       rotate_left
       ·intro w'
        go_simp
        with_reducible rfl
       rotate_left
       ·simp only [Act.put, List.setIfInBounds_toArray, List.set_cons_zero, List.set_cons_succ, i64_w, i32_w]
        rfl
       refine join_ (σ := Nat) 2 #[true, true, true, true, true, true, true, true, true, true, true, true, true, true, false, false] (fun s_ => [(66, .tuple #[.agg #[.string t122, .string t123, .int .i64 t124, .int .i64 t125, .int .i64 t126], .int .i64 t127]), (13, .pointer (some ⟨s_, 0, none⟩)), (56, .tuple #[.agg #[.string t122, .string t123, .int .i64 t124, .int .i64 t125, .int .i64 t126], .int .i64 t127]), (67, .agg #[.string t122, .string t123, .int .i64 t124, .int .i64 t125, .int .i64 t126]), (68, .int .i64 t127)]) (fun s_ w' => (Kd.R (Kd.int .u8) 5 w' w.heap.size (fun _ => True) v120 y119) ∧ (Kd.R k81 81 w' w.heap.size (fun _ => True) (.slice Ao20 t111.length co20) t111) ∧ (w'.heap[gb108]? = some (.cells #[.string t102, .string t103, .int .i64 t104, .int .i64 t105, .int .i64 t106] 23 (0, 0))) ∧ (w'.heap[gb117]? = some (.cells #[.string t109, .string t110, .slice Ao20 t111.length co20, .int .i64 t114] 41 (0, 0))) ∧ (w'.heap[s_]? = some (.cells #[.string (⟨#[]⟩ : ByteArray), .string (⟨#[]⟩ : ByteArray), .int .i64 0, .int .i64 0, .int .i64 0] 23 (0, 0))) ∧ (w.heap.size ≤ s_) ∧ (w.heap.size ≤ s_) ∧ (gb108 ≠ s_) ∧ (s_ ≠ gb108) ∧ (gb117 ≠ s_) ∧ (s_ ≠ gb117) ∧ (Below w.heap.size w w')) ?_ ?_
       rotate_left
       ·intro hCont
        refine two_ (i := 9) (j := 13) (Ni := some 66) (Nj := some 13) #[true, true, true, true, true, true, true, true, true, true, false, false, false, false, false, false] #[true, true, true, true, true, true, true, true, true, false, false, false, false, true, false, false] rfl rfl rfl rfl (two_of HT_.out (by kernel_rfl)) (by decide) (by decide) (fun K hK => ?_) (fun K hK => ?_)
        ·skip
         refine goes_ Try.func18 (by kernel_rfl) rfl #[.string ((((a0.extract 0 12) ++ (strOfNums y119)) ++ (a0.extract 12 a0.size)) ++ a2)] (by rfl) rfl rfl (by (try simp only [List.map_toArray, List.map_cons, List.map_nil]); first | done | rfl | (simp only [List.length_drop, List.length_take]; rfl) | (simp only [ByteArray.size_append, ByteArray.size_extract, Nat.sub_zero, Int.natCast_add]; rfl) | (simp [ByteArray.size_append]; done)) ?_
         with_reducible refine (flow_Extract.calls kj11 ((((a0.extract 0 12) ++ (strOfNums y119)) ++ (a0.extract 12 a0.size)) ++ a2) t122 t123 t124 t125 t126 t127 _ A33.out).mono ?_
         rintro e w41 ⟨rfl, hb⟩
         refine ⟨_, rfl, ?_⟩
         have n0_ := Aside0.mk (Kd.R_below (by (with_reducible repeat first | apply Kd.R_alloc | apply Kd.R_drewN | apply Kd.R_drew); exact HO_118002.out) hb)
         have n1_ := Aside0.mk (Kd.R_below (by (with_reducible repeat first | apply Kd.R_alloc | apply Kd.R_drewN | apply Kd.R_drew); exact HO121.out) hb)
         have n2_ := Aside0.mk (blk_below (g := gb108) (o := .cells #[.string t102, .string t103, .int .i64 t104, .int .i64 t105, .int .i64 t106] 23 (0, 0)) (by (with_reducible repeat first | apply pN_ | apply pD_ | apply pA_); exact BK108.out) hb)
         have n3_ := Aside0.mk (blk_below (g := gb117) (o := .cells #[.string t109, .string t110, .slice Ao20 t111.length co20, .int .i64 t114] 41 (0, 0)) (by (with_reducible repeat first | apply pN_ | apply pD_ | apply pA_); exact BK117.out) hb)
         have n4_ := Aside0.mk (below_step (bU_ HB.out) hb)
         clear HO_118002
         clear HO121
         clear BK108
         clear BK117
         clear HB
         have HO_118002 := n0_
         have HO121 := n1_
         have BK108 := n2_
         have BK117 := n3_
         have HB := n4_
         clear n0_ n1_ n2_ n3_ n4_
         (try clear hb)
         (try clear hb2)
         (try clear hk)
         (try clear hi)
         refine hK.out _ _ trivial (fun hHeld => ?_)
         clear hK K
         refine norm_ (a' := ?_) ?_ ?_
         rotate_left
         ·show Act.put _ (some 66) _ = _
          simp only [Act.put, List.setIfInBounds_toArray, List.set_cons_zero, List.set_cons_succ, i64_w, i32_w]
          rfl
         refine pure_ (i := 10) (N := some 56) (v := ?_) (a' := ?_) #[true, true, true, true, true, true, true, true, true, true, true, false, false, false, false, false] rfl rfl (any_of HT_.out (by kernel_rfl)) (fun _ _ _ h => h) (Or.inl ⟨by rfl, ?_⟩) ?_ ?_
         rotate_left
         ·intro w'
          go_simp
          with_reducible rfl
         rotate_left
         ·simp only [Act.put, List.setIfInBounds_toArray, List.set_cons_zero, List.set_cons_succ, i64_w, i32_w]
          rfl
         refine pure_ (i := 11) (N := some 67) (v := ?_) (a' := ?_) #[true, true, true, true, true, true, true, true, true, true, true, true, false, false, false, false] rfl rfl (any_of HT_.out (by kernel_rfl)) (fun _ _ _ h => h) (Or.inl ⟨by rfl, ?_⟩) ?_ ?_
         rotate_left
         ·intro w'
          go_simp
          with_reducible rfl
         rotate_left
         ·simp only [Act.put, List.setIfInBounds_toArray, List.set_cons_zero, List.set_cons_succ, i64_w, i32_w]
          rfl
         refine pure_ (i := 12) (N := some 68) (v := ?_) (a' := ?_) #[true, true, true, true, true, true, true, true, true, true, true, true, true, false, false, false] rfl rfl (any_of HT_.out (by kernel_rfl)) (fun _ _ _ h => h) (Or.inl ⟨by rfl, ?_⟩) ?_ ?_
         rotate_left
         ·intro w'
          go_simp
          with_reducible rfl
         rotate_left
         ·simp only [Act.put, List.setIfInBounds_toArray, List.set_cons_zero, List.set_cons_succ, i64_w, i32_w]
          rfl
         refine one_ (i := 13) (N := some 13) #[true, true, true, true, true, true, true, true, true, true, true, true, true, true, false, false] rfl rfl (one_of HT_.out (by kernel_rfl)) (by decide) (fun K hK => ?_)
         refine box_step ?hg (N := 13) ?hd (cs := #[.string (⟨#[]⟩ : ByteArray), .string (⟨#[]⟩ : ByteArray), .int .i64 0, .int .i64 0, .int .i64 0]) (t := 23) ?hr ?_; (case hd => rfl); (case hg => rfl); (case hr => first | (go_simp; done) | (go_simp; rfl))
         intro gb128 hg w42 hbox hb
         have n0_ := Aside0.mk (Kd.R_below (by (with_reducible repeat first | apply Kd.R_alloc | apply Kd.R_drewN | apply Kd.R_drew); exact HO_118002.out) hb)
         have n1_ := Aside0.mk (Kd.R_below (by (with_reducible repeat first | apply Kd.R_alloc | apply Kd.R_drewN | apply Kd.R_drew); exact HO121.out) hb)
         have n2_ := Aside0.mk (blk_below (g := gb108) (o := .cells #[.string t102, .string t103, .int .i64 t104, .int .i64 t105, .int .i64 t106] 23 (0, 0)) (by (with_reducible repeat first | apply pN_ | apply pD_ | apply pA_); exact BK108.out) hb)
         have n3_ := Aside0.mk (blk_below (g := gb117) (o := .cells #[.string t109, .string t110, .slice Ao20 t111.length co20, .int .i64 t114] 41 (0, 0)) (by (with_reducible repeat first | apply pN_ | apply pD_ | apply pA_); exact BK117.out) hb)
         have n4_ := Aside0.mk (below_step (bU_ HB.out) hb)
         have n5_ := Aside0.mk (hbox)
         have n6_ := Aside0.mk ((by rw [hg]; exact (below_size (bU_ HB.out)) : w.heap.size ≤ gb128))
         have n7_ := Aside0.mk ((by rw [hg]; exact (below_size (bU_ HB.out)) : w.heap.size ≤ gb128))
         have n8_ := Aside0.mk ((by rw [hg]; exact Nat.ne_of_lt (blk_lt (g := gb108) (o := .cells #[.string t102, .string t103, .int .i64 t104, .int .i64 t105, .int .i64 t106] 23 (0, 0)) (by (with_reducible repeat first | apply pN_ | apply pD_ | apply pA_); exact BK108.out)) : gb108 ≠ gb128))
         have n9_ := Aside0.mk ((by rw [hg]; exact Nat.ne_of_gt (blk_lt (g := gb108) (o := .cells #[.string t102, .string t103, .int .i64 t104, .int .i64 t105, .int .i64 t106] 23 (0, 0)) (by (with_reducible repeat first | apply pN_ | apply pD_ | apply pA_); exact BK108.out)) : gb128 ≠ gb108))
         have n10_ := Aside0.mk ((by rw [hg]; exact Nat.ne_of_lt (blk_lt (g := gb117) (o := .cells #[.string t109, .string t110, .slice Ao20 t111.length co20, .int .i64 t114] 41 (0, 0)) (by (with_reducible repeat first | apply pN_ | apply pD_ | apply pA_); exact BK117.out)) : gb117 ≠ gb128))
         have n11_ := Aside0.mk ((by rw [hg]; exact Nat.ne_of_gt (blk_lt (g := gb117) (o := .cells #[.string t109, .string t110, .slice Ao20 t111.length co20, .int .i64 t114] 41 (0, 0)) (by (with_reducible repeat first | apply pN_ | apply pD_ | apply pA_); exact BK117.out)) : gb128 ≠ gb117))
         clear HO_118002
         clear HO121
         clear BK108
         clear BK117
         clear HB
         have HO_118002 := n0_
         have HO121 := n1_
         have BK108 := n2_
         have BK117 := n3_
         have HB := n4_
         have BK128 := n5_
         have GW128 := n6_
         have GE128 := n7_
         have NB108_128 := n8_
         have NB128_108 := n9_
         have NB117_128 := n10_
         have NB128_117 := n11_
         clear n0_ n1_ n2_ n3_ n4_ n5_ n6_ n7_ n8_ n9_ n10_ n11_
         clear hb hbox hg
         refine hK.out _ _ trivial (fun hHeld => ?_)
         clear hK K
         refine norm_ (a' := ?_) ?_ ?_
         rotate_left
         ·show Act.put _ (some 13) _ = _
          simp only [Act.put, List.setIfInBounds_toArray, List.set_cons_zero, List.set_cons_succ, i64_w, i32_w]
          rfl
         exact norm_ (by simp only [putAll, Act.put, List.setIfInBounds_toArray, List.set_cons_zero, List.set_cons_succ]) (hCont (gb128) _ ⟨(by (with_reducible repeat first | apply Kd.R_alloc | apply Kd.R_drewN | apply Kd.R_drew); exact HO121.out), (by (with_reducible repeat first | apply Kd.R_alloc | apply Kd.R_drewN | apply Kd.R_drew); exact HO_118002.out), (by (with_reducible repeat first | apply pN_ | apply pD_ | apply pA_); exact BK108.out), (by (with_reducible repeat first | apply pN_ | apply pD_ | apply pA_); exact BK117.out), (by (with_reducible repeat first | apply pN_ | apply pD_ | apply pA_); exact BK128.out), GW128.out, GE128.out, NB108_128.out, NB128_108.out, NB117_128.out, NB128_117.out, (bU_ HB.out)⟩)
        ·skip
         refine box_step ?hg (N := 13) ?hd (cs := #[.string (⟨#[]⟩ : ByteArray), .string (⟨#[]⟩ : ByteArray), .int .i64 0, .int .i64 0, .int .i64 0]) (t := 23) ?hr ?_; (case hd => rfl); (case hg => rfl); (case hr => first | (go_simp; done) | (go_simp; rfl))
         intro gb128 hg w41 hbox hb
         have n0_ := Aside0.mk (Kd.R_below (by (with_reducible repeat first | apply Kd.R_alloc | apply Kd.R_drewN | apply Kd.R_drew); exact HO_118002.out) hb)
         have n1_ := Aside0.mk (Kd.R_below (by (with_reducible repeat first | apply Kd.R_alloc | apply Kd.R_drewN | apply Kd.R_drew); exact HO121.out) hb)
         have n2_ := Aside0.mk (blk_below (g := gb108) (o := .cells #[.string t102, .string t103, .int .i64 t104, .int .i64 t105, .int .i64 t106] 23 (0, 0)) (by (with_reducible repeat first | apply pN_ | apply pD_ | apply pA_); exact BK108.out) hb)
         have n3_ := Aside0.mk (blk_below (g := gb117) (o := .cells #[.string t109, .string t110, .slice Ao20 t111.length co20, .int .i64 t114] 41 (0, 0)) (by (with_reducible repeat first | apply pN_ | apply pD_ | apply pA_); exact BK117.out) hb)
         have n4_ := Aside0.mk (below_step (bU_ HB.out) hb)
         have n5_ := Aside0.mk (hbox)
         have n6_ := Aside0.mk ((by rw [hg]; exact (below_size (bU_ HB.out)) : w.heap.size ≤ gb128))
         have n7_ := Aside0.mk ((by rw [hg]; exact (below_size (bU_ HB.out)) : w.heap.size ≤ gb128))
         have n8_ := Aside0.mk ((by rw [hg]; exact Nat.ne_of_lt (blk_lt (g := gb108) (o := .cells #[.string t102, .string t103, .int .i64 t104, .int .i64 t105, .int .i64 t106] 23 (0, 0)) (by (with_reducible repeat first | apply pN_ | apply pD_ | apply pA_); exact BK108.out)) : gb108 ≠ gb128))
         have n9_ := Aside0.mk ((by rw [hg]; exact Nat.ne_of_gt (blk_lt (g := gb108) (o := .cells #[.string t102, .string t103, .int .i64 t104, .int .i64 t105, .int .i64 t106] 23 (0, 0)) (by (with_reducible repeat first | apply pN_ | apply pD_ | apply pA_); exact BK108.out)) : gb128 ≠ gb108))
         have n10_ := Aside0.mk ((by rw [hg]; exact Nat.ne_of_lt (blk_lt (g := gb117) (o := .cells #[.string t109, .string t110, .slice Ao20 t111.length co20, .int .i64 t114] 41 (0, 0)) (by (with_reducible repeat first | apply pN_ | apply pD_ | apply pA_); exact BK117.out)) : gb117 ≠ gb128))
         have n11_ := Aside0.mk ((by rw [hg]; exact Nat.ne_of_gt (blk_lt (g := gb117) (o := .cells #[.string t109, .string t110, .slice Ao20 t111.length co20, .int .i64 t114] 41 (0, 0)) (by (with_reducible repeat first | apply pN_ | apply pD_ | apply pA_); exact BK117.out)) : gb128 ≠ gb117))
         clear HO_118002
         clear HO121
         clear BK108
         clear BK117
         clear HB
         have HO_118002 := n0_
         have HO121 := n1_
         have BK108 := n2_
         have BK117 := n3_
         have HB := n4_
         have BK128 := n5_
         have GW128 := n6_
         have GE128 := n7_
         have NB108_128 := n8_
         have NB128_108 := n9_
         have NB117_128 := n10_
         have NB128_117 := n11_
         clear n0_ n1_ n2_ n3_ n4_ n5_ n6_ n7_ n8_ n9_ n10_ n11_
         clear hb hbox hg
         refine hK.out _ _ trivial (fun hHeld => ?_)
         clear hK K
         refine norm_ (a' := ?_) ?_ ?_
         rotate_left
         ·show Act.put _ (some 13) _ = _
          simp only [Act.put, List.setIfInBounds_toArray, List.set_cons_zero, List.set_cons_succ, i64_w, i32_w]
          rfl
         refine one_ (i := 9) (N := some 66) #[true, true, true, true, true, true, true, true, true, true, false, false, false, true, false, false] rfl rfl (one_of HT_.out (by kernel_rfl)) (by decide) (fun K hK => ?_)
         refine goes_ Try.func18 (by kernel_rfl) rfl #[.string ((((a0.extract 0 12) ++ (strOfNums y119)) ++ (a0.extract 12 a0.size)) ++ a2)] (by rfl) rfl rfl (by (try simp only [List.map_toArray, List.map_cons, List.map_nil]); first | done | rfl | (simp only [List.length_drop, List.length_take]; rfl) | (simp only [ByteArray.size_append, ByteArray.size_extract, Nat.sub_zero, Int.natCast_add]; rfl) | (simp [ByteArray.size_append]; done)) ?_
         with_reducible refine (flow_Extract.calls kj11 ((((a0.extract 0 12) ++ (strOfNums y119)) ++ (a0.extract 12 a0.size)) ++ a2) t122 t123 t124 t125 t126 t127 _ A33.out).mono ?_
         rintro e w42 ⟨rfl, hb⟩
         refine ⟨_, rfl, ?_⟩
         have n0_ := Aside0.mk (Kd.R_below (by (with_reducible repeat first | apply Kd.R_alloc | apply Kd.R_drewN | apply Kd.R_drew); exact HO_118002.out) hb)
         have n1_ := Aside0.mk (Kd.R_below (by (with_reducible repeat first | apply Kd.R_alloc | apply Kd.R_drewN | apply Kd.R_drew); exact HO121.out) hb)
         have n2_ := Aside0.mk (blk_below (g := gb108) (o := .cells #[.string t102, .string t103, .int .i64 t104, .int .i64 t105, .int .i64 t106] 23 (0, 0)) (by (with_reducible repeat first | apply pN_ | apply pD_ | apply pA_); exact BK108.out) hb)
         have n3_ := Aside0.mk (blk_below (g := gb117) (o := .cells #[.string t109, .string t110, .slice Ao20 t111.length co20, .int .i64 t114] 41 (0, 0)) (by (with_reducible repeat first | apply pN_ | apply pD_ | apply pA_); exact BK117.out) hb)
         have n4_ := Aside0.mk (blk_below (g := gb128) (o := .cells #[.string (⟨#[]⟩ : ByteArray), .string (⟨#[]⟩ : ByteArray), .int .i64 0, .int .i64 0, .int .i64 0] 23 (0, 0)) (by (with_reducible repeat first | apply pN_ | apply pD_ | apply pA_); exact BK128.out) hb)
         have n5_ := Aside0.mk (below_step (bU_ HB.out) hb)
         clear HO_118002
         clear HO121
         clear BK108
         clear BK117
         clear BK128
         clear HB
         have HO_118002 := n0_
         have HO121 := n1_
         have BK108 := n2_
         have BK117 := n3_
         have BK128 := n4_
         have HB := n5_
         clear n0_ n1_ n2_ n3_ n4_ n5_
         (try clear hb)
         (try clear hb2)
         (try clear hk)
         (try clear hi)
         refine hK.out _ _ trivial (fun hHeld => ?_)
         clear hK K
         refine norm_ (a' := ?_) ?_ ?_
         rotate_left
         ·show Act.put _ (some 66) _ = _
          simp only [Act.put, List.setIfInBounds_toArray, List.set_cons_zero, List.set_cons_succ, i64_w, i32_w]
          rfl
         refine pure_ (i := 10) (N := some 56) (v := ?_) (a' := ?_) #[true, true, true, true, true, true, true, true, true, true, true, false, false, true, false, false] rfl rfl (any_of HT_.out (by kernel_rfl)) (fun _ _ _ h => h) (Or.inl ⟨by rfl, ?_⟩) ?_ ?_
         rotate_left
         ·intro w'
          go_simp
          with_reducible rfl
         rotate_left
         ·simp only [Act.put, List.setIfInBounds_toArray, List.set_cons_zero, List.set_cons_succ, i64_w, i32_w]
          rfl
         refine pure_ (i := 11) (N := some 67) (v := ?_) (a' := ?_) #[true, true, true, true, true, true, true, true, true, true, true, true, false, true, false, false] rfl rfl (any_of HT_.out (by kernel_rfl)) (fun _ _ _ h => h) (Or.inl ⟨by rfl, ?_⟩) ?_ ?_
         rotate_left
         ·intro w'
          go_simp
          with_reducible rfl
         rotate_left
         ·simp only [Act.put, List.setIfInBounds_toArray, List.set_cons_zero, List.set_cons_succ, i64_w, i32_w]
          rfl
         refine pure_ (i := 12) (N := some 68) (v := ?_) (a' := ?_) #[true, true, true, true, true, true, true, true, true, true, true, true, true, true, false, false] rfl rfl (any_of HT_.out (by kernel_rfl)) (fun _ _ _ h => h) (Or.inl ⟨by rfl, ?_⟩) ?_ ?_
         rotate_left
         ·intro w'
          go_simp
          with_reducible rfl
         rotate_left
         ·simp only [Act.put, List.setIfInBounds_toArray, List.set_cons_zero, List.set_cons_succ, i64_w, i32_w]
          rfl
         exact norm_ (by simp only [putAll, Act.put, List.setIfInBounds_toArray, List.set_cons_zero, List.set_cons_succ]) (hCont (gb128) _ ⟨(by (with_reducible repeat first | apply Kd.R_alloc | apply Kd.R_drewN | apply Kd.R_drew); exact HO121.out), (by (with_reducible repeat first | apply Kd.R_alloc | apply Kd.R_drewN | apply Kd.R_drew); exact HO_118002.out), (by (with_reducible repeat first | apply pN_ | apply pD_ | apply pA_); exact BK108.out), (by (with_reducible repeat first | apply pN_ | apply pD_ | apply pA_); exact BK117.out), (by (with_reducible repeat first | apply pN_ | apply pD_ | apply pA_); exact BK128.out), GW128.out, GE128.out, NB108_128.out, NB128_108.out, NB117_128.out, NB128_117.out, (bU_ HB.out)⟩)
       rintro gb128 w43 ⟨h0_, h1_, h2_, h3_, h4_, h5_, h6_, h7_, h8_, h9_, h10_, h11_⟩
       have n0_ : Aside0 (Kd.R (Kd.int .u8) 5 w43 w.heap.size (fun _ => True) v120 y119) := ⟨h0_⟩
       have n1_ : Aside0 (Kd.R k81 81 w43 w.heap.size (fun _ => True) (.slice Ao20 t111.length co20) t111) := ⟨h1_⟩
       have n2_ : Aside0 (w43.heap[gb108]? = some (.cells #[.string t102, .string t103, .int .i64 t104, .int .i64 t105, .int .i64 t106] 23 (0, 0))) := ⟨h2_⟩
       have n3_ : Aside0 (w43.heap[gb117]? = some (.cells #[.string t109, .string t110, .slice Ao20 t111.length co20, .int .i64 t114] 41 (0, 0))) := ⟨h3_⟩
       have n4_ : Aside0 (w43.heap[gb128]? = some (.cells #[.string (⟨#[]⟩ : ByteArray), .string (⟨#[]⟩ : ByteArray), .int .i64 0, .int .i64 0, .int .i64 0] 23 (0, 0))) := ⟨h4_⟩
       have n5_ : Aside0 (w.heap.size ≤ gb128) := ⟨h5_⟩
       have n6_ : Aside0 (w.heap.size ≤ gb128) := ⟨h6_⟩
       have n7_ : Aside0 (gb108 ≠ gb128) := ⟨h7_⟩
       have n8_ : Aside0 (gb128 ≠ gb108) := ⟨h8_⟩
       have n9_ : Aside0 (gb117 ≠ gb128) := ⟨h9_⟩
       have n10_ : Aside0 (gb128 ≠ gb117) := ⟨h10_⟩
       have n11_ : Aside0 (Below w.heap.size w w43) := ⟨h11_⟩
       clear HO_118002
       clear HO121
       clear BK108
       clear BK117
       clear HB
       clear h0_ h1_ h2_ h3_ h4_ h5_ h6_ h7_ h8_ h9_ h10_ h11_
       have HO121 := n0_
       have HO_118002 := n1_
       have BK108 := n2_
       have BK117 := n3_
       have BK128 := n4_
       have GW128 := n5_
       have GE128 := n6_
       have NB108_128 := n7_
       have NB128_108 := n8_
       have NB117_128 := n9_
       have NB128_117 := n10_
       have HB := n11_
       clear n0_ n1_ n2_ n3_ n4_ n5_ n6_ n7_ n8_ n9_ n10_ n11_
       have hHeld := trivial
       refine norm_ (a' := ?_) ?_ ?_
       rotate_left
       ·simp only [putAll, Act.put, List.setIfInBounds_toArray, List.set_cons_zero, List.set_cons_succ]
        rfl
       refine one_ (i := 14) (N := none) #[true, true, true, true, true, true, true, true, true, true, true, true, true, true, true, false] rfl rfl (one_of HT_.out (by kernel_rfl)) (by decide) (fun K hK => ?_)
       have hs44 : w43.cell? ⟨gb128, 0, none⟩ = some (.string (⟨#[]⟩ : ByteArray)) := (blk_cell BK128.out 0).trans rfl
       have hfs44 := blk_frozen BK128.out 0
       have hns44_0 := NB108_128.out
       have hns44_1 := NB117_128.out
       have hms44_0 := NB128_108.out
       have hms44_1 := NB128_117.out
       have hs45 : w43.cell? ⟨gb128, 1, none⟩ = some (.string (⟨#[]⟩ : ByteArray)) := (blk_cell BK128.out 1).trans rfl
       have hfs45 := blk_frozen BK128.out 1
       have hns45_0 := NB108_128.out
       have hns45_1 := NB117_128.out
       have hms45_0 := NB128_108.out
       have hms45_1 := NB128_117.out
       have hs46 : w43.cell? ⟨gb128, 2, none⟩ = some (.int .i64 0) := (blk_cell BK128.out 2).trans rfl
       have hfs46 := blk_frozen BK128.out 2
       have hns46_0 := NB108_128.out
       have hns46_1 := NB117_128.out
       have hms46_0 := NB128_108.out
       have hms46_1 := NB128_117.out
       have hs47 : w43.cell? ⟨gb128, 3, none⟩ = some (.int .i64 0) := (blk_cell BK128.out 3).trans rfl
       have hfs47 := blk_frozen BK128.out 3
       have hns47_0 := NB108_128.out
       have hns47_1 := NB117_128.out
       have hms47_0 := NB128_108.out
       have hms47_1 := NB128_117.out
       have hs48 : w43.cell? ⟨gb128, 4, none⟩ = some (.int .i64 0) := (blk_cell BK128.out 4).trans rfl
       have hfs48 := blk_frozen BK128.out 4
       have hns48_0 := NB108_128.out
       have hns48_1 := NB117_128.out
       have hms48_0 := NB128_108.out
       have hms48_1 := NB128_117.out
       refine skip_ (w1 := ?_) (by rfl) rfl ?_ ?_
       rotate_left
       ·go_simp
        rfl
       refine hK.out _ _ trivial (fun hHeld => ?_)
       clear hK K
       refine pure_ (i := 15) (N := some 14) (v := ?_) (a' := ?_) #[true, true, true, true, true, true, true, true, true, true, true, true, true, true, true, true] rfl rfl (any_of HT_.out (by kernel_rfl)) (fun _ _ _ h => h) (Or.inl ⟨by rfl, ?_⟩) ?_ ?_
       rotate_left
       ·intro w'
        go_simp
        with_reducible rfl
       rotate_left
       ·simp only [Act.put, List.setIfInBounds_toArray, List.set_cons_zero, List.set_cons_succ, i64_w, i32_w]
        rfl
       refine done_ (done_of HT_.out (by kernel_rfl)) ?_
       have hnb49 := NB128_108.out
       have hnc49 := NB108_128.out
       have hnb50 := NB128_117.out
       have hnc50 := NB117_128.out
       have hcz51_0 : w43.cell? ⟨gb128, 0, none⟩ = some (.string (⟨#[]⟩ : ByteArray)) := (blk_cell BK128.out 0).trans rfl
       have hcz51_1 : w43.cell? ⟨gb128, 1, none⟩ = some (.string (⟨#[]⟩ : ByteArray)) := (blk_cell BK128.out 1).trans rfl
       have hcz51_2 : w43.cell? ⟨gb128, 2, none⟩ = some (.int .i64 0) := (blk_cell BK128.out 2).trans rfl
       have hcz51_3 : w43.cell? ⟨gb128, 3, none⟩ = some (.int .i64 0) := (blk_cell BK128.out 3).trans rfl
       have hcz51_4 : w43.cell? ⟨gb128, 4, none⟩ = some (.int .i64 0) := (blk_cell BK128.out 4).trans rfl
       have hfz51_0 := blk_frozen BK128.out 0
       have hfz51_1 := blk_frozen BK128.out 1
       have hfz51_2 := blk_frozen BK128.out 2
       have hfz51_3 := blk_frozen BK128.out 3
       have hfz51_4 := blk_frozen BK128.out 4
       have hnb52 := NB108_117.out
       have hnc52 := NB117_108.out
       have hcz53_0 : w43.cell? ⟨gb108, 0, none⟩ = some (.string t102) := (blk_cell BK108.out 0).trans rfl
       have hcz53_1 : w43.cell? ⟨gb108, 1, none⟩ = some (.string t103) := (blk_cell BK108.out 1).trans rfl
       have hcz53_2 : w43.cell? ⟨gb108, 2, none⟩ = some (.int .i64 t104) := (blk_cell BK108.out 2).trans rfl
       have hcz53_3 : w43.cell? ⟨gb108, 3, none⟩ = some (.int .i64 t105) := (blk_cell BK108.out 3).trans rfl
       have hcz53_4 : w43.cell? ⟨gb108, 4, none⟩ = some (.int .i64 t106) := (blk_cell BK108.out 4).trans rfl
       have hfz53_0 := blk_frozen BK108.out 0
       have hfz53_1 := blk_frozen BK108.out 1
       have hfz53_2 := blk_frozen BK108.out 2
       have hfz53_3 := blk_frozen BK108.out 3
       have hfz53_4 := blk_frozen BK108.out 4
       try go_wp2_with (first | (go_at_call 12; (with_reducible refine (rillmeterlaw09_awake.calls kj11  t129 _ hrt A36.out).mono ?_); rintro e w54 ⟨rfl, hb⟩; have n0_ := Aside0.mk (Kd.R_below (by (with_reducible repeat first | apply Kd.R_alloc | apply Kd.R_drewN | apply Kd.R_drew); exact (Kd.R_mono (Kd.R_far (p := ⟨gb128, 4, none⟩) (Kd.R_far (p := ⟨gb128, 3, none⟩) (Kd.R_far (p := ⟨gb128, 2, none⟩) (Kd.R_far (p := ⟨gb128, 1, none⟩) (Kd.R_far (p := ⟨gb128, 0, none⟩) (Kd.R_types HO_118002.out BK128.out (by decide)) (fun _ hk => hk.2) (.string t122)) (fun _ hk => hk.2) (.string t123)) (fun _ hk => hk.2) (.int .i64 t124)) (fun _ hk => hk.2) (.int .i64 t125)) (fun _ hk => hk.2) (.int .i64 t126)) (fun _ h_ => h_.1))) hb); have n1_ := Aside0.mk (Kd.R_below (by (with_reducible repeat first | apply Kd.R_alloc | apply Kd.R_drewN | apply Kd.R_drew); exact (Kd.R_mono (Kd.R_far (p := ⟨gb128, 4, none⟩) (Kd.R_far (p := ⟨gb128, 3, none⟩) (Kd.R_far (p := ⟨gb128, 2, none⟩) (Kd.R_far (p := ⟨gb128, 1, none⟩) (Kd.R_far (p := ⟨gb128, 0, none⟩) (Kd.R_types HO121.out BK128.out (by decide)) (fun _ hk => hk.2) (.string t122)) (fun _ hk => hk.2) (.string t123)) (fun _ hk => hk.2) (.int .i64 t124)) (fun _ hk => hk.2) (.int .i64 t125)) (fun _ hk => hk.2) (.int .i64 t126)) (fun _ h_ => h_.1))) hb); have n2_ := Aside0.mk (blk_below (g := gb108) (o := .cells #[.string t102, .string t103, .int .i64 t104, .int .i64 t105, .int .i64 t106] 23 (0, 0)) (by (with_reducible repeat first | apply pN_ | apply pD_ | apply pA_); refine blk_far ?_ NB108_128.out _; (with_reducible repeat first | apply pN_ | apply pD_ | apply pA_); refine blk_far ?_ NB108_128.out _; (with_reducible repeat first | apply pN_ | apply pD_ | apply pA_); refine blk_far ?_ NB108_128.out _; (with_reducible repeat first | apply pN_ | apply pD_ | apply pA_); refine blk_far ?_ NB108_128.out _; (with_reducible repeat first | apply pN_ | apply pD_ | apply pA_); refine blk_far ?_ NB108_128.out _; (with_reducible repeat first | apply pN_ | apply pD_ | apply pA_); exact BK108.out) hb); have n3_ := Aside0.mk (blk_below (g := gb117) (o := .cells #[.string t109, .string t110, .slice Ao20 t111.length co20, .int .i64 t114] 41 (0, 0)) (by (with_reducible repeat first | apply pN_ | apply pD_ | apply pA_); refine blk_far ?_ NB117_128.out _; (with_reducible repeat first | apply pN_ | apply pD_ | apply pA_); refine blk_far ?_ NB117_128.out _; (with_reducible repeat first | apply pN_ | apply pD_ | apply pA_); refine blk_far ?_ NB117_128.out _; (with_reducible repeat first | apply pN_ | apply pD_ | apply pA_); refine blk_far ?_ NB117_128.out _; (with_reducible repeat first | apply pN_ | apply pD_ | apply pA_); refine blk_far ?_ NB117_128.out _; (with_reducible repeat first | apply pN_ | apply pD_ | apply pA_); exact BK117.out) hb); have n4_ := Aside0.mk (blk_below (g := gb128) (o := .cells #[.string t122, .string t123, .int .i64 t124, .int .i64 t125, .int .i64 t126] 23 (0, 0)) (by (with_reducible repeat first | apply pN_ | apply pD_ | apply pA_); refine blk_put (cs := #[.string t122, .string t123, .int .i64 t124, .int .i64 t125, .int .i64 0]) ?_ 4 _ rfl; (with_reducible repeat first | apply pN_ | apply pD_ | apply pA_); refine blk_put (cs := #[.string t122, .string t123, .int .i64 t124, .int .i64 0, .int .i64 0]) ?_ 3 _ rfl; (with_reducible repeat first | apply pN_ | apply pD_ | apply pA_); refine blk_put (cs := #[.string t122, .string t123, .int .i64 0, .int .i64 0, .int .i64 0]) ?_ 2 _ rfl; (with_reducible repeat first | apply pN_ | apply pD_ | apply pA_); refine blk_put (cs := #[.string t122, .string (⟨#[]⟩ : ByteArray), .int .i64 0, .int .i64 0, .int .i64 0]) ?_ 1 _ rfl; (with_reducible repeat first | apply pN_ | apply pD_ | apply pA_); refine blk_put (cs := #[.string (⟨#[]⟩ : ByteArray), .string (⟨#[]⟩ : ByteArray), .int .i64 0, .int .i64 0, .int .i64 0]) ?_ 0 _ rfl; (with_reducible repeat first | apply pN_ | apply pD_ | apply pA_); exact BK128.out) hb); have n5_ := Aside0.mk (below_step (bU_ HB.out) hb); clear HO_118002; clear HO121; clear BK108; clear BK117; clear BK128; clear HB; have HO_118002 := n0_; have HO121 := n1_; have BK108 := n2_; have BK117 := n3_; have BK128 := n4_; have HB := n5_; clear n0_ n1_ n2_ n3_ n4_ n5_; (try clear hb); (try clear hb2); (try clear hk); (try clear hi)))
       go_ret
       exact ⟨by first | rfl | (simp [errW_none, errW_some] <;> rfl) | (simp [*, errW_none, errW_some] <;> rfl), bU_ HB.out⟩

/-- THE ONE PURE STATEMENT of rillmeterlaw09_FlowTags: yours. -/
def rillmeterlaw09_FlowTags.Pure : Prop := ∀ (a0 : ByteArray) (a1 : Int) (a2 : ByteArray), a0.size ≤ 140737488351232 → (Lit.int .u16 a1).wf = true → a2.size ≤ 140737488351232 → ∃ k, rillmeterlaw09_FlowTags.f k a0 a1 a2 = some true
theorem rillmeterlaw09_FlowTags.walk (P : rillmeterlaw09_FlowTags.Pure) (a0 : ByteArray) (a1 : Int) (a2 : ByteArray) (w : World) (w0 : a0.size ≤ 140737488351232) (w1 : (Lit.int .u16 a1).wf = true) (w2 : a2.size ≤ 140737488351232) :
  Calls Try.prog 6 #[.string a0, .int .u16 a1, .string a2] w fun e w' => e = .returned (.bool true) ∧ Below w.heap.size w w' := by
 obtain ⟨k, h⟩ := P a0 a1 a2 w0 w1 w2
 refine (rillmeterlaw09_FlowTags.calls k a0 a1 a2 true w (Aside0.mk rfl) h).mono ?_
 rintro e w' ⟨rfl, hd⟩
 exact ⟨rfl, hd⟩

end Go.Proofs.Ytfdhifigndmgaaa.Q
