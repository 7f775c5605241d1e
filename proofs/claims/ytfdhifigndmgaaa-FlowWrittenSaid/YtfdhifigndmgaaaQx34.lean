-- made by a program of this session (wip/print-patch.py, over the kit's print)
import Derived.Test.YtfdhifigndmgaaaQx0
import Derived.Test.YtfdhifigndmgaaaQx1
import Derived.Test.YtfdhifigndmgaaaQx2
import Derived.Test.YtfdhifigndmgaaaQx5
import Derived.Test.YtfdhifigndmgaaaQx8
import Derived.Test.YtfdhifigndmgaaaQx22
namespace Go.Proofs.Ytfdhifigndmgaaa.Q
open Go.RowKit Go.Proofs.YtfdhifigndmgaaaW.PrintWords Go.Proofs.YtfdhifigndmgaaaW.PrintLast Go.Proofs.YtfdhifigndmgaaaW.PrintMore
attribute [local go_sem] max2_int min2_int max_two min_two max_three min_three max_four min_four   -- for this text's walks alone
set_option linter.unusedVariables false
set_option linter.unusedSimpArgs false

attribute [local go_sem] cell_twice_ cell_twiceN_
abbrev Z34_0 : Array Value := #[.string ⟨#[]⟩, .string ⟨#[]⟩, .int .i64 0, .int .i64 0, .int .i64 0]
attribute [local go_sem high] eqA23
/-! ### rillmeterlaw09_FlowSound: function 7 -/
def rillmeterlaw09_FlowSound.f (k : Nat) (a0 : ByteArray) : Option (Bool) := if (a0.size : Int) > 4096 then ((rillmeterlaw09_awake.f k).bind fun t101 => (some t101)) else ((flow_Extract.f k a0).bind fun bt102 => (if bt102.2.2.2.2.2 = 0 then ((flow_Right.f k bt102.1 bt102.2.1 bt102.2.2.1 bt102.2.2.2.1 bt102.2.2.2.2.1).bind fun t109 => (if t109 = true then (if (a0.size : Int) ≤ 2048 then ((rillmeterlaw09_awake.f k).bind fun t110 => (some t110)) else (some false)) else (some false))) else (if (bt102.1.toList == ([] : List UInt8) && (bt102.2.1.toList == ([] : List UInt8) && (bt102.2.2.1 == 0 && (bt102.2.2.2.1 == 0 && (bt102.2.2.2.2.1 == 0))))) = true then ((rillmeterlaw09_awake.f k).bind fun t111 => (some t111)) else (some false))))
theorem rillmeterlaw09_FlowSound.mono : ∀ a0 k, LeO (rillmeterlaw09_FlowSound.f k a0) (rillmeterlaw09_FlowSound.f (k + 1) a0) := by
 intro a0 k
 unfold rillmeterlaw09_FlowSound.f
 repeat' first
   | (with_reducible exact flow_Extract.mono _ _)
   | (with_reducible exact flow_Right.mono _ _ _ _ _ _)
   | (with_reducible exact rillmeterlaw09_awake.mono _)
   | (with_reducible exact LeO.refl _)
   | (with_reducible exact LeO.none _)
   | (with_reducible refine LeO.ite ?_ ?_)
   | (with_reducible refine LeO.bind ?_ (fun _ => ?_))
   | exact flow_Extract.mono _ _
   | exact flow_Right.mono _ _ _ _ _ _
   | exact rillmeterlaw09_awake.mono _
   | exact LeO.none _
   | refine LeO.ite ?_ ?_
   | refine LeO.bind ?_ (fun _ => ?_)
set_option maxHeartbeats 8000000 in
set_option maxRecDepth 100000 in
theorem rillmeterlaw09_FlowSound.calls (k : Nat) (a0 : ByteArray) (r : Bool) (w : World) (hrt : Aside0 (r = true)) (h : rillmeterlaw09_FlowSound.f k a0 = some r) :
  Calls Try.prog 7 #[.string a0] w fun e w' => e = .returned (.bool r) ∧ Below w.heap.size w w' := by
 have hu23 := Try.underlying23
 have HB := Aside0.mk (Below.refl w.heap.size w)
 have H : (if (a0.size : Int) > 4096 then ((rillmeterlaw09_awake.f k).bind fun t101 => (some t101)) else ((flow_Extract.f k a0).bind fun bt102 => (if bt102.2.2.2.2.2 = 0 then ((flow_Right.f k bt102.1 bt102.2.1 bt102.2.2.1 bt102.2.2.2.1 bt102.2.2.2.2.1).bind fun t109 => (if t109 = true then (if (a0.size : Int) ≤ 2048 then ((rillmeterlaw09_awake.f k).bind fun t110 => (some t110)) else (some false)) else (some false))) else (if (bt102.1.toList == ([] : List UInt8) && (bt102.2.1.toList == ([] : List UInt8) && (bt102.2.2.1 == 0 && (bt102.2.2.2.1 == 0 && (bt102.2.2.2.2.1 == 0))))) = true then ((rillmeterlaw09_awake.f k).bind fun t111 => (some t111)) else (some false))))) = some r := h
 clear h
 by_cases c2 : (a0.size : Int) > 4096
 ·rw [if_pos c2] at H
  have c2b0 : decide (4096 < (a0.size : Int)) = true := decide_eq_true c2
  have c2b1 : decide (4096 < a0.size) = true := decide_eq_true (by omega)
  clear c2
  replace H := Option.bind_eq_some_iff.mp H
  obtain ⟨t101, A30, H⟩ := H
  replace H : (some t101) = some r := H
  have A3 := Aside0.mk A30
  clear A30
  obtain rfl := Option.some.inj H
  go_enter Try.func7, Try.ntmps7
  go_wp2_with (first | ((with_reducible refine gate_callee (f := 12) rfl ?_); refine gL_ (some 8) rfl rfl Try.func12 (by kernel_rfl) rfl #[] rfl ?_; (with_reducible refine (rillmeterlaw09_awake.calls k  t101 _ hrt A3.out).mono ?_); rintro e w4 ⟨rfl, hb⟩; refine ⟨_, rfl, ?_⟩; have n0_ := Aside0.mk (below_step (bU_ HB.out) hb); clear HB; have HB := n0_; clear n0_; (try clear hb); (try clear hb2); (try clear hk); (try clear hi)))
  go_ret
  exact ⟨by first | rfl | (simp [errW_none, errW_some] <;> rfl) | (simp [*, errW_none, errW_some] <;> rfl), bU_ HB.out⟩
 ·rw [if_neg c2] at H
  have c2b0 : decide (4096 < (a0.size : Int)) = false := decide_eq_false c2
  have c2b1 : decide (4096 < a0.size) = false := decide_eq_false (by omega)
  clear c2
  replace H := Option.bind_eq_some_iff.mp H
  obtain ⟨⟨t102, t103, t104, t105, t106, t107⟩, A50, H⟩ := H
  replace H : (if t107 = 0 then ((flow_Right.f k t102 t103 t104 t105 t106).bind fun t109 => (if t109 = true then (if (a0.size : Int) ≤ 2048 then ((rillmeterlaw09_awake.f k).bind fun t110 => (some t110)) else (some false)) else (some false))) else (if (t102.toList == ([] : List UInt8) && (t103.toList == ([] : List UInt8) && (t104 == 0 && (t105 == 0 && (t106 == 0))))) = true then ((rillmeterlaw09_awake.f k).bind fun t111 => (some t111)) else (some false))) = some r := H
  have A5 := Aside0.mk A50
  clear A50
  by_cases c6 : t107 = 0
  ·rw [if_pos c6] at H
   have c6b0 : (t107 == 0) = true := beq_iff_eq.mpr c6
   have c6b1 : (t107 != 0) = false := bne_eq_false_iff_eq.mpr c6
   clear c6
   replace H := Option.bind_eq_some_iff.mp H
   obtain ⟨t109, A70, H⟩ := H
   replace H : (if t109 = true then (if (a0.size : Int) ≤ 2048 then ((rillmeterlaw09_awake.f k).bind fun t110 => (some t110)) else (some false)) else (some false)) = some r := H
   have A7 := Aside0.mk A70
   clear A70
   by_cases c8 : t109 = true
   ·subst c8
    have H1 : (if (a0.size : Int) ≤ 2048 then ((rillmeterlaw09_awake.f k).bind fun t110 => (some t110)) else (some false)) = some r := by rw [if_pos rfl] at H; exact H
    clear H
    have H := H1
    clear H1
    by_cases c9 : (a0.size : Int) ≤ 2048
    rotate_left
    ·rw [if_neg c9] at H
     obtain rfl := Option.some.inj H
     exact absurd hrt.out (by decide)
    rw [if_pos c9] at H
    have c9b0 : decide ((a0.size : Int) ≤ 2048) = true := decide_eq_true c9
    have c9b1 : decide (a0.size ≤ 2048) = true := decide_eq_true (by omega)
    clear c9
    replace H := Option.bind_eq_some_iff.mp H
    obtain ⟨t110, A100, H⟩ := H
    replace H : (some t110) = some r := H
    have A10 := Aside0.mk A100
    clear A100
    obtain rfl := Option.some.inj H
    go_enter Try.func7, Try.ntmps7
    go_wp2_with (first | ((with_reducible refine gate_callee (f := 18) rfl ?_); refine gL_ (some 11) rfl rfl Try.func18 (by kernel_rfl) rfl #[.string a0] rfl ?_; (with_reducible refine (flow_Extract.calls k a0 t102 t103 t104 t105 t106 t107 _ A5.out).mono ?_); rintro e w11 ⟨rfl, hb⟩; refine ⟨_, rfl, ?_⟩; have n0_ := Aside0.mk (below_step (bU_ HB.out) hb); clear HB; have HB := n0_; clear n0_; (try clear hb); (try clear hb2); (try clear hk); (try clear hi)) | ((with_reducible refine gate_dst (N := 3) rfl ?_); (try (refine gate_guard (by rfl) ?_; dsimp only)); refine box_event ?hg (N := 3) ?hd (cs := Z34_0) (t := 23) ?hr ?_; (case hd => rfl); (case hg => rfl); (case hr => first | (go_simp; done) | (go_simp; rfl)); intro gb108 hg w12 hbox hb; have n0_ := Aside0.mk (below_step (bU_ HB.out) hb); have n1_ := Aside0.mk (hbox); have n2_ := Aside0.mk ((by rw [hg]; exact (below_size (bU_ HB.out)) : w.heap.size ≤ gb108)); have n3_ := Aside0.mk ((by rw [hg]; exact (below_size (bU_ HB.out)) : w.heap.size ≤ gb108)); clear HB; have HB := n0_; have BK108 := n1_; have GW108 := n2_; have GE108 := n3_; clear n0_ n1_ n2_ n3_; clear hb hbox hg; have hcz13_0 : w12.cell? ⟨gb108, 0, none⟩ = some (.string ⟨#[]⟩) := (blk_cell BK108.out 0).trans rfl; have hcz13_1 : w12.cell? ⟨gb108, 1, none⟩ = some (.string ⟨#[]⟩) := (blk_cell BK108.out 1).trans rfl; have hcz13_2 : w12.cell? ⟨gb108, 2, none⟩ = some (.int .i64 0) := (blk_cell BK108.out 2).trans rfl; have hcz13_3 : w12.cell? ⟨gb108, 3, none⟩ = some (.int .i64 0) := (blk_cell BK108.out 3).trans rfl; have hcz13_4 : w12.cell? ⟨gb108, 4, none⟩ = some (.int .i64 0) := (blk_cell BK108.out 4).trans rfl; have hfz13_0 := blk_frozen BK108.out 0; have hfz13_1 := blk_frozen BK108.out 1; have hfz13_2 := blk_frozen BK108.out 2; have hfz13_3 := blk_frozen BK108.out 3; have hfz13_4 := blk_frozen BK108.out 4) | ((with_reducible refine gate_callee (f := 11) rfl ?_); refine gL_ (some 23) rfl rfl Try.func11 (by kernel_rfl) rfl #[.agg #[.string t102, .string t103, .int .i64 t104, .int .i64 t105, .int .i64 t106]] rfl ?_; (with_reducible refine (flow_Right.calls k t102 t103 t104 t105 t106 true _ A7.out).mono ?_); rintro e w14 ⟨rfl, hb⟩; refine ⟨_, rfl, ?_⟩; have n0_ := Aside0.mk (blk_below (g := gb108) (o := .cells #[.string t102, .string t103, .int .i64 t104, .int .i64 t105, .int .i64 t106] 23 (0, 0)) (by (with_reducible repeat first | apply pN_ | apply pD_ | apply pA_); refine blk_put (cs := #[.string t102, .string t103, .int .i64 t104, .int .i64 t105, .int .i64 0]) ?_ 4 _ rfl; (with_reducible repeat first | apply pN_ | apply pD_ | apply pA_); refine blk_put (cs := #[.string t102, .string t103, .int .i64 t104, .int .i64 0, .int .i64 0]) ?_ 3 _ rfl; (with_reducible repeat first | apply pN_ | apply pD_ | apply pA_); refine blk_put (cs := #[.string t102, .string t103, .int .i64 0, .int .i64 0, .int .i64 0]) ?_ 2 _ rfl; (with_reducible repeat first | apply pN_ | apply pD_ | apply pA_); refine blk_put (cs := #[.string t102, .string ⟨#[]⟩, .int .i64 0, .int .i64 0, .int .i64 0]) ?_ 1 _ rfl; (with_reducible repeat first | apply pN_ | apply pD_ | apply pA_); refine blk_put (cs := Z34_0) ?_ 0 _ rfl; (with_reducible repeat first | apply pN_ | apply pD_ | apply pA_); exact BK108.out) hb); have n1_ := Aside0.mk (below_step (bU_ HB.out) hb); clear BK108 HB; have BK108 := n0_; have HB := n1_; clear n0_ n1_; (try clear hb); (try clear hb2); (try clear hk); (try clear hi)) | (go_at_call 12; (with_reducible refine (rillmeterlaw09_awake.calls k  t110 _ hrt A10.out).mono ?_); rintro e w15 ⟨rfl, hb⟩; have n0_ := Aside0.mk (blk_below (g := gb108) (o := .cells #[.string t102, .string t103, .int .i64 t104, .int .i64 t105, .int .i64 t106] 23 (0, 0)) (by (with_reducible repeat first | apply pN_ | apply pD_ | apply pA_); exact BK108.out) hb); have n1_ := Aside0.mk (below_step (bU_ HB.out) hb); clear BK108 HB; have BK108 := n0_; have HB := n1_; clear n0_ n1_; (try clear hb); (try clear hb2); (try clear hk); (try clear hi)))
    go_ret
    exact ⟨by first | rfl | (simp [errW_none, errW_some] <;> rfl) | (simp [*, errW_none, errW_some] <;> rfl), bU_ HB.out⟩
   ·replace c8 := Bool.eq_false_iff.mpr c8
    subst c8
    have H1 : (some false) = some r := by rw [if_neg (show ¬ (false = true) by decide)] at H; exact H
    clear H
    have H := H1
    clear H1
    obtain rfl := Option.some.inj H
    exact absurd hrt.out (by decide)
  ·rw [if_neg c6] at H
   have c6b0 : (t107 == 0) = false := beq_eq_false_iff_ne.mpr c6
   have c6b1 : (t107 != 0) = true := bne_iff_ne.mpr c6
   by_cases c16 : (t102.toList == ([] : List UInt8) && (t103.toList == ([] : List UInt8) && (t104 == 0 && (t105 == 0 && (t106 == 0))))) = true
   rotate_left
   ·rw [if_neg c16] at H
    obtain rfl := Option.some.inj H
    exact absurd hrt.out (by decide)
   rw [if_pos c16] at H
   have c16b0 : (t102.toList == ([] : List UInt8) && (t103.toList == ([] : List UInt8) && (t104 == 0 && (t105 == 0 && (t106 == 0))))) = true := c16
   have c16b1 : (t102.toList == ([] : List UInt8)) = true := by have h_ := c16; simp only [Bool.and_eq_true] at h_; exact h_.1
   have c16b2 : (t103.toList == ([] : List UInt8)) = true := by have h_ := c16; simp only [Bool.and_eq_true] at h_; exact h_.2.1
   have c16b3 : (t104 == 0) = true := by have h_ := c16; simp only [Bool.and_eq_true] at h_; exact h_.2.2.1
   have c16b4 : (t105 == 0) = true := by have h_ := c16; simp only [Bool.and_eq_true] at h_; exact h_.2.2.2.1
   have c16b5 : (t106 == 0) = true := by have h_ := c16; simp only [Bool.and_eq_true] at h_; exact h_.2.2.2.2
   clear c16
   replace H := Option.bind_eq_some_iff.mp H
   obtain ⟨t111, A170, H⟩ := H
   replace H : (some t111) = some r := H
   have A17 := Aside0.mk A170
   clear A170
   obtain rfl := Option.some.inj H
   go_enter Try.func7, Try.ntmps7
   go_wp2_with (first | ((with_reducible refine gate_callee (f := 18) rfl ?_); refine gL_ (some 11) rfl rfl Try.func18 (by kernel_rfl) rfl #[.string a0] rfl ?_; (with_reducible refine (flow_Extract.calls k a0 t102 t103 t104 t105 t106 t107 _ A5.out).mono ?_); rintro e w18 ⟨rfl, hb⟩; refine ⟨_, rfl, ?_⟩; have n0_ := Aside0.mk (below_step (bU_ HB.out) hb); clear HB; have HB := n0_; clear n0_; (try clear hb); (try clear hb2); (try clear hk); (try clear hi)) | ((with_reducible refine gate_dst (N := 3) rfl ?_); (try (refine gate_guard (by rfl) ?_; dsimp only)); refine box_event ?hg (N := 3) ?hd (cs := Z34_0) (t := 23) ?hr ?_; (case hd => rfl); (case hg => rfl); (case hr => first | (go_simp; done) | (go_simp; rfl)); intro gb108 hg w19 hbox hb; have n0_ := Aside0.mk (below_step (bU_ HB.out) hb); have n1_ := Aside0.mk (hbox); have n2_ := Aside0.mk ((by rw [hg]; exact (below_size (bU_ HB.out)) : w.heap.size ≤ gb108)); have n3_ := Aside0.mk ((by rw [hg]; exact (below_size (bU_ HB.out)) : w.heap.size ≤ gb108)); clear HB; have HB := n0_; have BK108 := n1_; have GW108 := n2_; have GE108 := n3_; clear n0_ n1_ n2_ n3_; clear hb hbox hg; have hcz20_0 : w19.cell? ⟨gb108, 0, none⟩ = some (.string ⟨#[]⟩) := (blk_cell BK108.out 0).trans rfl; have hcz20_1 : w19.cell? ⟨gb108, 1, none⟩ = some (.string ⟨#[]⟩) := (blk_cell BK108.out 1).trans rfl; have hcz20_2 : w19.cell? ⟨gb108, 2, none⟩ = some (.int .i64 0) := (blk_cell BK108.out 2).trans rfl; have hcz20_3 : w19.cell? ⟨gb108, 3, none⟩ = some (.int .i64 0) := (blk_cell BK108.out 3).trans rfl; have hcz20_4 : w19.cell? ⟨gb108, 4, none⟩ = some (.int .i64 0) := (blk_cell BK108.out 4).trans rfl; have hfz20_0 := blk_frozen BK108.out 0; have hfz20_1 := blk_frozen BK108.out 1; have hfz20_2 := blk_frozen BK108.out 2; have hfz20_3 := blk_frozen BK108.out 3; have hfz20_4 := blk_frozen BK108.out 4) | (go_at_call 12; (with_reducible refine (rillmeterlaw09_awake.calls k  t111 _ hrt A17.out).mono ?_); rintro e w21 ⟨rfl, hb⟩; have n0_ := Aside0.mk (blk_below (g := gb108) (o := .cells #[.string t102, .string t103, .int .i64 t104, .int .i64 t105, .int .i64 t106] 23 (0, 0)) (by (with_reducible repeat first | apply pN_ | apply pD_ | apply pA_); refine blk_put (cs := #[.string t102, .string t103, .int .i64 t104, .int .i64 t105, .int .i64 0]) ?_ 4 _ rfl; (with_reducible repeat first | apply pN_ | apply pD_ | apply pA_); refine blk_put (cs := #[.string t102, .string t103, .int .i64 t104, .int .i64 0, .int .i64 0]) ?_ 3 _ rfl; (with_reducible repeat first | apply pN_ | apply pD_ | apply pA_); refine blk_put (cs := #[.string t102, .string t103, .int .i64 0, .int .i64 0, .int .i64 0]) ?_ 2 _ rfl; (with_reducible repeat first | apply pN_ | apply pD_ | apply pA_); refine blk_put (cs := #[.string t102, .string ⟨#[]⟩, .int .i64 0, .int .i64 0, .int .i64 0]) ?_ 1 _ rfl; (with_reducible repeat first | apply pN_ | apply pD_ | apply pA_); refine blk_put (cs := Z34_0) ?_ 0 _ rfl; (with_reducible repeat first | apply pN_ | apply pD_ | apply pA_); exact BK108.out) hb); have n1_ := Aside0.mk (below_step (bU_ HB.out) hb); clear BK108 HB; have BK108 := n0_; have HB := n1_; clear n0_ n1_; (try clear hb); (try clear hb2); (try clear hk); (try clear hi)))
   go_ret
   exact ⟨by first | rfl | (simp [errW_none, errW_some] <;> rfl) | (simp [*, errW_none, errW_some] <;> rfl), bU_ HB.out⟩

/-- THE ONE PURE STATEMENT of rillmeterlaw09_FlowSound: yours. -/
def rillmeterlaw09_FlowSound.Pure : Prop := ∀ (a0 : ByteArray), a0.size ≤ 140737488351232 → ∃ k, rillmeterlaw09_FlowSound.f k a0 = some true
theorem rillmeterlaw09_FlowSound.walk (P : rillmeterlaw09_FlowSound.Pure) (a0 : ByteArray) (w : World) (w0 : a0.size ≤ 140737488351232) :
  Calls Try.prog 7 #[.string a0] w fun e w' => e = .returned (.bool true) ∧ Below w.heap.size w w' := by
 obtain ⟨k, h⟩ := P a0 w0
 refine (rillmeterlaw09_FlowSound.calls k a0 true w (Aside0.mk rfl) h).mono ?_
 rintro e w' ⟨rfl, hd⟩
 exact ⟨rfl, hd⟩
/-! ### port_ports: function 35 -/
def port_ports.f (k : Nat) (a0 : Int) (a1 : Int) : Option (ByteArray × Int) := (octet_Put.f k a0 2).bind fun bt101 => ((octet_Put.f k a1 2).bind fun bt103 => (if bt101.1.size + bt103.1.size ≤ 9223372036854775807 then (some (bt101.1 ++ bt103.1, mx bt101.2 bt103.2)) else (none)))
theorem port_ports.mono : ∀ a0 a1 k, LeO (port_ports.f k a0 a1) (port_ports.f (k + 1) a0 a1) := by
 intro a0 a1 k
 unfold port_ports.f
 repeat' first
   | (with_reducible exact octet_Put.mono _ _ _)
   | (with_reducible exact LeO.refl _)
   | (with_reducible exact LeO.none _)
   | (with_reducible refine LeO.ite ?_ ?_)
   | (with_reducible refine LeO.bind ?_ (fun _ => ?_))
   | exact octet_Put.mono _ _ _
   | exact LeO.none _
   | refine LeO.ite ?_ ?_
   | refine LeO.bind ?_ (fun _ => ?_)
set_option maxHeartbeats 8000000 in
set_option maxRecDepth 100000 in
theorem port_ports.calls (k : Nat) (a0 : Int) (a1 : Int) (r1 : ByteArray) (r2 : Int) (w : World) (h : port_ports.f k a0 a1 = some (r1, r2)) :
  Calls Try.prog 35 #[.int .i64 a0, .int .i64 a1] w fun e w' => e = .returned (.tuple #[.string r1, .int .i64 r2]) ∧ Below w.heap.size w w' := by
 have HB := Aside0.mk (Below.refl w.heap.size w)
 have H : ((octet_Put.f k a0 2).bind fun bt101 => ((octet_Put.f k a1 2).bind fun bt103 => (if bt101.1.size + bt103.1.size ≤ 9223372036854775807 then (some (bt101.1 ++ bt103.1, mx bt101.2 bt103.2)) else (none)))) = some (r1, r2) := h
 clear h
 replace H := Option.bind_eq_some_iff.mp H
 obtain ⟨⟨t101, t102⟩, A30, H⟩ := H
 replace H : ((octet_Put.f k a1 2).bind fun bt103 => (if t101.size + bt103.1.size ≤ 9223372036854775807 then (some (t101 ++ bt103.1, mx t102 bt103.2)) else (none))) = some (r1, r2) := H
 have A3 := Aside0.mk A30
 clear A30
 replace H := Option.bind_eq_some_iff.mp H
 obtain ⟨⟨t103, t104⟩, A40, H⟩ := H
 replace H : (if t101.size + t103.size ≤ 9223372036854775807 then (some (t101 ++ t103, mx t102 t104)) else (none)) = some (r1, r2) := H
 have A4 := Aside0.mk A40
 clear A40
 by_cases c5 : t101.size + t103.size ≤ 9223372036854775807
 rotate_left
 ·rw [if_neg c5] at H
  exact absurd H (by simp)
 rw [if_pos c5] at H
 have c5b0 := eq_true c5
 have c5b1 : decide (t101.size + t103.size ≤ 9223372036854775807) = true := decide_eq_true c5
 try have c5b2 : (9223372036854775807 < t101.size + t103.size) = False := eq_false (Nat.not_lt.2 c5)
 try (have c5b3 := c5; simp only [ByteArray.size_append, ByteArray.size_extract, Nat.sub_zero, Nat.min_self] at c5b3; have c5b4 := eq_false (Nat.not_lt.2 c5b3))
 obtain ⟨ji6, hji6⟩ : ∃ j_ : Int, (mx t102 t104) = j_ := ⟨_, rfl⟩
 replace H : (some (t101 ++ t103, ji6)) = some (r1, r2) := by first | (rw [hji6] at H; exact H) | (simp only [hji6] at H ⊢; exact H)
 (try rw [hji6] at A3)
 (try rw [hji6] at A4)
 have hji6_ : (if t102 < t104 then t104 else t102) = ji6 := hji6
 simp only [Option.some.injEq, Prod.mk.injEq] at H
 obtain ⟨rfl, rfl⟩ := H
 go_enter Try.func35, Try.ntmps35
 go_wp2_with (first | ((with_reducible refine gate_callee (f := 24) rfl ?_); refine gL_ (some 12) rfl rfl Try.func24 (by kernel_rfl) rfl #[.int .i64 a0, .int .i64 2] rfl ?_; (with_reducible refine (octet_Put.calls k a0 2 t101 t102 _ A3.out).mono ?_); rintro e w7 ⟨rfl, hb⟩; refine ⟨_, rfl, ?_⟩; have n0_ := Aside0.mk (below_step (bU_ HB.out) hb); clear HB; have HB := n0_; clear n0_; (try clear hb); (try clear hb2); (try clear hk); (try clear hi)) | ((with_reducible refine gate_callee (f := 24) rfl ?_); refine gL_ (some 17) rfl rfl Try.func24 (by kernel_rfl) rfl #[.int .i64 a1, .int .i64 2] rfl ?_; (with_reducible refine (octet_Put.calls k a1 2 t103 t104 _ A4.out).mono ?_); rintro e w8 ⟨rfl, hb⟩; refine ⟨_, rfl, ?_⟩; have n0_ := Aside0.mk (below_step (bU_ HB.out) hb); clear HB; have HB := n0_; clear n0_; (try clear hb); (try clear hb2); (try clear hk); (try clear hi)))
 go_ret2
 exact ⟨by first | rfl | (simp [errW_none, errW_some] <;> rfl) | (simp only [← hji6]; first | rfl | (simp [errW_none, errW_some] <;> rfl)) | (simp [*, errW_none, errW_some] <;> rfl), bU_ HB.out⟩
end Go.Proofs.Ytfdhifigndmgaaa.Q
