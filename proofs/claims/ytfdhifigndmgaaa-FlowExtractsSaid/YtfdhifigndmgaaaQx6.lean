-- made by a program of this session (wip/print-patch.py, over the kit's print)
import Derived.Test.YtfdhifigndmgaaaQx0
import Derived.Test.YtfdhifigndmgaaaQx3
import Derived.Test.YtfdhifigndmgaaaQx5
namespace Go.Proofs.Ytfdhifigndmgaaa.Q
open Go.RowKit Go.Proofs.YtfdhifigndmgaaaW.PrintWords Go.Proofs.YtfdhifigndmgaaaW.PrintLast Go.Proofs.YtfdhifigndmgaaaW.PrintMore
attribute [local go_sem] max2_int min2_int max_two min_two max_three min_three max_four min_four   -- for this text's walks alone
set_option linter.unusedVariables false
set_option linter.unusedSimpArgs false

attribute [local go_sem] cell_twice_ cell_twiceN_
/-! ### rillmeterlaw09_awake: function 12 -/
def rillmeterlaw09_awake.f (k : Nat)  : Option (Bool) := (flow_Key.f k (⟨#[115, 115, 115, 115, 115, 115, 115, 115, 115, 115, 115, 115, 115, 115, 115, 115]⟩ : ByteArray) (⟨#[100, 100, 100, 100, 100, 100, 100, 100, 100, 100, 100, 100, 100, 100, 100, 100]⟩ : ByteArray) 17 258 1).bind fun bt101 => ((flow_Of.f k bt101.1).bind fun bt103 => (if bt101.1.toList = ([115, 115, 115, 115, 115, 115, 115, 115, 115, 115, 115, 115, 115, 115, 115, 115, 100, 100, 100, 100, 100, 100, 100, 100, 100, 100, 100, 100, 100, 100, 100, 100, 17, 1, 2, 0, 1] : List UInt8) then (if bt101.2 = 0 then (if bt103.2.2.2.1 = 258 then (some (bt103.2.2.2.2.2 == 0)) else (some false)) else (some false)) else (some false)))
theorem rillmeterlaw09_awake.mono : ∀ k, LeO (rillmeterlaw09_awake.f k ) (rillmeterlaw09_awake.f (k + 1) ) := by
 intro  k
 unfold rillmeterlaw09_awake.f
 repeat' first
   | (with_reducible exact flow_Key.mono _ _ _ _ _ _)
   | (with_reducible exact flow_Of.mono _ _)
   | (with_reducible exact LeO.refl _)
   | (with_reducible exact LeO.none _)
   | (with_reducible refine LeO.ite ?_ ?_)
   | (with_reducible refine LeO.bind ?_ (fun _ => ?_))
   | exact flow_Key.mono _ _ _ _ _ _
   | exact flow_Of.mono _ _
   | exact LeO.none _
   | refine LeO.ite ?_ ?_
   | refine LeO.bind ?_ (fun _ => ?_)
set_option maxHeartbeats 8000000 in
set_option maxRecDepth 100000 in
theorem rillmeterlaw09_awake.calls (k : Nat)  (r : Bool) (w : World) (hrt : Aside0 (r = true)) (h : rillmeterlaw09_awake.f k  = some r) :
  Calls Try.prog 12 #[] w fun e w' => e = .returned (.bool r) ∧ Below w.heap.size w w' := by
 have hu23 := Try.underlying23
 have HB := Aside0.mk (Below.refl w.heap.size w)
 have H : ((flow_Key.f k (⟨#[115, 115, 115, 115, 115, 115, 115, 115, 115, 115, 115, 115, 115, 115, 115, 115]⟩ : ByteArray) (⟨#[100, 100, 100, 100, 100, 100, 100, 100, 100, 100, 100, 100, 100, 100, 100, 100]⟩ : ByteArray) 17 258 1).bind fun bt101 => ((flow_Of.f k bt101.1).bind fun bt103 => (if bt101.1.toList = ([115, 115, 115, 115, 115, 115, 115, 115, 115, 115, 115, 115, 115, 115, 115, 115, 100, 100, 100, 100, 100, 100, 100, 100, 100, 100, 100, 100, 100, 100, 100, 100, 17, 1, 2, 0, 1] : List UInt8) then (if bt101.2 = 0 then (if bt103.2.2.2.1 = 258 then (some (bt103.2.2.2.2.2 == 0)) else (some false)) else (some false)) else (some false)))) = some r := h
 clear h
 replace H := Option.bind_eq_some_iff.mp H
 obtain ⟨⟨t101, t102⟩, A10, H⟩ := H
 replace H : ((flow_Of.f k t101).bind fun bt103 => (if t101.toList = ([115, 115, 115, 115, 115, 115, 115, 115, 115, 115, 115, 115, 115, 115, 115, 115, 100, 100, 100, 100, 100, 100, 100, 100, 100, 100, 100, 100, 100, 100, 100, 100, 17, 1, 2, 0, 1] : List UInt8) then (if t102 = 0 then (if bt103.2.2.2.1 = 258 then (some (bt103.2.2.2.2.2 == 0)) else (some false)) else (some false)) else (some false))) = some r := H
 have A1 := Aside0.mk A10
 clear A10
 replace H := Option.bind_eq_some_iff.mp H
 obtain ⟨⟨t103, t104, t105, t106, t107, t108⟩, A20, H⟩ := H
 replace H : (if t101.toList = ([115, 115, 115, 115, 115, 115, 115, 115, 115, 115, 115, 115, 115, 115, 115, 115, 100, 100, 100, 100, 100, 100, 100, 100, 100, 100, 100, 100, 100, 100, 100, 100, 17, 1, 2, 0, 1] : List UInt8) then (if t102 = 0 then (if t106 = 258 then (some (t108 == 0)) else (some false)) else (some false)) else (some false)) = some r := H
 have A2 := Aside0.mk A20
 clear A20
 by_cases c3 : t101.toList = ([115, 115, 115, 115, 115, 115, 115, 115, 115, 115, 115, 115, 115, 115, 115, 115, 100, 100, 100, 100, 100, 100, 100, 100, 100, 100, 100, 100, 100, 100, 100, 100, 17, 1, 2, 0, 1] : List UInt8)
 rotate_left
 ·rw [if_neg c3] at H
  obtain rfl := Option.some.inj H
  exact absurd hrt.out (by decide)
 rw [if_pos c3] at H
 have c3b0 : (t101.toList == ([115, 115, 115, 115, 115, 115, 115, 115, 115, 115, 115, 115, 115, 115, 115, 115, 100, 100, 100, 100, 100, 100, 100, 100, 100, 100, 100, 100, 100, 100, 100, 100, 17, 1, 2, 0, 1] : List UInt8)) = true := beq_iff_eq.mpr c3
 have c3b1 : (t101.toList != ([115, 115, 115, 115, 115, 115, 115, 115, 115, 115, 115, 115, 115, 115, 115, 115, 100, 100, 100, 100, 100, 100, 100, 100, 100, 100, 100, 100, 100, 100, 100, 100, 17, 1, 2, 0, 1] : List UInt8)) = false := bne_eq_false_iff_eq.mpr c3
 clear c3
 by_cases c4 : t102 = 0
 rotate_left
 ·rw [if_neg c4] at H
  obtain rfl := Option.some.inj H
  exact absurd hrt.out (by decide)
 rw [if_pos c4] at H
 have c4b0 : (t102 == 0) = true := beq_iff_eq.mpr c4
 have c4b1 : (t102 != 0) = false := bne_eq_false_iff_eq.mpr c4
 clear c4
 by_cases c5 : t106 = 258
 rotate_left
 ·rw [if_neg c5] at H
  obtain rfl := Option.some.inj H
  exact absurd hrt.out (by decide)
 rw [if_pos c5] at H
 have c5b0 : (t106 == 258) = true := beq_iff_eq.mpr c5
 have c5b1 : (t106 != 258) = false := bne_eq_false_iff_eq.mpr c5
 clear c5
 obtain rfl := Option.some.inj H
 go_enter Try.func12, Try.ntmps12
 go_wp2_with (first | ((with_reducible refine gate_callee (f := 9) rfl ?_); refine gL_ (some 7) rfl rfl Try.func9 (by kernel_rfl) rfl #[.agg #[.string (⟨#[115, 115, 115, 115, 115, 115, 115, 115, 115, 115, 115, 115, 115, 115, 115, 115]⟩ : ByteArray), .string (⟨#[100, 100, 100, 100, 100, 100, 100, 100, 100, 100, 100, 100, 100, 100, 100, 100]⟩ : ByteArray), .int .i64 17, .int .i64 258, .int .i64 1]] rfl ?_; (with_reducible refine (flow_Key.calls k (⟨#[115, 115, 115, 115, 115, 115, 115, 115, 115, 115, 115, 115, 115, 115, 115, 115]⟩ : ByteArray) (⟨#[100, 100, 100, 100, 100, 100, 100, 100, 100, 100, 100, 100, 100, 100, 100, 100]⟩ : ByteArray) 17 258 1 t101 t102 _ A1.out).mono ?_); rintro e w6 ⟨rfl, hb⟩; refine ⟨_, rfl, ?_⟩; have n0_ := Aside0.mk (below_step (bU_ HB.out) hb); clear HB; have HB := n0_; clear n0_; (try clear hb); (try clear hb2); (try clear hk); (try clear hi)) | ((with_reducible refine gate_callee (f := 13) rfl ?_); refine gL_ (some 12) rfl rfl Try.func13 (by kernel_rfl) rfl #[.string t101] rfl ?_; (with_reducible refine (flow_Of.calls k t101 t103 t104 t105 t106 t107 t108 _ A2.out).mono ?_); rintro e w7 ⟨rfl, hb⟩; refine ⟨_, rfl, ?_⟩; have n0_ := Aside0.mk (below_step (bU_ HB.out) hb); clear HB; have HB := n0_; clear n0_; (try clear hb); (try clear hb2); (try clear hk); (try clear hi)) | ((with_reducible refine gate_dst (N := 3) rfl ?_); refine bE_ (N := 3) (cs := #[.string ⟨#[]⟩, .string ⟨#[]⟩, .int .i64 0, .int .i64 0, .int .i64 0]) (t := 23) ?_; intro gb109 hg w8 hbox hb; have n0_ := Aside0.mk (below_step (bU_ HB.out) hb); have n1_ := Aside0.mk (hbox); have n2_ := Aside0.mk (bZ_ hg (bU_ HB.out) : w.heap.size ≤ gb109); have n3_ := n2_; clear HB; have HB := n0_; have BK109 := n1_; have GW109 := n2_; have GE109 := n3_; clear n0_ n1_ n2_ n3_; clear hb hbox hg; have hcz9_0 : w8.cell? ⟨gb109, 0, none⟩ = some (.string ⟨#[]⟩) := (blk_cell BK109.out 0).trans rfl; have hcz9_1 : w8.cell? ⟨gb109, 1, none⟩ = some (.string ⟨#[]⟩) := (blk_cell BK109.out 1).trans rfl; have hcz9_2 : w8.cell? ⟨gb109, 2, none⟩ = some (.int .i64 0) := (blk_cell BK109.out 2).trans rfl; have hcz9_3 : w8.cell? ⟨gb109, 3, none⟩ = some (.int .i64 0) := (blk_cell BK109.out 3).trans rfl; have hcz9_4 : w8.cell? ⟨gb109, 4, none⟩ = some (.int .i64 0) := (blk_cell BK109.out 4).trans rfl; have hfz9_0 := blk_frozen BK109.out 0; have hfz9_1 := blk_frozen BK109.out 1; have hfz9_2 := blk_frozen BK109.out 2; have hfz9_3 := blk_frozen BK109.out 3; have hfz9_4 := blk_frozen BK109.out 4))
 go_ret
 exact rE_ (bU_ HB.out)
/-! ### ether_tag: function 34 -/
def ether_tag.f (a0 : Int) : Option (Bool) := if a0 = 33024 then (some true) else (some (a0 == 34984))
set_option maxHeartbeats 8000000 in
set_option maxRecDepth 100000 in
theorem ether_tag.calls (a0 : Int) (r : Bool) (w : World) (h : ether_tag.f a0 = some r) :
  Calls Try.prog 34 #[.int .i64 a0] w fun e w' => e = .returned (.bool r) ∧ Drawn0 w w' := by
 have H : (if a0 = 33024 then (some true) else (some (a0 == 34984))) = some r := h
 clear h
 by_cases c2 : a0 = 33024
 ·rw [if_pos c2] at H
  have c2b0 : (a0 == 33024) = true := beq_iff_eq.mpr c2
  have c2b1 : (a0 != 33024) = false := bne_eq_false_iff_eq.mpr c2
  clear c2
  obtain rfl := Option.some.inj H
  go_enter Try.func34, Try.ntmps34
  go_wp2
  go_ret
  exact ⟨by first | rfl | (simp; done) | (simp [*]; done), by repeat (first | exact Drawn0.refl _ | apply Drawn0.step)⟩
 ·rw [if_neg c2] at H
  have c2b0 : (a0 == 33024) = false := beq_eq_false_iff_ne.mpr c2
  have c2b1 : (a0 != 33024) = true := bne_iff_ne.mpr c2
  obtain rfl := Option.some.inj H
  go_enter Try.func34, Try.ntmps34
  go_wp2
  go_ret
  exact ⟨by first | rfl | (simp; done) | (simp [*]; done), by repeat (first | exact Drawn0.refl _ | apply Drawn0.step)⟩
end Go.Proofs.Ytfdhifigndmgaaa.Q
