-- made by a program of this session (wip/print-patch.py, over the kit's print)
import Derived.Test.YtocnbpbbmleahaaQx0
import Derived.Test.YtocnbpbbmleahaaQx3
import Derived.Test.YtocnbpbbmleahaaQx5
import Derived.Test.YtocnbpbbmleahaaQx9
import Derived.Test.YtocnbpbbmleahaaQx11
namespace Go.Proofs.Ytocnbpbbmleahaa.Q
open Go.RowKit Go.Proofs.YtocnbpbbmleahaaW.PrintWords Go.Proofs.YtocnbpbbmleahaaW.PrintLast Go.Proofs.YtocnbpbbmleahaaW.PrintMore
attribute [local go_sem] max2_int min2_int max_two min_two max_three min_three max_four min_four   -- for this text's walks alone
set_option linter.unusedVariables false
set_option linter.unusedSimpArgs false

attribute [local go_sem] cell_twice_ cell_twiceN_
/-! ### rillmeterlaw08_PortSegments: function 7 -/
def rillmeterlaw08_PortSegments.j0 : Nat → Int → Int → ByteArray → ByteArray → Bool → Option (Bool)
 | 0, _, _, _, _, _ => none
 | k + 1, x0, x1, x2, x3, x24 => if x24 = true then ((rillmeterlaw08_awake.f k).bind fun t101 => (some t101)) else ((port_TCP.f k x0 x1 x2 x3).bind fun bt102 => ((rillmeterref08_TCP.f k x0 x1 x2 x3).bind fun bt104 => (if bt104.2 = true then ((port_Take.f k 6 bt102.1).bind fun bt106 => (if bt102.1.toList = bt104.1.toList then (if bt102.2 = 0 then (if bt106.1 = x0 then (if bt106.2.1 = x1 then (if bt106.2.2.1.toList = x3.toList then (if bt106.2.2.2 = 0 then ((rillmeterlaw08_awake.f k).bind fun t110 => (some t110)) else (some false)) else (some false)) else (some false)) else (some false)) else (some false)) else (some false))) else (if bt102.1.toList = ([] : List UInt8) then (if bt102.2 = 1 then ((rillmeterlaw08_awake.f k).bind fun t111 => (some t111)) else (some false)) else (some false)))))
def rillmeterlaw08_PortSegments.f (k : Nat) (a0 : Int) (a1 : Int) (a2 : ByteArray) (a3 : ByteArray) : Option (Bool) := if (a2.size : Int) > 4096 then (rillmeterlaw08_PortSegments.j0 k a0 a1 a2 a3 true) else (rillmeterlaw08_PortSegments.j0 k a0 a1 a2 a3 (decide ((a3.size : Int) > 4096)))
theorem rillmeterlaw08_PortSegments.mono_l : ∀ k, (∀ y0 y1 y2 y3 y4, LeO (rillmeterlaw08_PortSegments.j0 k y0 y1 y2 y3 y4) (rillmeterlaw08_PortSegments.j0 (k + 1) y0 y1 y2 y3 y4))
 | 0 => fun _ _ _ _ _ r h => by simp [rillmeterlaw08_PortSegments.j0] at h
 | k + 1 => by
  have ih0 := rillmeterlaw08_PortSegments.mono_l k
  ·intro y0 y1 y2 y3 y4
   unfold rillmeterlaw08_PortSegments.j0
   repeat' first
   | (with_reducible exact ih0 _ _ _ _ _)
   | (with_reducible exact port_TCP.mono _ _ _ _ _)
   | (with_reducible exact port_Take.mono _ _ _)
   | (with_reducible exact rillmeterlaw08_awake.mono _)
   | (with_reducible exact rillmeterref08_TCP.mono _ _ _ _ _)
   | (with_reducible exact LeO.refl _)
   | (with_reducible exact LeO.none _)
   | (with_reducible refine LeO.ite ?_ ?_)
   | (with_reducible refine LeO.bind ?_ (fun _ => ?_))
   | exact ih0 _ _ _ _ _
   | exact port_TCP.mono _ _ _ _ _
   | exact port_Take.mono _ _ _
   | exact rillmeterlaw08_awake.mono _
   | exact rillmeterref08_TCP.mono _ _ _ _ _
   | exact LeO.none _
   | refine LeO.ite ?_ ?_
   | refine LeO.bind ?_ (fun _ => ?_)
theorem rillmeterlaw08_PortSegments.mono : ∀ a0 a1 a2 a3 k, LeO (rillmeterlaw08_PortSegments.f k a0 a1 a2 a3) (rillmeterlaw08_PortSegments.f (k + 1) a0 a1 a2 a3) := by
 intro a0 a1 a2 a3 k
 have ih0 := rillmeterlaw08_PortSegments.mono_l k
 unfold rillmeterlaw08_PortSegments.f
 repeat' first
   | (with_reducible exact ih0 _ _ _ _ _)
   | (with_reducible exact port_TCP.mono _ _ _ _ _)
   | (with_reducible exact port_Take.mono _ _ _)
   | (with_reducible exact rillmeterlaw08_awake.mono _)
   | (with_reducible exact rillmeterref08_TCP.mono _ _ _ _ _)
   | (with_reducible exact LeO.refl _)
   | (with_reducible exact LeO.none _)
   | (with_reducible refine LeO.ite ?_ ?_)
   | (with_reducible refine LeO.bind ?_ (fun _ => ?_))
   | exact ih0 _ _ _ _ _
   | exact port_TCP.mono _ _ _ _ _
   | exact port_Take.mono _ _ _
   | exact rillmeterlaw08_awake.mono _
   | exact rillmeterref08_TCP.mono _ _ _ _ _
   | exact LeO.none _
   | refine LeO.ite ?_ ?_
   | refine LeO.bind ?_ (fun _ => ?_)
set_option maxHeartbeats 8000000 in
set_option maxRecDepth 100000 in
theorem rillmeterlaw08_PortSegments.calls (k : Nat) (a0 : Int) (a1 : Int) (a2 : ByteArray) (a3 : ByteArray) (r : Bool) (w : World) (hrt : Aside0 (r = true)) (h : rillmeterlaw08_PortSegments.f k a0 a1 a2 a3 = some r) :
  Calls Try.prog 7 #[.int .i64 a0, .int .i64 a1, .string a2, .string a3] w fun e w' => e = .returned (.bool r) ∧ Below w.heap.size w w' := by
 have HB := Aside0.mk (Below.refl w.heap.size w)
 have H : (if (a2.size : Int) > 4096 then (rillmeterlaw08_PortSegments.j0 k a0 a1 a2 a3 true) else (rillmeterlaw08_PortSegments.j0 k a0 a1 a2 a3 (decide ((a3.size : Int) > 4096)))) = some r := h
 clear h
 have HC5 := Aside0.mk H
 clear H
 go_enter Try.func7, Try.ntmps7
 go_upto_region 1 with (fail)
 go_cut [24] (fun v24 wc => ∃ (kq : Nat) (x24_4 : Bool), v24 = .bool x24_4 ∧ Aside0 (rillmeterlaw08_PortSegments.j0 kq a0 a1 a2 a3 x24_4 = some r) ∧ Aside0 (kq ≤ k) ∧ Aside0 (Below w.heap.size w wc))
 case first =>
  have H := HC5.out
  clear HC5
  by_cases c6 : (a2.size : Int) > 4096
  ·rw [if_pos c6] at H
   have c6b0 : decide (4096 < (a2.size : Int)) = true := decide_eq_true c6
   have c6b1 : decide (4096 < a2.size) = true := decide_eq_true (by omega)
   clear c6
   (first | rw [c6b0] | (simp only [i64_w, i32_w]; rw [c6b0]) | skip)
   have H' := Aside0.mk H
   clear H
   go_wp2
   go_meet
   case rel => exact ⟨_, (true), (by first | rfl | (simp; done) | (simp [*]; done)), H', ⟨by first | omega | exact Nat.le_refl _⟩, ⟨bU_ HB.out⟩⟩
  ·rw [if_neg c6] at H
   have c6b0 : decide (4096 < (a2.size : Int)) = false := decide_eq_false c6
   have c6b1 : decide (4096 < a2.size) = false := decide_eq_false (by omega)
   clear c6
   (first | rw [c6b0] | (simp only [i64_w, i32_w]; rw [c6b0]) | skip)
   have H' := Aside0.mk H
   clear H
   go_wp2
   go_meet
   case rel => exact ⟨_, (decide ((a3.size : Int) > 4096)), (by first | rfl | (simp; done) | (simp [*]; done)), H', ⟨by first | omega | exact Nat.le_refl _⟩, ⟨bU_ HB.out⟩⟩
 case rest =>
  clear HC5
  try clear p2
  try clear c6
  try clear c6b0
  try clear c6b1
  obtain ⟨kq, x24_4, rfl, HA, HJ4, HB⟩ := hcut
  cases kq with
  | zero => exact absurd HA.out (by simp [rillmeterlaw08_PortSegments.j0])
  | succ kj4 =>
   have H := HA.out
   clear HA
   simp only [rillmeterlaw08_PortSegments.j0] at H
   by_cases c7 : x24_4 = true
   ·subst c7
    have H1 : ((rillmeterlaw08_awake.f kj4).bind fun t101 => (some t101)) = some r := by rw [if_pos rfl] at H; exact H
    clear H
    have H := H1
    clear H1
    replace H := Option.bind_eq_some_iff.mp H
    obtain ⟨t101, A80, H⟩ := H
    replace H : (some t101) = some r := H
    have A8 := Aside0.mk A80
    clear A80
    obtain rfl := Option.some.inj H
    go_wp2_with (first | ((with_reducible refine gate_callee (f := 8) rfl ?_); refine gL_ (some 25) rfl rfl Try.func8 (by kernel_rfl) rfl #[] rfl ?_; (with_reducible refine (rillmeterlaw08_awake.calls kj4  t101 _ hrt A8.out).mono ?_); rintro e w9 ⟨rfl, hb⟩; refine ⟨_, rfl, ?_⟩; have n0_ := Aside0.mk (below_step (bU_ HB.out) hb); clear HB; have HB := n0_; clear n0_; (try clear hb); (try clear hb2); (try clear hk); (try clear hi)))
    go_ret
    exact ⟨by first | rfl | (simp [errW_none, errW_some] <;> rfl) | (simp [*, errW_none, errW_some] <;> rfl), bU_ HB.out⟩
   ·replace c7 := Bool.eq_false_iff.mpr c7
    subst c7
    have H1 : ((port_TCP.f kj4 a0 a1 a2 a3).bind fun bt102 => ((rillmeterref08_TCP.f kj4 a0 a1 a2 a3).bind fun bt104 => (if bt104.2 = true then ((port_Take.f kj4 6 bt102.1).bind fun bt106 => (if bt102.1.toList = bt104.1.toList then (if bt102.2 = 0 then (if bt106.1 = a0 then (if bt106.2.1 = a1 then (if bt106.2.2.1.toList = a3.toList then (if bt106.2.2.2 = 0 then ((rillmeterlaw08_awake.f kj4).bind fun t110 => (some t110)) else (some false)) else (some false)) else (some false)) else (some false)) else (some false)) else (some false))) else (if bt102.1.toList = ([] : List UInt8) then (if bt102.2 = 1 then ((rillmeterlaw08_awake.f kj4).bind fun t111 => (some t111)) else (some false)) else (some false))))) = some r := by rw [if_neg (show ¬ (false = true) by decide)] at H; exact H
    clear H
    have H := H1
    clear H1
    replace H := Option.bind_eq_some_iff.mp H
    obtain ⟨⟨t102, t103⟩, A100, H⟩ := H
    replace H : ((rillmeterref08_TCP.f kj4 a0 a1 a2 a3).bind fun bt104 => (if bt104.2 = true then ((port_Take.f kj4 6 t102).bind fun bt106 => (if t102.toList = bt104.1.toList then (if t103 = 0 then (if bt106.1 = a0 then (if bt106.2.1 = a1 then (if bt106.2.2.1.toList = a3.toList then (if bt106.2.2.2 = 0 then ((rillmeterlaw08_awake.f kj4).bind fun t110 => (some t110)) else (some false)) else (some false)) else (some false)) else (some false)) else (some false)) else (some false))) else (if t102.toList = ([] : List UInt8) then (if t103 = 1 then ((rillmeterlaw08_awake.f kj4).bind fun t111 => (some t111)) else (some false)) else (some false)))) = some r := H
    have A10 := Aside0.mk A100
    clear A100
    replace H := Option.bind_eq_some_iff.mp H
    obtain ⟨⟨t104, t105⟩, A110, H⟩ := H
    replace H : (if t105 = true then ((port_Take.f kj4 6 t102).bind fun bt106 => (if t102.toList = t104.toList then (if t103 = 0 then (if bt106.1 = a0 then (if bt106.2.1 = a1 then (if bt106.2.2.1.toList = a3.toList then (if bt106.2.2.2 = 0 then ((rillmeterlaw08_awake.f kj4).bind fun t110 => (some t110)) else (some false)) else (some false)) else (some false)) else (some false)) else (some false)) else (some false))) else (if t102.toList = ([] : List UInt8) then (if t103 = 1 then ((rillmeterlaw08_awake.f kj4).bind fun t111 => (some t111)) else (some false)) else (some false))) = some r := H
    have A11 := Aside0.mk A110
    clear A110
    by_cases c12 : t105 = true
    ·subst c12
     have H1 : ((port_Take.f kj4 6 t102).bind fun bt106 => (if t102.toList = t104.toList then (if t103 = 0 then (if bt106.1 = a0 then (if bt106.2.1 = a1 then (if bt106.2.2.1.toList = a3.toList then (if bt106.2.2.2 = 0 then ((rillmeterlaw08_awake.f kj4).bind fun t110 => (some t110)) else (some false)) else (some false)) else (some false)) else (some false)) else (some false)) else (some false))) = some r := by rw [if_pos rfl] at H; exact H
     clear H
     have H := H1
     clear H1
     replace H := Option.bind_eq_some_iff.mp H
     obtain ⟨⟨t106, t107, t108, t109⟩, A130, H⟩ := H
     replace H : (if t102.toList = t104.toList then (if t103 = 0 then (if t106 = a0 then (if t107 = a1 then (if t108.toList = a3.toList then (if t109 = 0 then ((rillmeterlaw08_awake.f kj4).bind fun t110 => (some t110)) else (some false)) else (some false)) else (some false)) else (some false)) else (some false)) else (some false)) = some r := H
     have A13 := Aside0.mk A130
     clear A130
     by_cases c14 : t102.toList = t104.toList
     rotate_left
     ·rw [if_neg c14] at H
      obtain rfl := Option.some.inj H
      exact absurd hrt.out (by decide)
     rw [if_pos c14] at H
     have c14b0 : (t102.toList == t104.toList) = true := beq_iff_eq.mpr c14
     have c14b1 : (t102.toList != t104.toList) = false := bne_eq_false_iff_eq.mpr c14
     clear c14
     by_cases c15 : t103 = 0
     rotate_left
     ·rw [if_neg c15] at H
      obtain rfl := Option.some.inj H
      exact absurd hrt.out (by decide)
     rw [if_pos c15] at H
     have c15b0 : (t103 == 0) = true := beq_iff_eq.mpr c15
     have c15b1 : (t103 != 0) = false := bne_eq_false_iff_eq.mpr c15
     clear c15
     by_cases c16 : t106 = a0
     rotate_left
     ·rw [if_neg c16] at H
      obtain rfl := Option.some.inj H
      exact absurd hrt.out (by decide)
     rw [if_pos c16] at H
     have c16b0 : (t106 == a0) = true := beq_iff_eq.mpr c16
     have c16b1 : (t106 != a0) = false := bne_eq_false_iff_eq.mpr c16
     clear c16
     by_cases c17 : t107 = a1
     rotate_left
     ·rw [if_neg c17] at H
      obtain rfl := Option.some.inj H
      exact absurd hrt.out (by decide)
     rw [if_pos c17] at H
     have c17b0 : (t107 == a1) = true := beq_iff_eq.mpr c17
     have c17b1 : (t107 != a1) = false := bne_eq_false_iff_eq.mpr c17
     clear c17
     by_cases c18 : t108.toList = a3.toList
     rotate_left
     ·rw [if_neg c18] at H
      obtain rfl := Option.some.inj H
      exact absurd hrt.out (by decide)
     rw [if_pos c18] at H
     have c18b0 : (t108.toList == a3.toList) = true := beq_iff_eq.mpr c18
     have c18b1 : (t108.toList != a3.toList) = false := bne_eq_false_iff_eq.mpr c18
     clear c18
     by_cases c19 : t109 = 0
     rotate_left
     ·rw [if_neg c19] at H
      obtain rfl := Option.some.inj H
      exact absurd hrt.out (by decide)
     rw [if_pos c19] at H
     have c19b0 : (t109 == 0) = true := beq_iff_eq.mpr c19
     have c19b1 : (t109 != 0) = false := bne_eq_false_iff_eq.mpr c19
     clear c19
     replace H := Option.bind_eq_some_iff.mp H
     obtain ⟨t110, A200, H⟩ := H
     replace H : (some t110) = some r := H
     have A20 := Aside0.mk A200
     clear A200
     obtain rfl := Option.some.inj H
     go_wp2_with (first | ((with_reducible refine gate_callee (f := 13) rfl ?_); refine gL_ (some 31) rfl rfl Try.func13 (by kernel_rfl) rfl #[.int .i64 a0, .int .i64 a1, .string a2, .string a3] rfl ?_; (with_reducible refine (port_TCP.calls kj4 a0 a1 a2 a3 t102 t103 _ A10.out).mono ?_); rintro e w21 ⟨rfl, hb⟩; refine ⟨_, rfl, ?_⟩; have n0_ := Aside0.mk (below_step (bU_ HB.out) hb); clear HB; have HB := n0_; clear n0_; (try clear hb); (try clear hb2); (try clear hk); (try clear hi)) | ((with_reducible refine gate_callee (f := 14) rfl ?_); refine gL_ (some 39) rfl rfl Try.func14 (by kernel_rfl) rfl #[.int .i64 a0, .int .i64 a1, .string a2, .string a3] rfl ?_; (with_reducible refine (rillmeterref08_TCP.calls kj4 a0 a1 a2 a3 t104 true _ A11.out).mono ?_); rintro e w22 ⟨rfl, hb⟩; refine ⟨_, rfl, ?_⟩; have n0_ := Aside0.mk (below_step (bU_ HB.out) hb); clear HB; have HB := n0_; clear n0_; (try clear hb); (try clear hb2); (try clear hk); (try clear hi)) | ((with_reducible refine gate_callee (f := 9) rfl ?_); refine gL_ (some 55) rfl rfl Try.func9 (by kernel_rfl) rfl #[.int .i64 6, .string t102] rfl ?_; (with_reducible refine (port_Take.calls kj4 6 t102 t106 t107 t108 t109 _ A13.out).mono ?_); rintro e w23 ⟨rfl, hb⟩; refine ⟨_, rfl, ?_⟩; have n0_ := Aside0.mk (below_step (bU_ HB.out) hb); clear HB; have HB := n0_; clear n0_; (try clear hb); (try clear hb2); (try clear hk); (try clear hi)) | (go_at_call 8; (with_reducible refine (rillmeterlaw08_awake.calls kj4  t110 _ hrt A20.out).mono ?_); rintro e w24 ⟨rfl, hb⟩; have n0_ := Aside0.mk (below_step (bU_ HB.out) hb); clear HB; have HB := n0_; clear n0_; (try clear hb); (try clear hb2); (try clear hk); (try clear hi)))
     go_ret
     exact ⟨by first | rfl | (simp [errW_none, errW_some] <;> rfl) | (simp [*, errW_none, errW_some] <;> rfl), bU_ HB.out⟩
    ·replace c12 := Bool.eq_false_iff.mpr c12
     subst c12
     have H1 : (if t102.toList = ([] : List UInt8) then (if t103 = 1 then ((rillmeterlaw08_awake.f kj4).bind fun t111 => (some t111)) else (some false)) else (some false)) = some r := by rw [if_neg (show ¬ (false = true) by decide)] at H; exact H
     clear H
     have H := H1
     clear H1
     by_cases c25 : t102.toList = ([] : List UInt8)
     rotate_left
     ·rw [if_neg c25] at H
      obtain rfl := Option.some.inj H
      exact absurd hrt.out (by decide)
     rw [if_pos c25] at H
     have c25b0 : (t102.toList == ([] : List UInt8)) = true := beq_iff_eq.mpr c25
     have c25b1 : (t102.toList != ([] : List UInt8)) = false := bne_eq_false_iff_eq.mpr c25
     clear c25
     by_cases c26 : t103 = 1
     rotate_left
     ·rw [if_neg c26] at H
      obtain rfl := Option.some.inj H
      exact absurd hrt.out (by decide)
     rw [if_pos c26] at H
     have c26b0 : (t103 == 1) = true := beq_iff_eq.mpr c26
     have c26b1 : (t103 != 1) = false := bne_eq_false_iff_eq.mpr c26
     clear c26
     replace H := Option.bind_eq_some_iff.mp H
     obtain ⟨t111, A270, H⟩ := H
     replace H : (some t111) = some r := H
     have A27 := Aside0.mk A270
     clear A270
     obtain rfl := Option.some.inj H
     go_wp2_with (first | ((with_reducible refine gate_callee (f := 13) rfl ?_); refine gL_ (some 31) rfl rfl Try.func13 (by kernel_rfl) rfl #[.int .i64 a0, .int .i64 a1, .string a2, .string a3] rfl ?_; (with_reducible refine (port_TCP.calls kj4 a0 a1 a2 a3 t102 t103 _ A10.out).mono ?_); rintro e w28 ⟨rfl, hb⟩; refine ⟨_, rfl, ?_⟩; have n0_ := Aside0.mk (below_step (bU_ HB.out) hb); clear HB; have HB := n0_; clear n0_; (try clear hb); (try clear hb2); (try clear hk); (try clear hi)) | ((with_reducible refine gate_callee (f := 14) rfl ?_); refine gL_ (some 39) rfl rfl Try.func14 (by kernel_rfl) rfl #[.int .i64 a0, .int .i64 a1, .string a2, .string a3] rfl ?_; (with_reducible refine (rillmeterref08_TCP.calls kj4 a0 a1 a2 a3 t104 false _ A11.out).mono ?_); rintro e w29 ⟨rfl, hb⟩; refine ⟨_, rfl, ?_⟩; have n0_ := Aside0.mk (below_step (bU_ HB.out) hb); clear HB; have HB := n0_; clear n0_; (try clear hb); (try clear hb2); (try clear hk); (try clear hi)) | (go_at_call 8; (with_reducible refine (rillmeterlaw08_awake.calls kj4  t111 _ hrt A27.out).mono ?_); rintro e w30 ⟨rfl, hb⟩; have n0_ := Aside0.mk (below_step (bU_ HB.out) hb); clear HB; have HB := n0_; clear n0_; (try clear hb); (try clear hb2); (try clear hk); (try clear hi)))
     go_ret
     exact ⟨by first | rfl | (simp [errW_none, errW_some] <;> rfl) | (simp [*, errW_none, errW_some] <;> rfl), bU_ HB.out⟩

/-- THE ONE PURE STATEMENT of rillmeterlaw08_PortSegments: yours. -/
def rillmeterlaw08_PortSegments.Pure : Prop := ∀ (a0 : Int) (a1 : Int) (a2 : ByteArray) (a3 : ByteArray), (Lit.int .i64 a0).wf = true → (Lit.int .i64 a1).wf = true → a2.size ≤ 140737488351232 → a3.size ≤ 140737488351232 → ∃ k, rillmeterlaw08_PortSegments.f k a0 a1 a2 a3 = some true
theorem rillmeterlaw08_PortSegments.walk (P : rillmeterlaw08_PortSegments.Pure) (a0 : Int) (a1 : Int) (a2 : ByteArray) (a3 : ByteArray) (w : World) (w0 : (Lit.int .i64 a0).wf = true) (w1 : (Lit.int .i64 a1).wf = true) (w2 : a2.size ≤ 140737488351232) (w3 : a3.size ≤ 140737488351232) :
  Calls Try.prog 7 #[.int .i64 a0, .int .i64 a1, .string a2, .string a3] w fun e w' => e = .returned (.bool true) ∧ Below w.heap.size w w' := by
 obtain ⟨k, h⟩ := P a0 a1 a2 a3 w0 w1 w2 w3
 refine (rillmeterlaw08_PortSegments.calls k a0 a1 a2 a3 true w (Aside0.mk rfl) h).mono ?_
 rintro e w' ⟨rfl, hd⟩
 exact ⟨rfl, hd⟩
end Go.Proofs.Ytocnbpbbmleahaa.Q
