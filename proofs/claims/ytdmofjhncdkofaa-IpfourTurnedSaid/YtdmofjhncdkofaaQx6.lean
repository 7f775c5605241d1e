-- made by a program of this session (wip/print-patch.py, over the kit's print)
import Derived.Test.YtdmofjhncdkofaaQx0
import Derived.Test.YtdmofjhncdkofaaQx5
namespace Go.Proofs.Ytdmofjhncdkofaa.Q
open Go.RowKit Go.Proofs.YtdmofjhncdkofaaW.PrintWords Go.Proofs.YtdmofjhncdkofaaW.PrintLast Go.Proofs.YtdmofjhncdkofaaW.PrintMore
attribute [local go_sem] max2_int min2_int max_two min_two max_three min_three max_four min_four   -- for this text's walks alone
set_option linter.unusedVariables false
set_option linter.unusedSimpArgs false

attribute [local go_sem] cell_twice_ cell_twiceN_
/-! ### octet_Take: function 23 -/
mutual
def octet_Take.j0 : Nat → ByteArray → Int → Bool → Option (Int × ByteArray × Int)
 | 0, _, _, _ => none
 | k + 1, x0, x1, x17 => if x17 = true then (some (0, (⟨#[]⟩ : ByteArray), 1)) else ((octet_Cut.f x0 x1).bind fun bt101 => (if bt101.2.2 = 0 then (octet_Take.l0 k bt101.1 bt101.2.1 0 (bt101.1.size : Int) 0) else (some (0, (⟨#[]⟩ : ByteArray), bt101.2.2))))
def octet_Take.l0 : Nat → ByteArray → ByteArray → Int → Int → Int → Option (Int × ByteArray × Int)
 | 0, _, _, _, _, _ => none
 | k + 1, x7, x8, x10, x29, x30 => if x30 < x29 then (if 0 ≤ x30 then (if x30 < (x7.size : Int) then (octet_Take.l0 k x7 x8 (Go.bits .or .i64 (wrap64 (x10 * 256)) (wrap64 (bt x7 x30))) x29 (wrap64 (x30 + 1))) else (none)) else (none)) else (some (x10, x8, 0))
end
def octet_Take.f (k : Nat) (a0 : ByteArray) (a1 : Int) : Option (Int × ByteArray × Int) := if a1 < 1 then (octet_Take.j0 k a0 a1 true) else (octet_Take.j0 k a0 a1 (decide (a1 > 7)))
theorem octet_Take.mono_l : ∀ k, (∀ y0 y1 y2, LeO (octet_Take.j0 k y0 y1 y2) (octet_Take.j0 (k + 1) y0 y1 y2)) ∧ (∀ y0 y1 y2 y3 y4, LeO (octet_Take.l0 k y0 y1 y2 y3 y4) (octet_Take.l0 (k + 1) y0 y1 y2 y3 y4))
 | 0 => ⟨fun _ _ _ r h => by simp [octet_Take.j0] at h, fun _ _ _ _ _ r h => by simp [octet_Take.l0] at h⟩
 | k + 1 => by
  obtain ⟨ih0, ih1⟩ := octet_Take.mono_l k
  refine ⟨?_, ?_⟩
  ·intro y0 y1 y2
   unfold octet_Take.j0
   repeat' first
   | (with_reducible exact ih0 _ _ _)
   | (with_reducible exact ih1 _ _ _ _ _)
   | (with_reducible exact LeO.refl _)
   | (with_reducible exact LeO.none _)
   | (with_reducible refine LeO.ite ?_ ?_)
   | (with_reducible refine LeO.bind ?_ (fun _ => ?_))
   | exact ih0 _ _ _
   | exact ih1 _ _ _ _ _
   | exact LeO.none _
   | refine LeO.ite ?_ ?_
   | refine LeO.bind ?_ (fun _ => ?_)
  ·intro y0 y1 y2 y3 y4
   unfold octet_Take.l0
   repeat' first
   | (with_reducible exact ih0 _ _ _)
   | (with_reducible exact ih1 _ _ _ _ _)
   | (with_reducible exact LeO.refl _)
   | (with_reducible exact LeO.none _)
   | (with_reducible refine LeO.ite ?_ ?_)
   | (with_reducible refine LeO.bind ?_ (fun _ => ?_))
   | exact ih0 _ _ _
   | exact ih1 _ _ _ _ _
   | exact LeO.none _
   | refine LeO.ite ?_ ?_
   | refine LeO.bind ?_ (fun _ => ?_)
theorem octet_Take.mono : ∀ a0 a1 k, LeO (octet_Take.f k a0 a1) (octet_Take.f (k + 1) a0 a1) := by
 intro a0 a1 k
 obtain ⟨ih0, ih1⟩ := octet_Take.mono_l k
 unfold octet_Take.f
 repeat' first
   | (with_reducible exact ih0 _ _ _)
   | (with_reducible exact ih1 _ _ _ _ _)
   | (with_reducible exact LeO.refl _)
   | (with_reducible exact LeO.none _)
   | (with_reducible refine LeO.ite ?_ ?_)
   | (with_reducible refine LeO.bind ?_ (fun _ => ?_))
   | exact ih0 _ _ _
   | exact ih1 _ _ _ _ _
   | exact LeO.none _
   | refine LeO.ite ?_ ?_
   | refine LeO.bind ?_ (fun _ => ?_)
set_option maxHeartbeats 8000000 in
set_option maxRecDepth 100000 in
theorem octet_Take.calls (k : Nat) (a0 : ByteArray) (a1 : Int) (r1 : Int) (r2 : ByteArray) (r3 : Int) (w : World) (h : octet_Take.f k a0 a1 = some (r1, r2, r3)) :
  Calls Try.prog 23 #[.string a0, .int .i64 a1] w fun e w' => e = .returned (.tuple #[.int .i64 r1, .string r2, .int .i64 r3]) ∧ Below w.heap.size w w' := by
 have HB := Aside0.mk (Below.refl w.heap.size w)
 have H : (if a1 < 1 then (octet_Take.j0 k a0 a1 true) else (octet_Take.j0 k a0 a1 (decide (a1 > 7)))) = some (r1, r2, r3) := h
 clear h
 have HC3 := Aside0.mk H
 clear H
 go_enter Try.func23, Try.ntmps23
 go_upto_region 1 with (fail)
 go_cut [17] (fun v17 wc => ∃ (kq : Nat) (x17_2 : Bool), v17 = .bool x17_2 ∧ Aside0 (octet_Take.j0 kq a0 a1 x17_2 = some (r1, r2, r3)) ∧ Aside0 (kq ≤ k) ∧ Aside0 (Below w.heap.size w wc))
 case first =>
  have H := HC3.out
  clear HC3
  by_cases c4 : a1 < 1
  ·rw [if_pos c4] at H
   have c4b0 : decide (a1 < 1) = true := decide_eq_true c4
   clear c4
   (first | rw [c4b0] | (simp only [i64_w, i32_w]; rw [c4b0]) | skip)
   have H' := Aside0.mk H
   clear H
   go_wp2
   go_meet
   case rel => exact ⟨_, (true), (by first | rfl | (simp; done) | (simp [*]; done)), H', ⟨by first | omega | exact Nat.le_refl _⟩, ⟨bU_ HB.out⟩⟩
  ·rw [if_neg c4] at H
   have c4b0 : decide (a1 < 1) = false := decide_eq_false c4
   clear c4
   (first | rw [c4b0] | (simp only [i64_w, i32_w]; rw [c4b0]) | skip)
   have H' := Aside0.mk H
   clear H
   go_wp2
   go_meet
   case rel => exact ⟨_, (decide (a1 > 7)), (by first | rfl | (simp; done) | (simp [*]; done)), H', ⟨by first | omega | exact Nat.le_refl _⟩, ⟨bU_ HB.out⟩⟩
 case rest =>
  clear HC3
  try clear c2
  try clear p2
  try clear c4
  try clear c4b0
  obtain ⟨kq, x17_2, rfl, HA, HJ2, HB⟩ := hcut
  cases kq with
  | zero => exact absurd HA.out (by simp [octet_Take.j0])
  | succ kj2 =>
   have H := HA.out
   clear HA
   simp only [octet_Take.j0] at H
   by_cases c5 : x17_2 = true
   ·subst c5
    have H1 : (some (0, (⟨#[]⟩ : ByteArray), 1)) = some (r1, r2, r3) := by rw [if_pos rfl] at H; exact H
    clear H
    have H := H1
    clear H1
    simp only [Option.some.injEq, Prod.mk.injEq] at H
    obtain ⟨rfl, rfl, rfl⟩ := H
    go_wp2
    go_ret3
    exact rE_ (bU_ HB.out)
   ·replace c5 := Bool.eq_false_iff.mpr c5
    subst c5
    have H1 : ((octet_Cut.f a0 a1).bind fun bt101 => (if bt101.2.2 = 0 then (octet_Take.l0 kj2 bt101.1 bt101.2.1 0 (bt101.1.size : Int) 0) else (some (0, (⟨#[]⟩ : ByteArray), bt101.2.2)))) = some (r1, r2, r3) := by rw [if_neg (show ¬ (false = true) by decide)] at H; exact H
    clear H
    have H := H1
    clear H1
    replace H := Option.bind_eq_some_iff.mp H
    obtain ⟨⟨t101, t102, t103⟩, A60, H⟩ := H
    replace H : (if t103 = 0 then (octet_Take.l0 kj2 t101 t102 0 (t101.size : Int) 0) else (some (0, (⟨#[]⟩ : ByteArray), t103))) = some (r1, r2, r3) := H
    have A6 := Aside0.mk A60
    clear A60
    by_cases c7 : t103 = 0
    ·rw [if_pos c7] at H
     have c7b0 : (t103 == 0) = true := beq_iff_eq.mpr c7
     have c7b1 : (t103 != 0) = false := bne_eq_false_iff_eq.mpr c7
     clear c7
     have H' := Aside0.mk H
     clear H
     go_wp2_with (first | ((with_reducible refine gate_callee (f := 25) rfl ?_); refine gL_ (some 21) rfl rfl Try.func25 (by kernel_rfl) rfl #[.string a0, .int .i64 a1] rfl ?_; (with_reducible refine (octet_Cut.calls a0 a1 t101 t102 t103 _ A6.out).mono ?_); rintro e w' ⟨rfl, ⟨nd, rfl⟩⟩; refine ⟨_, rfl, ?_⟩))
     go_loopg [10, 30] kj2 (fun kq v10 v30 w' => ∃ (x10_2 : Int) (x30_2 : Int), v10 = .int .i64 x10_2 ∧ v30 = .int .i64 x30_2 ∧ Aside0 (octet_Take.l0 kq t101 t102 x10_2 (t101.size : Int) x30_2 = some (r1, r2, r3)) ∧ Aside0 (kq ≤ kj2) ∧ Aside0 (Below w.heap.size w w'))
     case atStart => exact ⟨(0), (0), (by first | rfl | (simp; done) | (simp [*]; done)), (by first | rfl | (simp; done) | (simp [*]; done)), H', ⟨Nat.le_refl _⟩, ⟨bU_ HB.out⟩⟩
     case round =>
      clear H'
      try clear c2
      try clear p2
      try clear c4
      try clear c4b0
      try clear c5
      try clear c7
      try clear c7b0
      try clear c7b1
      try clear p2
      obtain ⟨x10_2, x30_2, rfl, rfl, HA, HK2, HB⟩ := hrel
      cases gk with
      | zero => exact absurd HA.out (by simp [octet_Take.l0])
      | succ k2 =>
       have H := HA.out
       clear HA
       simp only [octet_Take.l0] at H
       by_cases c8 : x30_2 < (t101.size : Int)
       ·rw [if_pos c8] at H
        have c8b0 : decide (x30_2 < (t101.size : Int)) = true := decide_eq_true c8
        clear c8
        by_cases c9 : 0 ≤ x30_2
        rotate_left
        ·rw [if_neg c9] at H
         exact absurd H (by simp)
        rw [if_pos c9] at H
        have c9b0 : decide (0 ≤ x30_2) = true := decide_eq_true c9
        clear c9
        by_cases c10 : x30_2 < (t101.size : Int)
        rotate_left
        ·rw [if_neg c10] at H
         exact absurd H (by simp)
        rw [if_pos c10] at H
        have c10b0 : decide (x30_2 < (t101.size : Int)) = true := decide_eq_true c10
        clear c10
        have H' := Aside0.mk H
        clear H
        have p11 : 0 ≤ (x30_2 : Int) := oD_
        have q11 : x30_2 < (t101.size : Int) := oD_
        have hx11 := bt_at t101 x30_2
        replace p11 := eq_true p11
        replace q11 := eq_true q11
        go_wp2
        go_roundg k2
        case measure => have := HJ2.out; have := HK2.out; omega
        case rel => exact ⟨(Go.bits .or .i64 (wrap64 (x10_2 * 256)) (wrap64 (bt t101 x30_2))), (wrap64 (x30_2 + 1)), (by first | rfl | (simp; done) | (simp [*]; done)), (by first | rfl | (simp; done) | (simp [*]; done)), H', ⟨by have := HJ2.out; have := HK2.out; omega⟩, ⟨bU_ HB.out⟩⟩
       ·rw [if_neg c8] at H
        have c8b0 : decide (x30_2 < (t101.size : Int)) = false := decide_eq_false c8
        clear c8
        simp only [Option.some.injEq, Prod.mk.injEq] at H
        obtain ⟨rfl, rfl, rfl⟩ := H
        go_wp2
        go_ret3
        exact rE_ (bU_ HB.out)
    ·rw [if_neg c7] at H
     have c7b0 : (t103 == 0) = false := beq_eq_false_iff_ne.mpr c7
     have c7b1 : (t103 != 0) = true := bne_iff_ne.mpr c7
     simp only [Option.some.injEq, Prod.mk.injEq] at H
     obtain ⟨rfl, rfl, rfl⟩ := H
     go_wp2_with (first | ((with_reducible refine gate_callee (f := 25) rfl ?_); refine gL_ (some 21) rfl rfl Try.func25 (by kernel_rfl) rfl #[.string a0, .int .i64 a1] rfl ?_; (with_reducible refine (octet_Cut.calls a0 a1 t101 t102 t103 _ A6.out).mono ?_); rintro e w' ⟨rfl, ⟨nd, rfl⟩⟩; refine ⟨_, rfl, ?_⟩))
     go_ret3
     exact rE_ (bU_ HB.out)
/-! ### ipfour_take: function 17 -/
def ipfour_take.f (k : Nat) (a0 : ByteArray) (a1 : Int) (a2 : Int) : Option (Int) := if 0 ≤ a1 then (if a1 ≤ (a0.size : Int) then ((octet_Take.f k (a0.extract (a1 : Int).toNat a0.size) a2).bind fun bt101 => (some bt101.1)) else (none)) else (none)
theorem ipfour_take.mono : ∀ a0 a1 a2 k, LeO (ipfour_take.f k a0 a1 a2) (ipfour_take.f (k + 1) a0 a1 a2) := by
 intro a0 a1 a2 k
 unfold ipfour_take.f
 repeat' first
   | (with_reducible exact octet_Take.mono _ _ _)
   | (with_reducible exact LeO.refl _)
   | (with_reducible exact LeO.none _)
   | (with_reducible refine LeO.ite ?_ ?_)
   | (with_reducible refine LeO.bind ?_ (fun _ => ?_))
   | exact octet_Take.mono _ _ _
   | exact LeO.none _
   | refine LeO.ite ?_ ?_
   | refine LeO.bind ?_ (fun _ => ?_)
set_option maxHeartbeats 8000000 in
set_option maxRecDepth 100000 in
theorem ipfour_take.calls (k : Nat) (a0 : ByteArray) (a1 : Int) (a2 : Int) (r : Int) (w : World) (h : ipfour_take.f k a0 a1 a2 = some r) :
  Calls Try.prog 17 #[.string a0, .int .i64 a1, .int .i64 a2] w fun e w' => e = .returned (.int .i64 r) ∧ Below w.heap.size w w' := by
 have HB := Aside0.mk (Below.refl w.heap.size w)
 have H : (if 0 ≤ a1 then (if a1 ≤ (a0.size : Int) then ((octet_Take.f k (a0.extract (a1 : Int).toNat a0.size) a2).bind fun bt101 => (some bt101.1)) else (none)) else (none)) = some r := h
 clear h
 by_cases c4 : 0 ≤ a1
 rotate_left
 ·rw [if_neg c4] at H
  exact absurd H (by simp)
 rw [if_pos c4] at H
 have c4b0 := eq_true c4
 have c4b1 : decide (0 ≤ a1) = true := decide_eq_true c4
 clear c4
 by_cases c5 : a1 ≤ (a0.size : Int)
 rotate_left
 ·rw [if_neg c5] at H
  exact absurd H (by simp)
 rw [if_pos c5] at H
 have c5b0 := eq_true c5
 have c5b1 : decide (a1 ≤ (a0.size : Int)) = true := decide_eq_true c5
 clear c5
 replace H := Option.bind_eq_some_iff.mp H
 obtain ⟨⟨t101, t102, t103⟩, A60, H⟩ := H
 replace H : (some t101) = some r := H
 have A6 := Aside0.mk A60
 clear A60
 obtain rfl := Option.some.inj H
 go_enter Try.func17, Try.ntmps17
 go_wp2_with (first | ((with_reducible refine gate_callee (f := 23) rfl ?_); refine gL_ (some 15) rfl rfl Try.func23 (by kernel_rfl) rfl #[.string (a0.extract (a1 : Int).toNat a0.size), .int .i64 a2] rfl ?_; (with_reducible refine (octet_Take.calls k (a0.extract (a1 : Int).toNat a0.size) a2 t101 t102 t103 _ A6.out).mono ?_); rintro e w7 ⟨rfl, hb⟩; refine ⟨_, rfl, ?_⟩; have n0_ := Aside0.mk (below_step (bU_ HB.out) hb); clear HB; have HB := n0_; clear n0_; (try clear hb); (try clear hb2); (try clear hk); (try clear hi)))
 go_ret
 exact rE_ (bU_ HB.out)
end Go.Proofs.Ytdmofjhncdkofaa.Q
