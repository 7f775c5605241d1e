-- made by a program of this session (wip/print-patch.py, over the kit's print)
import Derived.Test.YtfdhifigndmgaaaQx0
import Derived.Test.YtfdhifigndmgaaaQx15
namespace Go.Proofs.Ytfdhifigndmgaaa.Q
open Go.RowKit Go.Proofs.YtfdhifigndmgaaaW.PrintWords Go.Proofs.YtfdhifigndmgaaaW.PrintLast Go.Proofs.YtfdhifigndmgaaaW.PrintMore
attribute [local go_sem] max2_int min2_int max_two min_two max_three min_three max_four min_four   -- for this text's walks alone
set_option linter.unusedVariables false
set_option linter.unusedSimpArgs false

attribute [local go_sem] cell_twice_ cell_twiceN_
/-! ### port_Take: function 27 -/
mutual
def port_Take.j0 : Nat → ByteArray → Int → Int → Int → Option (Int × Int × ByteArray × Int)
 | 0, _, _, _, _ => none
 | k + 1, x1, x8, x9, x10 => if (x1.size : Int) < x8 then (port_Take.j1 k x1 x9 x10 true) else (if x9 < x8 then (port_Take.j1 k x1 x9 x10 true) else (if x9 > x10 then (port_Take.j1 k x1 x9 x10 true) else (port_Take.j1 k x1 x9 x10 (decide (x10 > (x1.size : Int))))))
def port_Take.j1 : Nat → ByteArray → Int → Int → Bool → Option (Int × Int × ByteArray × Int)
 | 0, _, _, _, _ => none
 | k + 1, x1, x9, x10, x50 => if x50 = true then (some (0, 0, (⟨#[]⟩ : ByteArray), 16)) else ((port_take.f k x1 0).bind fun t102 => ((port_take.f k x1 2).bind fun t103 => (if 0 ≤ x9 then (if x9 ≤ x10 then (if x10 ≤ (x1.size : Int) then (some (t102, t103, x1.extract (x9 : Int).toNat (x10 : Int).toNat, 0)) else (none)) else (none)) else (none))))
end
def port_Take.f (k : Nat) (a0 : Int) (a1 : ByteArray) : Option (Int × Int × ByteArray × Int) := if a0 = 6 then (if (a1.size : Int) > 12 then (if 12 < (a1.size : Int) then (port_Take.j0 k a1 20 (wrap64 (4 * (wrap64 ((bt a1 12) / 16)))) (a1.size : Int)) else (none)) else (port_Take.j0 k a1 20 0 (a1.size : Int))) else (if a0 = 17 then (if (a1.size : Int) > 5 then ((port_take.f k a1 4).bind fun t101 => (port_Take.j0 k a1 8 8 t101)) else (port_Take.j0 k a1 8 8 (a1.size : Int))) else (some (0, 0, (⟨#[]⟩ : ByteArray), 8)))
theorem port_Take.mono_l : ∀ k, (∀ y0 y1 y2 y3, LeO (port_Take.j0 k y0 y1 y2 y3) (port_Take.j0 (k + 1) y0 y1 y2 y3)) ∧ (∀ y0 y1 y2 y3, LeO (port_Take.j1 k y0 y1 y2 y3) (port_Take.j1 (k + 1) y0 y1 y2 y3))
 | 0 => ⟨fun _ _ _ _ r h => by simp [port_Take.j0] at h, fun _ _ _ _ r h => by simp [port_Take.j1] at h⟩
 | k + 1 => by
  obtain ⟨ih0, ih1⟩ := port_Take.mono_l k
  refine ⟨?_, ?_⟩
  ·intro y0 y1 y2 y3
   unfold port_Take.j0
   repeat' first
   | (with_reducible exact ih0 _ _ _ _)
   | (with_reducible exact ih1 _ _ _ _)
   | (with_reducible exact port_take.mono _ _ _)
   | (with_reducible exact LeO.refl _)
   | (with_reducible exact LeO.none _)
   | (with_reducible refine LeO.ite ?_ ?_)
   | (with_reducible refine LeO.bind ?_ (fun _ => ?_))
   | exact ih0 _ _ _ _
   | exact ih1 _ _ _ _
   | exact port_take.mono _ _ _
   | exact LeO.none _
   | refine LeO.ite ?_ ?_
   | refine LeO.bind ?_ (fun _ => ?_)
  ·intro y0 y1 y2 y3
   unfold port_Take.j1
   repeat' first
   | (with_reducible exact ih0 _ _ _ _)
   | (with_reducible exact ih1 _ _ _ _)
   | (with_reducible exact port_take.mono _ _ _)
   | (with_reducible exact LeO.refl _)
   | (with_reducible exact LeO.none _)
   | (with_reducible refine LeO.ite ?_ ?_)
   | (with_reducible refine LeO.bind ?_ (fun _ => ?_))
   | exact ih0 _ _ _ _
   | exact ih1 _ _ _ _
   | exact port_take.mono _ _ _
   | exact LeO.none _
   | refine LeO.ite ?_ ?_
   | refine LeO.bind ?_ (fun _ => ?_)
theorem port_Take.mono : ∀ a0 a1 k, LeO (port_Take.f k a0 a1) (port_Take.f (k + 1) a0 a1) := by
 intro a0 a1 k
 obtain ⟨ih0, ih1⟩ := port_Take.mono_l k
 unfold port_Take.f
 repeat' first
   | (with_reducible exact ih0 _ _ _ _)
   | (with_reducible exact ih1 _ _ _ _)
   | (with_reducible exact port_take.mono _ _ _)
   | (with_reducible exact LeO.refl _)
   | (with_reducible exact LeO.none _)
   | (with_reducible refine LeO.ite ?_ ?_)
   | (with_reducible refine LeO.bind ?_ (fun _ => ?_))
   | exact ih0 _ _ _ _
   | exact ih1 _ _ _ _
   | exact port_take.mono _ _ _
   | exact LeO.none _
   | refine LeO.ite ?_ ?_
   | refine LeO.bind ?_ (fun _ => ?_)
def port_Take.T13 : Bool × List (List Nat × List Nat) := (true, [([], []), ([0], [0]), ([], []), ([2, 1], [2]), ([], []), ([], []), ([], []), ([4, 5, 6], [4, 5, 6]), ([1, 3, 0, 1], [1]), ([3, 8, 0, 1, 2, 3, 8], [3]), ([7, 9, 0, 1, 2, 3, 4, 5, 6, 7, 8, 9], [7]), ([10, 0, 1, 2, 3, 4, 5, 6, 7, 8, 9, 10], [])])
def port_Take.B13 : List Nat := [0, 1, 0, 7, 0, 0, 0, 112, 15, 271, 1023, 2047]
theorem port_Take.tab13 : rtab .any (opsOf Try.f27 13) = port_Take.T13 := by kernel_rfl
theorem port_Take.bits13 : waitsOk port_Take.T13.2 port_Take.B13 = true := by kernel_rfl
set_option maxHeartbeats 8000000 in
set_option maxRecDepth 100000 in
theorem port_Take.calls (k : Nat) (a0 : Int) (a1 : ByteArray) (r1 : Int) (r2 : Int) (r3 : ByteArray) (r4 : Int) (w : World) (h : port_Take.f k a0 a1 = some (r1, r2, r3, r4)) :
  Calls Try.prog 27 #[.int .i64 a0, .string a1] w fun e w' => e = .returned (.tuple #[.int .i64 r1, .int .i64 r2, .string r3, .int .i64 r4]) ∧ Below w.heap.size w w' := by
 have HB := Aside0.mk (Below.refl w.heap.size w)
 have H : (if a0 = 6 then (if (a1.size : Int) > 12 then (if 12 < (a1.size : Int) then (port_Take.j0 k a1 20 (wrap64 (4 * (wrap64 ((bt a1 12) / 16)))) (a1.size : Int)) else (none)) else (port_Take.j0 k a1 20 0 (a1.size : Int))) else (if a0 = 17 then (if (a1.size : Int) > 5 then ((port_take.f k a1 4).bind fun t101 => (port_Take.j0 k a1 8 8 t101)) else (port_Take.j0 k a1 8 8 (a1.size : Int))) else (some (0, 0, (⟨#[]⟩ : ByteArray), 8)))) = some (r1, r2, r3, r4) := h
 clear h
 have HC3 := Aside0.mk H
 clear H
 go_enter Try.func27, Try.ntmps27
 go_upto_block 0 with (fail)
 go_cut [8, 9, 10] (fun v8 v9 v10 wc => ∃ (kq : Nat) (x8_2 : Int) (x9_2 : Int) (x10_2 : Int), v8 = .int .i64 x8_2 ∧ v9 = .int .i64 x9_2 ∧ v10 = .int .i64 x10_2 ∧ Aside0 (port_Take.j0 kq a1 x8_2 x9_2 x10_2 = some (r1, r2, r3, r4)) ∧ Aside0 (kq ≤ k) ∧ Aside0 (Below w.heap.size w wc))
 case first =>
  have H := HC3.out
  clear HC3
  by_cases c4 : a0 = 6
  ·rw [if_pos c4] at H
   have c4b0 : (a0 == 6) = true := beq_iff_eq.mpr c4
   have c4b1 : (a0 != 6) = false := bne_eq_false_iff_eq.mpr c4
   clear c4
   (first | rw [c4b0] | (simp only [i64_w, i32_w]; rw [c4b0]) | skip)
   by_cases c5 : (a1.size : Int) > 12
   ·rw [if_pos c5] at H
    have c5b0 : decide (12 < (a1.size : Int)) = true := decide_eq_true c5
    have c5b1 : decide (12 < a1.size) = true := decide_eq_true (by omega)
    clear c5
    by_cases c6 : 12 < (a1.size : Int)
    rotate_left
    ·rw [if_neg c6] at H; exact absurd H (by simp)
    rw [if_pos c6] at H
    have c6b0 : decide (12 < (a1.size : Int)) = true := decide_eq_true c6
    have c6b1 : decide (12 < a1.size) = true := decide_eq_true (by omega)
    clear c6
    have H' := Aside0.mk H
    clear H
    have p7 : 0 ≤ (12 : Int) := (by omega)
    have q7 : 12 < a1.size := (by have : (12 : Int) < (a1.size : Int) := oD_; omega)
    have hx7 : ∀ h : 12 < a1.size, ((a1[12]'h).toNat : Int) = bt a1 12 := bt_at a1 12
    clear p7
    have qi7 : (12 < (a1.size : Int)) = True := eq_true oD_
    replace q7 := eq_true q7
    go_wp2
    go_meet
    case rel => exact ⟨_, (20), (wrap64 (4 * (wrap64 ((bt a1 12) / 16)))), ((a1.size : Int)), (by first | rfl | (simp; done) | (simp [*]; done)), (by first | rfl | (simp; done) | (simp [*]; done)), (by first | rfl | (simp; done) | (simp [*]; done)), H', ⟨by first | omega | exact Nat.le_refl _⟩, ⟨bU_ HB.out⟩⟩
   ·rw [if_neg c5] at H
    have c5b0 : decide (12 < (a1.size : Int)) = false := decide_eq_false c5
    have c5b1 : decide (12 < a1.size) = false := decide_eq_false (by omega)
    clear c5
    have H' := Aside0.mk H
    clear H
    go_wp2
    go_meet
    case rel => exact ⟨_, (20), (0), ((a1.size : Int)), (by first | rfl | (simp; done) | (simp [*]; done)), (by first | rfl | (simp; done) | (simp [*]; done)), (by first | rfl | (simp; done) | (simp [*]; done)), H', ⟨by first | omega | exact Nat.le_refl _⟩, ⟨bU_ HB.out⟩⟩
  ·rw [if_neg c4] at H
   have c4b0 : (a0 == 6) = false := beq_eq_false_iff_ne.mpr c4
   have c4b1 : (a0 != 6) = true := bne_iff_ne.mpr c4
   (first | rw [c4b0] | (simp only [i64_w, i32_w]; rw [c4b0]) | skip)
   by_cases c8 : a0 = 17
   ·rw [if_pos c8] at H
    have c8b0 : (a0 == 17) = true := beq_iff_eq.mpr c8
    have c8b1 : (a0 != 17) = false := bne_eq_false_iff_eq.mpr c8
    clear c8
    by_cases c9 : (a1.size : Int) > 5
    ·rw [if_pos c9] at H
     have c9b0 : decide (5 < (a1.size : Int)) = true := decide_eq_true c9
     have c9b1 : decide (5 < a1.size) = true := decide_eq_true (by omega)
     clear c9
     replace H := Option.bind_eq_some_iff.mp H
     obtain ⟨t101, A100, H⟩ := H
     replace H : (port_Take.j0 k a1 8 8 t101) = some (r1, r2, r3, r4) := H
     have A10 := Aside0.mk A100
     clear A100
     have H' := Aside0.mk H
     clear H
     go_wp2_with (first | ((with_reducible refine gate_callee (f := 43) rfl ?_); refine gL_ (some 30) rfl rfl Try.func43 (by kernel_rfl) rfl #[.string a1, .int .i64 4] rfl ?_; (with_reducible refine (port_take.calls k a1 4 t101 _ A10.out).mono ?_); rintro e w11 ⟨rfl, hb⟩; refine ⟨_, rfl, ?_⟩; have n0_ := Aside0.mk (below_step (bU_ HB.out) hb); clear HB; have HB := n0_; clear n0_; (try clear hb); (try clear hb2); (try clear hk); (try clear hi)))
     go_meet
     case rel => exact ⟨_, (8), (8), (t101), (by first | rfl | (simp; done) | (simp [*]; done)), (by first | rfl | (simp; done) | (simp [*]; done)), (by first | rfl | (simp; done) | (simp [*]; done)), H', ⟨by first | omega | exact Nat.le_refl _⟩, ⟨bU_ HB.out⟩⟩
    ·rw [if_neg c9] at H
     have c9b0 : decide (5 < (a1.size : Int)) = false := decide_eq_false c9
     have c9b1 : decide (5 < a1.size) = false := decide_eq_false (by omega)
     clear c9
     have H' := Aside0.mk H
     clear H
     go_wp2
     go_meet
     case rel => exact ⟨_, (8), (8), ((a1.size : Int)), (by first | rfl | (simp; done) | (simp [*]; done)), (by first | rfl | (simp; done) | (simp [*]; done)), (by first | rfl | (simp; done) | (simp [*]; done)), H', ⟨by first | omega | exact Nat.le_refl _⟩, ⟨bU_ HB.out⟩⟩
   ·rw [if_neg c8] at H
    have c8b0 : (a0 == 17) = false := beq_eq_false_iff_ne.mpr c8
    have c8b1 : (a0 != 17) = true := bne_iff_ne.mpr c8
    simp only [Option.some.injEq, Prod.mk.injEq] at H
    obtain ⟨rfl, rfl, rfl, rfl⟩ := H
    go_wp2
    refine bodyPost_ret (results_list (rs := [.tmp 4, .tmp 5, .tmp 6, .tmp 7]) rfl (by simp) (.tmp (.tmp (.tmp (.tmp .nil))))) rfl ?_
    exact rE_ (bU_ HB.out)
 case rest =>
  clear HC3
  (try clear c2); (try clear p2); (try clear c4); (try clear c4b0); (try clear c4b1); (try clear c5); (try clear c5b0); (try clear c5b1); (try clear c6); (try clear c6b0); (try clear c6b1); (try clear p6); (try clear p7); (try clear q7); (try clear hx7); (try clear qi7); (try clear c8); (try clear c8b0); (try clear c8b1); (try clear c9); (try clear c9b0); (try clear c9b1); (try clear p7); (try clear q7)
  obtain ⟨kq, x8_2, x9_2, x10_2, rfl, rfl, rfl, HA, HJ2, HB⟩ := hcut
  cases kq with
  | zero => exact absurd HA.out (by simp [port_Take.j0])
  | succ kj2 =>
   have H := HA.out
   clear HA
   simp only [port_Take.j0] at H
   have HC12 := Aside0.mk H
   clear H
   go_upto_region 11 with (fail)
   go_cut [50] (fun v50 wc => ∃ (kq : Nat) (x50_11 : Bool), v50 = .bool x50_11 ∧ Aside0 (port_Take.j1 kq a1 x9_2 x10_2 x50_11 = some (r1, r2, r3, r4)) ∧ Aside0 (kq ≤ kj2) ∧ Aside0 (Below w.heap.size w wc))
   case first =>
    have H := HC12.out
    clear HC12
    by_cases c13 : (a1.size : Int) < x8_2
    ·rw [if_pos c13] at H
     have c13b0 : decide ((a1.size : Int) < x8_2) = true := decide_eq_true c13
     clear c13
     (first | rw [c13b0] | (simp only [i64_w, i32_w]; rw [c13b0]) | skip)
     have H' := Aside0.mk H
     clear H
     go_wp2
     go_meet
     case rel => exact ⟨_, (true), (by first | rfl | (simp; done) | (simp [*]; done)), H', ⟨by have := HJ2.out; first | omega | exact Nat.le_refl _⟩, ⟨bU_ HB.out⟩⟩
    ·rw [if_neg c13] at H
     have c13b0 : decide ((a1.size : Int) < x8_2) = false := decide_eq_false c13
     clear c13
     (first | rw [c13b0] | (simp only [i64_w, i32_w]; rw [c13b0]) | skip)
     by_cases c14 : x9_2 < x8_2
     ·rw [if_pos c14] at H
      have c14b0 : decide (x9_2 < x8_2) = true := decide_eq_true c14
      clear c14
      have H' := Aside0.mk H
      clear H
      go_wp2
      go_meet
      case rel => exact ⟨_, (true), (by first | rfl | (simp; done) | (simp [*]; done)), H', ⟨by have := HJ2.out; first | omega | exact Nat.le_refl _⟩, ⟨bU_ HB.out⟩⟩
     ·rw [if_neg c14] at H
      have c14b0 : decide (x9_2 < x8_2) = false := decide_eq_false c14
      clear c14
      by_cases c15 : x9_2 > x10_2
      ·rw [if_pos c15] at H
       have c15b0 : decide (x10_2 < x9_2) = true := decide_eq_true c15
       clear c15
       have H' := Aside0.mk H
       clear H
       go_wp2
       go_meet
       case rel => exact ⟨_, (true), (by first | rfl | (simp; done) | (simp [*]; done)), H', ⟨by have := HJ2.out; first | omega | exact Nat.le_refl _⟩, ⟨bU_ HB.out⟩⟩
      ·rw [if_neg c15] at H
       have c15b0 : decide (x10_2 < x9_2) = false := decide_eq_false c15
       clear c15
       have H' := Aside0.mk H
       clear H
       go_wp2
       go_meet
       case rel => exact ⟨_, (decide (x10_2 > (a1.size : Int))), (by first | rfl | (simp; done) | (simp [*]; done)), H', ⟨by have := HJ2.out; first | omega | exact Nat.le_refl _⟩, ⟨bU_ HB.out⟩⟩
   case rest =>
    clear HC12
    (try clear c1); (try clear c2); (try clear p2); (try clear c4); (try clear c4b0); (try clear c4b1); (try clear c5); (try clear c5b0); (try clear c5b1); (try clear c6); (try clear c6b0); (try clear c6b1); (try clear p6); (try clear p7); (try clear q7); (try clear hx7); (try clear qi7); (try clear c8); (try clear c8b0); (try clear c8b1); (try clear c9); (try clear c9b0); (try clear c9b1); (try clear c13); (try clear c13b0); (try clear c14); (try clear c14b0); (try clear c15); (try clear c15b0); (try clear p2); (try clear p6); (try clear p7); (try clear q7)
    obtain ⟨kq, x50_11, rfl, HA, HJ11, HB⟩ := hcut
    cases kq with
    | zero => exact absurd HA.out (by simp [port_Take.j1])
    | succ kj11 =>
     have H := HA.out
     clear HA
     simp only [port_Take.j1] at H
     by_cases c16 : x50_11 = true
     ·subst c16
      have H1 : (some (0, 0, (⟨#[]⟩ : ByteArray), 16)) = some (r1, r2, r3, r4) := by rw [if_pos rfl] at H; exact H
      clear H
      have H := H1
      clear H1
      simp only [Option.some.injEq, Prod.mk.injEq] at H
      obtain ⟨rfl, rfl, rfl, rfl⟩ := H
      go_wp2
      refine bodyPost_ret (results_list (rs := [.tmp 4, .tmp 5, .tmp 6, .tmp 7]) rfl (by simp) (.tmp (.tmp (.tmp (.tmp .nil))))) rfl ?_
      exact rE_ (bU_ HB.out)
     ·replace c16 := Bool.eq_false_iff.mpr c16
      subst c16
      have H1 : ((port_take.f kj11 a1 0).bind fun t102 => ((port_take.f kj11 a1 2).bind fun t103 => (if 0 ≤ x9_2 then (if x9_2 ≤ x10_2 then (if x10_2 ≤ (a1.size : Int) then (some (t102, t103, a1.extract (x9_2 : Int).toNat (x10_2 : Int).toNat, 0)) else (none)) else (none)) else (none)))) = some (r1, r2, r3, r4) := by rw [if_neg (show ¬ (false = true) by decide)] at H; exact H
      clear H
      have H := H1
      clear H1
      replace H := Option.bind_eq_some_iff.mp H
      obtain ⟨t102, A170, H⟩ := H
      replace H : ((port_take.f kj11 a1 2).bind fun t103 => (if 0 ≤ x9_2 then (if x9_2 ≤ x10_2 then (if x10_2 ≤ (a1.size : Int) then (some (t102, t103, a1.extract (x9_2 : Int).toNat (x10_2 : Int).toNat, 0)) else (none)) else (none)) else (none))) = some (r1, r2, r3, r4) := H
      have A17 := Aside0.mk A170
      clear A170
      replace H := Option.bind_eq_some_iff.mp H
      obtain ⟨t103, A180, H⟩ := H
      replace H : (if 0 ≤ x9_2 then (if x9_2 ≤ x10_2 then (if x10_2 ≤ (a1.size : Int) then (some (t102, t103, a1.extract (x9_2 : Int).toNat (x10_2 : Int).toNat, 0)) else (none)) else (none)) else (none)) = some (r1, r2, r3, r4) := H
      have A18 := Aside0.mk A180
      clear A180
      by_cases c19 : 0 ≤ x9_2
      rotate_left
      ·rw [if_neg c19] at H; exact absurd H (by simp)
      rw [if_pos c19] at H
      have c19b0 := eq_true c19
      have c19b1 : decide (0 ≤ x9_2) = true := decide_eq_true c19
      clear c19
      by_cases c20 : x9_2 ≤ x10_2
      rotate_left
      ·rw [if_neg c20] at H; exact absurd H (by simp)
      rw [if_pos c20] at H
      have c20b0 := eq_true c20
      have c20b1 : decide (x9_2 ≤ x10_2) = true := decide_eq_true c20
      clear c20
      by_cases c21 : x10_2 ≤ (a1.size : Int)
      rotate_left
      ·rw [if_neg c21] at H; exact absurd H (by simp)
      rw [if_pos c21] at H
      have c21b0 := eq_true c21
      have c21b1 : decide (x10_2 ≤ (a1.size : Int)) = true := decide_eq_true c21
      clear c21
      simp only [Option.some.injEq, Prod.mk.injEq] at H
      obtain ⟨rfl, rfl, rfl, rfl⟩ := H
      try go_wp2
      have n0_ := Aside0.mk (below_drew1 HB.out)
      clear HB
      have HB := n0_
      clear n0_
      refine start_ (n := 12) (S := fun w' => True) (ds := []) #[false, false, false, false, false, false, false, false, false, false, false, false] (by kernel_rfl) rfl rfl trivial (fun hHeld => ?_); refine with_tabW port_Take.tab13 port_Take.bits13 (fun HT_ HW_ => ?_)
      generalize wc.drew = w22 at HB hHeld ⊢
      refine pure_ (i := 0) (N := some 51) (v := ?_) (a' := ?_) #[true, false, false, false, false, false, false, false, false, false, false, false] rfl rfl (any_of HT_.out (by kernel_rfl)) (fun _ _ _ h => h) (Or.inl ⟨by rfl, ?_⟩) ?_ ?_
      rotate_left
      ·intro w'; go_simp; with_reducible rfl
      rotate_left
      ·simp only [Act.put, s1_, s2_, s3_, i64_w, i32_w]; rfl
      refine pure_ (i := 2) (N := some 53) (v := ?_) (a' := ?_) #[true, false, true, false, false, false, false, false, false, false, false, false] rfl rfl (any_of HT_.out (by kernel_rfl)) (fun _ _ _ h => h) (Or.inl ⟨by rfl, ?_⟩) ?_ ?_
      rotate_left
      ·intro w'; go_simp; with_reducible rfl
      rotate_left
      ·simp only [Act.put, s1_, s2_, s3_, i64_w, i32_w]; rfl
      refine pure_ (i := 4) (N := some 55) (v := ?_) (a' := ?_) #[true, false, true, false, true, false, false, false, false, false, false, false] rfl rfl (any_of HT_.out (by kernel_rfl)) (fun _ _ _ h => h) (Or.inl ⟨by rfl, ?_⟩) ?_ ?_
      rotate_left
      ·intro w'; go_simp; with_reducible rfl
      rotate_left
      ·simp only [Act.put, s1_, s2_, s3_, i64_w, i32_w]; rfl
      refine pure_ (i := 5) (N := some 56) (v := ?_) (a' := ?_) #[true, false, true, false, true, true, false, false, false, false, false, false] rfl rfl (any_of HT_.out (by kernel_rfl)) (fun _ _ _ h => h) (Or.inl ⟨by rfl, ?_⟩) ?_ ?_
      rotate_left
      ·intro w'; go_simp; with_reducible rfl
      rotate_left
      ·simp only [Act.put, s1_, s2_, s3_, i64_w, i32_w]; rfl
      refine pure_ (i := 6) (N := some 57) (v := ?_) (a' := ?_) #[true, false, true, false, true, true, true, false, false, false, false, false] rfl rfl (any_of HT_.out (by kernel_rfl)) (fun _ _ _ h => h) (Or.inl ⟨by rfl, ?_⟩) ?_ ?_
      rotate_left
      ·intro w'; go_simp; with_reducible rfl
      rotate_left
      ·simp only [Act.put, s1_, s2_, s3_, i64_w, i32_w]; rfl
      refine pure_ (i := 7) (N := some 58) (v := ?_) (a' := ?_) #[true, false, true, false, true, true, true, true, false, false, false, false] rfl rfl (any_of HT_.out (by kernel_rfl)) (fun _ _ _ h => h) (Or.inl ⟨by rfl, ?_⟩) ?_ ?_
      rotate_left
      ·intro w'; go_simp; with_reducible rfl
      rotate_left
      ·simp only [Act.put, s1_, s2_, s3_, i64_w, i32_w]; rfl
      refine one_ (i := 1) (N := some 52) #[true, true, true, false, true, true, true, true, false, false, false, false] rfl rfl (one_of HT_.out (by kernel_rfl)) (by decide) (fun K hK => ?_)
      refine goes_ Try.func43 (by kernel_rfl) rfl #[.string a1, .int .i64 0] (by rfl) rfl rfl (by (try simp only [List.map_toArray, List.map_cons, List.map_nil]); first | done | rfl | (simp only [List.length_drop, List.length_take]; rfl) | (simp only [ByteArray.size_append, ByteArray.size_extract, Nat.sub_zero, Int.natCast_add]; rfl) | (simp [ByteArray.size_append]; done)) ?_
      with_reducible refine (port_take.calls kj11 a1 0 t102 _ A17.out).mono ?_
      rintro e w23 ⟨rfl, hb⟩
      refine ⟨_, rfl, ?_⟩
      have n0_ := Aside0.mk (below_step (bU_ HB.out) hb)
      clear HB
      have HB := n0_
      clear n0_
      (try clear hb)
      (try clear hb2)
      (try clear hk)
      (try clear hi)
      refine hK.out _ _ trivial (fun hHeld => ?_)
      clear hK K
      refine norm_ (a' := ?_) ?_ ?_
      rotate_left
      ·show Act.put _ (some 52) _ = _
       simp only [Act.put, s1_, s2_, s3_, i64_w, i32_w]; rfl
      refine one_ (i := 3) (N := some 54) #[true, true, true, true, true, true, true, true, false, false, false, false] rfl rfl (one_of HT_.out (by kernel_rfl)) (by decide) (fun K hK => ?_)
      refine goes_ Try.func43 (by kernel_rfl) rfl #[.string a1, .int .i64 2] (by rfl) rfl rfl (by (try simp only [List.map_toArray, List.map_cons, List.map_nil]); first | done | rfl | (simp only [List.length_drop, List.length_take]; rfl) | (simp only [ByteArray.size_append, ByteArray.size_extract, Nat.sub_zero, Int.natCast_add]; rfl) | (simp [ByteArray.size_append]; done)) ?_
      with_reducible refine (port_take.calls kj11 a1 2 t103 _ A18.out).mono ?_
      rintro e w24 ⟨rfl, hb⟩
      refine ⟨_, rfl, ?_⟩
      have n0_ := Aside0.mk (below_step (bU_ HB.out) hb)
      clear HB
      have HB := n0_
      clear n0_
      (try clear hb)
      (try clear hb2)
      (try clear hk)
      (try clear hi)
      refine hK.out _ _ trivial (fun hHeld => ?_)
      clear hK K
      refine norm_ (a' := ?_) ?_ ?_
      rotate_left
      ·show Act.put _ (some 54) _ = _
       simp only [Act.put, s1_, s2_, s3_, i64_w, i32_w]; rfl
      refine pure_ (i := 8) (N := some 4) (v := ?_) (a' := ?_) #[true, true, true, true, true, true, true, true, true, false, false, false] rfl rfl (any_of HT_.out (by kernel_rfl)) (fun _ _ _ h => h) (Or.inl ⟨by rfl, ?_⟩) ?_ ?_
      rotate_left
      ·intro w'; go_simp; with_reducible rfl
      rotate_left
      ·simp only [Act.put, s1_, s2_, s3_, i64_w, i32_w]; rfl
      refine pure_ (i := 9) (N := some 5) (v := ?_) (a' := ?_) #[true, true, true, true, true, true, true, true, true, true, false, false] rfl rfl (any_of HT_.out (by kernel_rfl)) (fun _ _ _ h => h) (Or.inl ⟨by rfl, ?_⟩) ?_ ?_
      rotate_left
      ·intro w'; go_simp; with_reducible rfl
      rotate_left
      ·simp only [Act.put, s1_, s2_, s3_, i64_w, i32_w]; rfl
      refine pure_ (i := 10) (N := some 6) (v := ?_) (a' := ?_) #[true, true, true, true, true, true, true, true, true, true, true, false] rfl rfl (any_of HT_.out (by kernel_rfl)) (fun _ _ _ h => h) (Or.inl ⟨by rfl, ?_⟩) ?_ ?_
      rotate_left
      ·intro w'; go_simp; with_reducible rfl
      rotate_left
      ·simp only [Act.put, s1_, s2_, s3_, i64_w, i32_w]; rfl
      refine pure_ (i := 11) (N := some 7) (v := ?_) (a' := ?_) #[true, true, true, true, true, true, true, true, true, true, true, true] rfl rfl (any_of HT_.out (by kernel_rfl)) (fun _ _ _ h => h) (Or.inl ⟨by rfl, ?_⟩) ?_ ?_
      rotate_left
      ·intro w'; go_simp; with_reducible rfl
      rotate_left
      ·simp only [Act.put, s1_, s2_, s3_, i64_w, i32_w]; rfl
      refine done_ (done_of HT_.out (by kernel_rfl)) ?_
      try go_wp2
      refine bodyPost_ret (results_list (rs := [.tmp 4, .tmp 5, .tmp 6, .tmp 7]) rfl (by simp) (.tmp (.tmp (.tmp (.tmp .nil))))) rfl ?_
      exact rE_ (bU_ HB.out)
end Go.Proofs.Ytfdhifigndmgaaa.Q
