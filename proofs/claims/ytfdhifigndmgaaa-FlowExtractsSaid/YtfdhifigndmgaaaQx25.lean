-- made by a program of this session (wip/print-patch.py, over the kit's print)
import Derived.Test.YtfdhifigndmgaaaQx0
import Derived.Test.YtfdhifigndmgaaaQx20
namespace Go.Proofs.Ytfdhifigndmgaaa.Q
open Go.RowKit Go.Proofs.YtfdhifigndmgaaaW.PrintWords Go.Proofs.YtfdhifigndmgaaaW.PrintLast Go.Proofs.YtfdhifigndmgaaaW.PrintMore
attribute [local go_sem] max2_int min2_int max_two min_two max_three min_three max_four min_four   -- for this text's walks alone
set_option linter.unusedVariables false
set_option linter.unusedSimpArgs false

attribute [local go_sem] cell_twice_ cell_twiceN_
/-! ### rillmeterref08_Take: function 32 -/
mutual
def rillmeterref08_Take.j0 : Nat → Int → ByteArray → Bool → Option (Int × Int × ByteArray × Int)
 | 0, _, _, _ => none
 | k + 1, x0, x1, x15 => if x15 = true then (some (0, 0, (⟨#[]⟩ : ByteArray), 8)) else (if x0 = 17 then (if (x1.size : Int) < 8 then (some (0, 0, (⟨#[]⟩ : ByteArray), 16)) else (if 4 ≤ 6 then (if 6 ≤ (x1.size : Int) then ((rillmeterref04_Number.f k (x1.extract 4 6)).bind fun t101 => (if t101 < 8 then (rillmeterref08_Take.j1 k x1 t101 true) else (rillmeterref08_Take.j1 k x1 t101 (decide (t101 > (x1.size : Int)))))) else (none)) else (none))) else (if (x1.size : Int) < 20 then (some (0, 0, (⟨#[]⟩ : ByteArray), 16)) else (if 12 < (x1.size : Int) then (if (wrap64 ((wrap64 (Int.tdiv (wrap64 (bt x1 12)) 16)) * 4)) < 20 then (rillmeterref08_Take.j2 k x1 (wrap64 ((wrap64 (Int.tdiv (wrap64 (bt x1 12)) 16)) * 4)) true) else (rillmeterref08_Take.j2 k x1 (wrap64 ((wrap64 (Int.tdiv (wrap64 (bt x1 12)) 16)) * 4)) (decide ((wrap64 ((wrap64 (Int.tdiv (wrap64 (bt x1 12)) 16)) * 4)) > (x1.size : Int))))) else (none))))
def rillmeterref08_Take.j1 : Nat → ByteArray → Int → Bool → Option (Int × Int × ByteArray × Int)
 | 0, _, _, _ => none
 | k + 1, x1, x8, x31 => if x31 = true then (some (0, 0, (⟨#[]⟩ : ByteArray), 16)) else (if 0 ≤ 2 then (if 2 ≤ (x1.size : Int) then ((rillmeterref04_Number.f k (x1.extract 0 2)).bind fun t102 => (if 2 ≤ 4 then (if 4 ≤ (x1.size : Int) then ((rillmeterref04_Number.f k (x1.extract 2 4)).bind fun t103 => (if 8 ≤ x8 then (if x8 ≤ (x1.size : Int) then (some (t102, t103, x1.extract 8 (x8 : Int).toNat, 0)) else (none)) else (none))) else (none)) else (none))) else (none)) else (none))
def rillmeterref08_Take.j2 : Nat → ByteArray → Int → Bool → Option (Int × Int × ByteArray × Int)
 | 0, _, _, _ => none
 | k + 1, x1, x9, x56 => if x56 = true then (some (0, 0, (⟨#[]⟩ : ByteArray), 16)) else (if 0 ≤ 2 then (if 2 ≤ (x1.size : Int) then ((rillmeterref04_Number.f k (x1.extract 0 2)).bind fun t104 => (if 2 ≤ 4 then (if 4 ≤ (x1.size : Int) then ((rillmeterref04_Number.f k (x1.extract 2 4)).bind fun t105 => (if 0 ≤ x9 then (if x9 ≤ (x1.size : Int) then (some (t104, t105, x1.extract (x9 : Int).toNat x1.size, 0)) else (none)) else (none))) else (none)) else (none))) else (none)) else (none))
end
def rillmeterref08_Take.f (k : Nat) (a0 : Int) (a1 : ByteArray) : Option (Int × Int × ByteArray × Int) := if a0 = 6 then (rillmeterref08_Take.j0 k a0 a1 false) else (rillmeterref08_Take.j0 k a0 a1 (a0 != 17))
theorem rillmeterref08_Take.mono_l : ∀ k, (∀ y0 y1 y2, LeO (rillmeterref08_Take.j0 k y0 y1 y2) (rillmeterref08_Take.j0 (k + 1) y0 y1 y2)) ∧ (∀ y0 y1 y2, LeO (rillmeterref08_Take.j1 k y0 y1 y2) (rillmeterref08_Take.j1 (k + 1) y0 y1 y2)) ∧ (∀ y0 y1 y2, LeO (rillmeterref08_Take.j2 k y0 y1 y2) (rillmeterref08_Take.j2 (k + 1) y0 y1 y2))
 | 0 => ⟨fun _ _ _ r h => by simp [rillmeterref08_Take.j0] at h, fun _ _ _ r h => by simp [rillmeterref08_Take.j1] at h, fun _ _ _ r h => by simp [rillmeterref08_Take.j2] at h⟩
 | k + 1 => by
  obtain ⟨ih0, ih1, ih2⟩ := rillmeterref08_Take.mono_l k
  refine ⟨?_, ?_, ?_⟩
  ·intro y0 y1 y2
   unfold rillmeterref08_Take.j0
   repeat' first
   | (with_reducible exact ih0 _ _ _)
   | (with_reducible exact ih1 _ _ _)
   | (with_reducible exact ih2 _ _ _)
   | (with_reducible exact rillmeterref04_Number.mono _ _)
   | (with_reducible exact LeO.refl _)
   | (with_reducible exact LeO.none _)
   | (with_reducible refine LeO.ite ?_ ?_)
   | (with_reducible refine LeO.bind ?_ (fun _ => ?_))
   | exact ih0 _ _ _
   | exact ih1 _ _ _
   | exact ih2 _ _ _
   | exact rillmeterref04_Number.mono _ _
   | exact LeO.none _
   | refine LeO.ite ?_ ?_
   | refine LeO.bind ?_ (fun _ => ?_)
  ·intro y0 y1 y2
   unfold rillmeterref08_Take.j1
   repeat' first
   | (with_reducible exact ih0 _ _ _)
   | (with_reducible exact ih1 _ _ _)
   | (with_reducible exact ih2 _ _ _)
   | (with_reducible exact rillmeterref04_Number.mono _ _)
   | (with_reducible exact LeO.refl _)
   | (with_reducible exact LeO.none _)
   | (with_reducible refine LeO.ite ?_ ?_)
   | (with_reducible refine LeO.bind ?_ (fun _ => ?_))
   | exact ih0 _ _ _
   | exact ih1 _ _ _
   | exact ih2 _ _ _
   | exact rillmeterref04_Number.mono _ _
   | exact LeO.none _
   | refine LeO.ite ?_ ?_
   | refine LeO.bind ?_ (fun _ => ?_)
  ·intro y0 y1 y2
   unfold rillmeterref08_Take.j2
   repeat' first
   | (with_reducible exact ih0 _ _ _)
   | (with_reducible exact ih1 _ _ _)
   | (with_reducible exact ih2 _ _ _)
   | (with_reducible exact rillmeterref04_Number.mono _ _)
   | (with_reducible exact LeO.refl _)
   | (with_reducible exact LeO.none _)
   | (with_reducible refine LeO.ite ?_ ?_)
   | (with_reducible refine LeO.bind ?_ (fun _ => ?_))
   | exact ih0 _ _ _
   | exact ih1 _ _ _
   | exact ih2 _ _ _
   | exact rillmeterref04_Number.mono _ _
   | exact LeO.none _
   | refine LeO.ite ?_ ?_
   | refine LeO.bind ?_ (fun _ => ?_)
theorem rillmeterref08_Take.mono : ∀ a0 a1 k, LeO (rillmeterref08_Take.f k a0 a1) (rillmeterref08_Take.f (k + 1) a0 a1) := by
 intro a0 a1 k
 obtain ⟨ih0, ih1, ih2⟩ := rillmeterref08_Take.mono_l k
 unfold rillmeterref08_Take.f
 repeat' first
   | (with_reducible exact ih0 _ _ _)
   | (with_reducible exact ih1 _ _ _)
   | (with_reducible exact ih2 _ _ _)
   | (with_reducible exact rillmeterref04_Number.mono _ _)
   | (with_reducible exact LeO.refl _)
   | (with_reducible exact LeO.none _)
   | (with_reducible refine LeO.ite ?_ ?_)
   | (with_reducible refine LeO.bind ?_ (fun _ => ?_))
   | exact ih0 _ _ _
   | exact ih1 _ _ _
   | exact ih2 _ _ _
   | exact rillmeterref04_Number.mono _ _
   | exact LeO.none _
   | refine LeO.ite ?_ ?_
   | refine LeO.bind ?_ (fun _ => ?_)
set_option maxHeartbeats 8000000 in
set_option maxRecDepth 100000 in
theorem rillmeterref08_Take.calls (k : Nat) (a0 : Int) (a1 : ByteArray) (r1 : Int) (r2 : Int) (r3 : ByteArray) (r4 : Int) (w : World) (h : rillmeterref08_Take.f k a0 a1 = some (r1, r2, r3, r4)) :
  Calls Try.prog 32 #[.int .i64 a0, .string a1] w fun e w' => e = .returned (.tuple #[.int .i64 r1, .int .i64 r2, .string r3, .int .i64 r4]) ∧ Drawn0 w w' := by
 have H : (if a0 = 6 then (rillmeterref08_Take.j0 k a0 a1 false) else (rillmeterref08_Take.j0 k a0 a1 (a0 != 17))) = some (r1, r2, r3, r4) := h
 clear h
 have HC3 := Aside0.mk H
 clear H
 go_enter Try.func32, Try.ntmps32
 go_upto_region 1 with (fail)
 repeat (go_quiet (fail); go_upto_region 1 with (fail))
 go_cut [15] (fun v15 wc => ∃ (kq : Nat) (x15_2 : Bool), v15 = .bool x15_2 ∧ Aside0 (rillmeterref08_Take.j0 kq a0 a1 x15_2 = some (r1, r2, r3, r4)) ∧ Aside0 (kq ≤ k) ∧ Drawn0 w wc)
 case first =>
  have H := HC3.out
  clear HC3
  by_cases c4 : a0 = 6
  ·rw [if_pos c4] at H
   have c4b0 : (a0 == 6) = true := beq_iff_eq.mpr c4
   have c4b1 : (a0 != 6) = false := bne_eq_false_iff_eq.mpr c4
   clear c4
   (first | rw [c4b0] | (simp only [i64_w, i32_w]; rw [c4b0]) | skip)
   have H' := Aside0.mk H
   clear H
   go_wp2
   repeat (go_quiet (fail); try go_wp2)
   go_meet
   case rel => exact ⟨_, (false), (by first | rfl | (simp; done) | (simp [*]; done)), H', ⟨by first | omega | exact Nat.le_refl _⟩, by repeat (first | exact Drawn0.refl _ | apply Drawn0.step)⟩
  ·rw [if_neg c4] at H
   have c4b0 : (a0 == 6) = false := beq_eq_false_iff_ne.mpr c4
   have c4b1 : (a0 != 6) = true := bne_iff_ne.mpr c4
   (first | rw [c4b0] | (simp only [i64_w, i32_w]; rw [c4b0]) | skip)
   have H' := Aside0.mk H
   clear H
   go_wp2
   repeat (go_quiet (fail); try go_wp2)
   go_meet
   case rel => exact ⟨_, ((a0 != 17)), (by first | rfl | (simp; done) | (simp [*]; done)), H', ⟨by first | omega | exact Nat.le_refl _⟩, by repeat (first | exact Drawn0.refl _ | apply Drawn0.step)⟩
 case rest =>
  clear HC3
  (try clear p2); (try clear c3); (try clear c4); (try clear c4b0); (try clear c4b1)
  obtain ⟨kq, x15_2, rfl, HA, HJ2, ⟨mc2, rfl⟩⟩ := hcut
  cases kq with
  | zero => exact absurd HA.out (by simp [rillmeterref08_Take.j0])
  | succ kj2 =>
   have H := HA.out
   clear HA
   simp only [rillmeterref08_Take.j0] at H
   by_cases c5 : x15_2 = true
   ·subst c5
    have H1 : (some (0, 0, (⟨#[]⟩ : ByteArray), 8)) = some (r1, r2, r3, r4) := by rw [if_pos rfl] at H; exact H
    clear H
    have H := H1
    clear H1
    simp only [Option.some.injEq, Prod.mk.injEq] at H
    obtain ⟨rfl, rfl, rfl, rfl⟩ := H
    go_wp2
    repeat (go_quiet (fail); try go_wp2)
    refine bodyPost_ret (results_list (rs := [.tmp 4, .tmp 5, .tmp 6, .tmp 7]) rfl (by simp) (.tmp (.tmp (.tmp (.tmp .nil))))) rfl ?_
    exact ⟨by first | rfl | (simp; done) | (simp [*]; done), by repeat (first | exact Drawn0.refl _ | apply Drawn0.step)⟩
   ·replace c5 := Bool.eq_false_iff.mpr c5
    subst c5
    have H1 : (if a0 = 17 then (if (a1.size : Int) < 8 then (some (0, 0, (⟨#[]⟩ : ByteArray), 16)) else (if 4 ≤ 6 then (if 6 ≤ (a1.size : Int) then ((rillmeterref04_Number.f kj2 (a1.extract 4 6)).bind fun t101 => (if t101 < 8 then (rillmeterref08_Take.j1 kj2 a1 t101 true) else (rillmeterref08_Take.j1 kj2 a1 t101 (decide (t101 > (a1.size : Int)))))) else (none)) else (none))) else (if (a1.size : Int) < 20 then (some (0, 0, (⟨#[]⟩ : ByteArray), 16)) else (if 12 < (a1.size : Int) then (if (wrap64 ((wrap64 (Int.tdiv (wrap64 (bt a1 12)) 16)) * 4)) < 20 then (rillmeterref08_Take.j2 kj2 a1 (wrap64 ((wrap64 (Int.tdiv (wrap64 (bt a1 12)) 16)) * 4)) true) else (rillmeterref08_Take.j2 kj2 a1 (wrap64 ((wrap64 (Int.tdiv (wrap64 (bt a1 12)) 16)) * 4)) (decide ((wrap64 ((wrap64 (Int.tdiv (wrap64 (bt a1 12)) 16)) * 4)) > (a1.size : Int))))) else (none)))) = some (r1, r2, r3, r4) := by rw [if_neg (show ¬ (false = true) by decide)] at H; exact H
    clear H
    have H := H1
    clear H1
    by_cases c6 : a0 = 17
    ·rw [if_pos c6] at H
     have c6b0 : (a0 == 17) = true := beq_iff_eq.mpr c6
     have c6b1 : (a0 != 17) = false := bne_eq_false_iff_eq.mpr c6
     clear c6
     by_cases c7 : (a1.size : Int) < 8
     ·rw [if_pos c7] at H
      have c7b0 : decide ((a1.size : Int) < 8) = true := decide_eq_true c7
      have c7b1 : decide (a1.size < 8) = true := decide_eq_true (by omega)
      clear c7
      simp only [Option.some.injEq, Prod.mk.injEq] at H
      obtain ⟨rfl, rfl, rfl, rfl⟩ := H
      go_wp2
      repeat (go_quiet (fail); try go_wp2)
      refine bodyPost_ret (results_list (rs := [.tmp 4, .tmp 5, .tmp 6, .tmp 7]) rfl (by simp) (.tmp (.tmp (.tmp (.tmp .nil))))) rfl ?_
      exact ⟨by first | rfl | (simp; done) | (simp [*]; done), by repeat (first | exact Drawn0.refl _ | apply Drawn0.step)⟩
     ·rw [if_neg c7] at H
      have c7b0 : decide ((a1.size : Int) < 8) = false := decide_eq_false c7
      have c7b1 : decide (a1.size < 8) = false := decide_eq_false (by omega)
      clear c7
      by_cases c8 : 4 ≤ 6
      rotate_left
      ·rw [if_neg c8] at H; exact absurd H (by simp)
      rw [if_pos c8] at H
      have c8b0 := eq_true c8
      have c8b1 : decide (4 ≤ 6) = true := decide_eq_true c8
      clear c8
      by_cases c9 : 6 ≤ (a1.size : Int)
      rotate_left
      ·rw [if_neg c9] at H; exact absurd H (by simp)
      rw [if_pos c9] at H
      have c9b0 := eq_true c9
      have c9b1 : decide (6 ≤ (a1.size : Int)) = true := decide_eq_true c9
      clear c9
      replace H := Option.bind_eq_some_iff.mp H
      obtain ⟨t101, A100, H⟩ := H
      replace H : (if t101 < 8 then (rillmeterref08_Take.j1 kj2 a1 t101 true) else (rillmeterref08_Take.j1 kj2 a1 t101 (decide (t101 > (a1.size : Int))))) = some (r1, r2, r3, r4) := H
      have A10 := Aside0.mk A100
      clear A100
      have HC11 := Aside0.mk H
      clear H
      go_upto_region 7 with (first | (go_at_call 45; (with_reducible refine (rillmeterref04_Number.calls kj2 (a1.extract 4 6) t101 _ A10.out).mono ?_); rintro e w' ⟨rfl, ⟨nd, rfl⟩⟩; (try first | exact ⟨rfl, _, World.drewN_drewN _ _ _⟩ | exact ⟨rfl, _, Eq.trans (World.drewN_drewN _ _ _) (congrArg (World.drewN _) (Nat.add_assoc _ _ _))⟩)))
      repeat (go_quiet (first | (go_at_call 45; (with_reducible refine (rillmeterref04_Number.calls kj2 (a1.extract 4 6) t101 _ A10.out).mono ?_); rintro e w' ⟨rfl, ⟨nd, rfl⟩⟩; (try first | exact ⟨rfl, _, World.drewN_drewN _ _ _⟩ | exact ⟨rfl, _, Eq.trans (World.drewN_drewN _ _ _) (congrArg (World.drewN _) (Nat.add_assoc _ _ _))⟩))); go_upto_region 7 with (first | (go_at_call 45; (with_reducible refine (rillmeterref04_Number.calls kj2 (a1.extract 4 6) t101 _ A10.out).mono ?_); rintro e w' ⟨rfl, ⟨nd, rfl⟩⟩; (try first | exact ⟨rfl, _, World.drewN_drewN _ _ _⟩ | exact ⟨rfl, _, Eq.trans (World.drewN_drewN _ _ _) (congrArg (World.drewN _) (Nat.add_assoc _ _ _))⟩))))
      (try simp only [Act.put, s1_, s2_, s3_])
      go_cut [31] (fun v31 wc => ∃ (kq : Nat) (x31_10 : Bool), v31 = .bool x31_10 ∧ Aside0 (rillmeterref08_Take.j1 kq a1 t101 x31_10 = some (r1, r2, r3, r4)) ∧ Aside0 (kq ≤ kj2) ∧ Drawn0 w wc)
      case first =>
       have H := HC11.out
       clear HC11
       by_cases c12 : t101 < 8
       ·rw [if_pos c12] at H
        have c12b0 : decide (t101 < 8) = true := decide_eq_true c12
        clear c12
        (first | rw [c12b0] | (simp only [i64_w, i32_w]; rw [c12b0]) | skip)
        have H' := Aside0.mk H
        clear H
        go_wp2
        repeat (go_quiet (fail); try go_wp2)
        go_meet
        case rel => exact ⟨_, (true), (by first | rfl | (simp; done) | (simp [*]; done)), H', ⟨by have := HJ2.out; first | omega | exact Nat.le_refl _⟩, by repeat (first | exact Drawn0.refl _ | apply Drawn0.step)⟩
       ·rw [if_neg c12] at H
        have c12b0 : decide (t101 < 8) = false := decide_eq_false c12
        clear c12
        (first | rw [c12b0] | (simp only [i64_w, i32_w]; rw [c12b0]) | skip)
        have H' := Aside0.mk H
        clear H
        go_wp2
        repeat (go_quiet (fail); try go_wp2)
        go_meet
        case rel => exact ⟨_, (decide (t101 > (a1.size : Int))), (by first | rfl | (simp; done) | (simp [*]; done)), H', ⟨by have := HJ2.out; first | omega | exact Nat.le_refl _⟩, by repeat (first | exact Drawn0.refl _ | apply Drawn0.step)⟩
      case rest =>
       clear HC11
       (try clear c1); (try clear c2); (try clear p2); (try clear c3); (try clear c4); (try clear c4b0); (try clear c4b1); (try clear c5); (try clear c6); (try clear c6b0); (try clear c6b1); (try clear p6); (try clear c7); (try clear c7b0); (try clear c7b1); (try clear c8); (try clear c8b0); (try clear c8b1); (try clear c9); (try clear c9b0); (try clear c9b1); (try clear c12); (try clear c12b0); (try clear p2)
       obtain ⟨kq, x31_10, rfl, HA, HJ10, ⟨mc10, rfl⟩⟩ := hcut
       cases kq with
       | zero => exact absurd HA.out (by simp [rillmeterref08_Take.j1])
       | succ kj10 =>
        have H := HA.out
        clear HA
        simp only [rillmeterref08_Take.j1] at H
        by_cases c13 : x31_10 = true
        ·subst c13
         have H1 : (some (0, 0, (⟨#[]⟩ : ByteArray), 16)) = some (r1, r2, r3, r4) := by rw [if_pos rfl] at H; exact H
         clear H
         have H := H1
         clear H1
         simp only [Option.some.injEq, Prod.mk.injEq] at H
         obtain ⟨rfl, rfl, rfl, rfl⟩ := H
         go_wp2
         repeat (go_quiet (fail); try go_wp2)
         refine bodyPost_ret (results_list (rs := [.tmp 4, .tmp 5, .tmp 6, .tmp 7]) rfl (by simp) (.tmp (.tmp (.tmp (.tmp .nil))))) rfl ?_
         exact ⟨by first | rfl | (simp; done) | (simp [*]; done), by repeat (first | exact Drawn0.refl _ | apply Drawn0.step)⟩
        ·replace c13 := Bool.eq_false_iff.mpr c13
         subst c13
         have H1 : (if 0 ≤ 2 then (if 2 ≤ (a1.size : Int) then ((rillmeterref04_Number.f kj10 (a1.extract 0 2)).bind fun t102 => (if 2 ≤ 4 then (if 4 ≤ (a1.size : Int) then ((rillmeterref04_Number.f kj10 (a1.extract 2 4)).bind fun t103 => (if 8 ≤ t101 then (if t101 ≤ (a1.size : Int) then (some (t102, t103, a1.extract 8 (t101 : Int).toNat, 0)) else (none)) else (none))) else (none)) else (none))) else (none)) else (none)) = some (r1, r2, r3, r4) := by rw [if_neg (show ¬ (false = true) by decide)] at H; exact H
         clear H
         have H := H1
         clear H1
         by_cases c14 : 0 ≤ 2
         rotate_left
         ·rw [if_neg c14] at H; exact absurd H (by simp)
         rw [if_pos c14] at H
         have c14b0 := eq_true c14
         have c14b1 : decide (0 ≤ 2) = true := decide_eq_true c14
         clear c14
         by_cases c15 : 2 ≤ (a1.size : Int)
         rotate_left
         ·rw [if_neg c15] at H; exact absurd H (by simp)
         rw [if_pos c15] at H
         have c15b0 := eq_true c15
         have c15b1 : decide (2 ≤ (a1.size : Int)) = true := decide_eq_true c15
         clear c15
         replace H := Option.bind_eq_some_iff.mp H
         obtain ⟨t102, A160, H⟩ := H
         replace H : (if 2 ≤ 4 then (if 4 ≤ (a1.size : Int) then ((rillmeterref04_Number.f kj10 (a1.extract 2 4)).bind fun t103 => (if 8 ≤ t101 then (if t101 ≤ (a1.size : Int) then (some (t102, t103, a1.extract 8 (t101 : Int).toNat, 0)) else (none)) else (none))) else (none)) else (none)) = some (r1, r2, r3, r4) := H
         have A16 := Aside0.mk A160
         clear A160
         by_cases c17 : 2 ≤ 4
         rotate_left
         ·rw [if_neg c17] at H; exact absurd H (by simp)
         rw [if_pos c17] at H
         have c17b0 := eq_true c17
         have c17b1 : decide (2 ≤ 4) = true := decide_eq_true c17
         clear c17
         by_cases c18 : 4 ≤ (a1.size : Int)
         rotate_left
         ·rw [if_neg c18] at H; exact absurd H (by simp)
         rw [if_pos c18] at H
         have c18b0 := eq_true c18
         have c18b1 : decide (4 ≤ (a1.size : Int)) = true := decide_eq_true c18
         clear c18
         replace H := Option.bind_eq_some_iff.mp H
         obtain ⟨t103, A190, H⟩ := H
         replace H : (if 8 ≤ t101 then (if t101 ≤ (a1.size : Int) then (some (t102, t103, a1.extract 8 (t101 : Int).toNat, 0)) else (none)) else (none)) = some (r1, r2, r3, r4) := H
         have A19 := Aside0.mk A190
         clear A190
         by_cases c20 : 8 ≤ t101
         rotate_left
         ·rw [if_neg c20] at H; exact absurd H (by simp)
         rw [if_pos c20] at H
         have c20b0 := eq_true c20
         have c20b1 : decide (8 ≤ t101) = true := decide_eq_true c20
         clear c20
         by_cases c21 : t101 ≤ (a1.size : Int)
         rotate_left
         ·rw [if_neg c21] at H; exact absurd H (by simp)
         rw [if_pos c21] at H
         have c21b0 := eq_true c21
         have c21b1 : decide (t101 ≤ (a1.size : Int)) = true := decide_eq_true c21
         clear c21
         simp only [Option.some.injEq, Prod.mk.injEq] at H
         obtain ⟨rfl, rfl, rfl, rfl⟩ := H
         go_wp2_with (first | (go_at_call 45; (with_reducible refine (rillmeterref04_Number.calls kj10 (a1.extract 0 2) t102 _ A16.out).mono ?_); rintro e w' ⟨rfl, ⟨nd, rfl⟩⟩; (try first | exact ⟨rfl, _, World.drewN_drewN _ _ _⟩ | exact ⟨rfl, _, Eq.trans (World.drewN_drewN _ _ _) (congrArg (World.drewN _) (Nat.add_assoc _ _ _))⟩)) | (go_at_call 45; (with_reducible refine (rillmeterref04_Number.calls kj10 (a1.extract 2 4) t103 _ A19.out).mono ?_); rintro e w' ⟨rfl, ⟨nd, rfl⟩⟩; (try first | exact ⟨rfl, _, World.drewN_drewN _ _ _⟩ | exact ⟨rfl, _, Eq.trans (World.drewN_drewN _ _ _) (congrArg (World.drewN _) (Nat.add_assoc _ _ _))⟩)))
         repeat (go_quiet (first | (go_at_call 45; (with_reducible refine (rillmeterref04_Number.calls kj10 (a1.extract 0 2) t102 _ A16.out).mono ?_); rintro e w' ⟨rfl, ⟨nd, rfl⟩⟩; (try first | exact ⟨rfl, _, World.drewN_drewN _ _ _⟩ | exact ⟨rfl, _, Eq.trans (World.drewN_drewN _ _ _) (congrArg (World.drewN _) (Nat.add_assoc _ _ _))⟩)) | (go_at_call 45; (with_reducible refine (rillmeterref04_Number.calls kj10 (a1.extract 2 4) t103 _ A19.out).mono ?_); rintro e w' ⟨rfl, ⟨nd, rfl⟩⟩; (try first | exact ⟨rfl, _, World.drewN_drewN _ _ _⟩ | exact ⟨rfl, _, Eq.trans (World.drewN_drewN _ _ _) (congrArg (World.drewN _) (Nat.add_assoc _ _ _))⟩))); try go_wp2_with (first | (go_at_call 45; (with_reducible refine (rillmeterref04_Number.calls kj10 (a1.extract 0 2) t102 _ A16.out).mono ?_); rintro e w' ⟨rfl, ⟨nd, rfl⟩⟩; (try first | exact ⟨rfl, _, World.drewN_drewN _ _ _⟩ | exact ⟨rfl, _, Eq.trans (World.drewN_drewN _ _ _) (congrArg (World.drewN _) (Nat.add_assoc _ _ _))⟩)) | (go_at_call 45; (with_reducible refine (rillmeterref04_Number.calls kj10 (a1.extract 2 4) t103 _ A19.out).mono ?_); rintro e w' ⟨rfl, ⟨nd, rfl⟩⟩; (try first | exact ⟨rfl, _, World.drewN_drewN _ _ _⟩ | exact ⟨rfl, _, Eq.trans (World.drewN_drewN _ _ _) (congrArg (World.drewN _) (Nat.add_assoc _ _ _))⟩))))
         refine bodyPost_ret (results_list (rs := [.tmp 4, .tmp 5, .tmp 6, .tmp 7]) rfl (by simp) (.tmp (.tmp (.tmp (.tmp .nil))))) rfl ?_
         exact ⟨by first | rfl | (simp; done) | (simp [*]; done), by repeat (first | exact Drawn0.refl _ | apply Drawn0.step)⟩
    ·rw [if_neg c6] at H
     have c6b0 : (a0 == 17) = false := beq_eq_false_iff_ne.mpr c6
     have c6b1 : (a0 != 17) = true := bne_iff_ne.mpr c6
     by_cases c22 : (a1.size : Int) < 20
     ·rw [if_pos c22] at H
      have c22b0 : decide ((a1.size : Int) < 20) = true := decide_eq_true c22
      have c22b1 : decide (a1.size < 20) = true := decide_eq_true (by omega)
      clear c22
      simp only [Option.some.injEq, Prod.mk.injEq] at H
      obtain ⟨rfl, rfl, rfl, rfl⟩ := H
      go_wp2
      repeat (go_quiet (fail); try go_wp2)
      refine bodyPost_ret (results_list (rs := [.tmp 4, .tmp 5, .tmp 6, .tmp 7]) rfl (by simp) (.tmp (.tmp (.tmp (.tmp .nil))))) rfl ?_
      exact ⟨by first | rfl | (simp; done) | (simp [*]; done), by repeat (first | exact Drawn0.refl _ | apply Drawn0.step)⟩
     ·rw [if_neg c22] at H
      have c22b0 : decide ((a1.size : Int) < 20) = false := decide_eq_false c22
      have c22b1 : decide (a1.size < 20) = false := decide_eq_false (by omega)
      clear c22
      by_cases c23 : 12 < (a1.size : Int)
      rotate_left
      ·rw [if_neg c23] at H; exact absurd H (by simp)
      rw [if_pos c23] at H
      have c23b0 : decide (12 < (a1.size : Int)) = true := decide_eq_true c23
      have c23b1 : decide (12 < a1.size) = true := decide_eq_true (by omega)
      clear c23
      have HC25 := Aside0.mk H
      clear H
      have p24 : 0 ≤ (12 : Int) := (by omega)
      have q24 : 12 < a1.size := (by have : (12 : Int) < (a1.size : Int) := oD_; omega)
      have hx24 : ∀ h : 12 < a1.size, ((a1[12]'h).toNat : Int) = bt a1 12 := bt_at a1 12
      clear p24
      have qi24 : (12 < (a1.size : Int)) = True := eq_true oD_
      replace q24 := eq_true q24
      go_upto_region 13 with (fail)
      repeat (go_quiet (fail); go_upto_region 13 with (fail))
      go_cut [56] (fun v56 wc => ∃ (kq : Nat) (x56_24 : Bool), v56 = .bool x56_24 ∧ Aside0 (rillmeterref08_Take.j2 kq a1 (wrap64 ((wrap64 (Int.tdiv (wrap64 (bt a1 12)) 16)) * 4)) x56_24 = some (r1, r2, r3, r4)) ∧ Aside0 (kq ≤ kj2) ∧ Drawn0 w wc)
      case first =>
       have H := HC25.out
       clear HC25
       by_cases c26 : (wrap64 ((wrap64 (Int.tdiv (wrap64 (bt a1 12)) 16)) * 4)) < 20
       ·rw [if_pos c26] at H
        have c26b0 : decide ((wrap64 ((wrap64 (Int.tdiv (wrap64 (bt a1 12)) 16)) * 4)) < 20) = true := decide_eq_true c26
        clear c26
        (first | rw [c26b0] | (simp only [i64_w, i32_w]; rw [c26b0]) | skip)
        have H' := Aside0.mk H
        clear H
        go_wp2
        repeat (go_quiet (fail); try go_wp2)
        go_meet
        case rel => exact ⟨_, (true), (by first | rfl | (simp; done) | (simp [*]; done)), H', ⟨by have := HJ2.out; first | omega | exact Nat.le_refl _⟩, by repeat (first | exact Drawn0.refl _ | apply Drawn0.step)⟩
       ·rw [if_neg c26] at H
        have c26b0 : decide ((wrap64 ((wrap64 (Int.tdiv (wrap64 (bt a1 12)) 16)) * 4)) < 20) = false := decide_eq_false c26
        clear c26
        (first | rw [c26b0] | (simp only [i64_w, i32_w]; rw [c26b0]) | skip)
        have H' := Aside0.mk H
        clear H
        go_wp2
        repeat (go_quiet (fail); try go_wp2)
        go_meet
        case rel => exact ⟨_, (decide ((wrap64 ((wrap64 (Int.tdiv (wrap64 (bt a1 12)) 16)) * 4)) > (a1.size : Int))), (by first | rfl | (simp; done) | (simp [*]; done)), H', ⟨by have := HJ2.out; first | omega | exact Nat.le_refl _⟩, by repeat (first | exact Drawn0.refl _ | apply Drawn0.step)⟩
      case rest =>
       clear HC25
       (try clear c1); (try clear c2); (try clear p2); (try clear q2); (try clear hx2); (try clear qi2); (try clear c3); (try clear c4); (try clear c4b0); (try clear c4b1); (try clear c5); (try clear c6); (try clear c6b0); (try clear c6b1); (try clear p6); (try clear c7); (try clear c7b0); (try clear c7b1); (try clear c8); (try clear c8b0); (try clear c8b1); (try clear c9); (try clear c9b0); (try clear c9b1); (try clear c10); (try clear c12); (try clear c12b0); (try clear c13); (try clear c14); (try clear c14b0); (try clear c14b1); (try clear c15); (try clear c15b0); (try clear c15b1); (try clear c17); (try clear c17b0); (try clear c17b1); (try clear c18); (try clear c18b0); (try clear c18b1); (try clear c20); (try clear c20b0); (try clear c20b1); (try clear c21); (try clear c21b0); (try clear c21b1); (try clear c22); (try clear c22b0); (try clear c22b1); (try clear c23); (try clear c23b0); (try clear c23b1); (try clear p24); (try clear q24); (try clear hx24); (try clear qi24); (try clear c26); (try clear c26b0); (try clear p2); (try clear p24); (try clear p6); (try clear q24)
       obtain ⟨kq, x56_24, rfl, HA, HJ24, ⟨mc24, rfl⟩⟩ := hcut
       cases kq with
       | zero => exact absurd HA.out (by simp [rillmeterref08_Take.j2])
       | succ kj24 =>
        have H := HA.out
        clear HA
        simp only [rillmeterref08_Take.j2] at H
        by_cases c27 : x56_24 = true
        ·subst c27
         have H1 : (some (0, 0, (⟨#[]⟩ : ByteArray), 16)) = some (r1, r2, r3, r4) := by rw [if_pos rfl] at H; exact H
         clear H
         have H := H1
         clear H1
         simp only [Option.some.injEq, Prod.mk.injEq] at H
         obtain ⟨rfl, rfl, rfl, rfl⟩ := H
         go_wp2
         repeat (go_quiet (fail); try go_wp2)
         refine bodyPost_ret (results_list (rs := [.tmp 4, .tmp 5, .tmp 6, .tmp 7]) rfl (by simp) (.tmp (.tmp (.tmp (.tmp .nil))))) rfl ?_
         exact ⟨by first | rfl | (simp; done) | (simp [*]; done), by repeat (first | exact Drawn0.refl _ | apply Drawn0.step)⟩
        ·replace c27 := Bool.eq_false_iff.mpr c27
         subst c27
         have H1 : (if 0 ≤ 2 then (if 2 ≤ (a1.size : Int) then ((rillmeterref04_Number.f kj24 (a1.extract 0 2)).bind fun t104 => (if 2 ≤ 4 then (if 4 ≤ (a1.size : Int) then ((rillmeterref04_Number.f kj24 (a1.extract 2 4)).bind fun t105 => (if 0 ≤ (wrap64 ((wrap64 (Int.tdiv (wrap64 (bt a1 12)) 16)) * 4)) then (if (wrap64 ((wrap64 (Int.tdiv (wrap64 (bt a1 12)) 16)) * 4)) ≤ (a1.size : Int) then (some (t104, t105, a1.extract ((wrap64 ((wrap64 (Int.tdiv (wrap64 (bt a1 12)) 16)) * 4)) : Int).toNat a1.size, 0)) else (none)) else (none))) else (none)) else (none))) else (none)) else (none)) = some (r1, r2, r3, r4) := by rw [if_neg (show ¬ (false = true) by decide)] at H; exact H
         clear H
         have H := H1
         clear H1
         by_cases c28 : 0 ≤ 2
         rotate_left
         ·rw [if_neg c28] at H; exact absurd H (by simp)
         rw [if_pos c28] at H
         have c28b0 := eq_true c28
         have c28b1 : decide (0 ≤ 2) = true := decide_eq_true c28
         clear c28
         by_cases c29 : 2 ≤ (a1.size : Int)
         rotate_left
         ·rw [if_neg c29] at H; exact absurd H (by simp)
         rw [if_pos c29] at H
         have c29b0 := eq_true c29
         have c29b1 : decide (2 ≤ (a1.size : Int)) = true := decide_eq_true c29
         clear c29
         replace H := Option.bind_eq_some_iff.mp H
         obtain ⟨t104, A300, H⟩ := H
         replace H : (if 2 ≤ 4 then (if 4 ≤ (a1.size : Int) then ((rillmeterref04_Number.f kj24 (a1.extract 2 4)).bind fun t105 => (if 0 ≤ (wrap64 ((wrap64 (Int.tdiv (wrap64 (bt a1 12)) 16)) * 4)) then (if (wrap64 ((wrap64 (Int.tdiv (wrap64 (bt a1 12)) 16)) * 4)) ≤ (a1.size : Int) then (some (t104, t105, a1.extract ((wrap64 ((wrap64 (Int.tdiv (wrap64 (bt a1 12)) 16)) * 4)) : Int).toNat a1.size, 0)) else (none)) else (none))) else (none)) else (none)) = some (r1, r2, r3, r4) := H
         have A30 := Aside0.mk A300
         clear A300
         by_cases c31 : 2 ≤ 4
         rotate_left
         ·rw [if_neg c31] at H; exact absurd H (by simp)
         rw [if_pos c31] at H
         have c31b0 := eq_true c31
         have c31b1 : decide (2 ≤ 4) = true := decide_eq_true c31
         clear c31
         by_cases c32 : 4 ≤ (a1.size : Int)
         rotate_left
         ·rw [if_neg c32] at H; exact absurd H (by simp)
         rw [if_pos c32] at H
         have c32b0 := eq_true c32
         have c32b1 : decide (4 ≤ (a1.size : Int)) = true := decide_eq_true c32
         clear c32
         replace H := Option.bind_eq_some_iff.mp H
         obtain ⟨t105, A330, H⟩ := H
         replace H : (if 0 ≤ (wrap64 ((wrap64 (Int.tdiv (wrap64 (bt a1 12)) 16)) * 4)) then (if (wrap64 ((wrap64 (Int.tdiv (wrap64 (bt a1 12)) 16)) * 4)) ≤ (a1.size : Int) then (some (t104, t105, a1.extract ((wrap64 ((wrap64 (Int.tdiv (wrap64 (bt a1 12)) 16)) * 4)) : Int).toNat a1.size, 0)) else (none)) else (none)) = some (r1, r2, r3, r4) := H
         have A33 := Aside0.mk A330
         clear A330
         obtain ⟨ji34, hji34⟩ : ∃ j_ : Int, (wrap64 ((wrap64 (Int.tdiv (wrap64 (bt a1 12)) 16)) * 4)) = j_ := ⟨_, rfl⟩
         replace H : (if 0 ≤ (ji34) then (if (ji34) ≤ (a1.size : Int) then (some (t104, t105, a1.extract ((ji34) : Int).toNat a1.size, 0)) else (none)) else (none)) = some (r1, r2, r3, r4) := by first | (rw [hji34] at H; exact H) | (simp only [hji34] at H ⊢; exact H)
         (try rw [hji34] at A30)
         (try rw [hji34] at A33)
         have hji34w : (IntKind.i64.wrap ((wrap64 (Int.tdiv (wrap64 (bt a1 12)) 16)) * 4)) = ji34 := (i64_w _).trans hji34
         by_cases c35 : 0 ≤ (ji34)
         rotate_left
         ·rw [if_neg c35] at H; exact absurd H (by simp)
         rw [if_pos c35] at H
         have c35b0 := eq_true c35
         have c35b1 : decide (0 ≤ (ji34)) = true := decide_eq_true c35
         clear c35
         by_cases c36 : (ji34) ≤ (a1.size : Int)
         rotate_left
         ·rw [if_neg c36] at H; exact absurd H (by simp)
         rw [if_pos c36] at H
         have c36b0 := eq_true c36
         have c36b1 : decide ((ji34) ≤ (a1.size : Int)) = true := decide_eq_true c36
         clear c36
         simp only [Option.some.injEq, Prod.mk.injEq] at H
         obtain ⟨rfl, rfl, rfl, rfl⟩ := H
         go_wp2_with (first | (go_at_call 45; (with_reducible refine (rillmeterref04_Number.calls kj24 (a1.extract 0 2) t104 _ A30.out).mono ?_); rintro e w' ⟨rfl, ⟨nd, rfl⟩⟩; (try first | exact ⟨rfl, _, World.drewN_drewN _ _ _⟩ | exact ⟨rfl, _, Eq.trans (World.drewN_drewN _ _ _) (congrArg (World.drewN _) (Nat.add_assoc _ _ _))⟩)) | (go_at_call 45; (with_reducible refine (rillmeterref04_Number.calls kj24 (a1.extract 2 4) t105 _ A33.out).mono ?_); rintro e w' ⟨rfl, ⟨nd, rfl⟩⟩; (try first | exact ⟨rfl, _, World.drewN_drewN _ _ _⟩ | exact ⟨rfl, _, Eq.trans (World.drewN_drewN _ _ _) (congrArg (World.drewN _) (Nat.add_assoc _ _ _))⟩)))
         repeat (go_quiet (first | (go_at_call 45; (with_reducible refine (rillmeterref04_Number.calls kj24 (a1.extract 0 2) t104 _ A30.out).mono ?_); rintro e w' ⟨rfl, ⟨nd, rfl⟩⟩; (try first | exact ⟨rfl, _, World.drewN_drewN _ _ _⟩ | exact ⟨rfl, _, Eq.trans (World.drewN_drewN _ _ _) (congrArg (World.drewN _) (Nat.add_assoc _ _ _))⟩)) | (go_at_call 45; (with_reducible refine (rillmeterref04_Number.calls kj24 (a1.extract 2 4) t105 _ A33.out).mono ?_); rintro e w' ⟨rfl, ⟨nd, rfl⟩⟩; (try first | exact ⟨rfl, _, World.drewN_drewN _ _ _⟩ | exact ⟨rfl, _, Eq.trans (World.drewN_drewN _ _ _) (congrArg (World.drewN _) (Nat.add_assoc _ _ _))⟩))); try go_wp2_with (first | (go_at_call 45; (with_reducible refine (rillmeterref04_Number.calls kj24 (a1.extract 0 2) t104 _ A30.out).mono ?_); rintro e w' ⟨rfl, ⟨nd, rfl⟩⟩; (try first | exact ⟨rfl, _, World.drewN_drewN _ _ _⟩ | exact ⟨rfl, _, Eq.trans (World.drewN_drewN _ _ _) (congrArg (World.drewN _) (Nat.add_assoc _ _ _))⟩)) | (go_at_call 45; (with_reducible refine (rillmeterref04_Number.calls kj24 (a1.extract 2 4) t105 _ A33.out).mono ?_); rintro e w' ⟨rfl, ⟨nd, rfl⟩⟩; (try first | exact ⟨rfl, _, World.drewN_drewN _ _ _⟩ | exact ⟨rfl, _, Eq.trans (World.drewN_drewN _ _ _) (congrArg (World.drewN _) (Nat.add_assoc _ _ _))⟩))))
         refine bodyPost_ret (results_list (rs := [.tmp 4, .tmp 5, .tmp 6, .tmp 7]) rfl (by simp) (.tmp (.tmp (.tmp (.tmp .nil))))) rfl ?_
         exact ⟨by first | rfl | (simp; done) | (simp only [← hji34] <;> (first | rfl | simp)) | (simp [*]; done), by repeat (first | exact Drawn0.refl _ | apply Drawn0.step)⟩
end Go.Proofs.Ytfdhifigndmgaaa.Q
