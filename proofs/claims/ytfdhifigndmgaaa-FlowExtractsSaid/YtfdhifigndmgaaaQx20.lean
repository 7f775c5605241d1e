-- made by a program of this session (wip/print-patch.py, over the kit's print)
import Derived.Test.YtfdhifigndmgaaaQx0
namespace Go.Proofs.Ytfdhifigndmgaaa.Q
open Go.RowKit Go.Proofs.YtfdhifigndmgaaaW.PrintWords Go.Proofs.YtfdhifigndmgaaaW.PrintLast Go.Proofs.YtfdhifigndmgaaaW.PrintMore
attribute [local go_sem] max2_int min2_int max_two min_two max_three min_three max_four min_four   -- for this text's walks alone
set_option linter.unusedVariables false
set_option linter.unusedSimpArgs false

attribute [local go_sem] cell_twice_ cell_twiceN_
/-! ### rillmeterref04_Number: function 45 -/
def rillmeterref04_Number.l0 : Nat → ByteArray → Int → Int → Option (Int)
 | 0, _, _, _ => none
 | k + 1, x0, x3, x4 => if x4 < (x0.size : Int) then (if 0 ≤ x4 then (rillmeterref04_Number.l0 k x0 (wrap64 ((wrap64 (256 * x3)) + (wrap64 (bt x0 x4)))) (wrap64 (x4 + 1))) else (none)) else (some x3)
def rillmeterref04_Number.f (k : Nat) (a0 : ByteArray) : Option (Int) := rillmeterref04_Number.l0 k a0 0 0
theorem rillmeterref04_Number.mono_l : ∀ k, (∀ y0 y1 y2, LeO (rillmeterref04_Number.l0 k y0 y1 y2) (rillmeterref04_Number.l0 (k + 1) y0 y1 y2))
 | 0 => fun _ _ _ r h => by simp [rillmeterref04_Number.l0] at h
 | k + 1 => by
  have ih0 := rillmeterref04_Number.mono_l k
  ·intro y0 y1 y2
   unfold rillmeterref04_Number.l0
   repeat' first
   | (with_reducible exact ih0 _ _ _)
   | (with_reducible exact LeO.refl _)
   | (with_reducible exact LeO.none _)
   | (with_reducible refine LeO.ite ?_ ?_)
   | (with_reducible refine LeO.bind ?_ (fun _ => ?_))
   | exact ih0 _ _ _
   | exact LeO.none _
   | refine LeO.ite ?_ ?_
   | refine LeO.bind ?_ (fun _ => ?_)
theorem rillmeterref04_Number.mono : ∀ a0 k, LeO (rillmeterref04_Number.f k a0) (rillmeterref04_Number.f (k + 1) a0) := by
 intro a0 k
 have ih0 := rillmeterref04_Number.mono_l k
 unfold rillmeterref04_Number.f
 repeat' first
   | (with_reducible exact ih0 _ _ _)
   | (with_reducible exact LeO.refl _)
   | (with_reducible exact LeO.none _)
   | (with_reducible refine LeO.ite ?_ ?_)
   | (with_reducible refine LeO.bind ?_ (fun _ => ?_))
   | exact ih0 _ _ _
   | exact LeO.none _
   | refine LeO.ite ?_ ?_
   | refine LeO.bind ?_ (fun _ => ?_)
set_option maxHeartbeats 8000000 in
set_option maxRecDepth 100000 in
theorem rillmeterref04_Number.calls (k : Nat) (a0 : ByteArray) (r : Int) (w : World) (h : rillmeterref04_Number.f k a0 = some r) :
  Calls Try.prog 45 #[.string a0] w fun e w' => e = .returned (.int .i64 r) ∧ Drawn0 w w' := by
 have H : (rillmeterref04_Number.l0 k a0 0 0) = some r := h
 clear h
 have H' := Aside0.mk H
 clear H
 go_enter Try.func45, Try.ntmps45
 go_wp2
 go_loopg [3, 4] k (fun kq v3 v4 w' => ∃ (x3_1 : Int) (x4_1 : Int), v3 = .int .i64 x3_1 ∧ v4 = .int .i64 x4_1 ∧ Aside0 (rillmeterref04_Number.l0 kq a0 x3_1 x4_1 = some r) ∧ Aside0 (kq ≤ k) ∧ Drawn0 w w')
 case atStart => exact ⟨(0), (0), (by first | rfl | (simp; done) | (simp [*]; done)), (by first | rfl | (simp; done) | (simp [*]; done)), H', ⟨Nat.le_refl _⟩, by repeat (first | exact Drawn0.refl _ | apply Drawn0.step)⟩
 case round =>
  clear H'
  obtain ⟨x3_1, x4_1, rfl, rfl, HA, HK1, ⟨m1, rfl⟩⟩ := hrel
  cases gk with
  | zero => exact absurd HA.out (by simp [rillmeterref04_Number.l0])
  | succ k1 =>
   have H := HA.out
   clear HA
   simp only [rillmeterref04_Number.l0] at H
   by_cases c2 : x4_1 < (a0.size : Int)
   ·rw [if_pos c2] at H
    have c2b0 : decide (x4_1 < (a0.size : Int)) = true := decide_eq_true c2
    clear c2
    by_cases c3 : 0 ≤ x4_1
    rotate_left
    ·rw [if_neg c3] at H; exact absurd H (by simp)
    rw [if_pos c3] at H
    have c3b0 : decide (0 ≤ x4_1) = true := decide_eq_true c3
    clear c3
    have H' := Aside0.mk H
    clear H
    have p4 : 0 ≤ (x4_1 : Int) := oD_
    have q4 : x4_1 < (a0.size : Int) := oD_
    have hx4 := bt_at a0 x4_1
    replace p4 := eq_true p4
    replace q4 := eq_true q4
    go_wp2
    go_roundg k1
    case measure => have := HK1.out; omega
    case rel => exact ⟨(wrap64 ((wrap64 (256 * x3_1)) + (wrap64 (bt a0 x4_1)))), (wrap64 (x4_1 + 1)), (by first | rfl | (simp; done) | (simp [*]; done)), (by first | rfl | (simp; done) | (simp [*]; done)), H', ⟨by have := HK1.out; omega⟩, by repeat (first | exact Drawn0.refl _ | apply Drawn0.step)⟩
   ·rw [if_neg c2] at H
    have c2b0 : decide (x4_1 < (a0.size : Int)) = false := decide_eq_false c2
    clear c2
    obtain rfl := Option.some.inj H
    go_wp2
    go_ret
    exact ⟨by first | rfl | (simp; done) | (simp [*]; done), by repeat (first | exact Drawn0.refl _ | apply Drawn0.step)⟩
/-! ### rillmeterref04_Sum: function 46 -/
def rillmeterref04_Sum.l0 : Nat → ByteArray → Int → Int → Option (Int)
 | 0, _, _, _ => none
 | k + 1, x0, x3, x4 => if x4 < (x0.size : Int) then (if 0 ≤ x4 then (if (wrap64 (x4 + 1)) < (x0.size : Int) then (if 0 ≤ (wrap64 (x4 + 1)) then (if (wrap64 (x3 + (wrap64 ((wrap64 (256 * (wrap64 (bt x0 x4)))) + (wrap64 (bt x0 (wrap64 (x4 + 1)))))))) > 65535 then (rillmeterref04_Sum.l0 k x0 (wrap64 ((wrap64 (x3 + (wrap64 ((wrap64 (256 * (wrap64 (bt x0 x4)))) + (wrap64 (bt x0 (wrap64 (x4 + 1)))))))) - 65535)) (wrap64 (x4 + 2))) else (rillmeterref04_Sum.l0 k x0 (wrap64 (x3 + (wrap64 ((wrap64 (256 * (wrap64 (bt x0 x4)))) + (wrap64 (bt x0 (wrap64 (x4 + 1)))))))) (wrap64 (x4 + 2)))) else (none)) else (if (wrap64 (x3 + (wrap64 (256 * (wrap64 (bt x0 x4)))))) > 65535 then (rillmeterref04_Sum.l0 k x0 (wrap64 ((wrap64 (x3 + (wrap64 (256 * (wrap64 (bt x0 x4)))))) - 65535)) (wrap64 (x4 + 2))) else (rillmeterref04_Sum.l0 k x0 (wrap64 (x3 + (wrap64 (256 * (wrap64 (bt x0 x4)))))) (wrap64 (x4 + 2))))) else (none)) else (some (wrap64 (65535 - x3)))
def rillmeterref04_Sum.f (k : Nat) (a0 : ByteArray) : Option (Int) := rillmeterref04_Sum.l0 k a0 0 0
theorem rillmeterref04_Sum.mono_l : ∀ k, (∀ y0 y1 y2, LeO (rillmeterref04_Sum.l0 k y0 y1 y2) (rillmeterref04_Sum.l0 (k + 1) y0 y1 y2))
 | 0 => fun _ _ _ r h => by simp [rillmeterref04_Sum.l0] at h
 | k + 1 => by
  have ih0 := rillmeterref04_Sum.mono_l k
  ·intro y0 y1 y2
   unfold rillmeterref04_Sum.l0
   repeat' first
   | (with_reducible exact ih0 _ _ _)
   | (with_reducible exact LeO.refl _)
   | (with_reducible exact LeO.none _)
   | (with_reducible refine LeO.ite ?_ ?_)
   | (with_reducible refine LeO.bind ?_ (fun _ => ?_))
   | exact ih0 _ _ _
   | exact LeO.none _
   | refine LeO.ite ?_ ?_
   | refine LeO.bind ?_ (fun _ => ?_)
theorem rillmeterref04_Sum.mono : ∀ a0 k, LeO (rillmeterref04_Sum.f k a0) (rillmeterref04_Sum.f (k + 1) a0) := by
 intro a0 k
 have ih0 := rillmeterref04_Sum.mono_l k
 unfold rillmeterref04_Sum.f
 repeat' first
   | (with_reducible exact ih0 _ _ _)
   | (with_reducible exact LeO.refl _)
   | (with_reducible exact LeO.none _)
   | (with_reducible refine LeO.ite ?_ ?_)
   | (with_reducible refine LeO.bind ?_ (fun _ => ?_))
   | exact ih0 _ _ _
   | exact LeO.none _
   | refine LeO.ite ?_ ?_
   | refine LeO.bind ?_ (fun _ => ?_)
set_option maxHeartbeats 8000000 in
set_option maxRecDepth 100000 in
theorem rillmeterref04_Sum.calls (k : Nat) (a0 : ByteArray) (r : Int) (w : World) (h : rillmeterref04_Sum.f k a0 = some r) :
  Calls Try.prog 46 #[.string a0] w fun e w' => e = .returned (.int .i64 r) ∧ Drawn0 w w' := by
 have H : (rillmeterref04_Sum.l0 k a0 0 0) = some r := h
 clear h
 have H' := Aside0.mk H
 clear H
 go_enter Try.func46, Try.ntmps46
 go_wp2
 go_loopg [3, 4] k (fun kq v3 v4 w' => ∃ (x3_1 : Int) (x4_1 : Int), v3 = .int .i64 x3_1 ∧ v4 = .int .i64 x4_1 ∧ Aside0 (rillmeterref04_Sum.l0 kq a0 x3_1 x4_1 = some r) ∧ Aside0 (kq ≤ k) ∧ Drawn0 w w')
 case atStart => exact ⟨(0), (0), (by first | rfl | (simp; done) | (simp [*]; done)), (by first | rfl | (simp; done) | (simp [*]; done)), H', ⟨Nat.le_refl _⟩, by repeat (first | exact Drawn0.refl _ | apply Drawn0.step)⟩
 case round =>
  clear H'
  obtain ⟨x3_1, x4_1, rfl, rfl, HA, HK1, ⟨m1, rfl⟩⟩ := hrel
  cases gk with
  | zero => exact absurd HA.out (by simp [rillmeterref04_Sum.l0])
  | succ k1 =>
   have H := HA.out
   clear HA
   simp only [rillmeterref04_Sum.l0] at H
   by_cases c2 : x4_1 < (a0.size : Int)
   ·rw [if_pos c2] at H
    have c2b0 : decide (x4_1 < (a0.size : Int)) = true := decide_eq_true c2
    clear c2
    by_cases c3 : 0 ≤ x4_1
    rotate_left
    ·rw [if_neg c3] at H; exact absurd H (by simp)
    rw [if_pos c3] at H
    have c3b0 : decide (0 ≤ x4_1) = true := decide_eq_true c3
    clear c3
    by_cases c5 : (wrap64 (x4_1 + 1)) < (a0.size : Int)
    ·rw [if_pos c5] at H
     have c5b0 : decide ((wrap64 (x4_1 + 1)) < (a0.size : Int)) = true := decide_eq_true c5
     clear c5
     obtain ⟨ji6, hji6⟩ : ∃ j_ : Int, (wrap64 (x4_1 + 1)) = j_ := ⟨_, rfl⟩
     replace H : (if 0 ≤ (ji6) then (if (wrap64 (x3_1 + (wrap64 ((wrap64 (256 * (wrap64 (bt a0 x4_1)))) + (wrap64 (bt a0 (ji6))))))) > 65535 then (rillmeterref04_Sum.l0 k1 a0 (wrap64 ((wrap64 (x3_1 + (wrap64 ((wrap64 (256 * (wrap64 (bt a0 x4_1)))) + (wrap64 (bt a0 (ji6))))))) - 65535)) (wrap64 (x4_1 + 2))) else (rillmeterref04_Sum.l0 k1 a0 (wrap64 (x3_1 + (wrap64 ((wrap64 (256 * (wrap64 (bt a0 x4_1)))) + (wrap64 (bt a0 (ji6))))))) (wrap64 (x4_1 + 2)))) else (none)) = some r := by first | (rw [hji6] at H; exact H) | (simp only [hji6] at H ⊢; exact H)
     (try rw [hji6] at c5b0)
     have hji6w : (IntKind.i64.wrap (x4_1 + 1)) = ji6 := (i64_w _).trans hji6
     by_cases c7 : 0 ≤ (ji6)
     rotate_left
     ·rw [if_neg c7] at H; exact absurd H (by simp)
     rw [if_pos c7] at H
     have c7b0 : decide (0 ≤ (ji6)) = true := decide_eq_true c7
     clear c7
     by_cases c9 : (wrap64 (x3_1 + (wrap64 ((wrap64 (256 * (wrap64 (bt a0 x4_1)))) + (wrap64 (bt a0 (ji6))))))) > 65535
     ·rw [if_pos c9] at H
      have c9b0 : decide (65535 < (wrap64 (x3_1 + (wrap64 ((wrap64 (256 * (wrap64 (bt a0 x4_1)))) + (wrap64 (bt a0 (ji6)))))))) = true := decide_eq_true c9
      clear c9
      have H' := Aside0.mk H
      clear H
      have p4 : 0 ≤ (x4_1 : Int) := oD_
      have q4 : x4_1 < (a0.size : Int) := oD_
      have hx4 := bt_at a0 x4_1
      replace p4 := eq_true p4
      replace q4 := eq_true q4
      have p8 : 0 ≤ ((ji6) : Int) := oD_
      have q8 : (ji6) < (a0.size : Int) := oD_
      have hx8 := bt_at a0 (ji6)
      replace p8 := eq_true p8
      replace q8 := eq_true q8
      go_wp2
      go_roundg k1
      case measure => have := HK1.out; omega
      case rel => exact ⟨(wrap64 ((wrap64 (x3_1 + (wrap64 ((wrap64 (256 * (wrap64 (bt a0 x4_1)))) + (wrap64 (bt a0 (ji6))))))) - 65535)), (wrap64 (x4_1 + 2)), (by first | rfl | (simp; done) | (simp only [← hji6] <;> (first | rfl | simp)) | (simp [*]; done)), (by first | rfl | (simp; done) | (simp [*]; done)), H', ⟨by have := HK1.out; omega⟩, by repeat (first | exact Drawn0.refl _ | apply Drawn0.step)⟩
     ·rw [if_neg c9] at H
      have c9b0 : decide (65535 < (wrap64 (x3_1 + (wrap64 ((wrap64 (256 * (wrap64 (bt a0 x4_1)))) + (wrap64 (bt a0 (ji6)))))))) = false := decide_eq_false c9
      clear c9
      have H' := Aside0.mk H
      clear H
      have p4 : 0 ≤ (x4_1 : Int) := oD_
      have q4 : x4_1 < (a0.size : Int) := oD_
      have hx4 := bt_at a0 x4_1
      replace p4 := eq_true p4
      replace q4 := eq_true q4
      have p8 : 0 ≤ ((ji6) : Int) := oD_
      have q8 : (ji6) < (a0.size : Int) := oD_
      have hx8 := bt_at a0 (ji6)
      replace p8 := eq_true p8
      replace q8 := eq_true q8
      go_wp2
      go_roundg k1
      case measure => have := HK1.out; omega
      case rel => exact ⟨(wrap64 (x3_1 + (wrap64 ((wrap64 (256 * (wrap64 (bt a0 x4_1)))) + (wrap64 (bt a0 (ji6))))))), (wrap64 (x4_1 + 2)), (by first | rfl | (simp; done) | (simp only [← hji6] <;> (first | rfl | simp)) | (simp [*]; done)), (by first | rfl | (simp; done) | (simp [*]; done)), H', ⟨by have := HK1.out; omega⟩, by repeat (first | exact Drawn0.refl _ | apply Drawn0.step)⟩
    ·rw [if_neg c5] at H
     have c5b0 : decide ((wrap64 (x4_1 + 1)) < (a0.size : Int)) = false := decide_eq_false c5
     clear c5
     by_cases c10 : (wrap64 (x3_1 + (wrap64 (256 * (wrap64 (bt a0 x4_1)))))) > 65535
     ·rw [if_pos c10] at H
      have c10b0 : decide (65535 < (wrap64 (x3_1 + (wrap64 (256 * (wrap64 (bt a0 x4_1))))))) = true := decide_eq_true c10
      clear c10
      have H' := Aside0.mk H
      clear H
      have p4 : 0 ≤ (x4_1 : Int) := oD_
      have q4 : x4_1 < (a0.size : Int) := oD_
      have hx4 := bt_at a0 x4_1
      replace p4 := eq_true p4
      replace q4 := eq_true q4
      go_wp2
      go_roundg k1
      case measure => have := HK1.out; omega
      case rel => exact ⟨(wrap64 ((wrap64 (x3_1 + (wrap64 (256 * (wrap64 (bt a0 x4_1)))))) - 65535)), (wrap64 (x4_1 + 2)), (by first | rfl | (simp; done) | (simp [*]; done)), (by first | rfl | (simp; done) | (simp [*]; done)), H', ⟨by have := HK1.out; omega⟩, by repeat (first | exact Drawn0.refl _ | apply Drawn0.step)⟩
     ·rw [if_neg c10] at H
      have c10b0 : decide (65535 < (wrap64 (x3_1 + (wrap64 (256 * (wrap64 (bt a0 x4_1))))))) = false := decide_eq_false c10
      clear c10
      have H' := Aside0.mk H
      clear H
      have p4 : 0 ≤ (x4_1 : Int) := oD_
      have q4 : x4_1 < (a0.size : Int) := oD_
      have hx4 := bt_at a0 x4_1
      replace p4 := eq_true p4
      replace q4 := eq_true q4
      go_wp2
      go_roundg k1
      case measure => have := HK1.out; omega
      case rel => exact ⟨(wrap64 (x3_1 + (wrap64 (256 * (wrap64 (bt a0 x4_1)))))), (wrap64 (x4_1 + 2)), (by first | rfl | (simp; done) | (simp [*]; done)), (by first | rfl | (simp; done) | (simp [*]; done)), H', ⟨by have := HK1.out; omega⟩, by repeat (first | exact Drawn0.refl _ | apply Drawn0.step)⟩
   ·rw [if_neg c2] at H
    have c2b0 : decide (x4_1 < (a0.size : Int)) = false := decide_eq_false c2
    clear c2
    obtain rfl := Option.some.inj H
    go_wp2
    go_ret
    exact ⟨by first | rfl | (simp; done) | (simp [*]; done), by repeat (first | exact Drawn0.refl _ | apply Drawn0.step)⟩
end Go.Proofs.Ytfdhifigndmgaaa.Q
