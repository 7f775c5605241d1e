-- made by a program of this session (wip/print-patch.py, over the kit's print)
import Derived.Test.YtdmofjhncdkofaaQx0
import Derived.Test.YtdmofjhncdkofaaQx2
namespace Go.Proofs.Ytdmofjhncdkofaa.Q
open Go.RowKit Go.Proofs.YtdmofjhncdkofaaW.PrintWords Go.Proofs.YtdmofjhncdkofaaW.PrintLast Go.Proofs.YtdmofjhncdkofaaW.PrintMore
attribute [local go_sem] max2_int min2_int max_two min_two max_three min_three max_four min_four   -- for this text's walks alone
set_option linter.unusedVariables false
set_option linter.unusedSimpArgs false

attribute [local go_sem] cell_twice_ cell_twiceN_
/-! ### ipfour_put: function 15 -/
def ipfour_put.f (k : Nat) (a0 : Int) (a1 : Int) : Option (ByteArray) := (octet_Put.f k a0 a1).bind fun bt101 => (some bt101.1)
theorem ipfour_put.mono : ∀ a0 a1 k, LeO (ipfour_put.f k a0 a1) (ipfour_put.f (k + 1) a0 a1) := by
 intro a0 a1 k
 unfold ipfour_put.f
 repeat' first
   | (with_reducible exact octet_Put.mono _ _ _)
   | (with_reducible exact LeO.refl _)
   | (with_reducible exact LeO.none _)
   | (with_reducible refine LeO.ite ?_ ?_)
   | (with_reducible refine LeO.bind ?_ (fun _ => ?_))
   | exact octet_Put.mono _ _ _
   | exact LeO.none _
   | refine LeO.ite ?_ ?_
   | refine LeO.bind ?_ (fun _ => ?_)
set_option maxHeartbeats 8000000 in
set_option maxRecDepth 100000 in
theorem ipfour_put.calls (k : Nat) (a0 : Int) (a1 : Int) (r : ByteArray) (w : World) (h : ipfour_put.f k a0 a1 = some r) :
  Calls Try.prog 15 #[.int .i64 a0, .int .i64 a1] w fun e w' => e = .returned (.string r) ∧ Below w.heap.size w w' := by
 have HB := Aside0.mk (Below.refl w.heap.size w)
 have H : ((octet_Put.f k a0 a1).bind fun bt101 => (some bt101.1)) = some r := h
 clear h
 replace H := Option.bind_eq_some_iff.mp H
 obtain ⟨⟨t101, t102⟩, A30, H⟩ := H
 replace H : (some t101) = some r := H
 have A3 := Aside0.mk A30
 clear A30
 obtain rfl := Option.some.inj H
 go_enter Try.func15, Try.ntmps15
 go_wp2_with (first | ((with_reducible refine gate_callee (f := 22) rfl ?_); refine gL_ (some 10) rfl rfl Try.func22 (by kernel_rfl) rfl #[.int .i64 a0, .int .i64 a1] rfl ?_; (with_reducible refine (octet_Put.calls k a0 a1 t101 t102 _ A3.out).mono ?_); rintro e w4 ⟨rfl, hb⟩; refine ⟨_, rfl, ?_⟩; have n0_ := Aside0.mk (below_step (bU_ HB.out) hb); clear HB; have HB := n0_; clear n0_; (try clear hb); (try clear hb2); (try clear hk); (try clear hi)))
 go_ret
 exact rE_ (bU_ HB.out)
/-! ### octet_Sum: function 16 -/
mutual
def octet_Sum.l0 : Nat → ByteArray → Int → Int → Int → Option (Int)
 | 0, _, _, _, _ => none
 | k + 1, x0, x3, x6, x7 => if x7 < x6 then (if 0 ≤ x7 then (if x7 < (x0.size : Int) then (if 0 ≤ (wrap64 (8 * (wrap64 (1 - (Go.bits .and .i64 x7 1))))) then (octet_Sum.l0 k x0 (wrap64 (x3 + (shl .i64 (wrap64 (bt x0 x7)) (wrap64 (8 * (wrap64 (1 - (Go.bits .and .i64 x7 1)))))))) x6 (wrap64 (x7 + 1))) else (none)) else (none)) else (none)) else (octet_Sum.l1 k x3)
def octet_Sum.l1 : Nat → Int → Option (Int)
 | 0, _ => none
 | k + 1, x3 => if x3 > 65535 then (octet_Sum.l1 k (wrap64 ((Go.bits .and .i64 x3 65535) + (x3 / 65536)))) else (some (Go.bits .xor .i64 x3 65535))
end
def octet_Sum.f (k : Nat) (a0 : ByteArray) : Option (Int) := octet_Sum.l0 k a0 0 (a0.size : Int) 0
theorem octet_Sum.mono_l : ∀ k, (∀ y0 y1 y2 y3, LeO (octet_Sum.l0 k y0 y1 y2 y3) (octet_Sum.l0 (k + 1) y0 y1 y2 y3)) ∧ (∀ y0, LeO (octet_Sum.l1 k y0) (octet_Sum.l1 (k + 1) y0))
 | 0 => ⟨fun _ _ _ _ r h => by simp [octet_Sum.l0] at h, fun _ r h => by simp [octet_Sum.l1] at h⟩
 | k + 1 => by
  obtain ⟨ih0, ih1⟩ := octet_Sum.mono_l k
  refine ⟨?_, ?_⟩
  ·intro y0 y1 y2 y3
   unfold octet_Sum.l0
   repeat' first
   | (with_reducible exact ih0 _ _ _ _)
   | (with_reducible exact ih1 _)
   | (with_reducible exact LeO.refl _)
   | (with_reducible exact LeO.none _)
   | (with_reducible refine LeO.ite ?_ ?_)
   | (with_reducible refine LeO.bind ?_ (fun _ => ?_))
   | exact ih0 _ _ _ _
   | exact ih1 _
   | exact LeO.none _
   | refine LeO.ite ?_ ?_
   | refine LeO.bind ?_ (fun _ => ?_)
  ·intro y0
   unfold octet_Sum.l1
   repeat' first
   | (with_reducible exact ih0 _ _ _ _)
   | (with_reducible exact ih1 _)
   | (with_reducible exact LeO.refl _)
   | (with_reducible exact LeO.none _)
   | (with_reducible refine LeO.ite ?_ ?_)
   | (with_reducible refine LeO.bind ?_ (fun _ => ?_))
   | exact ih0 _ _ _ _
   | exact ih1 _
   | exact LeO.none _
   | refine LeO.ite ?_ ?_
   | refine LeO.bind ?_ (fun _ => ?_)
theorem octet_Sum.mono : ∀ a0 k, LeO (octet_Sum.f k a0) (octet_Sum.f (k + 1) a0) := by
 intro a0 k
 obtain ⟨ih0, ih1⟩ := octet_Sum.mono_l k
 unfold octet_Sum.f
 repeat' first
   | (with_reducible exact ih0 _ _ _ _)
   | (with_reducible exact ih1 _)
   | (with_reducible exact LeO.refl _)
   | (with_reducible exact LeO.none _)
   | (with_reducible refine LeO.ite ?_ ?_)
   | (with_reducible refine LeO.bind ?_ (fun _ => ?_))
   | exact ih0 _ _ _ _
   | exact ih1 _
   | exact LeO.none _
   | refine LeO.ite ?_ ?_
   | refine LeO.bind ?_ (fun _ => ?_)
set_option maxHeartbeats 8000000 in
set_option maxRecDepth 100000 in
theorem octet_Sum.calls (k : Nat) (a0 : ByteArray) (r : Int) (w : World) (h : octet_Sum.f k a0 = some r) :
  Calls Try.prog 16 #[.string a0] w fun e w' => e = .returned (.int .i64 r) ∧ Drawn0 w w' := by
 have H : (octet_Sum.l0 k a0 0 (a0.size : Int) 0) = some r := h
 clear h
 have H' := Aside0.mk H
 clear H
 go_enter Try.func16, Try.ntmps16
 go_wp2
 go_loopg [3, 7] k (fun kq v3 v7 w' => ∃ (x3_1 : Int) (x7_1 : Int), v3 = .int .i64 x3_1 ∧ v7 = .int .i64 x7_1 ∧ Aside0 (octet_Sum.l0 kq a0 x3_1 (a0.size : Int) x7_1 = some r) ∧ Aside0 (kq ≤ k) ∧ Drawn0 w w')
 case atStart => exact ⟨(0), (0), (by first | rfl | (simp; done) | (simp [*]; done)), (by first | rfl | (simp; done) | (simp [*]; done)), H', ⟨Nat.le_refl _⟩, by repeat (first | exact Drawn0.refl _ | apply Drawn0.step)⟩
 case round =>
  clear H'
  try clear c1
  obtain ⟨x3_1, x7_1, rfl, rfl, HA, HK1, ⟨m1, rfl⟩⟩ := hrel
  cases gk with
  | zero => exact absurd HA.out (by simp [octet_Sum.l0])
  | succ k1 =>
   have H := HA.out
   clear HA
   simp only [octet_Sum.l0] at H
   by_cases c2 : x7_1 < (a0.size : Int)
   ·rw [if_pos c2] at H
    have c2b0 : decide (x7_1 < (a0.size : Int)) = true := decide_eq_true c2
    clear c2
    by_cases c3 : 0 ≤ x7_1
    rotate_left
    ·rw [if_neg c3] at H
     exact absurd H (by simp)
    rw [if_pos c3] at H
    have c3b0 : decide (0 ≤ x7_1) = true := decide_eq_true c3
    clear c3
    by_cases c4 : x7_1 < (a0.size : Int)
    rotate_left
    ·rw [if_neg c4] at H
     exact absurd H (by simp)
    rw [if_pos c4] at H
    have c4b0 : decide (x7_1 < (a0.size : Int)) = true := decide_eq_true c4
    clear c4
    obtain ⟨ji6, hji6⟩ : ∃ j_ : Int, (wrap64 (8 * (wrap64 (1 - (Go.bits .and .i64 x7_1 1))))) = j_ := ⟨_, rfl⟩
    replace H : (if 0 ≤ (ji6) then (octet_Sum.l0 k1 a0 (wrap64 (x3_1 + (shl .i64 (wrap64 (bt a0 x7_1)) (ji6)))) (a0.size : Int) (wrap64 (x7_1 + 1))) else (none)) = some r := by first | (rw [hji6] at H; exact H) | (simp only [hji6] at H ⊢; exact H)
    have hji6w : (IntKind.i64.wrap (8 * (wrap64 (1 - (Go.bits .and .i64 x7_1 1))))) = ji6 := (i64_w _).trans hji6
    by_cases c7 : 0 ≤ (ji6)
    rotate_left
    ·rw [if_neg c7] at H
     exact absurd H (by simp)
    rw [if_pos c7] at H
    have c7b0 := eq_true c7
    have c7b1 : decide (0 ≤ (ji6)) = true := decide_eq_true c7
    clear c7
    obtain ⟨ji8, hji8⟩ : ∃ j_ : Int, (shl .i64 (wrap64 (bt a0 x7_1)) (ji6)) = j_ := ⟨_, rfl⟩
    replace H : (octet_Sum.l0 k1 a0 (wrap64 (x3_1 + (ji8))) (a0.size : Int) (wrap64 (x7_1 + 1))) = some r := by first | (rw [hji8] at H; exact H) | (simp only [hji8] at H ⊢; exact H)
    have hji8_ : (IntKind.i64.wrap ((wrap64 (bt a0 x7_1)) * 2 ^ min (ji6).toNat 64)) = ji8 := hji8
    have hji8z : (ji6) ≤ 64 → (IntKind.i64.wrap ((wrap64 (bt a0 x7_1)) * 2 ^ (ji6).toNat)) = ji8 := shl_small hji8
    have hji8y : (wrap64 ((wrap64 (bt a0 x7_1)) * 2 ^ min (ji6).toNat 64)) = ji8 := (i64_w _).symm.trans hji8_
    have hji8x : (ji6) ≤ 64 → (wrap64 ((wrap64 (bt a0 x7_1)) * 2 ^ (ji6).toNat)) = ji8 := fun h_ => (i64_w _).symm.trans (hji8z h_)
    have H' := Aside0.mk H
    clear H
    have p5 : 0 ≤ (x7_1 : Int) := oD_
    have q5 : x7_1 < (a0.size : Int) := oD_
    have hx5 := bt_at a0 x7_1
    replace p5 := eq_true p5
    replace q5 := eq_true q5
    go_wp2
    go_roundg k1
    case measure => have := HK1.out; omega
    case rel => exact ⟨(wrap64 (x3_1 + (ji8))), (wrap64 (x7_1 + 1)), (by first | rfl | (simp; done) | (simp only [← hji8] <;> (first | rfl | simp)) | (simp [*]; done)), (by first | rfl | (simp; done) | (simp [*]; done)), H', ⟨by have := HK1.out; omega⟩, by repeat (first | exact Drawn0.refl _ | apply Drawn0.step)⟩
   ·rw [if_neg c2] at H
    have c2b0 : decide (x7_1 < (a0.size : Int)) = false := decide_eq_false c2
    clear c2
    have H' := Aside0.mk H
    clear H
    go_wp2
    go_loopg [3] k1 (fun kq v3 w' => ∃ (x3_2 : Int), v3 = .int .i64 x3_2 ∧ Aside0 (octet_Sum.l1 kq x3_2 = some r) ∧ Aside0 (kq ≤ k1) ∧ Drawn0 w w')
    case atStart => exact ⟨(x3_1), (by first | rfl | (simp; done) | (simp [*]; done)), H', ⟨Nat.le_refl _⟩, by repeat (first | exact Drawn0.refl _ | apply Drawn0.step)⟩
    case round =>
     clear H'
     try clear c1
     try clear c2
     try clear c2b0
     try clear p2
     try clear c3
     try clear c3b0
     try clear c4
     try clear c4b0
     try clear p5
     try clear q5
     try clear hx5
     try clear p6
     try clear c7
     try clear c7b0
     try clear c7b1
     try clear p5
     try clear q5
     obtain ⟨x3_2, rfl, HA, HK2, ⟨m2, rfl⟩⟩ := hrel
     cases gk with
     | zero => exact absurd HA.out (by simp [octet_Sum.l1])
     | succ k2 =>
      have H := HA.out
      clear HA
      simp only [octet_Sum.l1] at H
      by_cases c9 : x3_2 > 65535
      ·rw [if_pos c9] at H
       have c9b0 : decide (65535 < x3_2) = true := decide_eq_true c9
       clear c9
       have H' := Aside0.mk H
       clear H
       go_wp2
       go_roundg k2
       case measure => have := HK1.out; have := HK2.out; omega
       case rel => exact ⟨(wrap64 ((Go.bits .and .i64 x3_2 65535) + (x3_2 / 65536))), (by first | rfl | (simp; done) | (simp [*]; done)), H', ⟨by have := HK1.out; have := HK2.out; omega⟩, by repeat (first | exact Drawn0.refl _ | apply Drawn0.step)⟩
      ·rw [if_neg c9] at H
       have c9b0 : decide (65535 < x3_2) = false := decide_eq_false c9
       clear c9
       obtain rfl := Option.some.inj H
       go_wp2
       go_ret
       exact ⟨by first | rfl | (simp; done) | (simp [*]; done), by repeat (first | exact Drawn0.refl _ | apply Drawn0.step)⟩
end Go.Proofs.Ytdmofjhncdkofaa.Q
