-- made by a program of this session (wip/print-patch.py, over the kit's print)
import Derived.Test.YtocnbpbbmleahaaQx0
import Derived.Test.YtocnbpbbmleahaaQx10
namespace Go.Proofs.Ytocnbpbbmleahaa.Q
open Go.RowKit Go.Proofs.YtocnbpbbmleahaaW.PrintWords Go.Proofs.YtocnbpbbmleahaaW.PrintLast Go.Proofs.YtocnbpbbmleahaaW.PrintMore
attribute [local go_sem] max2_int min2_int max_two min_two max_three min_three max_four min_four   -- for this text's walks alone
set_option linter.unusedVariables false
set_option linter.unusedSimpArgs false

attribute [local go_sem] cell_twice_ cell_twiceN_
/-! ### rillmeterref08_TCP: function 14 -/
def rillmeterref08_TCP.j0 : Nat → Int → Int → ByteArray → ByteArray → Int → Bool → Option (ByteArray × Bool)
 | 0, _, _, _, _, _, _ => none
 | k + 1, x0, x1, x2, x3, x10, x30 => if x30 = true then (some ((⟨#[]⟩ : ByteArray), false)) else (if 8 ≤ 281474976710656 then ((some (List.replicate 8 0 : List Int)).bind fun y103 => ((rillmeterref08_two.f x0).bind fun t106 => ((rillmeterref08_two.f x1).bind fun t107 => (if t106.size + t107.size ≤ 9223372036854775807 then (if (t106 ++ t107).size + (strOfNums y103).size ≤ 9223372036854775807 then ((some (([(wrap64 (4 * (wrap64 (20 + x10)))) % 256] : List Int) : List Int)).bind fun y108 => (if ((t106 ++ t107) ++ (strOfNums y103)).size + (strOfNums y108).size ≤ 9223372036854775807 then (if 0 ≤ 7 then (if 7 ≤ ((strOfNums y103).size : Int) then (if (((t106 ++ t107) ++ (strOfNums y103)) ++ (strOfNums y108)).size + ((strOfNums y103).extract 0 7).size ≤ 9223372036854775807 then (if ((((t106 ++ t107) ++ (strOfNums y103)) ++ (strOfNums y108)) ++ ((strOfNums y103).extract 0 7)).size + x2.size ≤ 9223372036854775807 then (if (((((t106 ++ t107) ++ (strOfNums y103)) ++ (strOfNums y108)) ++ ((strOfNums y103).extract 0 7)) ++ x2).size + x3.size ≤ 9223372036854775807 then (some ((((((t106 ++ t107) ++ (strOfNums y103)) ++ (strOfNums y108)) ++ ((strOfNums y103).extract 0 7)) ++ x2) ++ x3, true)) else (none)) else (none)) else (none)) else (none)) else (none)) else (none))) else (none)) else (none))))) else (none))
def rillmeterref08_TCP.f (k : Nat) (a0 : Int) (a1 : Int) (a2 : ByteArray) (a3 : ByteArray) : Option (ByteArray × Bool) := (rillmeterref08_port.f a0).bind fun t101 => (if t101 = true then ((rillmeterref08_port.f a1).bind fun t102 => (if t102 = true then (if (a2.size : Int) > 40 then (rillmeterref08_TCP.j0 k a0 a1 a2 a3 (a2.size : Int) true) else (rillmeterref08_TCP.j0 k a0 a1 a2 a3 (a2.size : Int) (decide (((a2.size : Int) % 4) > 0)))) else (rillmeterref08_TCP.j0 k a0 a1 a2 a3 (a2.size : Int) true))) else (rillmeterref08_TCP.j0 k a0 a1 a2 a3 (a2.size : Int) true))
theorem rillmeterref08_TCP.mono_l : ∀ k, (∀ y0 y1 y2 y3 y4 y5, LeO (rillmeterref08_TCP.j0 k y0 y1 y2 y3 y4 y5) (rillmeterref08_TCP.j0 (k + 1) y0 y1 y2 y3 y4 y5))
 | 0 => fun _ _ _ _ _ _ r h => by simp [rillmeterref08_TCP.j0] at h
 | k + 1 => by
  have ih0 := rillmeterref08_TCP.mono_l k
  ·intro y0 y1 y2 y3 y4 y5
   unfold rillmeterref08_TCP.j0
   repeat' first
   | (with_reducible exact ih0 _ _ _ _ _ _)
   | (with_reducible exact LeO.refl _)
   | (with_reducible exact LeO.none _)
   | (with_reducible refine LeO.ite ?_ ?_)
   | (with_reducible refine LeO.bind ?_ (fun _ => ?_))
   | exact ih0 _ _ _ _ _ _
   | exact LeO.none _
   | refine LeO.ite ?_ ?_
   | refine LeO.bind ?_ (fun _ => ?_)
theorem rillmeterref08_TCP.mono : ∀ a0 a1 a2 a3 k, LeO (rillmeterref08_TCP.f k a0 a1 a2 a3) (rillmeterref08_TCP.f (k + 1) a0 a1 a2 a3) := by
 intro a0 a1 a2 a3 k
 have ih0 := rillmeterref08_TCP.mono_l k
 unfold rillmeterref08_TCP.f
 repeat' first
   | (with_reducible exact ih0 _ _ _ _ _ _)
   | (with_reducible exact LeO.refl _)
   | (with_reducible exact LeO.none _)
   | (with_reducible refine LeO.ite ?_ ?_)
   | (with_reducible refine LeO.bind ?_ (fun _ => ?_))
   | exact ih0 _ _ _ _ _ _
   | exact LeO.none _
   | refine LeO.ite ?_ ?_
   | refine LeO.bind ?_ (fun _ => ?_)
def rillmeterref08_TCP.T5 : Bool × List (List Nat × List Nat) := (true, [([], []), ([0], [0]), ([], []), ([2, 1], [2]), ([1, 3], [1, 3]), ([], []), ([4, 5], [4, 5]), ([], []), ([7], [7]), ([8], [8]), ([9], [9]), ([10], [10]), ([11], [11]), ([6, 12], [6, 12]), ([], []), ([14], [14]), ([13, 15], [13, 15]), ([], []), ([16, 17], [16, 17]), ([], []), ([18, 19], [18, 19]), ([20, 3, 0, 1, 2, 3, 4, 5, 6, 7, 8, 9, 10, 11, 12, 13, 14, 15, 16, 17, 18, 19, 20], [20]), ([21, 0, 1, 2, 3, 4, 5, 6, 7, 8, 9, 10, 11, 12, 13, 14, 15, 16, 17, 18, 19, 20, 21], [])])
def rillmeterref08_TCP.B5 : List Nat := [0, 1, 0, 7, 15, 0, 63, 0, 128, 384, 896, 1920, 3968, 8191, 0, 16384, 65535, 0, 262143, 0, 1048575, 2097151, 4194303]
theorem rillmeterref08_TCP.tab5 : rtab .any (opsOf Try.f14 5) = rillmeterref08_TCP.T5 := by kernel_rfl
theorem rillmeterref08_TCP.bits5 : waitsOk rillmeterref08_TCP.T5.2 rillmeterref08_TCP.B5 = true := by kernel_rfl
set_option maxHeartbeats 8000000 in
set_option maxRecDepth 100000 in
theorem rillmeterref08_TCP.calls (k : Nat) (a0 : Int) (a1 : Int) (a2 : ByteArray) (a3 : ByteArray) (r1 : ByteArray) (r2 : Bool) (w : World) (h : rillmeterref08_TCP.f k a0 a1 a2 a3 = some (r1, r2)) :
  Calls Try.prog 14 #[.int .i64 a0, .int .i64 a1, .string a2, .string a3] w fun e w' => e = .returned (.tuple #[.string r1, .bool r2]) ∧ Below w.heap.size w w' := by
 have HB := Aside0.mk (Below.refl w.heap.size w)
 have H : ((rillmeterref08_port.f a0).bind fun t101 => (if t101 = true then ((rillmeterref08_port.f a1).bind fun t102 => (if t102 = true then (if (a2.size : Int) > 40 then (rillmeterref08_TCP.j0 k a0 a1 a2 a3 (a2.size : Int) true) else (rillmeterref08_TCP.j0 k a0 a1 a2 a3 (a2.size : Int) (decide (((a2.size : Int) % 4) > 0)))) else (rillmeterref08_TCP.j0 k a0 a1 a2 a3 (a2.size : Int) true))) else (rillmeterref08_TCP.j0 k a0 a1 a2 a3 (a2.size : Int) true))) = some (r1, r2) := h
 clear h
 have HC5 := Aside0.mk H
 clear H
 go_enter Try.func14, Try.ntmps14
 go_upto_region 2 with (fail)
 go_cut [30] (fun v30 wc => ∃ (kq : Nat) (x30_4 : Bool), v30 = .bool x30_4 ∧ Aside0 (rillmeterref08_TCP.j0 kq a0 a1 a2 a3 (a2.size : Int) x30_4 = some (r1, r2)) ∧ Aside0 (kq ≤ k) ∧ Aside0 (Below w.heap.size w wc))
 case first =>
  have H := HC5.out
  clear HC5
  replace H := Option.bind_eq_some_iff.mp H
  obtain ⟨t101, A60, H⟩ := H
  replace H : (if t101 = true then ((rillmeterref08_port.f a1).bind fun t102 => (if t102 = true then (if (a2.size : Int) > 40 then (rillmeterref08_TCP.j0 k a0 a1 a2 a3 (a2.size : Int) true) else (rillmeterref08_TCP.j0 k a0 a1 a2 a3 (a2.size : Int) (decide (((a2.size : Int) % 4) > 0)))) else (rillmeterref08_TCP.j0 k a0 a1 a2 a3 (a2.size : Int) true))) else (rillmeterref08_TCP.j0 k a0 a1 a2 a3 (a2.size : Int) true)) = some (r1, r2) := H
  have A6 := Aside0.mk A60
  clear A60
  by_cases c7 : t101 = true
  ·subst c7
   have H1 : ((rillmeterref08_port.f a1).bind fun t102 => (if t102 = true then (if (a2.size : Int) > 40 then (rillmeterref08_TCP.j0 k a0 a1 a2 a3 (a2.size : Int) true) else (rillmeterref08_TCP.j0 k a0 a1 a2 a3 (a2.size : Int) (decide (((a2.size : Int) % 4) > 0)))) else (rillmeterref08_TCP.j0 k a0 a1 a2 a3 (a2.size : Int) true))) = some (r1, r2) := by rw [if_pos rfl] at H; exact H
   clear H
   have H := H1
   clear H1
   replace H := Option.bind_eq_some_iff.mp H
   obtain ⟨t102, A80, H⟩ := H
   replace H : (if t102 = true then (if (a2.size : Int) > 40 then (rillmeterref08_TCP.j0 k a0 a1 a2 a3 (a2.size : Int) true) else (rillmeterref08_TCP.j0 k a0 a1 a2 a3 (a2.size : Int) (decide (((a2.size : Int) % 4) > 0)))) else (rillmeterref08_TCP.j0 k a0 a1 a2 a3 (a2.size : Int) true)) = some (r1, r2) := H
   have A8 := Aside0.mk A80
   clear A80
   by_cases c9 : t102 = true
   ·subst c9
    have H1 : (if (a2.size : Int) > 40 then (rillmeterref08_TCP.j0 k a0 a1 a2 a3 (a2.size : Int) true) else (rillmeterref08_TCP.j0 k a0 a1 a2 a3 (a2.size : Int) (decide (((a2.size : Int) % 4) > 0)))) = some (r1, r2) := by rw [if_pos rfl] at H; exact H
    clear H
    have H := H1
    clear H1
    by_cases c10 : (a2.size : Int) > 40
    ·rw [if_pos c10] at H
     have c10b0 : decide (40 < (a2.size : Int)) = true := decide_eq_true c10
     have c10b1 : decide (40 < a2.size) = true := decide_eq_true (by omega)
     clear c10
     (first | rw [c10b0] | (simp only [i64_w, i32_w]; rw [c10b0]) | skip)
     have H' := Aside0.mk H
     clear H
     go_wp2_with (first | ((with_reducible refine gate_callee (f := 19) rfl ?_); refine gL_ (some 15) rfl rfl Try.func19 (by kernel_rfl) rfl #[.int .i64 a0] rfl ?_; (with_reducible refine (rillmeterref08_port.calls a0 true _ A6.out).mono ?_); rintro e w' ⟨rfl, ⟨nd, rfl⟩⟩; refine ⟨_, rfl, ?_⟩) | (go_at_call 19; (with_reducible refine (rillmeterref08_port.calls a1 true _ A8.out).mono ?_); rintro e w' ⟨rfl, ⟨nd, rfl⟩⟩))
     go_meet
     case rel => exact ⟨_, (true), (by first | rfl | (simp; done) | (simp [*]; done)), H', ⟨by first | omega | exact Nat.le_refl _⟩, ⟨bU_ HB.out⟩⟩
    ·rw [if_neg c10] at H
     have c10b0 : decide (40 < (a2.size : Int)) = false := decide_eq_false c10
     have c10b1 : decide (40 < a2.size) = false := decide_eq_false (by omega)
     clear c10
     (first | rw [c10b0] | (simp only [i64_w, i32_w]; rw [c10b0]) | skip)
     have H' := Aside0.mk H
     clear H
     go_wp2_with (first | ((with_reducible refine gate_callee (f := 19) rfl ?_); refine gL_ (some 15) rfl rfl Try.func19 (by kernel_rfl) rfl #[.int .i64 a0] rfl ?_; (with_reducible refine (rillmeterref08_port.calls a0 true _ A6.out).mono ?_); rintro e w' ⟨rfl, ⟨nd, rfl⟩⟩; refine ⟨_, rfl, ?_⟩) | (go_at_call 19; (with_reducible refine (rillmeterref08_port.calls a1 true _ A8.out).mono ?_); rintro e w' ⟨rfl, ⟨nd, rfl⟩⟩))
     go_meet
     case rel => exact ⟨_, (decide (((a2.size : Int) % 4) > 0)), (by first | rfl | (simp; done) | (simp [*]; done)), H', ⟨by first | omega | exact Nat.le_refl _⟩, ⟨bU_ HB.out⟩⟩
   ·replace c9 := Bool.eq_false_iff.mpr c9
    subst c9
    have H1 : (rillmeterref08_TCP.j0 k a0 a1 a2 a3 (a2.size : Int) true) = some (r1, r2) := by rw [if_neg (show ¬ (false = true) by decide)] at H; exact H
    clear H
    have H := H1
    clear H1
    have H' := Aside0.mk H
    clear H
    go_wp2_with (first | ((with_reducible refine gate_callee (f := 19) rfl ?_); refine gL_ (some 15) rfl rfl Try.func19 (by kernel_rfl) rfl #[.int .i64 a0] rfl ?_; (with_reducible refine (rillmeterref08_port.calls a0 true _ A6.out).mono ?_); rintro e w' ⟨rfl, ⟨nd, rfl⟩⟩; refine ⟨_, rfl, ?_⟩) | (go_at_call 19; (with_reducible refine (rillmeterref08_port.calls a1 false _ A8.out).mono ?_); rintro e w' ⟨rfl, ⟨nd, rfl⟩⟩))
    go_meet
    case rel => exact ⟨_, (true), (by first | rfl | (simp; done) | (simp [*]; done)), H', ⟨by first | omega | exact Nat.le_refl _⟩, ⟨bU_ HB.out⟩⟩
  ·replace c7 := Bool.eq_false_iff.mpr c7
   subst c7
   have H1 : (rillmeterref08_TCP.j0 k a0 a1 a2 a3 (a2.size : Int) true) = some (r1, r2) := by rw [if_neg (show ¬ (false = true) by decide)] at H; exact H
   clear H
   have H := H1
   clear H1
   have H' := Aside0.mk H
   clear H
   go_wp2_with (first | ((with_reducible refine gate_callee (f := 19) rfl ?_); refine gL_ (some 15) rfl rfl Try.func19 (by kernel_rfl) rfl #[.int .i64 a0] rfl ?_; (with_reducible refine (rillmeterref08_port.calls a0 false _ A6.out).mono ?_); rintro e w' ⟨rfl, ⟨nd, rfl⟩⟩; refine ⟨_, rfl, ?_⟩))
   go_meet
   case rel => exact ⟨_, (true), (by first | rfl | (simp; done) | (simp [*]; done)), H', ⟨by first | omega | exact Nat.le_refl _⟩, ⟨bU_ HB.out⟩⟩
 case rest =>
  clear HC5
  try clear c1
  try clear p2
  try clear c7
  try clear c9
  try clear c10
  try clear c10b0
  try clear c10b1
  obtain ⟨kq, x30_4, rfl, HA, HJ4, HB⟩ := hcut
  cases kq with
  | zero => exact absurd HA.out (by simp [rillmeterref08_TCP.j0])
  | succ kj4 =>
   have H := HA.out
   clear HA
   simp only [rillmeterref08_TCP.j0] at H
   by_cases c11 : x30_4 = true
   ·subst c11
    have H1 : (some ((⟨#[]⟩ : ByteArray), false)) = some (r1, r2) := by rw [if_pos rfl] at H; exact H
    clear H
    have H := H1
    clear H1
    simp only [Option.some.injEq, Prod.mk.injEq] at H
    obtain ⟨rfl, rfl⟩ := H
    go_wp2
    go_ret2
    exact ⟨by first | rfl | (simp [errW_none, errW_some] <;> rfl) | (simp [*, errW_none, errW_some] <;> rfl), bU_ HB.out⟩
   ·replace c11 := Bool.eq_false_iff.mpr c11
    subst c11
    have H1 : (if 8 ≤ 281474976710656 then ((some (List.replicate 8 0 : List Int)).bind fun y103 => ((rillmeterref08_two.f a0).bind fun t106 => ((rillmeterref08_two.f a1).bind fun t107 => (if t106.size + t107.size ≤ 9223372036854775807 then (if (t106 ++ t107).size + (strOfNums y103).size ≤ 9223372036854775807 then ((some (([(wrap64 (4 * (wrap64 (20 + (a2.size : Int))))) % 256] : List Int) : List Int)).bind fun y108 => (if ((t106 ++ t107) ++ (strOfNums y103)).size + (strOfNums y108).size ≤ 9223372036854775807 then (if 0 ≤ 7 then (if 7 ≤ ((strOfNums y103).size : Int) then (if (((t106 ++ t107) ++ (strOfNums y103)) ++ (strOfNums y108)).size + ((strOfNums y103).extract 0 7).size ≤ 9223372036854775807 then (if ((((t106 ++ t107) ++ (strOfNums y103)) ++ (strOfNums y108)) ++ ((strOfNums y103).extract 0 7)).size + a2.size ≤ 9223372036854775807 then (if (((((t106 ++ t107) ++ (strOfNums y103)) ++ (strOfNums y108)) ++ ((strOfNums y103).extract 0 7)) ++ a2).size + a3.size ≤ 9223372036854775807 then (some ((((((t106 ++ t107) ++ (strOfNums y103)) ++ (strOfNums y108)) ++ ((strOfNums y103).extract 0 7)) ++ a2) ++ a3, true)) else (none)) else (none)) else (none)) else (none)) else (none)) else (none))) else (none)) else (none))))) else (none)) = some (r1, r2) := by rw [if_neg (show ¬ (false = true) by decide)] at H; exact H
    clear H
    have H := H1
    clear H1
    by_cases c12 : 8 ≤ 281474976710656
    rotate_left
    ·rw [if_neg c12] at H
     exact absurd H (by simp)
    rw [if_pos c12] at H
    have c12b0 := eq_true c12
    have c12b1 : decide (8 ≤ 281474976710656) = true := decide_eq_true c12
    clear c12
    obtain ⟨y103, hy103⟩ : ∃ y_ : List Int, y_ = (List.replicate 8 0) := ⟨_, rfl⟩
    replace H : ((rillmeterref08_two.f a0).bind fun t106 => ((rillmeterref08_two.f a1).bind fun t107 => (if t106.size + t107.size ≤ 9223372036854775807 then (if (t106 ++ t107).size + (strOfNums y103).size ≤ 9223372036854775807 then ((some (([(wrap64 (4 * (wrap64 (20 + (a2.size : Int))))) % 256] : List Int) : List Int)).bind fun y108 => (if ((t106 ++ t107) ++ (strOfNums y103)).size + (strOfNums y108).size ≤ 9223372036854775807 then (if 0 ≤ 7 then (if 7 ≤ ((strOfNums y103).size : Int) then (if (((t106 ++ t107) ++ (strOfNums y103)) ++ (strOfNums y108)).size + ((strOfNums y103).extract 0 7).size ≤ 9223372036854775807 then (if ((((t106 ++ t107) ++ (strOfNums y103)) ++ (strOfNums y108)) ++ ((strOfNums y103).extract 0 7)).size + a2.size ≤ 9223372036854775807 then (if (((((t106 ++ t107) ++ (strOfNums y103)) ++ (strOfNums y108)) ++ ((strOfNums y103).extract 0 7)) ++ a2).size + a3.size ≤ 9223372036854775807 then (some ((((((t106 ++ t107) ++ (strOfNums y103)) ++ (strOfNums y108)) ++ ((strOfNums y103).extract 0 7)) ++ a2) ++ a3, true)) else (none)) else (none)) else (none)) else (none)) else (none)) else (none))) else (none)) else (none)))) = some (r1, r2) := by first | (rw [hy103]; with_reducible exact H) | (have H2_ := (Option.bind_some _ _).symm.trans H; rw [hy103]; with_reducible exact H2_) | (have H2_ := (Option.bind_some _ _).symm.trans H; with_reducible exact H2_) | with_reducible exact H | (rw [hy103]; exact H) | exact H
    have Ny103 := Aside0.mk hy103
    clear hy103
    replace H := Option.bind_eq_some_iff.mp H
    obtain ⟨t106, A130, H⟩ := H
    replace H : ((rillmeterref08_two.f a1).bind fun t107 => (if t106.size + t107.size ≤ 9223372036854775807 then (if (t106 ++ t107).size + (strOfNums y103).size ≤ 9223372036854775807 then ((some (([(wrap64 (4 * (wrap64 (20 + (a2.size : Int))))) % 256] : List Int) : List Int)).bind fun y108 => (if ((t106 ++ t107) ++ (strOfNums y103)).size + (strOfNums y108).size ≤ 9223372036854775807 then (if 0 ≤ 7 then (if 7 ≤ ((strOfNums y103).size : Int) then (if (((t106 ++ t107) ++ (strOfNums y103)) ++ (strOfNums y108)).size + ((strOfNums y103).extract 0 7).size ≤ 9223372036854775807 then (if ((((t106 ++ t107) ++ (strOfNums y103)) ++ (strOfNums y108)) ++ ((strOfNums y103).extract 0 7)).size + a2.size ≤ 9223372036854775807 then (if (((((t106 ++ t107) ++ (strOfNums y103)) ++ (strOfNums y108)) ++ ((strOfNums y103).extract 0 7)) ++ a2).size + a3.size ≤ 9223372036854775807 then (some ((((((t106 ++ t107) ++ (strOfNums y103)) ++ (strOfNums y108)) ++ ((strOfNums y103).extract 0 7)) ++ a2) ++ a3, true)) else (none)) else (none)) else (none)) else (none)) else (none)) else (none))) else (none)) else (none))) = some (r1, r2) := H
    have A13 := Aside0.mk A130
    clear A130
    replace H := Option.bind_eq_some_iff.mp H
    obtain ⟨t107, A140, H⟩ := H
    replace H : (if t106.size + t107.size ≤ 9223372036854775807 then (if (t106 ++ t107).size + (strOfNums y103).size ≤ 9223372036854775807 then ((some (([(wrap64 (4 * (wrap64 (20 + (a2.size : Int))))) % 256] : List Int) : List Int)).bind fun y108 => (if ((t106 ++ t107) ++ (strOfNums y103)).size + (strOfNums y108).size ≤ 9223372036854775807 then (if 0 ≤ 7 then (if 7 ≤ ((strOfNums y103).size : Int) then (if (((t106 ++ t107) ++ (strOfNums y103)) ++ (strOfNums y108)).size + ((strOfNums y103).extract 0 7).size ≤ 9223372036854775807 then (if ((((t106 ++ t107) ++ (strOfNums y103)) ++ (strOfNums y108)) ++ ((strOfNums y103).extract 0 7)).size + a2.size ≤ 9223372036854775807 then (if (((((t106 ++ t107) ++ (strOfNums y103)) ++ (strOfNums y108)) ++ ((strOfNums y103).extract 0 7)) ++ a2).size + a3.size ≤ 9223372036854775807 then (some ((((((t106 ++ t107) ++ (strOfNums y103)) ++ (strOfNums y108)) ++ ((strOfNums y103).extract 0 7)) ++ a2) ++ a3, true)) else (none)) else (none)) else (none)) else (none)) else (none)) else (none))) else (none)) else (none)) = some (r1, r2) := H
    have A14 := Aside0.mk A140
    clear A140
    by_cases c15 : t106.size + t107.size ≤ 9223372036854775807
    rotate_left
    ·rw [if_neg c15] at H
     exact absurd H (by simp)
    rw [if_pos c15] at H
    have c15b0 := eq_true c15
    have c15b1 : decide (t106.size + t107.size ≤ 9223372036854775807) = true := decide_eq_true c15
    try have c15b2 : (9223372036854775807 < t106.size + t107.size) = False := eq_false (Nat.not_lt.2 c15)
    try (have c15b3 := c15; simp only [ByteArray.size_append, ByteArray.size_extract, Nat.sub_zero, Nat.min_self] at c15b3; have c15b4 := eq_false (Nat.not_lt.2 c15b3))
    by_cases c16 : (t106 ++ t107).size + (strOfNums y103).size ≤ 9223372036854775807
    rotate_left
    ·rw [if_neg c16] at H
     exact absurd H (by simp)
    rw [if_pos c16] at H
    have c16b0 := eq_true c16
    have c16b1 : decide ((t106 ++ t107).size + (strOfNums y103).size ≤ 9223372036854775807) = true := decide_eq_true c16
    try have c16b2 : (9223372036854775807 < (t106 ++ t107).size + (strOfNums y103).size) = False := eq_false (Nat.not_lt.2 c16)
    try (have c16b3 := c16; simp only [ByteArray.size_append, ByteArray.size_extract, Nat.sub_zero, Nat.min_self] at c16b3; have c16b4 := eq_false (Nat.not_lt.2 c16b3))
    obtain ⟨y108, hy108⟩ : ∃ y_ : List Int, y_ = (([(wrap64 (4 * (wrap64 (20 + (a2.size : Int))))) % 256] : List Int)) := ⟨_, rfl⟩
    replace H : (if ((t106 ++ t107) ++ (strOfNums y103)).size + (strOfNums y108).size ≤ 9223372036854775807 then (if 0 ≤ 7 then (if 7 ≤ ((strOfNums y103).size : Int) then (if (((t106 ++ t107) ++ (strOfNums y103)) ++ (strOfNums y108)).size + ((strOfNums y103).extract 0 7).size ≤ 9223372036854775807 then (if ((((t106 ++ t107) ++ (strOfNums y103)) ++ (strOfNums y108)) ++ ((strOfNums y103).extract 0 7)).size + a2.size ≤ 9223372036854775807 then (if (((((t106 ++ t107) ++ (strOfNums y103)) ++ (strOfNums y108)) ++ ((strOfNums y103).extract 0 7)) ++ a2).size + a3.size ≤ 9223372036854775807 then (some ((((((t106 ++ t107) ++ (strOfNums y103)) ++ (strOfNums y108)) ++ ((strOfNums y103).extract 0 7)) ++ a2) ++ a3, true)) else (none)) else (none)) else (none)) else (none)) else (none)) else (none)) = some (r1, r2) := by first | (rw [hy108]; with_reducible exact H) | (have H2_ := (Option.bind_some _ _).symm.trans H; rw [hy108]; with_reducible exact H2_) | (have H2_ := (Option.bind_some _ _).symm.trans H; with_reducible exact H2_) | with_reducible exact H | (rw [hy108]; exact H) | exact H
    have Ny108 := Aside0.mk hy108
    clear hy108
    by_cases c17 : ((t106 ++ t107) ++ (strOfNums y103)).size + (strOfNums y108).size ≤ 9223372036854775807
    rotate_left
    ·rw [if_neg c17] at H
     exact absurd H (by simp)
    rw [if_pos c17] at H
    have c17b0 := eq_true c17
    have c17b1 : decide (((t106 ++ t107) ++ (strOfNums y103)).size + (strOfNums y108).size ≤ 9223372036854775807) = true := decide_eq_true c17
    try have c17b2 : (9223372036854775807 < ((t106 ++ t107) ++ (strOfNums y103)).size + (strOfNums y108).size) = False := eq_false (Nat.not_lt.2 c17)
    try (have c17b3 := c17; simp only [ByteArray.size_append, ByteArray.size_extract, Nat.sub_zero, Nat.min_self] at c17b3; have c17b4 := eq_false (Nat.not_lt.2 c17b3))
    by_cases c18 : 0 ≤ 7
    rotate_left
    ·rw [if_neg c18] at H
     exact absurd H (by simp)
    rw [if_pos c18] at H
    have c18b0 := eq_true c18
    have c18b1 : decide (0 ≤ 7) = true := decide_eq_true c18
    clear c18
    by_cases c19 : 7 ≤ ((strOfNums y103).size : Int)
    rotate_left
    ·rw [if_neg c19] at H
     exact absurd H (by simp)
    rw [if_pos c19] at H
    have c19b0 := eq_true c19
    have c19b1 : decide (7 ≤ ((strOfNums y103).size : Int)) = true := decide_eq_true c19
    clear c19
    by_cases c20 : (((t106 ++ t107) ++ (strOfNums y103)) ++ (strOfNums y108)).size + ((strOfNums y103).extract 0 7).size ≤ 9223372036854775807
    rotate_left
    ·rw [if_neg c20] at H
     exact absurd H (by simp)
    rw [if_pos c20] at H
    have c20b0 := eq_true c20
    have c20b1 : decide ((((t106 ++ t107) ++ (strOfNums y103)) ++ (strOfNums y108)).size + ((strOfNums y103).extract 0 7).size ≤ 9223372036854775807) = true := decide_eq_true c20
    try have c20b2 : (9223372036854775807 < (((t106 ++ t107) ++ (strOfNums y103)) ++ (strOfNums y108)).size + ((strOfNums y103).extract 0 7).size) = False := eq_false (Nat.not_lt.2 c20)
    try (have c20b3 := c20; simp only [ByteArray.size_append, ByteArray.size_extract, Nat.sub_zero, Nat.min_self] at c20b3; have c20b4 := eq_false (Nat.not_lt.2 c20b3))
    by_cases c21 : ((((t106 ++ t107) ++ (strOfNums y103)) ++ (strOfNums y108)) ++ ((strOfNums y103).extract 0 7)).size + a2.size ≤ 9223372036854775807
    rotate_left
    ·rw [if_neg c21] at H
     exact absurd H (by simp)
    rw [if_pos c21] at H
    have c21b0 := eq_true c21
    have c21b1 : decide (((((t106 ++ t107) ++ (strOfNums y103)) ++ (strOfNums y108)) ++ ((strOfNums y103).extract 0 7)).size + a2.size ≤ 9223372036854775807) = true := decide_eq_true c21
    try have c21b2 : (9223372036854775807 < ((((t106 ++ t107) ++ (strOfNums y103)) ++ (strOfNums y108)) ++ ((strOfNums y103).extract 0 7)).size + a2.size) = False := eq_false (Nat.not_lt.2 c21)
    try (have c21b3 := c21; simp only [ByteArray.size_append, ByteArray.size_extract, Nat.sub_zero, Nat.min_self] at c21b3; have c21b4 := eq_false (Nat.not_lt.2 c21b3))
    by_cases c22 : (((((t106 ++ t107) ++ (strOfNums y103)) ++ (strOfNums y108)) ++ ((strOfNums y103).extract 0 7)) ++ a2).size + a3.size ≤ 9223372036854775807
    rotate_left
    ·rw [if_neg c22] at H
     exact absurd H (by simp)
    rw [if_pos c22] at H
    have c22b0 := eq_true c22
    have c22b1 : decide ((((((t106 ++ t107) ++ (strOfNums y103)) ++ (strOfNums y108)) ++ ((strOfNums y103).extract 0 7)) ++ a2).size + a3.size ≤ 9223372036854775807) = true := decide_eq_true c22
    try have c22b2 : (9223372036854775807 < (((((t106 ++ t107) ++ (strOfNums y103)) ++ (strOfNums y108)) ++ ((strOfNums y103).extract 0 7)) ++ a2).size + a3.size) = False := eq_false (Nat.not_lt.2 c22)
    try (have c22b3 := c22; simp only [ByteArray.size_append, ByteArray.size_extract, Nat.sub_zero, Nat.min_self] at c22b3; have c22b4 := eq_false (Nat.not_lt.2 c22b3))
    simp only [Option.some.injEq, Prod.mk.injEq] at H
    obtain ⟨rfl, rfl⟩ := H
    try go_wp2_with (first | ((with_reducible refine gate_dst (N := 31) rfl ?_); refine Kd.R_make (Kd.int .u8) _ 5 rfl (N := 31) rfl 35 _ _ rfl 8 rfl rfl Try.underlying35 (.int .u8 0) 1 info5 rfl (by decide) (by omega) 0 (ok := fun _ => True) (okp := fun _ => True) rfl (fun _ hk => hk) trivial (by omega) (by omega) (Below.refl _ _) (Nat.le_refl _) ?_; intro v104 w23 ho24 hb hg_ hnew_; clear hg_ hnew_; (first | rw [← Ny103.out] at ho24 | (simp only [Int.reduceToNat] at ho24; rw [← Ny103.out] at ho24)); have n0_ := Aside0.mk (Kd.R_lower ho24 (below_size (bU_ HB.out))); have n1_ := Aside0.mk (below_step (bU_ HB.out) hb); clear HB; have HO105 := n0_; have HB := n1_; clear n0_ n1_; clear hb ho24; have hcv25 := own_string (P := Try.prog) Try.underlying35 Try.underlying5 Try.underlying9 (Kd.own_of_R HO105.out)))
    have n0_ := Aside0.mk (Kd.R_drew HO105.out)
    have n1_ := Aside0.mk (below_drew1 HB.out)
    clear HO105
    clear HB
    have HO105 := n0_
    have HB := n1_
    clear n0_ n1_
    refine start_ (n := 23) (S := fun w' => True) (ds := []) #[false, false, false, false, false, false, false, false, false, false, false, false, false, false, false, false, false, false, false, false, false, false, false] (by kernel_rfl) rfl rfl trivial (fun hHeld => ?_); refine with_tabW rillmeterref08_TCP.tab5 rillmeterref08_TCP.bits5 (fun HT_ HW_ => ?_)
    generalize w23.drew = w26 at HO105 HB hHeld ⊢
    refine pure_ (i := 0) (N := some 33) (v := ?_) (a' := ?_) #[true, false, false, false, false, false, false, false, false, false, false, false, false, false, false, false, false, false, false, false, false, false, false] rfl rfl (any_of HT_.out (by kernel_rfl)) (fun _ _ _ h => h) (Or.inl ⟨by rfl, ?_⟩) ?_ ?_
    rotate_left
    ·intro w'
     go_simp
     with_reducible rfl
    rotate_left
    ·simp only [Act.put, List.setIfInBounds_toArray, List.set_cons_zero, List.set_cons_succ, i64_w, i32_w]
     rfl
    refine pure_ (i := 2) (N := some 35) (v := ?_) (a' := ?_) #[true, false, true, false, false, false, false, false, false, false, false, false, false, false, false, false, false, false, false, false, false, false, false] rfl rfl (any_of HT_.out (by kernel_rfl)) (fun _ _ _ h => h) (Or.inl ⟨by rfl, ?_⟩) ?_ ?_
    rotate_left
    ·intro w'
     go_simp
     with_reducible rfl
    rotate_left
    ·simp only [Act.put, List.setIfInBounds_toArray, List.set_cons_zero, List.set_cons_succ, i64_w, i32_w]
     rfl
    refine pure_ (i := 5) (N := some 38) (v := ?_) (a' := ?_) #[true, false, true, false, false, true, false, false, false, false, false, false, false, false, false, false, false, false, false, false, false, false, false] rfl rfl (any_of HT_.out (by kernel_rfl)) (fun _ _ _ h => h) (Or.inl ⟨by rfl, ?_⟩) ?_ ?_
    rotate_left
    ·intro w'
     go_simp
     with_reducible rfl
    rotate_left
    ·simp only [Act.put, List.setIfInBounds_toArray, List.set_cons_zero, List.set_cons_succ, i64_w, i32_w]
     rfl
    refine pure_ (i := 7) (N := some 40) (v := ?_) (a' := ?_) #[true, false, true, false, false, true, false, true, false, false, false, false, false, false, false, false, false, false, false, false, false, false, false] rfl rfl (any_of HT_.out (by kernel_rfl)) (fun _ _ _ h => h) (Or.inl ⟨by rfl, ?_⟩) ?_ ?_
    rotate_left
    ·intro w'
     go_simp
     with_reducible rfl
    rotate_left
    ·simp only [Act.put, List.setIfInBounds_toArray, List.set_cons_zero, List.set_cons_succ, i64_w, i32_w]
     rfl
    refine pure_ (i := 8) (N := some 41) (v := ?_) (a' := ?_) #[true, false, true, false, false, true, false, true, true, false, false, false, false, false, false, false, false, false, false, false, false, false, false] rfl rfl (any_of HT_.out (by kernel_rfl)) (fun _ _ _ h => h) (Or.inl ⟨by rfl, ?_⟩) ?_ ?_
    rotate_left
    ·intro w'
     go_simp
     with_reducible rfl
    rotate_left
    ·simp only [Act.put, List.setIfInBounds_toArray, List.set_cons_zero, List.set_cons_succ, i64_w, i32_w]
     rfl
    refine pure_ (i := 9) (N := some 42) (v := ?_) (a' := ?_) #[true, false, true, false, false, true, false, true, true, true, false, false, false, false, false, false, false, false, false, false, false, false, false] rfl rfl (any_of HT_.out (by kernel_rfl)) (fun _ _ _ h => h) (Or.inl ⟨by rfl, ?_⟩) ?_ ?_
    rotate_left
    ·intro w'
     go_simp
     with_reducible rfl
    rotate_left
    ·simp only [Act.put, List.setIfInBounds_toArray, List.set_cons_zero, List.set_cons_succ, i64_w, i32_w]
     rfl
    refine pure_ (i := 10) (N := some 43) (v := ?_) (a' := ?_) #[true, false, true, false, false, true, false, true, true, true, true, false, false, false, false, false, false, false, false, false, false, false, false] rfl rfl (any_of HT_.out (by kernel_rfl)) (fun _ _ _ h => h) (Or.inl ⟨by rfl, ?_⟩) ?_ ?_
    rotate_left
    ·intro w'
     go_simp
     with_reducible rfl
    rotate_left
    ·simp only [Act.put, List.setIfInBounds_toArray, List.set_cons_zero, List.set_cons_succ, i64_w, i32_w]
     rfl
    refine pure_ (i := 14) (N := some 47) (v := ?_) (a' := ?_) #[true, false, true, false, false, true, false, true, true, true, true, false, false, false, true, false, false, false, false, false, false, false, false] rfl rfl (any_of HT_.out (by kernel_rfl)) (fun _ _ _ h => h) (Or.inl ⟨by rfl, ?_⟩) ?_ ?_
    rotate_left
    ·intro w'
     go_simp
     with_reducible rfl
    rotate_left
    ·simp only [Act.put, List.setIfInBounds_toArray, List.set_cons_zero, List.set_cons_succ, i64_w, i32_w]
     rfl
    refine pure_ (i := 15) (N := some 48) (v := ?_) (a' := ?_) #[true, false, true, false, false, true, false, true, true, true, true, false, false, false, true, true, false, false, false, false, false, false, false] rfl rfl (any_of HT_.out (by kernel_rfl)) (fun _ _ _ h => h) (Or.inl ⟨by rfl, ?_⟩) ?_ ?_
    rotate_left
    ·intro w'
     go_simp
     with_reducible rfl
    rotate_left
    ·simp only [Act.put, List.setIfInBounds_toArray, List.set_cons_zero, List.set_cons_succ, i64_w, i32_w]
     rfl
    refine pure_ (i := 17) (N := some 50) (v := ?_) (a' := ?_) #[true, false, true, false, false, true, false, true, true, true, true, false, false, false, true, true, false, true, false, false, false, false, false] rfl rfl (any_of HT_.out (by kernel_rfl)) (fun _ _ _ h => h) (Or.inl ⟨by rfl, ?_⟩) ?_ ?_
    rotate_left
    ·intro w'
     go_simp
     with_reducible rfl
    rotate_left
    ·simp only [Act.put, List.setIfInBounds_toArray, List.set_cons_zero, List.set_cons_succ, i64_w, i32_w]
     rfl
    refine pure_ (i := 19) (N := some 52) (v := ?_) (a' := ?_) #[true, false, true, false, false, true, false, true, true, true, true, false, false, false, true, true, false, true, false, true, false, false, false] rfl rfl (any_of HT_.out (by kernel_rfl)) (fun _ _ _ h => h) (Or.inl ⟨by rfl, ?_⟩) ?_ ?_
    rotate_left
    ·intro w'
     go_simp
     with_reducible rfl
    rotate_left
    ·simp only [Act.put, List.setIfInBounds_toArray, List.set_cons_zero, List.set_cons_succ, i64_w, i32_w]
     rfl
    refine join_ (σ := Value) 6 #[true, true, true, true, true, true, true, true, true, true, true, true, true, false, true, true, false, true, false, true, false, false, false] (fun s_ => [(34, .string t106), (36, .string t107), (44, s_), (45, .string (strOfNums y108)), (37, .string (t106 ++ t107)), (39, .string ((t106 ++ t107) ++ (strOfNums y103)))]) (fun s_ w' => (Kd.R (Kd.int .u8) 5 w' w.heap.size (fun k_ => some k_ ≠ (s_ : Value).ownBlock) v104 y103) ∧ (Kd.R (Kd.int .u8) 5 w' w.heap.size (fun k_ => some k_ ≠ (v104 : Value).ownBlock) s_ y108) ∧ (Below w.heap.size w w')) ?_ ?_
    rotate_left
    ·intro hJ1_3_11_12
     refine join_ (σ := Value) 7 #[true, true, true, true, true, true, true, true, true, true, true, true, false, false, true, true, false, true, false, true, false, false, false] (fun s_ => [(34, .string t106), (36, .string t107), (44, s_), (37, .string (t106 ++ t107)), (39, .string ((t106 ++ t107) ++ (strOfNums y103)))]) (fun s_ w' => (Kd.R (Kd.int .u8) 5 w' w.heap.size (fun k_ => some k_ ≠ (s_ : Value).ownBlock) v104 y103) ∧ (Kd.R (Kd.int .u8) 5 w' w.heap.size (fun k_ => some k_ ≠ (v104 : Value).ownBlock) s_ y108) ∧ (Below w.heap.size w w')) ?_ ?_
     rotate_left
     ·intro hJ1_3_11
      refine join_ (σ := Value) 9 #[true, true, true, false, false, true, false, true, true, true, true, true, true, false, true, true, false, true, false, true, false, false, false] (fun s_ => [(34, .string t106), (44, s_), (45, .string (strOfNums y108))]) (fun s_ w' => (Kd.R (Kd.int .u8) 5 w' w.heap.size (fun k_ => some k_ ≠ (s_ : Value).ownBlock) v104 y103) ∧ (Kd.R (Kd.int .u8) 5 w' w.heap.size (fun k_ => some k_ ≠ (v104 : Value).ownBlock) s_ y108) ∧ (Below w.heap.size w w')) ?_ ?_
      rotate_left
      ·intro hJ1_11_12
       refine join_ (σ := Unit) 8 #[true, true, true, true, true, true, true, true, true, true, true, false, false, false, true, true, false, true, false, true, false, false, false] (fun s_ => [(34, .string t106), (36, .string t107), (37, .string (t106 ++ t107)), (39, .string ((t106 ++ t107) ++ (strOfNums y103)))]) (fun s_ w' => (Kd.R (Kd.int .u8) 5 w' w.heap.size (fun _ => True) v104 y103) ∧ (Below w.heap.size w w')) ?_ ?_
       rotate_left
       ·intro hJ1_3
        refine join_ (σ := Value) 10 #[true, true, true, false, false, true, false, true, true, true, true, true, false, false, true, true, false, true, false, true, false, false, false] (fun s_ => [(34, .string t106), (44, s_)]) (fun s_ w' => (Kd.R (Kd.int .u8) 5 w' w.heap.size (fun k_ => some k_ ≠ (s_ : Value).ownBlock) v104 y103) ∧ (Kd.R (Kd.int .u8) 5 w' w.heap.size (fun k_ => some k_ ≠ (v104 : Value).ownBlock) s_ y108) ∧ (Below w.heap.size w w')) ?_ ?_
        rotate_left
        ·intro hJ1_11
         refine join_ (σ := Value) 10 #[true, false, true, false, false, true, false, true, true, true, true, true, true, false, true, true, false, true, false, true, false, false, false] (fun s_ => [(44, s_), (45, .string (strOfNums y108))]) (fun s_ w' => (Kd.R (Kd.int .u8) 5 w' w.heap.size (fun k_ => some k_ ≠ (s_ : Value).ownBlock) v104 y103) ∧ (Kd.R (Kd.int .u8) 5 w' w.heap.size (fun k_ => some k_ ≠ (v104 : Value).ownBlock) s_ y108) ∧ (Below w.heap.size w w')) ?_ ?_
         rotate_left
         ·intro hJ11_12
          refine join_ (σ := Unit) 11 #[true, true, true, false, false, true, false, true, true, true, true, false, false, false, true, true, false, true, false, true, false, false, false] (fun s_ => [(34, .string t106)]) (fun s_ w' => (Kd.R (Kd.int .u8) 5 w' w.heap.size (fun _ => True) v104 y103) ∧ (Below w.heap.size w w')) ?_ ?_
          rotate_left
          ·intro hJ1
           refine join_ (σ := Value) 11 #[true, false, true, false, false, true, false, true, true, true, true, true, false, false, true, true, false, true, false, true, false, false, false] (fun s_ => [(44, s_)]) (fun s_ w' => (Kd.R (Kd.int .u8) 5 w' w.heap.size (fun k_ => some k_ ≠ (s_ : Value).ownBlock) v104 y103) ∧ (Kd.R (Kd.int .u8) 5 w' w.heap.size (fun k_ => some k_ ≠ (v104 : Value).ownBlock) s_ y108) ∧ (Below w.heap.size w w')) ?_ ?_
           rotate_left
           ·intro hJ11
            refine two_ (i := 1) (j := 11) (Ni := some 34) (Nj := some 44) #[true, true, true, false, false, true, false, true, true, true, true, false, false, false, true, true, false, true, false, true, false, false, false] #[true, false, true, false, false, true, false, true, true, true, true, true, false, false, true, true, false, true, false, true, false, false, false] rfl rfl rfl rfl (two_of HT_.out (by kernel_rfl)) (by decide) (by decide) (fun K hK => ?_) (fun K hK => ?_)
            ·skip
             refine goes_ Try.func20 (by kernel_rfl) rfl #[.int .i64 a0] (by rfl) rfl rfl (by (try simp only [List.map_toArray, List.map_cons, List.map_nil]); first | done | rfl | (simp only [List.length_drop, List.length_take]; rfl) | (simp only [ByteArray.size_append, ByteArray.size_extract, Nat.sub_zero, Int.natCast_add]; rfl) | (simp [ByteArray.size_append]; done)) ?_
             with_reducible refine (rillmeterref08_two.calls a0 t106 _ A13.out).mono ?_
             rintro e w27 ⟨rfl, hb⟩
             refine ⟨_, rfl, ?_⟩
             have n0_ := Aside0.mk (Kd.R_below (by (with_reducible repeat first | apply Kd.R_alloc | apply Kd.R_drewN | apply Kd.R_drew); exact HO105.out) hb)
             have n1_ := Aside0.mk (below_step (bU_ HB.out) hb)
             clear HO105
             clear HB
             have HO105 := n0_
             have HB := n1_
             clear n0_ n1_
             (try clear hb)
             (try clear hb2)
             (try clear hk)
             (try clear hi)
             refine hK.out _ _ trivial (fun hHeld => ?_)
             clear hK K
             refine norm_ (a' := ?_) ?_ ?_
             rotate_left
             ·show Act.put _ (some 34) _ = _
              simp only [Act.put, List.setIfInBounds_toArray, List.set_cons_zero, List.set_cons_succ, i64_w, i32_w]
              rfl
             exact norm_ (by first | (simp only [putAll, Act.put, List.setIfInBounds_toArray, List.set_cons_zero, List.set_cons_succ]; done) | (simp only [putAll, Act.put, List.setIfInBounds_toArray, List.set_cons_zero, List.set_cons_succ]; rfl)) (hJ1 () _ ⟨(by (with_reducible repeat first | apply Kd.R_alloc | apply Kd.R_drewN | apply Kd.R_drew); exact HO105.out), (bU_ HB.out)⟩)
            ·skip
             refine Kd.R_lit_step (Kd.int .u8) _ 5 ?hg (N := 44) ?hd (xs := ([(wrap64 (4 * (wrap64 (20 + (a2.size : Int))))) % 256] : List Int)) (inner := [.int .u8 ((wrap64 (4 * (wrap64 (20 + (a2.size : Int))))) % 256)]) (ok := fun _ => True) (okp := fun _ => True) ?hr ?hp (fun _ hk => hk) trivial (Below.refl _ _) (Nat.le_refl _) (by simp) ?_; (case hd => rfl); (case hg => rfl); (case hr => first | (go_simp; done) | (go_simp; simp only [IntKind.wrap_u8]; done) | (go_simp; rfl)); (case hp => exact (Reps.one (show Kd.M (Kd.int .u8) _ _ _ ((wrap64 (4 * (wrap64 (20 + (a2.size : Int))))) % 256) [.int .u8 ((wrap64 (4 * (wrap64 (20 + (a2.size : Int))))) % 256)] from rfl) (Reps.none _ _)))
             intro v109 w27 ho28 hb hg_ hnew_
             clear hg_ hnew_
             (first | rw [← Ny108.out] at ho28 | (simp only [Int.reduceToNat] at ho28; rw [← Ny108.out] at ho28))
             have n0_ := Aside0.mk (Kd.R_elder' (by (with_reducible repeat first | apply Kd.R_alloc | apply Kd.R_drewN | apply Kd.R_drew); exact HO105.out) (Kd.R_base ho28) hb)
             have n1_ := Aside0.mk (Kd.R_lower (Kd.R_new' ho28 (Kd.R_lt (by (with_reducible repeat first | apply Kd.R_alloc | apply Kd.R_drewN | apply Kd.R_drew); exact HO105.out))) (below_size (bU_ HB.out)))
             have n2_ := Aside0.mk (below_step (bU_ HB.out) hb)
             clear HO105
             clear HB
             have HO105 := n0_
             have HO110 := n1_
             have HB := n2_
             clear n0_ n1_ n2_
             clear hb ho28
             refine hK.out _ _ trivial (fun hHeld => ?_)
             clear hK K
             refine norm_ (a' := ?_) ?_ ?_
             rotate_left
             ·show Act.put _ (some 44) _ = _
              simp only [Act.put, List.setIfInBounds_toArray, List.set_cons_zero, List.set_cons_succ, i64_w, i32_w]
              rfl
             exact norm_ (by first | (simp only [putAll, Act.put, List.setIfInBounds_toArray, List.set_cons_zero, List.set_cons_succ]; done) | (simp only [putAll, Act.put, List.setIfInBounds_toArray, List.set_cons_zero, List.set_cons_succ]; rfl)) (hJ11 (v109) _ ⟨(by (with_reducible repeat first | apply Kd.R_alloc | apply Kd.R_drewN | apply Kd.R_drew); exact Kd.R_mono HO105.out (fun _ hk => hk.2)), (by (with_reducible repeat first | apply Kd.R_alloc | apply Kd.R_drewN | apply Kd.R_drew); exact Kd.R_mono HO110.out (fun _ hk => hk.2)), (bU_ HB.out)⟩)
           ·skip
            rintro v109 w29 ⟨h0_, h1_, h2_⟩
            have n0_ : Aside0 (Kd.R (Kd.int .u8) 5 w29 w.heap.size (fun k_ => some k_ ≠ (v109 : Value).ownBlock) v104 y103) := ⟨h0_⟩
            have n1_ : Aside0 (Kd.R (Kd.int .u8) 5 w29 w.heap.size (fun k_ => some k_ ≠ (v104 : Value).ownBlock) v109 y108) := ⟨h1_⟩
            have n2_ : Aside0 (Below w.heap.size w w29) := ⟨h2_⟩
            clear HO105
            clear HB
            clear h0_ h1_ h2_
            have HO105 := n0_
            have HO110 := n1_
            have HB := n2_
            clear n0_ n1_ n2_
            have hHeld := trivial
            refine norm_ (a' := ?_) ?_ ?_
            rotate_left
            ·simp only [putAll, Act.put, List.setIfInBounds_toArray, List.set_cons_zero, List.set_cons_succ]
             rfl
            refine two_ (i := 1) (j := 12) (Ni := some 34) (Nj := some 45) #[true, true, true, false, false, true, false, true, true, true, true, true, false, false, true, true, false, true, false, true, false, false, false] #[true, false, true, false, false, true, false, true, true, true, true, true, true, false, true, true, false, true, false, true, false, false, false] rfl rfl rfl rfl (two_of HT_.out (by kernel_rfl)) (by decide) (by decide) (fun K hK => ?_) (fun K hK => ?_)
            ·skip
             refine goes_ Try.func20 (by kernel_rfl) rfl #[.int .i64 a0] (by rfl) rfl rfl (by (try simp only [List.map_toArray, List.map_cons, List.map_nil]); first | done | rfl | (simp only [List.length_drop, List.length_take]; rfl) | (simp only [ByteArray.size_append, ByteArray.size_extract, Nat.sub_zero, Int.natCast_add]; rfl) | (simp [ByteArray.size_append]; done)) ?_
             with_reducible refine (rillmeterref08_two.calls a0 t106 _ A13.out).mono ?_
             rintro e w30 ⟨rfl, hb⟩
             refine ⟨_, rfl, ?_⟩
             have n0_ := Aside0.mk (Kd.R_below (by (with_reducible repeat first | apply Kd.R_alloc | apply Kd.R_drewN | apply Kd.R_drew); exact HO105.out) hb)
             have n1_ := Aside0.mk (Kd.R_below (by (with_reducible repeat first | apply Kd.R_alloc | apply Kd.R_drewN | apply Kd.R_drew); exact HO110.out) hb)
             have n2_ := Aside0.mk (below_step (bU_ HB.out) hb)
             clear HO105
             clear HO110
             clear HB
             have HO105 := n0_
             have HO110 := n1_
             have HB := n2_
             clear n0_ n1_ n2_
             (try clear hb)
             (try clear hb2)
             (try clear hk)
             (try clear hi)
             refine hK.out _ _ trivial (fun hHeld => ?_)
             clear hK K
             refine norm_ (a' := ?_) ?_ ?_
             rotate_left
             ·show Act.put _ (some 34) _ = _
              simp only [Act.put, List.setIfInBounds_toArray, List.set_cons_zero, List.set_cons_succ, i64_w, i32_w]
              rfl
             exact norm_ (by first | (simp only [putAll, Act.put, List.setIfInBounds_toArray, List.set_cons_zero, List.set_cons_succ]; done) | (simp only [putAll, Act.put, List.setIfInBounds_toArray, List.set_cons_zero, List.set_cons_succ]; rfl)) (hJ1_11 (v109) _ ⟨(by (with_reducible repeat first | apply Kd.R_alloc | apply Kd.R_drewN | apply Kd.R_drew); exact HO105.out), (by (with_reducible repeat first | apply Kd.R_alloc | apply Kd.R_drewN | apply Kd.R_drew); exact HO110.out), (bU_ HB.out)⟩)
            ·skip
             have hcv30 := own_string (P := Try.prog) Try.underlying35 Try.underlying5 Try.underlying9 (Kd.own_of_R HO110.out)
             refine value_ (w1 := ?_) (v := ?_) (by rfl) rfl ?_ ?_
             rotate_left 2
             ·go_simp
              constructor
              ·rfl
              ·rfl
             clear hcv30
             refine hK.out _ _ trivial (fun hHeld => ?_)
             clear hK K
             refine norm_ (a' := ?_) ?_ ?_
             rotate_left
             ·show Act.put _ (some 45) _ = _
              simp only [Act.put, List.setIfInBounds_toArray, List.set_cons_zero, List.set_cons_succ, i64_w, i32_w]
              rfl
             exact norm_ (by first | (simp only [putAll, Act.put, List.setIfInBounds_toArray, List.set_cons_zero, List.set_cons_succ]; done) | (simp only [putAll, Act.put, List.setIfInBounds_toArray, List.set_cons_zero, List.set_cons_succ]; rfl)) (hJ11_12 (v109) _ ⟨(by (with_reducible repeat first | apply Kd.R_alloc | apply Kd.R_drewN | apply Kd.R_drew); exact HO105.out), (by (with_reducible repeat first | apply Kd.R_alloc | apply Kd.R_drewN | apply Kd.R_drew); exact HO110.out), (bU_ HB.out)⟩)
          ·skip
           rintro _ w28 ⟨h0_, h1_⟩
           have n0_ : Aside0 (Kd.R (Kd.int .u8) 5 w28 w.heap.size (fun _ => True) v104 y103) := ⟨h0_⟩
           have n1_ : Aside0 (Below w.heap.size w w28) := ⟨h1_⟩
           clear HO105
           clear HB
           clear h0_ h1_
           have HO105 := n0_
           have HB := n1_
           clear n0_ n1_
           have hHeld := trivial
           refine norm_ (a' := ?_) ?_ ?_
           rotate_left
           ·simp only [putAll, Act.put, List.setIfInBounds_toArray, List.set_cons_zero, List.set_cons_succ]
            rfl
           refine two_ (i := 3) (j := 11) (Ni := some 36) (Nj := some 44) #[true, true, true, true, false, true, false, true, true, true, true, false, false, false, true, true, false, true, false, true, false, false, false] #[true, true, true, false, false, true, false, true, true, true, true, true, false, false, true, true, false, true, false, true, false, false, false] rfl rfl rfl rfl (two_of HT_.out (by kernel_rfl)) (by decide) (by decide) (fun K hK => ?_) (fun K hK => ?_)
           ·skip
            refine goes_ Try.func20 (by kernel_rfl) rfl #[.int .i64 a1] (by rfl) rfl rfl (by (try simp only [List.map_toArray, List.map_cons, List.map_nil]); first | done | rfl | (simp only [List.length_drop, List.length_take]; rfl) | (simp only [ByteArray.size_append, ByteArray.size_extract, Nat.sub_zero, Int.natCast_add]; rfl) | (simp [ByteArray.size_append]; done)) ?_
            with_reducible refine (rillmeterref08_two.calls a1 t107 _ A14.out).mono ?_
            rintro e w29 ⟨rfl, hb⟩
            refine ⟨_, rfl, ?_⟩
            have n0_ := Aside0.mk (Kd.R_below (by (with_reducible repeat first | apply Kd.R_alloc | apply Kd.R_drewN | apply Kd.R_drew); exact HO105.out) hb)
            have n1_ := Aside0.mk (below_step (bU_ HB.out) hb)
            clear HO105
            clear HB
            have HO105 := n0_
            have HB := n1_
            clear n0_ n1_
            (try clear hb)
            (try clear hb2)
            (try clear hk)
            (try clear hi)
            refine hK.out _ _ trivial (fun hHeld => ?_)
            clear hK K
            refine norm_ (a' := ?_) ?_ ?_
            rotate_left
            ·show Act.put _ (some 36) _ = _
             simp only [Act.put, List.setIfInBounds_toArray, List.set_cons_zero, List.set_cons_succ, i64_w, i32_w]
             rfl
            refine pure_ (i := 4) (N := some 37) (v := ?_) (a' := ?_) #[true, true, true, true, true, true, false, true, true, true, true, false, false, false, true, true, false, true, false, true, false, false, false] rfl rfl (any_of HT_.out (by kernel_rfl)) (fun _ _ _ h => h) (Or.inl ⟨by rfl, ?_⟩) ?_ ?_
            rotate_left
            ·intro w'
             go_simp
             with_reducible rfl
            rotate_left
            ·simp only [Act.put, List.setIfInBounds_toArray, List.set_cons_zero, List.set_cons_succ, i64_w, i32_w]
             rfl
            refine pure_ (i := 6) (N := some 39) (v := ?_) (a' := ?_) #[true, true, true, true, true, true, true, true, true, true, true, false, false, false, true, true, false, true, false, true, false, false, false] rfl rfl (any_of HT_.out (by kernel_rfl)) (fun _ _ _ h => h) (Or.inl ⟨by rfl, ?_⟩) ?_ ?_
            rotate_left
            ·intro w'
             go_simp
             with_reducible rfl
            rotate_left
            ·simp only [Act.put, List.setIfInBounds_toArray, List.set_cons_zero, List.set_cons_succ, i64_w, i32_w]
             rfl
            exact norm_ (by first | (simp only [putAll, Act.put, List.setIfInBounds_toArray, List.set_cons_zero, List.set_cons_succ]; done) | (simp only [putAll, Act.put, List.setIfInBounds_toArray, List.set_cons_zero, List.set_cons_succ]; rfl)) (hJ1_3 () _ ⟨(by (with_reducible repeat first | apply Kd.R_alloc | apply Kd.R_drewN | apply Kd.R_drew); exact HO105.out), (bU_ HB.out)⟩)
           ·skip
            refine Kd.R_lit_step (Kd.int .u8) _ 5 ?hg (N := 44) ?hd (xs := ([(wrap64 (4 * (wrap64 (20 + (a2.size : Int))))) % 256] : List Int)) (inner := [.int .u8 ((wrap64 (4 * (wrap64 (20 + (a2.size : Int))))) % 256)]) (ok := fun _ => True) (okp := fun _ => True) ?hr ?hp (fun _ hk => hk) trivial (Below.refl _ _) (Nat.le_refl _) (by simp) ?_; (case hd => rfl); (case hg => rfl); (case hr => first | (go_simp; done) | (go_simp; simp only [IntKind.wrap_u8]; done) | (go_simp; rfl)); (case hp => exact (Reps.one (show Kd.M (Kd.int .u8) _ _ _ ((wrap64 (4 * (wrap64 (20 + (a2.size : Int))))) % 256) [.int .u8 ((wrap64 (4 * (wrap64 (20 + (a2.size : Int))))) % 256)] from rfl) (Reps.none _ _)))
            intro v109 w29 ho30 hb hg_ hnew_
            clear hg_ hnew_
            (first | rw [← Ny108.out] at ho30 | (simp only [Int.reduceToNat] at ho30; rw [← Ny108.out] at ho30))
            have n0_ := Aside0.mk (Kd.R_elder' (by (with_reducible repeat first | apply Kd.R_alloc | apply Kd.R_drewN | apply Kd.R_drew); exact HO105.out) (Kd.R_base ho30) hb)
            have n1_ := Aside0.mk (Kd.R_lower (Kd.R_new' ho30 (Kd.R_lt (by (with_reducible repeat first | apply Kd.R_alloc | apply Kd.R_drewN | apply Kd.R_drew); exact HO105.out))) (below_size (bU_ HB.out)))
            have n2_ := Aside0.mk (below_step (bU_ HB.out) hb)
            clear HO105
            clear HB
            have HO105 := n0_
            have HO110 := n1_
            have HB := n2_
            clear n0_ n1_ n2_
            clear hb ho30
            refine hK.out _ _ trivial (fun hHeld => ?_)
            clear hK K
            refine norm_ (a' := ?_) ?_ ?_
            rotate_left
            ·show Act.put _ (some 44) _ = _
             simp only [Act.put, List.setIfInBounds_toArray, List.set_cons_zero, List.set_cons_succ, i64_w, i32_w]
             rfl
            exact norm_ (by first | (simp only [putAll, Act.put, List.setIfInBounds_toArray, List.set_cons_zero, List.set_cons_succ]; done) | (simp only [putAll, Act.put, List.setIfInBounds_toArray, List.set_cons_zero, List.set_cons_succ]; rfl)) (hJ1_11 (v109) _ ⟨(by (with_reducible repeat first | apply Kd.R_alloc | apply Kd.R_drewN | apply Kd.R_drew); exact Kd.R_mono HO105.out (fun _ hk => hk.2)), (by (with_reducible repeat first | apply Kd.R_alloc | apply Kd.R_drewN | apply Kd.R_drew); exact Kd.R_mono HO110.out (fun _ hk => hk.2)), (bU_ HB.out)⟩)
         ·skip
          rintro v109 w30 ⟨h0_, h1_, h2_⟩
          have n0_ : Aside0 (Kd.R (Kd.int .u8) 5 w30 w.heap.size (fun k_ => some k_ ≠ (v109 : Value).ownBlock) v104 y103) := ⟨h0_⟩
          have n1_ : Aside0 (Kd.R (Kd.int .u8) 5 w30 w.heap.size (fun k_ => some k_ ≠ (v104 : Value).ownBlock) v109 y108) := ⟨h1_⟩
          have n2_ : Aside0 (Below w.heap.size w w30) := ⟨h2_⟩
          clear HO105
          clear HB
          clear h0_ h1_ h2_
          have HO105 := n0_
          have HO110 := n1_
          have HB := n2_
          clear n0_ n1_ n2_
          have hHeld := trivial
          refine norm_ (a' := ?_) ?_ ?_
          rotate_left
          ·simp only [putAll, Act.put, List.setIfInBounds_toArray, List.set_cons_zero, List.set_cons_succ]
           rfl
          refine one_ (i := 1) (N := some 34) #[true, true, true, false, false, true, false, true, true, true, true, true, true, false, true, true, false, true, false, true, false, false, false] rfl rfl (one_of HT_.out (by kernel_rfl)) (by decide) (fun K hK => ?_)
          refine goes_ Try.func20 (by kernel_rfl) rfl #[.int .i64 a0] (by rfl) rfl rfl (by (try simp only [List.map_toArray, List.map_cons, List.map_nil]); first | done | rfl | (simp only [List.length_drop, List.length_take]; rfl) | (simp only [ByteArray.size_append, ByteArray.size_extract, Nat.sub_zero, Int.natCast_add]; rfl) | (simp [ByteArray.size_append]; done)) ?_
          with_reducible refine (rillmeterref08_two.calls a0 t106 _ A13.out).mono ?_
          rintro e w31 ⟨rfl, hb⟩
          refine ⟨_, rfl, ?_⟩
          have n0_ := Aside0.mk (Kd.R_below (by (with_reducible repeat first | apply Kd.R_alloc | apply Kd.R_drewN | apply Kd.R_drew); exact HO105.out) hb)
          have n1_ := Aside0.mk (Kd.R_below (by (with_reducible repeat first | apply Kd.R_alloc | apply Kd.R_drewN | apply Kd.R_drew); exact HO110.out) hb)
          have n2_ := Aside0.mk (below_step (bU_ HB.out) hb)
          clear HO105
          clear HO110
          clear HB
          have HO105 := n0_
          have HO110 := n1_
          have HB := n2_
          clear n0_ n1_ n2_
          (try clear hb)
          (try clear hb2)
          (try clear hk)
          (try clear hi)
          refine hK.out _ _ trivial (fun hHeld => ?_)
          clear hK K
          refine norm_ (a' := ?_) ?_ ?_
          rotate_left
          ·show Act.put _ (some 34) _ = _
           simp only [Act.put, List.setIfInBounds_toArray, List.set_cons_zero, List.set_cons_succ, i64_w, i32_w]
           rfl
          exact norm_ (by first | (simp only [putAll, Act.put, List.setIfInBounds_toArray, List.set_cons_zero, List.set_cons_succ]; done) | (simp only [putAll, Act.put, List.setIfInBounds_toArray, List.set_cons_zero, List.set_cons_succ]; rfl)) (hJ1_11_12 (v109) _ ⟨(by (with_reducible repeat first | apply Kd.R_alloc | apply Kd.R_drewN | apply Kd.R_drew); exact HO105.out), (by (with_reducible repeat first | apply Kd.R_alloc | apply Kd.R_drewN | apply Kd.R_drew); exact HO110.out), (bU_ HB.out)⟩)
        ·skip
         rintro v109 w30 ⟨h0_, h1_, h2_⟩
         have n0_ : Aside0 (Kd.R (Kd.int .u8) 5 w30 w.heap.size (fun k_ => some k_ ≠ (v109 : Value).ownBlock) v104 y103) := ⟨h0_⟩
         have n1_ : Aside0 (Kd.R (Kd.int .u8) 5 w30 w.heap.size (fun k_ => some k_ ≠ (v104 : Value).ownBlock) v109 y108) := ⟨h1_⟩
         have n2_ : Aside0 (Below w.heap.size w w30) := ⟨h2_⟩
         clear HO105
         clear HB
         clear h0_ h1_ h2_
         have HO105 := n0_
         have HO110 := n1_
         have HB := n2_
         clear n0_ n1_ n2_
         have hHeld := trivial
         refine norm_ (a' := ?_) ?_ ?_
         rotate_left
         ·simp only [putAll, Act.put, List.setIfInBounds_toArray, List.set_cons_zero, List.set_cons_succ]
          rfl
         refine two_ (i := 3) (j := 12) (Ni := some 36) (Nj := some 45) #[true, true, true, true, false, true, false, true, true, true, true, true, false, false, true, true, false, true, false, true, false, false, false] #[true, true, true, false, false, true, false, true, true, true, true, true, true, false, true, true, false, true, false, true, false, false, false] rfl rfl rfl rfl (two_of HT_.out (by kernel_rfl)) (by decide) (by decide) (fun K hK => ?_) (fun K hK => ?_)
         ·skip
          refine goes_ Try.func20 (by kernel_rfl) rfl #[.int .i64 a1] (by rfl) rfl rfl (by (try simp only [List.map_toArray, List.map_cons, List.map_nil]); first | done | rfl | (simp only [List.length_drop, List.length_take]; rfl) | (simp only [ByteArray.size_append, ByteArray.size_extract, Nat.sub_zero, Int.natCast_add]; rfl) | (simp [ByteArray.size_append]; done)) ?_
          with_reducible refine (rillmeterref08_two.calls a1 t107 _ A14.out).mono ?_
          rintro e w31 ⟨rfl, hb⟩
          refine ⟨_, rfl, ?_⟩
          have n0_ := Aside0.mk (Kd.R_below (by (with_reducible repeat first | apply Kd.R_alloc | apply Kd.R_drewN | apply Kd.R_drew); exact HO105.out) hb)
          have n1_ := Aside0.mk (Kd.R_below (by (with_reducible repeat first | apply Kd.R_alloc | apply Kd.R_drewN | apply Kd.R_drew); exact HO110.out) hb)
          have n2_ := Aside0.mk (below_step (bU_ HB.out) hb)
          clear HO105
          clear HO110
          clear HB
          have HO105 := n0_
          have HO110 := n1_
          have HB := n2_
          clear n0_ n1_ n2_
          (try clear hb)
          (try clear hb2)
          (try clear hk)
          (try clear hi)
          refine hK.out _ _ trivial (fun hHeld => ?_)
          clear hK K
          refine norm_ (a' := ?_) ?_ ?_
          rotate_left
          ·show Act.put _ (some 36) _ = _
           simp only [Act.put, List.setIfInBounds_toArray, List.set_cons_zero, List.set_cons_succ, i64_w, i32_w]
           rfl
          refine pure_ (i := 4) (N := some 37) (v := ?_) (a' := ?_) #[true, true, true, true, true, true, false, true, true, true, true, true, false, false, true, true, false, true, false, true, false, false, false] rfl rfl (any_of HT_.out (by kernel_rfl)) (fun _ _ _ h => h) (Or.inl ⟨by rfl, ?_⟩) ?_ ?_
          rotate_left
          ·intro w'
           go_simp
           with_reducible rfl
          rotate_left
          ·simp only [Act.put, List.setIfInBounds_toArray, List.set_cons_zero, List.set_cons_succ, i64_w, i32_w]
           rfl
          refine pure_ (i := 6) (N := some 39) (v := ?_) (a' := ?_) #[true, true, true, true, true, true, true, true, true, true, true, true, false, false, true, true, false, true, false, true, false, false, false] rfl rfl (any_of HT_.out (by kernel_rfl)) (fun _ _ _ h => h) (Or.inl ⟨by rfl, ?_⟩) ?_ ?_
          rotate_left
          ·intro w'
           go_simp
           with_reducible rfl
          rotate_left
          ·simp only [Act.put, List.setIfInBounds_toArray, List.set_cons_zero, List.set_cons_succ, i64_w, i32_w]
           rfl
          exact norm_ (by first | (simp only [putAll, Act.put, List.setIfInBounds_toArray, List.set_cons_zero, List.set_cons_succ]; done) | (simp only [putAll, Act.put, List.setIfInBounds_toArray, List.set_cons_zero, List.set_cons_succ]; rfl)) (hJ1_3_11 (v109) _ ⟨(by (with_reducible repeat first | apply Kd.R_alloc | apply Kd.R_drewN | apply Kd.R_drew); exact HO105.out), (by (with_reducible repeat first | apply Kd.R_alloc | apply Kd.R_drewN | apply Kd.R_drew); exact HO110.out), (bU_ HB.out)⟩)
         ·skip
          have hcv31 := own_string (P := Try.prog) Try.underlying35 Try.underlying5 Try.underlying9 (Kd.own_of_R HO110.out)
          refine value_ (w1 := ?_) (v := ?_) (by rfl) rfl ?_ ?_
          rotate_left 2
          ·go_simp
           constructor
           ·rfl
           ·rfl
          clear hcv31
          refine hK.out _ _ trivial (fun hHeld => ?_)
          clear hK K
          refine norm_ (a' := ?_) ?_ ?_
          rotate_left
          ·show Act.put _ (some 45) _ = _
           simp only [Act.put, List.setIfInBounds_toArray, List.set_cons_zero, List.set_cons_succ, i64_w, i32_w]
           rfl
          exact norm_ (by first | (simp only [putAll, Act.put, List.setIfInBounds_toArray, List.set_cons_zero, List.set_cons_succ]; done) | (simp only [putAll, Act.put, List.setIfInBounds_toArray, List.set_cons_zero, List.set_cons_succ]; rfl)) (hJ1_11_12 (v109) _ ⟨(by (with_reducible repeat first | apply Kd.R_alloc | apply Kd.R_drewN | apply Kd.R_drew); exact HO105.out), (by (with_reducible repeat first | apply Kd.R_alloc | apply Kd.R_drewN | apply Kd.R_drew); exact HO110.out), (bU_ HB.out)⟩)
       ·skip
        rintro _ w29 ⟨h0_, h1_⟩
        have n0_ : Aside0 (Kd.R (Kd.int .u8) 5 w29 w.heap.size (fun _ => True) v104 y103) := ⟨h0_⟩
        have n1_ : Aside0 (Below w.heap.size w w29) := ⟨h1_⟩
        clear HO105
        clear HB
        clear h0_ h1_
        have HO105 := n0_
        have HB := n1_
        clear n0_ n1_
        have hHeld := trivial
        refine norm_ (a' := ?_) ?_ ?_
        rotate_left
        ·simp only [putAll, Act.put, List.setIfInBounds_toArray, List.set_cons_zero, List.set_cons_succ]
         rfl
        refine one_ (i := 11) (N := some 44) #[true, true, true, true, true, true, true, true, true, true, true, true, false, false, true, true, false, true, false, true, false, false, false] rfl rfl (one_of HT_.out (by kernel_rfl)) (by decide) (fun K hK => ?_)
        refine Kd.R_lit_step (Kd.int .u8) _ 5 ?hg (N := 44) ?hd (xs := ([(wrap64 (4 * (wrap64 (20 + (a2.size : Int))))) % 256] : List Int)) (inner := [.int .u8 ((wrap64 (4 * (wrap64 (20 + (a2.size : Int))))) % 256)]) (ok := fun _ => True) (okp := fun _ => True) ?hr ?hp (fun _ hk => hk) trivial (Below.refl _ _) (Nat.le_refl _) (by simp) ?_; (case hd => rfl); (case hg => rfl); (case hr => first | (go_simp; done) | (go_simp; simp only [IntKind.wrap_u8]; done) | (go_simp; rfl)); (case hp => exact (Reps.one (show Kd.M (Kd.int .u8) _ _ _ ((wrap64 (4 * (wrap64 (20 + (a2.size : Int))))) % 256) [.int .u8 ((wrap64 (4 * (wrap64 (20 + (a2.size : Int))))) % 256)] from rfl) (Reps.none _ _)))
        intro v109 w30 ho31 hb hg_ hnew_
        clear hg_ hnew_
        (first | rw [← Ny108.out] at ho31 | (simp only [Int.reduceToNat] at ho31; rw [← Ny108.out] at ho31))
        have n0_ := Aside0.mk (Kd.R_elder' (by (with_reducible repeat first | apply Kd.R_alloc | apply Kd.R_drewN | apply Kd.R_drew); exact HO105.out) (Kd.R_base ho31) hb)
        have n1_ := Aside0.mk (Kd.R_lower (Kd.R_new' ho31 (Kd.R_lt (by (with_reducible repeat first | apply Kd.R_alloc | apply Kd.R_drewN | apply Kd.R_drew); exact HO105.out))) (below_size (bU_ HB.out)))
        have n2_ := Aside0.mk (below_step (bU_ HB.out) hb)
        clear HO105
        clear HB
        have HO105 := n0_
        have HO110 := n1_
        have HB := n2_
        clear n0_ n1_ n2_
        clear hb ho31
        refine hK.out _ _ trivial (fun hHeld => ?_)
        clear hK K
        refine norm_ (a' := ?_) ?_ ?_
        rotate_left
        ·show Act.put _ (some 44) _ = _
         simp only [Act.put, List.setIfInBounds_toArray, List.set_cons_zero, List.set_cons_succ, i64_w, i32_w]
         rfl
        exact norm_ (by first | (simp only [putAll, Act.put, List.setIfInBounds_toArray, List.set_cons_zero, List.set_cons_succ]; done) | (simp only [putAll, Act.put, List.setIfInBounds_toArray, List.set_cons_zero, List.set_cons_succ]; rfl)) (hJ1_3_11 (v109) _ ⟨(by (with_reducible repeat first | apply Kd.R_alloc | apply Kd.R_drewN | apply Kd.R_drew); exact Kd.R_mono HO105.out (fun _ hk => hk.2)), (by (with_reducible repeat first | apply Kd.R_alloc | apply Kd.R_drewN | apply Kd.R_drew); exact Kd.R_mono HO110.out (fun _ hk => hk.2)), (bU_ HB.out)⟩)
      ·skip
       rintro v109 w31 ⟨h0_, h1_, h2_⟩
       have n0_ : Aside0 (Kd.R (Kd.int .u8) 5 w31 w.heap.size (fun k_ => some k_ ≠ (v109 : Value).ownBlock) v104 y103) := ⟨h0_⟩
       have n1_ : Aside0 (Kd.R (Kd.int .u8) 5 w31 w.heap.size (fun k_ => some k_ ≠ (v104 : Value).ownBlock) v109 y108) := ⟨h1_⟩
       have n2_ : Aside0 (Below w.heap.size w w31) := ⟨h2_⟩
       clear HO105
       clear HB
       clear h0_ h1_ h2_
       have HO105 := n0_
       have HO110 := n1_
       have HB := n2_
       clear n0_ n1_ n2_
       have hHeld := trivial
       refine norm_ (a' := ?_) ?_ ?_
       rotate_left
       ·simp only [putAll, Act.put, List.setIfInBounds_toArray, List.set_cons_zero, List.set_cons_succ]
        rfl
       refine one_ (i := 3) (N := some 36) #[true, true, true, true, false, true, false, true, true, true, true, true, true, false, true, true, false, true, false, true, false, false, false] rfl rfl (one_of HT_.out (by kernel_rfl)) (by decide) (fun K hK => ?_)
       refine goes_ Try.func20 (by kernel_rfl) rfl #[.int .i64 a1] (by rfl) rfl rfl (by (try simp only [List.map_toArray, List.map_cons, List.map_nil]); first | done | rfl | (simp only [List.length_drop, List.length_take]; rfl) | (simp only [ByteArray.size_append, ByteArray.size_extract, Nat.sub_zero, Int.natCast_add]; rfl) | (simp [ByteArray.size_append]; done)) ?_
       with_reducible refine (rillmeterref08_two.calls a1 t107 _ A14.out).mono ?_
       rintro e w32 ⟨rfl, hb⟩
       refine ⟨_, rfl, ?_⟩
       have n0_ := Aside0.mk (Kd.R_below (by (with_reducible repeat first | apply Kd.R_alloc | apply Kd.R_drewN | apply Kd.R_drew); exact HO105.out) hb)
       have n1_ := Aside0.mk (Kd.R_below (by (with_reducible repeat first | apply Kd.R_alloc | apply Kd.R_drewN | apply Kd.R_drew); exact HO110.out) hb)
       have n2_ := Aside0.mk (below_step (bU_ HB.out) hb)
       clear HO105
       clear HO110
       clear HB
       have HO105 := n0_
       have HO110 := n1_
       have HB := n2_
       clear n0_ n1_ n2_
       (try clear hb)
       (try clear hb2)
       (try clear hk)
       (try clear hi)
       refine hK.out _ _ trivial (fun hHeld => ?_)
       clear hK K
       refine norm_ (a' := ?_) ?_ ?_
       rotate_left
       ·show Act.put _ (some 36) _ = _
        simp only [Act.put, List.setIfInBounds_toArray, List.set_cons_zero, List.set_cons_succ, i64_w, i32_w]
        rfl
       refine pure_ (i := 4) (N := some 37) (v := ?_) (a' := ?_) #[true, true, true, true, true, true, false, true, true, true, true, true, true, false, true, true, false, true, false, true, false, false, false] rfl rfl (any_of HT_.out (by kernel_rfl)) (fun _ _ _ h => h) (Or.inl ⟨by rfl, ?_⟩) ?_ ?_
       rotate_left
       ·intro w'
        go_simp
        with_reducible rfl
       rotate_left
       ·simp only [Act.put, List.setIfInBounds_toArray, List.set_cons_zero, List.set_cons_succ, i64_w, i32_w]
        rfl
       refine pure_ (i := 6) (N := some 39) (v := ?_) (a' := ?_) #[true, true, true, true, true, true, true, true, true, true, true, true, true, false, true, true, false, true, false, true, false, false, false] rfl rfl (any_of HT_.out (by kernel_rfl)) (fun _ _ _ h => h) (Or.inl ⟨by rfl, ?_⟩) ?_ ?_
       rotate_left
       ·intro w'
        go_simp
        with_reducible rfl
       rotate_left
       ·simp only [Act.put, List.setIfInBounds_toArray, List.set_cons_zero, List.set_cons_succ, i64_w, i32_w]
        rfl
       exact norm_ (by first | (simp only [putAll, Act.put, List.setIfInBounds_toArray, List.set_cons_zero, List.set_cons_succ]; done) | (simp only [putAll, Act.put, List.setIfInBounds_toArray, List.set_cons_zero, List.set_cons_succ]; rfl)) (hJ1_3_11_12 (v109) _ ⟨(by (with_reducible repeat first | apply Kd.R_alloc | apply Kd.R_drewN | apply Kd.R_drew); exact HO105.out), (by (with_reducible repeat first | apply Kd.R_alloc | apply Kd.R_drewN | apply Kd.R_drew); exact HO110.out), (bU_ HB.out)⟩)
     ·skip
      rintro v109 w31 ⟨h0_, h1_, h2_⟩
      have n0_ : Aside0 (Kd.R (Kd.int .u8) 5 w31 w.heap.size (fun k_ => some k_ ≠ (v109 : Value).ownBlock) v104 y103) := ⟨h0_⟩
      have n1_ : Aside0 (Kd.R (Kd.int .u8) 5 w31 w.heap.size (fun k_ => some k_ ≠ (v104 : Value).ownBlock) v109 y108) := ⟨h1_⟩
      have n2_ : Aside0 (Below w.heap.size w w31) := ⟨h2_⟩
      clear HO105
      clear HB
      clear h0_ h1_ h2_
      have HO105 := n0_
      have HO110 := n1_
      have HB := n2_
      clear n0_ n1_ n2_
      have hHeld := trivial
      refine norm_ (a' := ?_) ?_ ?_
      rotate_left
      ·simp only [putAll, Act.put, List.setIfInBounds_toArray, List.set_cons_zero, List.set_cons_succ]
       rfl
      refine one_ (i := 12) (N := some 45) #[true, true, true, true, true, true, true, true, true, true, true, true, true, false, true, true, false, true, false, true, false, false, false] rfl rfl (one_of HT_.out (by kernel_rfl)) (by decide) (fun K hK => ?_)
      have hcv32 := own_string (P := Try.prog) Try.underlying35 Try.underlying5 Try.underlying9 (Kd.own_of_R HO110.out)
      refine value_ (w1 := ?_) (v := ?_) (by rfl) rfl ?_ ?_
      rotate_left 2
      ·go_simp
       constructor
       ·rfl
       ·rfl
      clear hcv32
      refine hK.out _ _ trivial (fun hHeld => ?_)
      clear hK K
      refine norm_ (a' := ?_) ?_ ?_
      rotate_left
      ·show Act.put _ (some 45) _ = _
       simp only [Act.put, List.setIfInBounds_toArray, List.set_cons_zero, List.set_cons_succ, i64_w, i32_w]
       rfl
      exact norm_ (by first | (simp only [putAll, Act.put, List.setIfInBounds_toArray, List.set_cons_zero, List.set_cons_succ]; done) | (simp only [putAll, Act.put, List.setIfInBounds_toArray, List.set_cons_zero, List.set_cons_succ]; rfl)) (hJ1_3_11_12 (v109) _ ⟨(by (with_reducible repeat first | apply Kd.R_alloc | apply Kd.R_drewN | apply Kd.R_drew); exact HO105.out), (by (with_reducible repeat first | apply Kd.R_alloc | apply Kd.R_drewN | apply Kd.R_drew); exact HO110.out), (bU_ HB.out)⟩)
    rintro v109 w32 ⟨h0_, h1_, h2_⟩
    have n0_ : Aside0 (Kd.R (Kd.int .u8) 5 w32 w.heap.size (fun k_ => some k_ ≠ (v109 : Value).ownBlock) v104 y103) := ⟨h0_⟩
    have n1_ : Aside0 (Kd.R (Kd.int .u8) 5 w32 w.heap.size (fun k_ => some k_ ≠ (v104 : Value).ownBlock) v109 y108) := ⟨h1_⟩
    have n2_ : Aside0 (Below w.heap.size w w32) := ⟨h2_⟩
    clear HO105
    clear HB
    clear h0_ h1_ h2_
    have HO105 := n0_
    have HO110 := n1_
    have HB := n2_
    clear n0_ n1_ n2_
    have hHeld := trivial
    refine norm_ (a' := ?_) ?_ ?_
    rotate_left
    ·simp only [putAll, Act.put, List.setIfInBounds_toArray, List.set_cons_zero, List.set_cons_succ]
     rfl
    refine pure_ (i := 13) (N := some 46) (v := ?_) (a' := ?_) #[true, true, true, true, true, true, true, true, true, true, true, true, true, true, true, true, false, true, false, true, false, false, false] rfl rfl (any_of HT_.out (by kernel_rfl)) (fun _ _ _ h => h) (Or.inl ⟨by rfl, ?_⟩) ?_ ?_
    rotate_left
    ·intro w'
     go_simp
     with_reducible rfl
    rotate_left
    ·simp only [Act.put, List.setIfInBounds_toArray, List.set_cons_zero, List.set_cons_succ, i64_w, i32_w]
     rfl
    refine pure_ (i := 16) (N := some 49) (v := ?_) (a' := ?_) #[true, true, true, true, true, true, true, true, true, true, true, true, true, true, true, true, true, true, false, true, false, false, false] rfl rfl (any_of HT_.out (by kernel_rfl)) (fun _ _ _ h => h) (Or.inl ⟨by rfl, ?_⟩) ?_ ?_
    rotate_left
    ·intro w'
     go_simp
     with_reducible rfl
    rotate_left
    ·simp only [Act.put, List.setIfInBounds_toArray, List.set_cons_zero, List.set_cons_succ, i64_w, i32_w]
     rfl
    refine pure_ (i := 18) (N := some 51) (v := ?_) (a' := ?_) #[true, true, true, true, true, true, true, true, true, true, true, true, true, true, true, true, true, true, true, true, false, false, false] rfl rfl (any_of HT_.out (by kernel_rfl)) (fun _ _ _ h => h) (Or.inl ⟨by rfl, ?_⟩) ?_ ?_
    rotate_left
    ·intro w'
     go_simp
     with_reducible rfl
    rotate_left
    ·simp only [Act.put, List.setIfInBounds_toArray, List.set_cons_zero, List.set_cons_succ, i64_w, i32_w]
     rfl
    refine pure_ (i := 20) (N := some 53) (v := ?_) (a' := ?_) #[true, true, true, true, true, true, true, true, true, true, true, true, true, true, true, true, true, true, true, true, true, false, false] rfl rfl (any_of HT_.out (by kernel_rfl)) (fun _ _ _ h => h) (Or.inl ⟨by rfl, ?_⟩) ?_ ?_
    rotate_left
    ·intro w'
     go_simp
     with_reducible rfl
    rotate_left
    ·simp only [Act.put, List.setIfInBounds_toArray, List.set_cons_zero, List.set_cons_succ, i64_w, i32_w]
     rfl
    refine pure_ (i := 21) (N := some 8) (v := ?_) (a' := ?_) #[true, true, true, true, true, true, true, true, true, true, true, true, true, true, true, true, true, true, true, true, true, true, false] rfl rfl (any_of HT_.out (by kernel_rfl)) (fun _ _ _ h => h) (Or.inl ⟨by rfl, ?_⟩) ?_ ?_
    rotate_left
    ·intro w'
     go_simp
     with_reducible rfl
    rotate_left
    ·simp only [Act.put, List.setIfInBounds_toArray, List.set_cons_zero, List.set_cons_succ, i64_w, i32_w]
     rfl
    refine pure_ (i := 22) (N := some 9) (v := ?_) (a' := ?_) #[true, true, true, true, true, true, true, true, true, true, true, true, true, true, true, true, true, true, true, true, true, true, true] rfl rfl (any_of HT_.out (by kernel_rfl)) (fun _ _ _ h => h) (Or.inl ⟨by rfl, ?_⟩) ?_ ?_
    rotate_left
    ·intro w'
     go_simp
     with_reducible rfl
    rotate_left
    ·simp only [Act.put, List.setIfInBounds_toArray, List.set_cons_zero, List.set_cons_succ, i64_w, i32_w]
     rfl
    refine done_ (done_of HT_.out (by kernel_rfl)) ?_
    try go_wp2
    go_ret2
    exact ⟨by first | rfl | (simp [errW_none, errW_some] <;> rfl) | (simp [*, errW_none, errW_some] <;> rfl), bU_ HB.out⟩
end Go.Proofs.Ytocnbpbbmleahaa.Q
