-- made by a program of this session (wip/print-patch.py, over the kit's print)
import Derived.Test.YtocnbpbbmleahaaQx0
import Derived.Test.YtocnbpbbmleahaaQx5
import Derived.Test.YtocnbpbbmleahaaQx8
namespace Go.Proofs.Ytocnbpbbmleahaa.Q
open Go.RowKit Go.Proofs.YtocnbpbbmleahaaW.PrintWords Go.Proofs.YtocnbpbbmleahaaW.PrintLast Go.Proofs.YtocnbpbbmleahaaW.PrintMore
attribute [local go_sem] max2_int min2_int max_two min_two max_three min_three max_four min_four   -- for this text's walks alone
set_option linter.unusedVariables false
set_option linter.unusedSimpArgs false

attribute [local go_sem] cell_twice_ cell_twiceN_
/-! ### port_TCP: function 13 -/
def port_TCP.j0 : Nat → ByteArray → ByteArray → ByteArray → Bool → Option (ByteArray × Int)
 | 0, _, _, _, _ => none
 | k + 1, x2, x3, x10, x31 => if x31 = true then (some ((⟨#[]⟩ : ByteArray), 1)) else ((strings_Repeat.f (⟨#[0]⟩ : ByteArray) 8).bind fun t103 => (if x10.size + t103.size ≤ 9223372036854775807 then ((some (([(wrap64 ((wrap64 (Int.tdiv (wrap64 (20 + (x2.size : Int))) 4)) * 16)) % 256] : List Int) : List Int)).bind fun y104 => (if (x10 ++ t103).size + (strOfNums y104).size ≤ 9223372036854775807 then ((strings_Repeat.f (⟨#[0]⟩ : ByteArray) 7).bind fun t107 => (if ((x10 ++ t103) ++ (strOfNums y104)).size + t107.size ≤ 9223372036854775807 then (if (((x10 ++ t103) ++ (strOfNums y104)) ++ t107).size + x2.size ≤ 9223372036854775807 then (if ((((x10 ++ t103) ++ (strOfNums y104)) ++ t107) ++ x2).size + x3.size ≤ 9223372036854775807 then (some (((((x10 ++ t103) ++ (strOfNums y104)) ++ t107) ++ x2) ++ x3, 0)) else (none)) else (none)) else (none))) else (none))) else (none)))
def port_TCP.f (k : Nat) (a0 : Int) (a1 : Int) (a2 : ByteArray) (a3 : ByteArray) : Option (ByteArray × Int) := (port_ports.f k a0 a1).bind fun bt101 => (if bt101.2 = 0 then (if (a2.size : Int) > 40 then (port_TCP.j0 k a2 a3 bt101.1 true) else (port_TCP.j0 k a2 a3 bt101.1 (((a2.size : Int) % 4) != 0))) else (port_TCP.j0 k a2 a3 bt101.1 true))
theorem port_TCP.mono_l : ∀ k, (∀ y0 y1 y2 y3, LeO (port_TCP.j0 k y0 y1 y2 y3) (port_TCP.j0 (k + 1) y0 y1 y2 y3))
 | 0 => fun _ _ _ _ r h => by simp [port_TCP.j0] at h
 | k + 1 => by
  have ih0 := port_TCP.mono_l k
  ·intro y0 y1 y2 y3
   unfold port_TCP.j0
   repeat' first
   | (with_reducible exact ih0 _ _ _ _)
   | (with_reducible exact port_ports.mono _ _ _)
   | (with_reducible exact LeO.refl _)
   | (with_reducible exact LeO.none _)
   | (with_reducible refine LeO.ite ?_ ?_)
   | (with_reducible refine LeO.bind ?_ (fun _ => ?_))
   | exact ih0 _ _ _ _
   | exact port_ports.mono _ _ _
   | exact LeO.none _
   | refine LeO.ite ?_ ?_
   | refine LeO.bind ?_ (fun _ => ?_)
theorem port_TCP.mono : ∀ a0 a1 a2 a3 k, LeO (port_TCP.f k a0 a1 a2 a3) (port_TCP.f (k + 1) a0 a1 a2 a3) := by
 intro a0 a1 a2 a3 k
 have ih0 := port_TCP.mono_l k
 unfold port_TCP.f
 repeat' first
   | (with_reducible exact ih0 _ _ _ _)
   | (with_reducible exact port_ports.mono _ _ _)
   | (with_reducible exact LeO.refl _)
   | (with_reducible exact LeO.none _)
   | (with_reducible refine LeO.ite ?_ ?_)
   | (with_reducible refine LeO.bind ?_ (fun _ => ?_))
   | exact ih0 _ _ _ _
   | exact port_ports.mono _ _ _
   | exact LeO.none _
   | refine LeO.ite ?_ ?_
   | refine LeO.bind ?_ (fun _ => ?_)
def port_TCP.T5 : Bool × List (List Nat × List Nat) := (true, [([], []), ([], []), ([0, 1], [0, 1]), ([], []), ([3], [3]), ([4], [4]), ([2, 5], [2, 5]), ([1], []), ([6, 7], [6, 7]), ([], []), ([8, 9], [8, 9]), ([], []), ([10, 11], [10, 11]), ([12, 7, 0, 1, 2, 3, 4, 5, 6, 7, 8, 9, 10, 11, 12], [12]), ([13, 0, 1, 2, 3, 4, 5, 6, 7, 8, 9, 10, 11, 12, 13], [])])
def port_TCP.B5 : List Nat := [0, 0, 3, 0, 8, 24, 63, 2, 255, 0, 1023, 0, 4095, 8191, 16383]
theorem port_TCP.tab5 : rtab .any (opsOf Try.f13 5) = port_TCP.T5 := by kernel_rfl
theorem port_TCP.bits5 : waitsOk port_TCP.T5.2 port_TCP.B5 = true := by kernel_rfl
set_option maxHeartbeats 8000000 in
set_option maxRecDepth 100000 in
theorem port_TCP.calls (k : Nat) (a0 : Int) (a1 : Int) (a2 : ByteArray) (a3 : ByteArray) (r1 : ByteArray) (r2 : Int) (w : World) (h : port_TCP.f k a0 a1 a2 a3 = some (r1, r2)) :
  Calls Try.prog 13 #[.int .i64 a0, .int .i64 a1, .string a2, .string a3] w fun e w' => e = .returned (.tuple #[.string r1, .int .i64 r2]) ∧ Below w.heap.size w w' := by
 have HB := Aside0.mk (Below.refl w.heap.size w)
 have H : ((port_ports.f k a0 a1).bind fun bt101 => (if bt101.2 = 0 then (if (a2.size : Int) > 40 then (port_TCP.j0 k a2 a3 bt101.1 true) else (port_TCP.j0 k a2 a3 bt101.1 (((a2.size : Int) % 4) != 0))) else (port_TCP.j0 k a2 a3 bt101.1 true))) = some (r1, r2) := h
 clear h
 replace H := Option.bind_eq_some_iff.mp H
 obtain ⟨⟨t101, t102⟩, A50, H⟩ := H
 replace H : (if t102 = 0 then (if (a2.size : Int) > 40 then (port_TCP.j0 k a2 a3 t101 true) else (port_TCP.j0 k a2 a3 t101 (((a2.size : Int) % 4) != 0))) else (port_TCP.j0 k a2 a3 t101 true)) = some (r1, r2) := H
 have A5 := Aside0.mk A50
 clear A50
 have HC6 := Aside0.mk H
 clear H
 go_enter Try.func13, Try.ntmps13
 go_upto_region 2 with (first | ((with_reducible refine gate_callee (f := 17) rfl ?_); refine gL_ (some 16) rfl rfl Try.func17 (by kernel_rfl) rfl #[.int .i64 a0, .int .i64 a1] rfl ?_; (with_reducible refine (port_ports.calls k a0 a1 t101 t102 _ A5.out).mono ?_); rintro e w7 ⟨rfl, hb⟩; refine ⟨_, rfl, ?_⟩; have n0_ := Aside0.mk (below_step (bU_ HB.out) hb); clear HB; have HB := n0_; clear n0_; (try clear hb); (try clear hb2); (try clear hk); (try clear hi)))
 (try simp only [Act.put, List.setIfInBounds_toArray, List.set_cons_zero, List.set_cons_succ])
 go_cut [31] (fun v31 wc => ∃ (kq : Nat) (x31_5 : Bool), v31 = .bool x31_5 ∧ Aside0 (port_TCP.j0 kq a2 a3 t101 x31_5 = some (r1, r2)) ∧ Aside0 (kq ≤ k) ∧ Aside0 (Below w.heap.size w wc))
 case first =>
  have H := HC6.out
  clear HC6
  by_cases c8 : t102 = 0
  ·rw [if_pos c8] at H
   have c8b0 : (t102 == 0) = true := beq_iff_eq.mpr c8
   have c8b1 : (t102 != 0) = false := bne_eq_false_iff_eq.mpr c8
   clear c8
   (first | rw [c8b0] | (simp only [i64_w, i32_w]; rw [c8b0]) | skip)
   by_cases c9 : (a2.size : Int) > 40
   ·rw [if_pos c9] at H
    have c9b0 : decide (40 < (a2.size : Int)) = true := decide_eq_true c9
    have c9b1 : decide (40 < a2.size) = true := decide_eq_true (by omega)
    clear c9
    have H' := Aside0.mk H
    clear H
    go_wp2
    go_meet
    case rel => exact ⟨_, (true), (by first | rfl | (simp; done) | (simp [*]; done)), H', ⟨by first | omega | exact Nat.le_refl _⟩, ⟨bU_ HB.out⟩⟩
   ·rw [if_neg c9] at H
    have c9b0 : decide (40 < (a2.size : Int)) = false := decide_eq_false c9
    have c9b1 : decide (40 < a2.size) = false := decide_eq_false (by omega)
    clear c9
    have H' := Aside0.mk H
    clear H
    go_wp2
    go_meet
    case rel => exact ⟨_, ((((a2.size : Int) % 4) != 0)), (by first | rfl | (simp; done) | (simp [*]; done)), H', ⟨by first | omega | exact Nat.le_refl _⟩, ⟨bU_ HB.out⟩⟩
  ·rw [if_neg c8] at H
   have c8b0 : (t102 == 0) = false := beq_eq_false_iff_ne.mpr c8
   have c8b1 : (t102 != 0) = true := bne_iff_ne.mpr c8
   (first | rw [c8b0] | (simp only [i64_w, i32_w]; rw [c8b0]) | skip)
   have H' := Aside0.mk H
   clear H
   go_wp2
   go_meet
   case rel => exact ⟨_, (true), (by first | rfl | (simp; done) | (simp [*]; done)), H', ⟨by first | omega | exact Nat.le_refl _⟩, ⟨bU_ HB.out⟩⟩
 case rest =>
  clear HC6
  try clear c1
  try clear p2
  try clear c8
  try clear c8b0
  try clear c8b1
  try clear c9
  try clear c9b0
  try clear c9b1
  obtain ⟨kq, x31_5, rfl, HA, HJ5, HB⟩ := hcut
  cases kq with
  | zero => exact absurd HA.out (by simp [port_TCP.j0])
  | succ kj5 =>
   have H := HA.out
   clear HA
   simp only [port_TCP.j0] at H
   by_cases c10 : x31_5 = true
   ·subst c10
    have H1 : (some ((⟨#[]⟩ : ByteArray), 1)) = some (r1, r2) := by rw [if_pos rfl] at H; exact H
    clear H
    have H := H1
    clear H1
    simp only [Option.some.injEq, Prod.mk.injEq] at H
    obtain ⟨rfl, rfl⟩ := H
    go_wp2
    go_ret2
    exact ⟨by first | rfl | (simp [errW_none, errW_some] <;> rfl) | (simp [*, errW_none, errW_some] <;> rfl), bU_ HB.out⟩
   ·replace c10 := Bool.eq_false_iff.mpr c10
    subst c10
    have H1 : ((strings_Repeat.f (⟨#[0]⟩ : ByteArray) 8).bind fun t103 => (if t101.size + t103.size ≤ 9223372036854775807 then ((some (([(wrap64 ((wrap64 (Int.tdiv (wrap64 (20 + (a2.size : Int))) 4)) * 16)) % 256] : List Int) : List Int)).bind fun y104 => (if (t101 ++ t103).size + (strOfNums y104).size ≤ 9223372036854775807 then ((strings_Repeat.f (⟨#[0]⟩ : ByteArray) 7).bind fun t107 => (if ((t101 ++ t103) ++ (strOfNums y104)).size + t107.size ≤ 9223372036854775807 then (if (((t101 ++ t103) ++ (strOfNums y104)) ++ t107).size + a2.size ≤ 9223372036854775807 then (if ((((t101 ++ t103) ++ (strOfNums y104)) ++ t107) ++ a2).size + a3.size ≤ 9223372036854775807 then (some (((((t101 ++ t103) ++ (strOfNums y104)) ++ t107) ++ a2) ++ a3, 0)) else (none)) else (none)) else (none))) else (none))) else (none))) = some (r1, r2) := by rw [if_neg (show ¬ (false = true) by decide)] at H; exact H
    clear H
    have H := H1
    clear H1
    replace H := Option.bind_eq_some_iff.mp H
    obtain ⟨t103, A110, H⟩ := H
    replace H : (if t101.size + t103.size ≤ 9223372036854775807 then ((some (([(wrap64 ((wrap64 (Int.tdiv (wrap64 (20 + (a2.size : Int))) 4)) * 16)) % 256] : List Int) : List Int)).bind fun y104 => (if (t101 ++ t103).size + (strOfNums y104).size ≤ 9223372036854775807 then ((strings_Repeat.f (⟨#[0]⟩ : ByteArray) 7).bind fun t107 => (if ((t101 ++ t103) ++ (strOfNums y104)).size + t107.size ≤ 9223372036854775807 then (if (((t101 ++ t103) ++ (strOfNums y104)) ++ t107).size + a2.size ≤ 9223372036854775807 then (if ((((t101 ++ t103) ++ (strOfNums y104)) ++ t107) ++ a2).size + a3.size ≤ 9223372036854775807 then (some (((((t101 ++ t103) ++ (strOfNums y104)) ++ t107) ++ a2) ++ a3, 0)) else (none)) else (none)) else (none))) else (none))) else (none)) = some (r1, r2) := H
    have A11 := Aside0.mk A110
    clear A110
    by_cases c12 : t101.size + t103.size ≤ 9223372036854775807
    rotate_left
    ·rw [if_neg c12] at H
     exact absurd H (by simp)
    rw [if_pos c12] at H
    have c12b0 := eq_true c12
    have c12b1 : decide (t101.size + t103.size ≤ 9223372036854775807) = true := decide_eq_true c12
    try have c12b2 : (9223372036854775807 < t101.size + t103.size) = False := eq_false (Nat.not_lt.2 c12)
    try (have c12b3 := c12; simp only [ByteArray.size_append, ByteArray.size_extract, Nat.sub_zero, Nat.min_self] at c12b3; have c12b4 := eq_false (Nat.not_lt.2 c12b3))
    obtain ⟨y104, hy104⟩ : ∃ y_ : List Int, y_ = (([(wrap64 ((wrap64 (Int.tdiv (wrap64 (20 + (a2.size : Int))) 4)) * 16)) % 256] : List Int)) := ⟨_, rfl⟩
    replace H : (if (t101 ++ t103).size + (strOfNums y104).size ≤ 9223372036854775807 then ((strings_Repeat.f (⟨#[0]⟩ : ByteArray) 7).bind fun t107 => (if ((t101 ++ t103) ++ (strOfNums y104)).size + t107.size ≤ 9223372036854775807 then (if (((t101 ++ t103) ++ (strOfNums y104)) ++ t107).size + a2.size ≤ 9223372036854775807 then (if ((((t101 ++ t103) ++ (strOfNums y104)) ++ t107) ++ a2).size + a3.size ≤ 9223372036854775807 then (some (((((t101 ++ t103) ++ (strOfNums y104)) ++ t107) ++ a2) ++ a3, 0)) else (none)) else (none)) else (none))) else (none)) = some (r1, r2) := by first | (rw [hy104]; with_reducible exact H) | (have H2_ := (Option.bind_some _ _).symm.trans H; rw [hy104]; with_reducible exact H2_) | (have H2_ := (Option.bind_some _ _).symm.trans H; with_reducible exact H2_) | with_reducible exact H | (rw [hy104]; exact H) | exact H
    have Ny104 := Aside0.mk hy104
    clear hy104
    by_cases c13 : (t101 ++ t103).size + (strOfNums y104).size ≤ 9223372036854775807
    rotate_left
    ·rw [if_neg c13] at H
     exact absurd H (by simp)
    rw [if_pos c13] at H
    have c13b0 := eq_true c13
    have c13b1 : decide ((t101 ++ t103).size + (strOfNums y104).size ≤ 9223372036854775807) = true := decide_eq_true c13
    try have c13b2 : (9223372036854775807 < (t101 ++ t103).size + (strOfNums y104).size) = False := eq_false (Nat.not_lt.2 c13)
    try (have c13b3 := c13; simp only [ByteArray.size_append, ByteArray.size_extract, Nat.sub_zero, Nat.min_self] at c13b3; have c13b4 := eq_false (Nat.not_lt.2 c13b3))
    replace H := Option.bind_eq_some_iff.mp H
    obtain ⟨t107, A140, H⟩ := H
    replace H : (if ((t101 ++ t103) ++ (strOfNums y104)).size + t107.size ≤ 9223372036854775807 then (if (((t101 ++ t103) ++ (strOfNums y104)) ++ t107).size + a2.size ≤ 9223372036854775807 then (if ((((t101 ++ t103) ++ (strOfNums y104)) ++ t107) ++ a2).size + a3.size ≤ 9223372036854775807 then (some (((((t101 ++ t103) ++ (strOfNums y104)) ++ t107) ++ a2) ++ a3, 0)) else (none)) else (none)) else (none)) = some (r1, r2) := H
    have A14 := Aside0.mk A140
    clear A140
    by_cases c15 : ((t101 ++ t103) ++ (strOfNums y104)).size + t107.size ≤ 9223372036854775807
    rotate_left
    ·rw [if_neg c15] at H
     exact absurd H (by simp)
    rw [if_pos c15] at H
    have c15b0 := eq_true c15
    have c15b1 : decide (((t101 ++ t103) ++ (strOfNums y104)).size + t107.size ≤ 9223372036854775807) = true := decide_eq_true c15
    try have c15b2 : (9223372036854775807 < ((t101 ++ t103) ++ (strOfNums y104)).size + t107.size) = False := eq_false (Nat.not_lt.2 c15)
    try (have c15b3 := c15; simp only [ByteArray.size_append, ByteArray.size_extract, Nat.sub_zero, Nat.min_self] at c15b3; have c15b4 := eq_false (Nat.not_lt.2 c15b3))
    by_cases c16 : (((t101 ++ t103) ++ (strOfNums y104)) ++ t107).size + a2.size ≤ 9223372036854775807
    rotate_left
    ·rw [if_neg c16] at H
     exact absurd H (by simp)
    rw [if_pos c16] at H
    have c16b0 := eq_true c16
    have c16b1 : decide ((((t101 ++ t103) ++ (strOfNums y104)) ++ t107).size + a2.size ≤ 9223372036854775807) = true := decide_eq_true c16
    try have c16b2 : (9223372036854775807 < (((t101 ++ t103) ++ (strOfNums y104)) ++ t107).size + a2.size) = False := eq_false (Nat.not_lt.2 c16)
    try (have c16b3 := c16; simp only [ByteArray.size_append, ByteArray.size_extract, Nat.sub_zero, Nat.min_self] at c16b3; have c16b4 := eq_false (Nat.not_lt.2 c16b3))
    by_cases c17 : ((((t101 ++ t103) ++ (strOfNums y104)) ++ t107) ++ a2).size + a3.size ≤ 9223372036854775807
    rotate_left
    ·rw [if_neg c17] at H
     exact absurd H (by simp)
    rw [if_pos c17] at H
    have c17b0 := eq_true c17
    have c17b1 : decide (((((t101 ++ t103) ++ (strOfNums y104)) ++ t107) ++ a2).size + a3.size ≤ 9223372036854775807) = true := decide_eq_true c17
    try have c17b2 : (9223372036854775807 < ((((t101 ++ t103) ++ (strOfNums y104)) ++ t107) ++ a2).size + a3.size) = False := eq_false (Nat.not_lt.2 c17)
    try (have c17b3 := c17; simp only [ByteArray.size_append, ByteArray.size_extract, Nat.sub_zero, Nat.min_self] at c17b3; have c17b4 := eq_false (Nat.not_lt.2 c17b3))
    simp only [Option.some.injEq, Prod.mk.injEq] at H
    obtain ⟨rfl, rfl⟩ := H
    try go_wp2
    have n0_ := Aside0.mk (below_drew1 HB.out)
    clear HB
    have HB := n0_
    clear n0_
    refine start_ (n := 15) (S := fun w' => True) (ds := []) #[false, false, false, false, false, false, false, false, false, false, false, false, false, false, false] (by kernel_rfl) rfl rfl trivial (fun hHeld => ?_); refine with_tabW port_TCP.tab5 port_TCP.bits5 (fun HT_ HW_ => ?_)
    generalize wc.drew = w18 at HB hHeld ⊢
    refine pure_ (i := 0) (N := some 38) (v := ?_) (a' := ?_) #[true, false, false, false, false, false, false, false, false, false, false, false, false, false, false] rfl rfl (any_of HT_.out (by kernel_rfl)) (fun _ _ _ h => h) (Or.inl ⟨by rfl, ?_⟩) ?_ ?_
    rotate_left
    ·intro w'
     go_simp
     with_reducible rfl
    rotate_left
    ·simp only [Act.put, List.setIfInBounds_toArray, List.set_cons_zero, List.set_cons_succ, i64_w, i32_w]
     rfl
    refine pure_ (i := 3) (N := some 41) (v := ?_) (a' := ?_) #[true, false, false, true, false, false, false, false, false, false, false, false, false, false, false] rfl rfl (any_of HT_.out (by kernel_rfl)) (fun _ _ _ h => h) (Or.inl ⟨by rfl, ?_⟩) ?_ ?_
    rotate_left
    ·intro w'
     go_simp
     with_reducible rfl
    rotate_left
    ·simp only [Act.put, List.setIfInBounds_toArray, List.set_cons_zero, List.set_cons_succ, i64_w, i32_w]
     rfl
    refine pure_ (i := 9) (N := some 47) (v := ?_) (a' := ?_) #[true, false, false, true, false, false, false, false, false, true, false, false, false, false, false] rfl rfl (any_of HT_.out (by kernel_rfl)) (fun _ _ _ h => h) (Or.inl ⟨by rfl, ?_⟩) ?_ ?_
    rotate_left
    ·intro w'
     go_simp
     with_reducible rfl
    rotate_left
    ·simp only [Act.put, List.setIfInBounds_toArray, List.set_cons_zero, List.set_cons_succ, i64_w, i32_w]
     rfl
    refine pure_ (i := 11) (N := some 49) (v := ?_) (a' := ?_) #[true, false, false, true, false, false, false, false, false, true, false, true, false, false, false] rfl rfl (any_of HT_.out (by kernel_rfl)) (fun _ _ _ h => h) (Or.inl ⟨by rfl, ?_⟩) ?_ ?_
    rotate_left
    ·intro w'
     go_simp
     with_reducible rfl
    rotate_left
    ·simp only [Act.put, List.setIfInBounds_toArray, List.set_cons_zero, List.set_cons_succ, i64_w, i32_w]
     rfl
    refine join_ (σ := Value) 5 #[true, true, true, true, true, true, true, true, false, true, false, true, false, false, false] (fun s_ => [(39, .string t103), (42, s_), (43, .string (strOfNums y104)), (45, .string t107), (40, .string (t101 ++ t103)), (44, .string ((t101 ++ t103) ++ (strOfNums y104)))]) (fun s_ w' => (Kd.R (Kd.int .u8) 5 w' w.heap.size (fun _ => True) s_ y104) ∧ (Below w.heap.size w w')) ?_ ?_
    rotate_left
    ·intro hJ1_4_5_7
     refine join_ (σ := Value) 6 #[true, true, true, true, true, true, true, false, false, true, false, true, false, false, false] (fun s_ => [(39, .string t103), (42, s_), (43, .string (strOfNums y104)), (40, .string (t101 ++ t103)), (44, .string ((t101 ++ t103) ++ (strOfNums y104)))]) (fun s_ w' => (Kd.R (Kd.int .u8) 5 w' w.heap.size (fun _ => True) s_ y104) ∧ (Below w.heap.size w w')) ?_ ?_
     rotate_left
     ·intro hJ1_4_5
      refine join_ (σ := Value) 7 #[true, true, true, true, true, false, false, true, false, true, false, true, false, false, false] (fun s_ => [(39, .string t103), (42, s_), (45, .string t107), (40, .string (t101 ++ t103))]) (fun s_ w' => (Kd.R (Kd.int .u8) 5 w' w.heap.size (fun _ => True) s_ y104) ∧ (Below w.heap.size w w')) ?_ ?_
      rotate_left
      ·intro hJ1_4_7
       refine join_ (σ := Value) 8 #[true, true, true, true, true, false, false, false, false, true, false, true, false, false, false] (fun s_ => [(39, .string t103), (42, s_), (40, .string (t101 ++ t103))]) (fun s_ w' => (Kd.R (Kd.int .u8) 5 w' w.heap.size (fun _ => True) s_ y104) ∧ (Below w.heap.size w w')) ?_ ?_
       rotate_left
       ·intro hJ1_4
        refine join_ (σ := Unit) 8 #[true, true, true, true, false, false, false, true, false, true, false, true, false, false, false] (fun s_ => [(39, .string t103), (45, .string t107), (40, .string (t101 ++ t103))]) (fun s_ w' => (Below w.heap.size w w')) ?_ ?_
        rotate_left
        ·intro hJ1_7
         refine join_ (σ := Value) 9 #[true, false, false, true, true, true, false, false, false, true, false, true, false, false, false] (fun s_ => [(42, s_), (43, .string (strOfNums y104))]) (fun s_ w' => (Kd.R (Kd.int .u8) 5 w' w.heap.size (fun _ => True) s_ y104) ∧ (Below w.heap.size w w')) ?_ ?_
         rotate_left
         ·intro hJ4_5
          refine join_ (σ := Unit) 9 #[true, true, true, true, false, false, false, false, false, true, false, true, false, false, false] (fun s_ => [(39, .string t103), (40, .string (t101 ++ t103))]) (fun s_ w' => (Below w.heap.size w w')) ?_ ?_
          rotate_left
          ·intro hJ1
           refine join_ (σ := Value) 10 #[true, false, false, true, true, false, false, false, false, true, false, true, false, false, false] (fun s_ => [(42, s_)]) (fun s_ w' => (Kd.R (Kd.int .u8) 5 w' w.heap.size (fun _ => True) s_ y104) ∧ (Below w.heap.size w w')) ?_ ?_
           rotate_left
           ·intro hJ4
            refine two_ (i := 1) (j := 4) (Ni := some 39) (Nj := some 42) #[true, true, false, true, false, false, false, false, false, true, false, true, false, false, false] #[true, false, false, true, true, false, false, false, false, true, false, true, false, false, false] rfl rfl rfl rfl (two_of HT_.out (by kernel_rfl)) (by decide) (by decide) (fun K hK => ?_) (fun K hK => ?_)
            ·skip
             refine goes_ Try.func21 (by kernel_rfl) rfl #[.string (⟨#[0]⟩ : ByteArray), .int .i64 8] (by rfl) rfl rfl (by (try simp only [List.map_toArray, List.map_cons, List.map_nil]); first | done | rfl | (simp only [List.length_drop, List.length_take]; rfl) | (simp only [ByteArray.size_append, ByteArray.size_extract, Nat.sub_zero, Int.natCast_add]; rfl) | (simp [ByteArray.size_append]; done)) ?_
             with_reducible refine (strings_Repeat.calls (⟨#[0]⟩ : ByteArray) 8 t103 _ A11.out).mono ?_
             rintro e w19 ⟨rfl, hb⟩
             refine ⟨_, rfl, ?_⟩
             have n0_ := Aside0.mk (below_step (bU_ HB.out) hb)
             clear HB
             have HB := n0_
             clear n0_
             (try clear hb)
             (try clear hb2)
             (try clear hk)
             (try clear hi)
             refine hK.out _ _ trivial (fun hHeld => ?_)
             clear hK K
             refine norm_ (a' := ?_) ?_ ?_
             rotate_left
             ·show Act.put _ (some 39) _ = _
              simp only [Act.put, List.setIfInBounds_toArray, List.set_cons_zero, List.set_cons_succ, i64_w, i32_w]
              rfl
             refine pure_ (i := 2) (N := some 40) (v := ?_) (a' := ?_) #[true, true, true, true, false, false, false, false, false, true, false, true, false, false, false] rfl rfl (any_of HT_.out (by kernel_rfl)) (fun _ _ _ h => h) (Or.inl ⟨by rfl, ?_⟩) ?_ ?_
             rotate_left
             ·intro w'
              go_simp
              with_reducible rfl
             rotate_left
             ·simp only [Act.put, List.setIfInBounds_toArray, List.set_cons_zero, List.set_cons_succ, i64_w, i32_w]
              rfl
             exact norm_ (by first | (simp only [putAll, Act.put, List.setIfInBounds_toArray, List.set_cons_zero, List.set_cons_succ]; done) | (simp only [putAll, Act.put, List.setIfInBounds_toArray, List.set_cons_zero, List.set_cons_succ]; rfl)) (hJ1 () _ (bU_ HB.out))
            ·skip
             refine Kd.R_lit_step (Kd.int .u8) _ 5 ?hg (N := 42) ?hd (xs := ([(wrap64 ((wrap64 (Int.tdiv (wrap64 (20 + (a2.size : Int))) 4)) * 16)) % 256] : List Int)) (inner := [.int .u8 ((wrap64 ((wrap64 (Int.tdiv (wrap64 (20 + (a2.size : Int))) 4)) * 16)) % 256)]) (ok := fun _ => True) (okp := fun _ => True) ?hr ?hp (fun _ hk => hk) trivial (Below.refl _ _) (Nat.le_refl _) (by simp) ?_; (case hd => rfl); (case hg => rfl); (case hr => first | (go_simp; done) | (go_simp; simp only [IntKind.wrap_u8]; done) | (go_simp; rfl)); (case hp => exact (Reps.one (show Kd.M (Kd.int .u8) _ _ _ ((wrap64 ((wrap64 (Int.tdiv (wrap64 (20 + (a2.size : Int))) 4)) * 16)) % 256) [.int .u8 ((wrap64 ((wrap64 (Int.tdiv (wrap64 (20 + (a2.size : Int))) 4)) * 16)) % 256)] from rfl) (Reps.none _ _)))
             intro v105 w19 ho20 hb hg_ hnew_
             clear hg_ hnew_
             (first | rw [← Ny104.out] at ho20 | (simp only [Int.reduceToNat] at ho20; rw [← Ny104.out] at ho20))
             have n0_ := Aside0.mk (Kd.R_lower ho20 (below_size (bU_ HB.out)))
             have n1_ := Aside0.mk (below_step (bU_ HB.out) hb)
             clear HB
             have HO106 := n0_
             have HB := n1_
             clear n0_ n1_
             clear hb ho20
             refine hK.out _ _ trivial (fun hHeld => ?_)
             clear hK K
             refine norm_ (a' := ?_) ?_ ?_
             rotate_left
             ·show Act.put _ (some 42) _ = _
              simp only [Act.put, List.setIfInBounds_toArray, List.set_cons_zero, List.set_cons_succ, i64_w, i32_w]
              rfl
             exact norm_ (by first | (simp only [putAll, Act.put, List.setIfInBounds_toArray, List.set_cons_zero, List.set_cons_succ]; done) | (simp only [putAll, Act.put, List.setIfInBounds_toArray, List.set_cons_zero, List.set_cons_succ]; rfl)) (hJ4 (v105) _ ⟨(by (with_reducible repeat first | apply Kd.R_alloc | apply Kd.R_drewN | apply Kd.R_drew); exact HO106.out), (bU_ HB.out)⟩)
           ·skip
            rintro v105 w21 ⟨h0_, h1_⟩
            have n0_ : Aside0 (Kd.R (Kd.int .u8) 5 w21 w.heap.size (fun _ => True) v105 y104) := ⟨h0_⟩
            have n1_ : Aside0 (Below w.heap.size w w21) := ⟨h1_⟩
            clear HB
            clear h0_ h1_
            have HO106 := n0_
            have HB := n1_
            clear n0_ n1_
            have hHeld := trivial
            refine norm_ (a' := ?_) ?_ ?_
            rotate_left
            ·simp only [putAll, Act.put, List.setIfInBounds_toArray, List.set_cons_zero, List.set_cons_succ]
             rfl
            refine two_ (i := 1) (j := 5) (Ni := some 39) (Nj := some 43) #[true, true, false, true, true, false, false, false, false, true, false, true, false, false, false] #[true, false, false, true, true, true, false, false, false, true, false, true, false, false, false] rfl rfl rfl rfl (two_of HT_.out (by kernel_rfl)) (by decide) (by decide) (fun K hK => ?_) (fun K hK => ?_)
            ·skip
             refine goes_ Try.func21 (by kernel_rfl) rfl #[.string (⟨#[0]⟩ : ByteArray), .int .i64 8] (by rfl) rfl rfl (by (try simp only [List.map_toArray, List.map_cons, List.map_nil]); first | done | rfl | (simp only [List.length_drop, List.length_take]; rfl) | (simp only [ByteArray.size_append, ByteArray.size_extract, Nat.sub_zero, Int.natCast_add]; rfl) | (simp [ByteArray.size_append]; done)) ?_
             with_reducible refine (strings_Repeat.calls (⟨#[0]⟩ : ByteArray) 8 t103 _ A11.out).mono ?_
             rintro e w22 ⟨rfl, hb⟩
             refine ⟨_, rfl, ?_⟩
             have n0_ := Aside0.mk (Kd.R_below (by (with_reducible repeat first | apply Kd.R_alloc | apply Kd.R_drewN | apply Kd.R_drew); exact HO106.out) hb)
             have n1_ := Aside0.mk (below_step (bU_ HB.out) hb)
             clear HO106
             clear HB
             have HO106 := n0_
             have HB := n1_
             clear n0_ n1_
             (try clear hb)
             (try clear hb2)
             (try clear hk)
             (try clear hi)
             refine hK.out _ _ trivial (fun hHeld => ?_)
             clear hK K
             refine norm_ (a' := ?_) ?_ ?_
             rotate_left
             ·show Act.put _ (some 39) _ = _
              simp only [Act.put, List.setIfInBounds_toArray, List.set_cons_zero, List.set_cons_succ, i64_w, i32_w]
              rfl
             refine pure_ (i := 2) (N := some 40) (v := ?_) (a' := ?_) #[true, true, true, true, true, false, false, false, false, true, false, true, false, false, false] rfl rfl (any_of HT_.out (by kernel_rfl)) (fun _ _ _ h => h) (Or.inl ⟨by rfl, ?_⟩) ?_ ?_
             rotate_left
             ·intro w'
              go_simp
              with_reducible rfl
             rotate_left
             ·simp only [Act.put, List.setIfInBounds_toArray, List.set_cons_zero, List.set_cons_succ, i64_w, i32_w]
              rfl
             exact norm_ (by first | (simp only [putAll, Act.put, List.setIfInBounds_toArray, List.set_cons_zero, List.set_cons_succ]; done) | (simp only [putAll, Act.put, List.setIfInBounds_toArray, List.set_cons_zero, List.set_cons_succ]; rfl)) (hJ1_4 (v105) _ ⟨(by (with_reducible repeat first | apply Kd.R_alloc | apply Kd.R_drewN | apply Kd.R_drew); exact HO106.out), (bU_ HB.out)⟩)
            ·skip
             have hcv22 := own_string (P := Try.prog) Try.underlying35 Try.underlying5 Try.underlying9 (Kd.own_of_R HO106.out)
             refine value_ (w1 := ?_) (v := ?_) (by rfl) rfl ?_ ?_
             rotate_left 2
             ·go_simp
              constructor
              ·rfl
              ·rfl
             clear hcv22
             refine hK.out _ _ trivial (fun hHeld => ?_)
             clear hK K
             refine norm_ (a' := ?_) ?_ ?_
             rotate_left
             ·show Act.put _ (some 43) _ = _
              simp only [Act.put, List.setIfInBounds_toArray, List.set_cons_zero, List.set_cons_succ, i64_w, i32_w]
              rfl
             exact norm_ (by first | (simp only [putAll, Act.put, List.setIfInBounds_toArray, List.set_cons_zero, List.set_cons_succ]; done) | (simp only [putAll, Act.put, List.setIfInBounds_toArray, List.set_cons_zero, List.set_cons_succ]; rfl)) (hJ4_5 (v105) _ ⟨(by (with_reducible repeat first | apply Kd.R_alloc | apply Kd.R_drewN | apply Kd.R_drew); exact HO106.out), (bU_ HB.out)⟩)
          ·skip
           rintro _ w20 h0_
           have n0_ : Aside0 (Below w.heap.size w w20) := ⟨h0_⟩
           clear HB
           clear h0_
           have HB := n0_
           clear n0_
           have hHeld := trivial
           refine norm_ (a' := ?_) ?_ ?_
           rotate_left
           ·simp only [putAll, Act.put, List.setIfInBounds_toArray, List.set_cons_zero, List.set_cons_succ]
            rfl
           refine two_ (i := 4) (j := 7) (Ni := some 42) (Nj := some 45) #[true, true, true, true, true, false, false, false, false, true, false, true, false, false, false] #[true, true, true, true, false, false, false, true, false, true, false, true, false, false, false] rfl rfl rfl rfl (two_of HT_.out (by kernel_rfl)) (by decide) (by decide) (fun K hK => ?_) (fun K hK => ?_)
           ·skip
            refine Kd.R_lit_step (Kd.int .u8) _ 5 ?hg (N := 42) ?hd (xs := ([(wrap64 ((wrap64 (Int.tdiv (wrap64 (20 + (a2.size : Int))) 4)) * 16)) % 256] : List Int)) (inner := [.int .u8 ((wrap64 ((wrap64 (Int.tdiv (wrap64 (20 + (a2.size : Int))) 4)) * 16)) % 256)]) (ok := fun _ => True) (okp := fun _ => True) ?hr ?hp (fun _ hk => hk) trivial (Below.refl _ _) (Nat.le_refl _) (by simp) ?_; (case hd => rfl); (case hg => rfl); (case hr => first | (go_simp; done) | (go_simp; simp only [IntKind.wrap_u8]; done) | (go_simp; rfl)); (case hp => exact (Reps.one (show Kd.M (Kd.int .u8) _ _ _ ((wrap64 ((wrap64 (Int.tdiv (wrap64 (20 + (a2.size : Int))) 4)) * 16)) % 256) [.int .u8 ((wrap64 ((wrap64 (Int.tdiv (wrap64 (20 + (a2.size : Int))) 4)) * 16)) % 256)] from rfl) (Reps.none _ _)))
            intro v105 w21 ho22 hb hg_ hnew_
            clear hg_ hnew_
            (first | rw [← Ny104.out] at ho22 | (simp only [Int.reduceToNat] at ho22; rw [← Ny104.out] at ho22))
            have n0_ := Aside0.mk (Kd.R_lower ho22 (below_size (bU_ HB.out)))
            have n1_ := Aside0.mk (below_step (bU_ HB.out) hb)
            clear HB
            have HO106 := n0_
            have HB := n1_
            clear n0_ n1_
            clear hb ho22
            refine hK.out _ _ trivial (fun hHeld => ?_)
            clear hK K
            refine norm_ (a' := ?_) ?_ ?_
            rotate_left
            ·show Act.put _ (some 42) _ = _
             simp only [Act.put, List.setIfInBounds_toArray, List.set_cons_zero, List.set_cons_succ, i64_w, i32_w]
             rfl
            exact norm_ (by first | (simp only [putAll, Act.put, List.setIfInBounds_toArray, List.set_cons_zero, List.set_cons_succ]; done) | (simp only [putAll, Act.put, List.setIfInBounds_toArray, List.set_cons_zero, List.set_cons_succ]; rfl)) (hJ1_4 (v105) _ ⟨(by (with_reducible repeat first | apply Kd.R_alloc | apply Kd.R_drewN | apply Kd.R_drew); exact HO106.out), (bU_ HB.out)⟩)
           ·skip
            refine goes_ Try.func21 (by kernel_rfl) rfl #[.string (⟨#[0]⟩ : ByteArray), .int .i64 7] (by rfl) rfl rfl (by (try simp only [List.map_toArray, List.map_cons, List.map_nil]); first | done | rfl | (simp only [List.length_drop, List.length_take]; rfl) | (simp only [ByteArray.size_append, ByteArray.size_extract, Nat.sub_zero, Int.natCast_add]; rfl) | (simp [ByteArray.size_append]; done)) ?_
            with_reducible refine (strings_Repeat.calls (⟨#[0]⟩ : ByteArray) 7 t107 _ A14.out).mono ?_
            rintro e w21 ⟨rfl, hb⟩
            refine ⟨_, rfl, ?_⟩
            have n0_ := Aside0.mk (below_step (bU_ HB.out) hb)
            clear HB
            have HB := n0_
            clear n0_
            (try clear hb)
            (try clear hb2)
            (try clear hk)
            (try clear hi)
            refine hK.out _ _ trivial (fun hHeld => ?_)
            clear hK K
            refine norm_ (a' := ?_) ?_ ?_
            rotate_left
            ·show Act.put _ (some 45) _ = _
             simp only [Act.put, List.setIfInBounds_toArray, List.set_cons_zero, List.set_cons_succ, i64_w, i32_w]
             rfl
            exact norm_ (by first | (simp only [putAll, Act.put, List.setIfInBounds_toArray, List.set_cons_zero, List.set_cons_succ]; done) | (simp only [putAll, Act.put, List.setIfInBounds_toArray, List.set_cons_zero, List.set_cons_succ]; rfl)) (hJ1_7 () _ (bU_ HB.out))
         ·skip
          rintro v105 w22 ⟨h0_, h1_⟩
          have n0_ : Aside0 (Kd.R (Kd.int .u8) 5 w22 w.heap.size (fun _ => True) v105 y104) := ⟨h0_⟩
          have n1_ : Aside0 (Below w.heap.size w w22) := ⟨h1_⟩
          clear HB
          clear h0_ h1_
          have HO106 := n0_
          have HB := n1_
          clear n0_ n1_
          have hHeld := trivial
          refine norm_ (a' := ?_) ?_ ?_
          rotate_left
          ·simp only [putAll, Act.put, List.setIfInBounds_toArray, List.set_cons_zero, List.set_cons_succ]
           rfl
          refine one_ (i := 1) (N := some 39) #[true, true, false, true, true, true, false, false, false, true, false, true, false, false, false] rfl rfl (one_of HT_.out (by kernel_rfl)) (by decide) (fun K hK => ?_)
          refine goes_ Try.func21 (by kernel_rfl) rfl #[.string (⟨#[0]⟩ : ByteArray), .int .i64 8] (by rfl) rfl rfl (by (try simp only [List.map_toArray, List.map_cons, List.map_nil]); first | done | rfl | (simp only [List.length_drop, List.length_take]; rfl) | (simp only [ByteArray.size_append, ByteArray.size_extract, Nat.sub_zero, Int.natCast_add]; rfl) | (simp [ByteArray.size_append]; done)) ?_
          with_reducible refine (strings_Repeat.calls (⟨#[0]⟩ : ByteArray) 8 t103 _ A11.out).mono ?_
          rintro e w23 ⟨rfl, hb⟩
          refine ⟨_, rfl, ?_⟩
          have n0_ := Aside0.mk (Kd.R_below (by (with_reducible repeat first | apply Kd.R_alloc | apply Kd.R_drewN | apply Kd.R_drew); exact HO106.out) hb)
          have n1_ := Aside0.mk (below_step (bU_ HB.out) hb)
          clear HO106
          clear HB
          have HO106 := n0_
          have HB := n1_
          clear n0_ n1_
          (try clear hb)
          (try clear hb2)
          (try clear hk)
          (try clear hi)
          refine hK.out _ _ trivial (fun hHeld => ?_)
          clear hK K
          refine norm_ (a' := ?_) ?_ ?_
          rotate_left
          ·show Act.put _ (some 39) _ = _
           simp only [Act.put, List.setIfInBounds_toArray, List.set_cons_zero, List.set_cons_succ, i64_w, i32_w]
           rfl
          refine pure_ (i := 2) (N := some 40) (v := ?_) (a' := ?_) #[true, true, true, true, true, true, false, false, false, true, false, true, false, false, false] rfl rfl (any_of HT_.out (by kernel_rfl)) (fun _ _ _ h => h) (Or.inl ⟨by rfl, ?_⟩) ?_ ?_
          rotate_left
          ·intro w'
           go_simp
           with_reducible rfl
          rotate_left
          ·simp only [Act.put, List.setIfInBounds_toArray, List.set_cons_zero, List.set_cons_succ, i64_w, i32_w]
           rfl
          refine pure_ (i := 6) (N := some 44) (v := ?_) (a' := ?_) #[true, true, true, true, true, true, true, false, false, true, false, true, false, false, false] rfl rfl (any_of HT_.out (by kernel_rfl)) (fun _ _ _ h => h) (Or.inl ⟨by rfl, ?_⟩) ?_ ?_
          rotate_left
          ·intro w'
           go_simp
           with_reducible rfl
          rotate_left
          ·simp only [Act.put, List.setIfInBounds_toArray, List.set_cons_zero, List.set_cons_succ, i64_w, i32_w]
           rfl
          exact norm_ (by first | (simp only [putAll, Act.put, List.setIfInBounds_toArray, List.set_cons_zero, List.set_cons_succ]; done) | (simp only [putAll, Act.put, List.setIfInBounds_toArray, List.set_cons_zero, List.set_cons_succ]; rfl)) (hJ1_4_5 (v105) _ ⟨(by (with_reducible repeat first | apply Kd.R_alloc | apply Kd.R_drewN | apply Kd.R_drew); exact HO106.out), (bU_ HB.out)⟩)
        ·skip
         rintro _ w21 h0_
         have n0_ : Aside0 (Below w.heap.size w w21) := ⟨h0_⟩
         clear HB
         clear h0_
         have HB := n0_
         clear n0_
         have hHeld := trivial
         refine norm_ (a' := ?_) ?_ ?_
         rotate_left
         ·simp only [putAll, Act.put, List.setIfInBounds_toArray, List.set_cons_zero, List.set_cons_succ]
          rfl
         refine one_ (i := 4) (N := some 42) #[true, true, true, true, true, false, false, true, false, true, false, true, false, false, false] rfl rfl (one_of HT_.out (by kernel_rfl)) (by decide) (fun K hK => ?_)
         refine Kd.R_lit_step (Kd.int .u8) _ 5 ?hg (N := 42) ?hd (xs := ([(wrap64 ((wrap64 (Int.tdiv (wrap64 (20 + (a2.size : Int))) 4)) * 16)) % 256] : List Int)) (inner := [.int .u8 ((wrap64 ((wrap64 (Int.tdiv (wrap64 (20 + (a2.size : Int))) 4)) * 16)) % 256)]) (ok := fun _ => True) (okp := fun _ => True) ?hr ?hp (fun _ hk => hk) trivial (Below.refl _ _) (Nat.le_refl _) (by simp) ?_; (case hd => rfl); (case hg => rfl); (case hr => first | (go_simp; done) | (go_simp; simp only [IntKind.wrap_u8]; done) | (go_simp; rfl)); (case hp => exact (Reps.one (show Kd.M (Kd.int .u8) _ _ _ ((wrap64 ((wrap64 (Int.tdiv (wrap64 (20 + (a2.size : Int))) 4)) * 16)) % 256) [.int .u8 ((wrap64 ((wrap64 (Int.tdiv (wrap64 (20 + (a2.size : Int))) 4)) * 16)) % 256)] from rfl) (Reps.none _ _)))
         intro v105 w22 ho23 hb hg_ hnew_
         clear hg_ hnew_
         (first | rw [← Ny104.out] at ho23 | (simp only [Int.reduceToNat] at ho23; rw [← Ny104.out] at ho23))
         have n0_ := Aside0.mk (Kd.R_lower ho23 (below_size (bU_ HB.out)))
         have n1_ := Aside0.mk (below_step (bU_ HB.out) hb)
         clear HB
         have HO106 := n0_
         have HB := n1_
         clear n0_ n1_
         clear hb ho23
         refine hK.out _ _ trivial (fun hHeld => ?_)
         clear hK K
         refine norm_ (a' := ?_) ?_ ?_
         rotate_left
         ·show Act.put _ (some 42) _ = _
          simp only [Act.put, List.setIfInBounds_toArray, List.set_cons_zero, List.set_cons_succ, i64_w, i32_w]
          rfl
         exact norm_ (by first | (simp only [putAll, Act.put, List.setIfInBounds_toArray, List.set_cons_zero, List.set_cons_succ]; done) | (simp only [putAll, Act.put, List.setIfInBounds_toArray, List.set_cons_zero, List.set_cons_succ]; rfl)) (hJ1_4_7 (v105) _ ⟨(by (with_reducible repeat first | apply Kd.R_alloc | apply Kd.R_drewN | apply Kd.R_drew); exact HO106.out), (bU_ HB.out)⟩)
       ·skip
        rintro v105 w22 ⟨h0_, h1_⟩
        have n0_ : Aside0 (Kd.R (Kd.int .u8) 5 w22 w.heap.size (fun _ => True) v105 y104) := ⟨h0_⟩
        have n1_ : Aside0 (Below w.heap.size w w22) := ⟨h1_⟩
        clear HB
        clear h0_ h1_
        have HO106 := n0_
        have HB := n1_
        clear n0_ n1_
        have hHeld := trivial
        refine norm_ (a' := ?_) ?_ ?_
        rotate_left
        ·simp only [putAll, Act.put, List.setIfInBounds_toArray, List.set_cons_zero, List.set_cons_succ]
         rfl
        refine two_ (i := 5) (j := 7) (Ni := some 43) (Nj := some 45) #[true, true, true, true, true, true, false, false, false, true, false, true, false, false, false] #[true, true, true, true, true, false, false, true, false, true, false, true, false, false, false] rfl rfl rfl rfl (two_of HT_.out (by kernel_rfl)) (by decide) (by decide) (fun K hK => ?_) (fun K hK => ?_)
        ·skip
         have hcv23 := own_string (P := Try.prog) Try.underlying35 Try.underlying5 Try.underlying9 (Kd.own_of_R HO106.out)
         refine value_ (w1 := ?_) (v := ?_) (by rfl) rfl ?_ ?_
         rotate_left 2
         ·go_simp
          constructor
          ·rfl
          ·rfl
         clear hcv23
         refine hK.out _ _ trivial (fun hHeld => ?_)
         clear hK K
         refine norm_ (a' := ?_) ?_ ?_
         rotate_left
         ·show Act.put _ (some 43) _ = _
          simp only [Act.put, List.setIfInBounds_toArray, List.set_cons_zero, List.set_cons_succ, i64_w, i32_w]
          rfl
         refine pure_ (i := 6) (N := some 44) (v := ?_) (a' := ?_) #[true, true, true, true, true, true, true, false, false, true, false, true, false, false, false] rfl rfl (any_of HT_.out (by kernel_rfl)) (fun _ _ _ h => h) (Or.inl ⟨by rfl, ?_⟩) ?_ ?_
         rotate_left
         ·intro w'
          go_simp
          with_reducible rfl
         rotate_left
         ·simp only [Act.put, List.setIfInBounds_toArray, List.set_cons_zero, List.set_cons_succ, i64_w, i32_w]
          rfl
         exact norm_ (by first | (simp only [putAll, Act.put, List.setIfInBounds_toArray, List.set_cons_zero, List.set_cons_succ]; done) | (simp only [putAll, Act.put, List.setIfInBounds_toArray, List.set_cons_zero, List.set_cons_succ]; rfl)) (hJ1_4_5 (v105) _ ⟨(by (with_reducible repeat first | apply Kd.R_alloc | apply Kd.R_drewN | apply Kd.R_drew); exact HO106.out), (bU_ HB.out)⟩)
        ·skip
         refine goes_ Try.func21 (by kernel_rfl) rfl #[.string (⟨#[0]⟩ : ByteArray), .int .i64 7] (by rfl) rfl rfl (by (try simp only [List.map_toArray, List.map_cons, List.map_nil]); first | done | rfl | (simp only [List.length_drop, List.length_take]; rfl) | (simp only [ByteArray.size_append, ByteArray.size_extract, Nat.sub_zero, Int.natCast_add]; rfl) | (simp [ByteArray.size_append]; done)) ?_
         with_reducible refine (strings_Repeat.calls (⟨#[0]⟩ : ByteArray) 7 t107 _ A14.out).mono ?_
         rintro e w23 ⟨rfl, hb⟩
         refine ⟨_, rfl, ?_⟩
         have n0_ := Aside0.mk (Kd.R_below (by (with_reducible repeat first | apply Kd.R_alloc | apply Kd.R_drewN | apply Kd.R_drew); exact HO106.out) hb)
         have n1_ := Aside0.mk (below_step (bU_ HB.out) hb)
         clear HO106
         clear HB
         have HO106 := n0_
         have HB := n1_
         clear n0_ n1_
         (try clear hb)
         (try clear hb2)
         (try clear hk)
         (try clear hi)
         refine hK.out _ _ trivial (fun hHeld => ?_)
         clear hK K
         refine norm_ (a' := ?_) ?_ ?_
         rotate_left
         ·show Act.put _ (some 45) _ = _
          simp only [Act.put, List.setIfInBounds_toArray, List.set_cons_zero, List.set_cons_succ, i64_w, i32_w]
          rfl
         exact norm_ (by first | (simp only [putAll, Act.put, List.setIfInBounds_toArray, List.set_cons_zero, List.set_cons_succ]; done) | (simp only [putAll, Act.put, List.setIfInBounds_toArray, List.set_cons_zero, List.set_cons_succ]; rfl)) (hJ1_4_7 (v105) _ ⟨(by (with_reducible repeat first | apply Kd.R_alloc | apply Kd.R_drewN | apply Kd.R_drew); exact HO106.out), (bU_ HB.out)⟩)
      ·skip
       rintro v105 w23 ⟨h0_, h1_⟩
       have n0_ : Aside0 (Kd.R (Kd.int .u8) 5 w23 w.heap.size (fun _ => True) v105 y104) := ⟨h0_⟩
       have n1_ : Aside0 (Below w.heap.size w w23) := ⟨h1_⟩
       clear HB
       clear h0_ h1_
       have HO106 := n0_
       have HB := n1_
       clear n0_ n1_
       have hHeld := trivial
       refine norm_ (a' := ?_) ?_ ?_
       rotate_left
       ·simp only [putAll, Act.put, List.setIfInBounds_toArray, List.set_cons_zero, List.set_cons_succ]
        rfl
       refine one_ (i := 5) (N := some 43) #[true, true, true, true, true, true, false, true, false, true, false, true, false, false, false] rfl rfl (one_of HT_.out (by kernel_rfl)) (by decide) (fun K hK => ?_)
       have hcv24 := own_string (P := Try.prog) Try.underlying35 Try.underlying5 Try.underlying9 (Kd.own_of_R HO106.out)
       refine value_ (w1 := ?_) (v := ?_) (by rfl) rfl ?_ ?_
       rotate_left 2
       ·go_simp
        constructor
        ·rfl
        ·rfl
       clear hcv24
       refine hK.out _ _ trivial (fun hHeld => ?_)
       clear hK K
       refine norm_ (a' := ?_) ?_ ?_
       rotate_left
       ·show Act.put _ (some 43) _ = _
        simp only [Act.put, List.setIfInBounds_toArray, List.set_cons_zero, List.set_cons_succ, i64_w, i32_w]
        rfl
       refine pure_ (i := 6) (N := some 44) (v := ?_) (a' := ?_) #[true, true, true, true, true, true, true, true, false, true, false, true, false, false, false] rfl rfl (any_of HT_.out (by kernel_rfl)) (fun _ _ _ h => h) (Or.inl ⟨by rfl, ?_⟩) ?_ ?_
       rotate_left
       ·intro w'
        go_simp
        with_reducible rfl
       rotate_left
       ·simp only [Act.put, List.setIfInBounds_toArray, List.set_cons_zero, List.set_cons_succ, i64_w, i32_w]
        rfl
       exact norm_ (by first | (simp only [putAll, Act.put, List.setIfInBounds_toArray, List.set_cons_zero, List.set_cons_succ]; done) | (simp only [putAll, Act.put, List.setIfInBounds_toArray, List.set_cons_zero, List.set_cons_succ]; rfl)) (hJ1_4_5_7 (v105) _ ⟨(by (with_reducible repeat first | apply Kd.R_alloc | apply Kd.R_drewN | apply Kd.R_drew); exact HO106.out), (bU_ HB.out)⟩)
     ·skip
      rintro v105 w23 ⟨h0_, h1_⟩
      have n0_ : Aside0 (Kd.R (Kd.int .u8) 5 w23 w.heap.size (fun _ => True) v105 y104) := ⟨h0_⟩
      have n1_ : Aside0 (Below w.heap.size w w23) := ⟨h1_⟩
      clear HB
      clear h0_ h1_
      have HO106 := n0_
      have HB := n1_
      clear n0_ n1_
      have hHeld := trivial
      refine norm_ (a' := ?_) ?_ ?_
      rotate_left
      ·simp only [putAll, Act.put, List.setIfInBounds_toArray, List.set_cons_zero, List.set_cons_succ]
       rfl
      refine one_ (i := 7) (N := some 45) #[true, true, true, true, true, true, true, true, false, true, false, true, false, false, false] rfl rfl (one_of HT_.out (by kernel_rfl)) (by decide) (fun K hK => ?_)
      refine goes_ Try.func21 (by kernel_rfl) rfl #[.string (⟨#[0]⟩ : ByteArray), .int .i64 7] (by rfl) rfl rfl (by (try simp only [List.map_toArray, List.map_cons, List.map_nil]); first | done | rfl | (simp only [List.length_drop, List.length_take]; rfl) | (simp only [ByteArray.size_append, ByteArray.size_extract, Nat.sub_zero, Int.natCast_add]; rfl) | (simp [ByteArray.size_append]; done)) ?_
      with_reducible refine (strings_Repeat.calls (⟨#[0]⟩ : ByteArray) 7 t107 _ A14.out).mono ?_
      rintro e w24 ⟨rfl, hb⟩
      refine ⟨_, rfl, ?_⟩
      have n0_ := Aside0.mk (Kd.R_below (by (with_reducible repeat first | apply Kd.R_alloc | apply Kd.R_drewN | apply Kd.R_drew); exact HO106.out) hb)
      have n1_ := Aside0.mk (below_step (bU_ HB.out) hb)
      clear HO106
      clear HB
      have HO106 := n0_
      have HB := n1_
      clear n0_ n1_
      (try clear hb)
      (try clear hb2)
      (try clear hk)
      (try clear hi)
      refine hK.out _ _ trivial (fun hHeld => ?_)
      clear hK K
      refine norm_ (a' := ?_) ?_ ?_
      rotate_left
      ·show Act.put _ (some 45) _ = _
       simp only [Act.put, List.setIfInBounds_toArray, List.set_cons_zero, List.set_cons_succ, i64_w, i32_w]
       rfl
      exact norm_ (by first | (simp only [putAll, Act.put, List.setIfInBounds_toArray, List.set_cons_zero, List.set_cons_succ]; done) | (simp only [putAll, Act.put, List.setIfInBounds_toArray, List.set_cons_zero, List.set_cons_succ]; rfl)) (hJ1_4_5_7 (v105) _ ⟨(by (with_reducible repeat first | apply Kd.R_alloc | apply Kd.R_drewN | apply Kd.R_drew); exact HO106.out), (bU_ HB.out)⟩)
    rintro v105 w24 ⟨h0_, h1_⟩
    have n0_ : Aside0 (Kd.R (Kd.int .u8) 5 w24 w.heap.size (fun _ => True) v105 y104) := ⟨h0_⟩
    have n1_ : Aside0 (Below w.heap.size w w24) := ⟨h1_⟩
    clear HB
    clear h0_ h1_
    have HO106 := n0_
    have HB := n1_
    clear n0_ n1_
    have hHeld := trivial
    refine norm_ (a' := ?_) ?_ ?_
    rotate_left
    ·simp only [putAll, Act.put, List.setIfInBounds_toArray, List.set_cons_zero, List.set_cons_succ]
     rfl
    refine pure_ (i := 8) (N := some 46) (v := ?_) (a' := ?_) #[true, true, true, true, true, true, true, true, true, true, false, true, false, false, false] rfl rfl (any_of HT_.out (by kernel_rfl)) (fun _ _ _ h => h) (Or.inl ⟨by rfl, ?_⟩) ?_ ?_
    rotate_left
    ·intro w'
     go_simp
     with_reducible rfl
    rotate_left
    ·simp only [Act.put, List.setIfInBounds_toArray, List.set_cons_zero, List.set_cons_succ, i64_w, i32_w]
     rfl
    refine pure_ (i := 10) (N := some 48) (v := ?_) (a' := ?_) #[true, true, true, true, true, true, true, true, true, true, true, true, false, false, false] rfl rfl (any_of HT_.out (by kernel_rfl)) (fun _ _ _ h => h) (Or.inl ⟨by rfl, ?_⟩) ?_ ?_
    rotate_left
    ·intro w'
     go_simp
     with_reducible rfl
    rotate_left
    ·simp only [Act.put, List.setIfInBounds_toArray, List.set_cons_zero, List.set_cons_succ, i64_w, i32_w]
     rfl
    refine pure_ (i := 12) (N := some 50) (v := ?_) (a' := ?_) #[true, true, true, true, true, true, true, true, true, true, true, true, true, false, false] rfl rfl (any_of HT_.out (by kernel_rfl)) (fun _ _ _ h => h) (Or.inl ⟨by rfl, ?_⟩) ?_ ?_
    rotate_left
    ·intro w'
     go_simp
     with_reducible rfl
    rotate_left
    ·simp only [Act.put, List.setIfInBounds_toArray, List.set_cons_zero, List.set_cons_succ, i64_w, i32_w]
     rfl
    refine pure_ (i := 13) (N := some 8) (v := ?_) (a' := ?_) #[true, true, true, true, true, true, true, true, true, true, true, true, true, true, false] rfl rfl (any_of HT_.out (by kernel_rfl)) (fun _ _ _ h => h) (Or.inl ⟨by rfl, ?_⟩) ?_ ?_
    rotate_left
    ·intro w'
     go_simp
     with_reducible rfl
    rotate_left
    ·simp only [Act.put, List.setIfInBounds_toArray, List.set_cons_zero, List.set_cons_succ, i64_w, i32_w]
     rfl
    refine pure_ (i := 14) (N := some 9) (v := ?_) (a' := ?_) #[true, true, true, true, true, true, true, true, true, true, true, true, true, true, true] rfl rfl (any_of HT_.out (by kernel_rfl)) (fun _ _ _ h => h) (Or.inl ⟨by rfl, ?_⟩) ?_ ?_
    rotate_left
    ·intro w'
     go_simp
     with_reducible rfl
    rotate_left
    ·simp only [Act.put, List.setIfInBounds_toArray, List.set_cons_zero, List.set_cons_succ, i64_w, i32_w]
     rfl
    refine done_ (done_of HT_.out (by kernel_rfl)) ?_
    try go_wp2
    go_ret2
    exact ⟨by first | rfl | (simp [errW_none, errW_some] <;> rfl) | (simp [*, errW_none, errW_some] <;> rfl), bU_ HB.out⟩
end Go.Proofs.Ytocnbpbbmleahaa.Q
