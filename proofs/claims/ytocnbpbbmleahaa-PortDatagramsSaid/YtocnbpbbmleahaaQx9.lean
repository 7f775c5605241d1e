-- made by a program of this session (wip/print-patch.py, over the kit's print)
import Derived.Test.YtocnbpbbmleahaaQx0
import Derived.Test.YtocnbpbbmleahaaQx8
namespace Go.Proofs.Ytocnbpbbmleahaa.Q
open Go.RowKit Go.Proofs.YtocnbpbbmleahaaW.PrintWords Go.Proofs.YtocnbpbbmleahaaW.PrintLast Go.Proofs.YtocnbpbbmleahaaW.PrintMore
attribute [local go_sem] max2_int min2_int max_two min_two max_three min_three max_four min_four   -- for this text's walks alone
set_option linter.unusedVariables false
set_option linter.unusedSimpArgs false

attribute [local go_sem] cell_twice_ cell_twiceN_
/-! ### rillmeterref08_UDP: function 12 -/
def rillmeterref08_UDP.j0 : Nat → Int → Int → ByteArray → Bool → Option (ByteArray × Bool)
  | 0, _, _, _, _ => none
  | k + 1, x0, x1, x2, x20 => if x20 = true then (some ((⟨#[]⟩ : ByteArray), false)) else ((rillmeterref08_two.f x0).bind fun t148 => ((rillmeterref08_two.f x1).bind fun t149 => (if t148.size + t149.size ≤ 9223372036854775807 then ((rillmeterref08_two.f (wrap64 (8 + (x2.size : Int)))).bind fun t150 => (if (t148 ++ t149).size + t150.size ≤ 9223372036854775807 then ((rillmeterref08_two.f 0).bind fun t151 => (if ((t148 ++ t149) ++ t150).size + t151.size ≤ 9223372036854775807 then (if (((t148 ++ t149) ++ t150) ++ t151).size + x2.size ≤ 9223372036854775807 then (some ((((t148 ++ t149) ++ t150) ++ t151) ++ x2, true)) else (none)) else (none))) else (none))) else (none))))
def rillmeterref08_UDP.f (k : Nat) (a0 : Int) (a1 : Int) (a2 : ByteArray) : Option (ByteArray × Bool) := (rillmeterref08_port.f a0).bind fun t146 => (if t146 = true then ((rillmeterref08_port.f a1).bind fun t147 => (if t147 = true then (rillmeterref08_UDP.j0 k a0 a1 a2 (decide ((a2.size : Int) > 65527))) else (rillmeterref08_UDP.j0 k a0 a1 a2 true))) else (rillmeterref08_UDP.j0 k a0 a1 a2 true))
theorem rillmeterref08_UDP.mono_l : ∀ k, (∀ y0 y1 y2 y3, LeO (rillmeterref08_UDP.j0 k y0 y1 y2 y3) (rillmeterref08_UDP.j0 (k + 1) y0 y1 y2 y3))
  | 0 => fun _ _ _ _ r h => by simp [rillmeterref08_UDP.j0] at h
  | k + 1 => by
    have ih0 := rillmeterref08_UDP.mono_l k
    · intro y0 y1 y2 y3
      unfold rillmeterref08_UDP.j0
      repeat' first
      | (with_reducible exact ih0 _ _ _ _)
      | (with_reducible exact LeO.refl _)
      | (with_reducible exact LeO.none _)
      | (with_reducible refine LeO.ite ?_ ?_)
      | (with_reducible refine LeO.bind ?_ (fun _ => ?_))
      | exact ih0 _ _ _ _
      | exact LeO.none _
      | refine LeO.ite ?_ ?_
      | refine LeO.bind ?_ (fun _ => ?_)
theorem rillmeterref08_UDP.mono : ∀ a0 a1 a2 k, LeO (rillmeterref08_UDP.f k a0 a1 a2) (rillmeterref08_UDP.f (k + 1) a0 a1 a2) := by
  intro a0 a1 a2 k
  have ih0 := rillmeterref08_UDP.mono_l k
  unfold rillmeterref08_UDP.f
  repeat' first
      | (with_reducible exact ih0 _ _ _ _)
      | (with_reducible exact LeO.refl _)
      | (with_reducible exact LeO.none _)
      | (with_reducible refine LeO.ite ?_ ?_)
      | (with_reducible refine LeO.bind ?_ (fun _ => ?_))
      | exact ih0 _ _ _ _
      | exact LeO.none _
      | refine LeO.ite ?_ ?_
      | refine LeO.bind ?_ (fun _ => ?_)
set_option maxHeartbeats 8000000 in
set_option maxRecDepth 100000 in
theorem rillmeterref08_UDP.calls (k : Nat) (a0 : Int) (a1 : Int) (a2 : ByteArray) (r1 : ByteArray) (r2 : Bool) (w : World) (h : rillmeterref08_UDP.f k a0 a1 a2 = some (r1, r2)) :
    Calls Try.prog 12 #[.int .i64 a0, .int .i64 a1, .string a2] w fun e w' => e = .returned (.tuple #[.string r1, .bool r2]) ∧ Below w.heap.size w w' := by
  have HB := Aside0.mk (Below.refl w.heap.size w)
  have H : ((rillmeterref08_port.f a0).bind fun t146 => (if t146 = true then ((rillmeterref08_port.f a1).bind fun t147 => (if t147 = true then (rillmeterref08_UDP.j0 k a0 a1 a2 (decide ((a2.size : Int) > 65527))) else (rillmeterref08_UDP.j0 k a0 a1 a2 true))) else (rillmeterref08_UDP.j0 k a0 a1 a2 true))) = some (r1, r2) := h
  clear h
  have HC4 := Aside0.mk H
  clear H
  go_enter Try.func12, Try.ntmps12
  go_upto_region 1 with (fail)
  go_cut [20] (fun v20 wc => ∃ (kq : Nat) (x20_3 : Bool), v20 = .bool x20_3 ∧ Aside0 (rillmeterref08_UDP.j0 kq a0 a1 a2 x20_3 = some (r1, r2)) ∧ Aside0 (kq ≤ k) ∧ Aside0 (Below w.heap.size w wc))
  case first =>
    have H := HC4.out
    clear HC4
    replace H := Option.bind_eq_some_iff.mp H
    obtain ⟨t146, A50, H⟩ := H
    replace H : (if t146 = true then ((rillmeterref08_port.f a1).bind fun t147 => (if t147 = true then (rillmeterref08_UDP.j0 k a0 a1 a2 (decide ((a2.size : Int) > 65527))) else (rillmeterref08_UDP.j0 k a0 a1 a2 true))) else (rillmeterref08_UDP.j0 k a0 a1 a2 true)) = some (r1, r2) := H
    have A5 := Aside0.mk A50
    clear A50
    by_cases c6 : t146 = true
    · subst c6
      have H1 : ((rillmeterref08_port.f a1).bind fun t147 => (if t147 = true then (rillmeterref08_UDP.j0 k a0 a1 a2 (decide ((a2.size : Int) > 65527))) else (rillmeterref08_UDP.j0 k a0 a1 a2 true))) = some (r1, r2) := by rw [if_pos rfl] at H; exact H
      clear H
      have H := H1
      clear H1
      replace H := Option.bind_eq_some_iff.mp H
      obtain ⟨t147, A70, H⟩ := H
      replace H : (if t147 = true then (rillmeterref08_UDP.j0 k a0 a1 a2 (decide ((a2.size : Int) > 65527))) else (rillmeterref08_UDP.j0 k a0 a1 a2 true)) = some (r1, r2) := H
      have A7 := Aside0.mk A70
      clear A70
      by_cases c8 : t147 = true
      · subst c8
        have H1 : (rillmeterref08_UDP.j0 k a0 a1 a2 (decide ((a2.size : Int) > 65527))) = some (r1, r2) := by rw [if_pos rfl] at H; exact H
        clear H
        have H := H1
        clear H1
        have H' := Aside0.mk H
        clear H
        go_wp2_with (first | ((with_reducible refine gate_callee (f := 19) rfl ?_); refine goesL_ (some 9) rfl rfl Try.func19 (by kernel_rfl) rfl #[.int .i64 a0] rfl (by (try simp only [List.map_toArray, List.map_cons, List.map_nil]); first | done | rfl | (simp only [List.length_drop, List.length_take]; rfl) | (simp only [ByteArray.size_append, ByteArray.size_extract, Nat.sub_zero, Int.natCast_add]; rfl) | (simp [ByteArray.size_append]; done)) ?_; (with_reducible refine (rillmeterref08_port.calls a0 true _ A5.out).mono ?_); rintro e w' ⟨rfl, ⟨nd, rfl⟩⟩; refine ⟨_, rfl, ?_⟩) | (go_at_call 19; (with_reducible refine (rillmeterref08_port.calls a1 true _ A7.out).mono ?_); rintro e w' ⟨rfl, ⟨nd, rfl⟩⟩))
        go_meet
        case rel => exact ⟨_, (decide ((a2.size : Int) > 65527)), (by first | rfl | (simp; done) | (simp [*]; done)), H', ⟨by first | omega | exact Nat.le_refl _⟩, ⟨by repeat (first | (with_reducible first | exact HB.out | apply below_alloc | apply pw_below_drewN | apply below_drew1) | exact HB.out)⟩⟩
      · replace c8 := Bool.eq_false_iff.mpr c8
        subst c8
        have H1 : (rillmeterref08_UDP.j0 k a0 a1 a2 true) = some (r1, r2) := by rw [if_neg (show ¬ (false = true) by decide)] at H; exact H
        clear H
        have H := H1
        clear H1
        have H' := Aside0.mk H
        clear H
        go_wp2_with (first | ((with_reducible refine gate_callee (f := 19) rfl ?_); refine goesL_ (some 9) rfl rfl Try.func19 (by kernel_rfl) rfl #[.int .i64 a0] rfl (by (try simp only [List.map_toArray, List.map_cons, List.map_nil]); first | done | rfl | (simp only [List.length_drop, List.length_take]; rfl) | (simp only [ByteArray.size_append, ByteArray.size_extract, Nat.sub_zero, Int.natCast_add]; rfl) | (simp [ByteArray.size_append]; done)) ?_; (with_reducible refine (rillmeterref08_port.calls a0 true _ A5.out).mono ?_); rintro e w' ⟨rfl, ⟨nd, rfl⟩⟩; refine ⟨_, rfl, ?_⟩) | (go_at_call 19; (with_reducible refine (rillmeterref08_port.calls a1 false _ A7.out).mono ?_); rintro e w' ⟨rfl, ⟨nd, rfl⟩⟩))
        go_meet
        case rel => exact ⟨_, (true), (by first | rfl | (simp; done) | (simp [*]; done)), H', ⟨by first | omega | exact Nat.le_refl _⟩, ⟨by repeat (first | (with_reducible first | exact HB.out | apply below_alloc | apply pw_below_drewN | apply below_drew1) | exact HB.out)⟩⟩
    · replace c6 := Bool.eq_false_iff.mpr c6
      subst c6
      have H1 : (rillmeterref08_UDP.j0 k a0 a1 a2 true) = some (r1, r2) := by rw [if_neg (show ¬ (false = true) by decide)] at H; exact H
      clear H
      have H := H1
      clear H1
      have H' := Aside0.mk H
      clear H
      go_wp2_with (first | ((with_reducible refine gate_callee (f := 19) rfl ?_); refine goesL_ (some 9) rfl rfl Try.func19 (by kernel_rfl) rfl #[.int .i64 a0] rfl (by (try simp only [List.map_toArray, List.map_cons, List.map_nil]); first | done | rfl | (simp only [List.length_drop, List.length_take]; rfl) | (simp only [ByteArray.size_append, ByteArray.size_extract, Nat.sub_zero, Int.natCast_add]; rfl) | (simp [ByteArray.size_append]; done)) ?_; (with_reducible refine (rillmeterref08_port.calls a0 false _ A5.out).mono ?_); rintro e w' ⟨rfl, ⟨nd, rfl⟩⟩; refine ⟨_, rfl, ?_⟩))
      go_meet
      case rel => exact ⟨_, (true), (by first | rfl | (simp; done) | (simp [*]; done)), H', ⟨by first | omega | exact Nat.le_refl _⟩, ⟨by repeat (first | (with_reducible first | exact HB.out | apply below_alloc | apply pw_below_drewN | apply below_drew1) | exact HB.out)⟩⟩
  case rest =>
    clear HC4
    try clear c1
    try clear p2
    try clear c6
    try clear c8
    obtain ⟨kq, x20_3, rfl, HA, HJ3, HB⟩ := hcut
    cases kq with
    | zero => exact absurd HA.out (by simp [rillmeterref08_UDP.j0])
    | succ kj3 =>
      have H := HA.out
      clear HA
      simp only [rillmeterref08_UDP.j0] at H
      by_cases c9 : x20_3 = true
      · subst c9
        have H1 : (some ((⟨#[]⟩ : ByteArray), false)) = some (r1, r2) := by rw [if_pos rfl] at H; exact H
        clear H
        have H := H1
        clear H1
        simp only [Option.some.injEq, Prod.mk.injEq] at H
        obtain ⟨rfl, rfl⟩ := H
        go_wp2
        go_ret2
        exact ⟨by first | rfl | (simp [errW_none, errW_some] <;> rfl) | (simp [*, errW_none, errW_some] <;> rfl), by repeat (first | (with_reducible first | exact HB.out | apply below_alloc | apply pw_below_drewN | apply below_drew1) | exact HB.out)⟩
      · replace c9 := Bool.eq_false_iff.mpr c9
        subst c9
        have H1 : ((rillmeterref08_two.f a0).bind fun t148 => ((rillmeterref08_two.f a1).bind fun t149 => (if t148.size + t149.size ≤ 9223372036854775807 then ((rillmeterref08_two.f (wrap64 (8 + (a2.size : Int)))).bind fun t150 => (if (t148 ++ t149).size + t150.size ≤ 9223372036854775807 then ((rillmeterref08_two.f 0).bind fun t151 => (if ((t148 ++ t149) ++ t150).size + t151.size ≤ 9223372036854775807 then (if (((t148 ++ t149) ++ t150) ++ t151).size + a2.size ≤ 9223372036854775807 then (some ((((t148 ++ t149) ++ t150) ++ t151) ++ a2, true)) else (none)) else (none))) else (none))) else (none)))) = some (r1, r2) := by rw [if_neg (show ¬ (false = true) by decide)] at H; exact H
        clear H
        have H := H1
        clear H1
        replace H := Option.bind_eq_some_iff.mp H
        obtain ⟨t148, A100, H⟩ := H
        replace H : ((rillmeterref08_two.f a1).bind fun t149 => (if t148.size + t149.size ≤ 9223372036854775807 then ((rillmeterref08_two.f (wrap64 (8 + (a2.size : Int)))).bind fun t150 => (if (t148 ++ t149).size + t150.size ≤ 9223372036854775807 then ((rillmeterref08_two.f 0).bind fun t151 => (if ((t148 ++ t149) ++ t150).size + t151.size ≤ 9223372036854775807 then (if (((t148 ++ t149) ++ t150) ++ t151).size + a2.size ≤ 9223372036854775807 then (some ((((t148 ++ t149) ++ t150) ++ t151) ++ a2, true)) else (none)) else (none))) else (none))) else (none))) = some (r1, r2) := H
        have A10 := Aside0.mk A100
        clear A100
        replace H := Option.bind_eq_some_iff.mp H
        obtain ⟨t149, A110, H⟩ := H
        replace H : (if t148.size + t149.size ≤ 9223372036854775807 then ((rillmeterref08_two.f (wrap64 (8 + (a2.size : Int)))).bind fun t150 => (if (t148 ++ t149).size + t150.size ≤ 9223372036854775807 then ((rillmeterref08_two.f 0).bind fun t151 => (if ((t148 ++ t149) ++ t150).size + t151.size ≤ 9223372036854775807 then (if (((t148 ++ t149) ++ t150) ++ t151).size + a2.size ≤ 9223372036854775807 then (some ((((t148 ++ t149) ++ t150) ++ t151) ++ a2, true)) else (none)) else (none))) else (none))) else (none)) = some (r1, r2) := H
        have A11 := Aside0.mk A110
        clear A110
        by_cases c12 : t148.size + t149.size ≤ 9223372036854775807
        · rw [if_pos c12] at H
          have c12b0 := eq_true c12
          have c12b1 : decide (t148.size + t149.size ≤ 9223372036854775807) = true := decide_eq_true c12
          try have c12b2 : (9223372036854775807 < t148.size + t149.size) = False := eq_false (Nat.not_lt.2 c12)
          try (have c12b3 := c12; simp only [ByteArray.size_append, ByteArray.size_extract, Nat.sub_zero] at c12b3; have c12b4 := eq_false (Nat.not_lt.2 c12b3))
          replace H := Option.bind_eq_some_iff.mp H
          obtain ⟨t150, A130, H⟩ := H
          replace H : (if (t148 ++ t149).size + t150.size ≤ 9223372036854775807 then ((rillmeterref08_two.f 0).bind fun t151 => (if ((t148 ++ t149) ++ t150).size + t151.size ≤ 9223372036854775807 then (if (((t148 ++ t149) ++ t150) ++ t151).size + a2.size ≤ 9223372036854775807 then (some ((((t148 ++ t149) ++ t150) ++ t151) ++ a2, true)) else (none)) else (none))) else (none)) = some (r1, r2) := H
          have A13 := Aside0.mk A130
          clear A130
          by_cases c14 : (t148 ++ t149).size + t150.size ≤ 9223372036854775807
          · rw [if_pos c14] at H
            have c14b0 := eq_true c14
            have c14b1 : decide ((t148 ++ t149).size + t150.size ≤ 9223372036854775807) = true := decide_eq_true c14
            try have c14b2 : (9223372036854775807 < (t148 ++ t149).size + t150.size) = False := eq_false (Nat.not_lt.2 c14)
            try (have c14b3 := c14; simp only [ByteArray.size_append, ByteArray.size_extract, Nat.sub_zero] at c14b3; have c14b4 := eq_false (Nat.not_lt.2 c14b3))
            replace H := Option.bind_eq_some_iff.mp H
            obtain ⟨t151, A150, H⟩ := H
            replace H : (if ((t148 ++ t149) ++ t150).size + t151.size ≤ 9223372036854775807 then (if (((t148 ++ t149) ++ t150) ++ t151).size + a2.size ≤ 9223372036854775807 then (some ((((t148 ++ t149) ++ t150) ++ t151) ++ a2, true)) else (none)) else (none)) = some (r1, r2) := H
            have A15 := Aside0.mk A150
            clear A150
            by_cases c16 : ((t148 ++ t149) ++ t150).size + t151.size ≤ 9223372036854775807
            · rw [if_pos c16] at H
              have c16b0 := eq_true c16
              have c16b1 : decide (((t148 ++ t149) ++ t150).size + t151.size ≤ 9223372036854775807) = true := decide_eq_true c16
              try have c16b2 : (9223372036854775807 < ((t148 ++ t149) ++ t150).size + t151.size) = False := eq_false (Nat.not_lt.2 c16)
              try (have c16b3 := c16; simp only [ByteArray.size_append, ByteArray.size_extract, Nat.sub_zero] at c16b3; have c16b4 := eq_false (Nat.not_lt.2 c16b3))
              by_cases c17 : (((t148 ++ t149) ++ t150) ++ t151).size + a2.size ≤ 9223372036854775807
              · rw [if_pos c17] at H
                have c17b0 := eq_true c17
                have c17b1 : decide ((((t148 ++ t149) ++ t150) ++ t151).size + a2.size ≤ 9223372036854775807) = true := decide_eq_true c17
                try have c17b2 : (9223372036854775807 < (((t148 ++ t149) ++ t150) ++ t151).size + a2.size) = False := eq_false (Nat.not_lt.2 c17)
                try (have c17b3 := c17; simp only [ByteArray.size_append, ByteArray.size_extract, Nat.sub_zero] at c17b3; have c17b4 := eq_false (Nat.not_lt.2 c17b3))
                simp only [Option.some.injEq, Prod.mk.injEq] at H
                obtain ⟨rfl, rfl⟩ := H
                go_wp2_with (first | ((with_reducible refine gate_callee (f := 20) rfl ?_); refine goesL_ (some 22) rfl rfl Try.func20 (by kernel_rfl) rfl #[.int .i64 a0] rfl (by (try simp only [List.map_toArray, List.map_cons, List.map_nil]); first | done | rfl | (simp only [List.length_drop, List.length_take]; rfl) | (simp only [ByteArray.size_append, ByteArray.size_extract, Nat.sub_zero, Int.natCast_add]; rfl) | (simp [ByteArray.size_append]; done)) ?_; (with_reducible refine (rillmeterref08_two.calls a0 t148 _ A10.out).mono ?_); rintro e w18 ⟨rfl, hb⟩; refine ⟨_, rfl, ?_⟩; have n0_ := Aside0.mk (below_step (by repeat (first | (with_reducible first | exact HB.out | apply below_alloc | apply pw_below_drewN | apply below_drew1) | exact HB.out)) hb); clear HB; have HB := n0_; clear n0_; (try clear hb); (try clear hb2); (try clear hk); (try clear hi)) | ((with_reducible refine gate_callee (f := 20) rfl ?_); refine goesL_ (some 24) rfl rfl Try.func20 (by kernel_rfl) rfl #[.int .i64 a1] rfl (by (try simp only [List.map_toArray, List.map_cons, List.map_nil]); first | done | rfl | (simp only [List.length_drop, List.length_take]; rfl) | (simp only [ByteArray.size_append, ByteArray.size_extract, Nat.sub_zero, Int.natCast_add]; rfl) | (simp [ByteArray.size_append]; done)) ?_; (with_reducible refine (rillmeterref08_two.calls a1 t149 _ A11.out).mono ?_); rintro e w19 ⟨rfl, hb⟩; refine ⟨_, rfl, ?_⟩; have n0_ := Aside0.mk (below_step (by repeat (first | (with_reducible first | exact HB.out | apply below_alloc | apply pw_below_drewN | apply below_drew1) | exact HB.out)) hb); clear HB; have HB := n0_; clear n0_; (try clear hb); (try clear hb2); (try clear hk); (try clear hi)) | ((with_reducible refine gate_callee (f := 20) rfl ?_); refine goesL_ (some 29) rfl rfl Try.func20 (by kernel_rfl) rfl #[.int .i64 (wrap64 (8 + (a2.size : Int)))] rfl (by (try simp only [List.map_toArray, List.map_cons, List.map_nil]); first | done | rfl | (simp only [List.length_drop, List.length_take]; rfl) | (simp only [ByteArray.size_append, ByteArray.size_extract, Nat.sub_zero, Int.natCast_add]; rfl) | (simp [ByteArray.size_append]; done)) ?_; (with_reducible refine (rillmeterref08_two.calls (wrap64 (8 + (a2.size : Int))) t150 _ A13.out).mono ?_); rintro e w20 ⟨rfl, hb⟩; refine ⟨_, rfl, ?_⟩; have n0_ := Aside0.mk (below_step (by repeat (first | (with_reducible first | exact HB.out | apply below_alloc | apply pw_below_drewN | apply below_drew1) | exact HB.out)) hb); clear HB; have HB := n0_; clear n0_; (try clear hb); (try clear hb2); (try clear hk); (try clear hi)) | ((with_reducible refine gate_callee (f := 20) rfl ?_); refine goesL_ (some 31) rfl rfl Try.func20 (by kernel_rfl) rfl #[.int .i64 0] rfl (by (try simp only [List.map_toArray, List.map_cons, List.map_nil]); first | done | rfl | (simp only [List.length_drop, List.length_take]; rfl) | (simp only [ByteArray.size_append, ByteArray.size_extract, Nat.sub_zero, Int.natCast_add]; rfl) | (simp [ByteArray.size_append]; done)) ?_; (with_reducible refine (rillmeterref08_two.calls 0 t151 _ A15.out).mono ?_); rintro e w21 ⟨rfl, hb⟩; refine ⟨_, rfl, ?_⟩; have n0_ := Aside0.mk (below_step (by repeat (first | (with_reducible first | exact HB.out | apply below_alloc | apply pw_below_drewN | apply below_drew1) | exact HB.out)) hb); clear HB; have HB := n0_; clear n0_; (try clear hb); (try clear hb2); (try clear hk); (try clear hi)))
                go_ret2
                exact ⟨by first | rfl | (simp [errW_none, errW_some] <;> rfl) | (simp [*, errW_none, errW_some] <;> rfl), by repeat (first | (with_reducible first | exact HB.out | apply below_alloc | apply pw_below_drewN | apply below_drew1) | exact HB.out)⟩
              · rw [if_neg c17] at H
                exact absurd H (by simp)
            · rw [if_neg c16] at H
              exact absurd H (by simp)
          · rw [if_neg c14] at H
            exact absurd H (by simp)
        · rw [if_neg c12] at H
          exact absurd H (by simp)

end Go.Proofs.Ytocnbpbbmleahaa.Q
