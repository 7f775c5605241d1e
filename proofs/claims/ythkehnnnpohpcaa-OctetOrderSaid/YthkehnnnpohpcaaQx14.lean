-- made by a program of this session (wip/print-patch.py, over the kit's print)
import Derived.Test.YthkehnnnpohpcaaQx0
import Derived.Test.YthkehnnnpohpcaaQx1
import Derived.Test.YthkehnnnpohpcaaQx5
import Derived.Test.YthkehnnnpohpcaaQx7
namespace Go.Proofs.Ythkehnnnpohpcaa.Q
open Go.RowKit Go.Proofs.YthkehnnnpohpcaaW.PrintWords Go.Proofs.YthkehnnnpohpcaaW.PrintLast Go.Proofs.YthkehnnnpohpcaaW.PrintMore
attribute [local go_sem] max2_int min2_int max_two min_two max_three min_three max_four min_four   -- for this text's walks alone
set_option linter.unusedVariables false
set_option linter.unusedSimpArgs false

/-! ### rillmeterlaw04_OctetOrder: function 8 -/
def rillmeterlaw04_OctetOrder.j0 : Nat → Int → Int → Int → ByteArray → ByteArray → Bool → Option (Bool)
  | 0, _, _, _, _, _, _ => none
  | k + 1, x0, x1, x2, x7, x9, x35 => if x35 = true then ((rillmeterlaw04_awake.f k).bind fun t158 => (some t158)) else (if x7.size + x9.size ≤ 9223372036854775807 then ((octet_Take.f k (x7 ++ x9) (wrap64 (2 * x2))).bind fun bt159 => (if ((Op.bytesLess x7.toList x9.toList) == (decide (x0 < x1))) = true then (if ((x7.toList == x9.toList) == (x0 == x1)) = true then (if 0 ≤ (wrap64 (8 * x2)) then (if bt159.1 = (wrap64 ((shl .i64 x0 (wrap64 (8 * x2))) + x1)) then (if bt159.2.1.toList = ([] : List UInt8) then (if bt159.2.2 = 0 then ((rillmeterlaw04_awake.f k).bind fun t162 => (some t162)) else (some false)) else (some false)) else (some false)) else (none)) else (some false)) else (some false))) else (none))
def rillmeterlaw04_OctetOrder.f (k : Nat) (a0 : Int) (a1 : Int) (a2 : Int) : Option (Bool) := (octet_Put.f k a0 a2).bind fun bt154 => ((octet_Put.f k a1 a2).bind fun bt156 => (if bt154.2 = 0 then (if bt156.2 = 0 then (rillmeterlaw04_OctetOrder.j0 k a0 a1 a2 bt154.1 bt156.1 (decide (a2 > 3))) else (rillmeterlaw04_OctetOrder.j0 k a0 a1 a2 bt154.1 bt156.1 true)) else (rillmeterlaw04_OctetOrder.j0 k a0 a1 a2 bt154.1 bt156.1 true)))
theorem rillmeterlaw04_OctetOrder.mono_l : ∀ k, (∀ y0 y1 y2 y3 y4 y5, LeO (rillmeterlaw04_OctetOrder.j0 k y0 y1 y2 y3 y4 y5) (rillmeterlaw04_OctetOrder.j0 (k + 1) y0 y1 y2 y3 y4 y5))
  | 0 => fun _ _ _ _ _ _ r h => by simp [rillmeterlaw04_OctetOrder.j0] at h
  | k + 1 => by
    have ih0 := rillmeterlaw04_OctetOrder.mono_l k
    · intro y0 y1 y2 y3 y4 y5
      unfold rillmeterlaw04_OctetOrder.j0
      repeat' first
      | (with_reducible exact ih0 _ _ _ _ _ _)
      | (with_reducible exact octet_Put.mono _ _ _)
      | (with_reducible exact octet_Take.mono _ _ _)
      | (with_reducible exact rillmeterlaw04_awake.mono _)
      | (with_reducible exact LeO.refl _)
      | (with_reducible exact LeO.none _)
      | (with_reducible refine LeO.ite ?_ ?_)
      | (with_reducible refine LeO.bind ?_ (fun _ => ?_))
      | exact ih0 _ _ _ _ _ _
      | exact octet_Put.mono _ _ _
      | exact octet_Take.mono _ _ _
      | exact rillmeterlaw04_awake.mono _
      | exact LeO.none _
      | refine LeO.ite ?_ ?_
      | refine LeO.bind ?_ (fun _ => ?_)
theorem rillmeterlaw04_OctetOrder.mono : ∀ a0 a1 a2 k, LeO (rillmeterlaw04_OctetOrder.f k a0 a1 a2) (rillmeterlaw04_OctetOrder.f (k + 1) a0 a1 a2) := by
  intro a0 a1 a2 k
  have ih0 := rillmeterlaw04_OctetOrder.mono_l k
  unfold rillmeterlaw04_OctetOrder.f
  repeat' first
      | (with_reducible exact ih0 _ _ _ _ _ _)
      | (with_reducible exact octet_Put.mono _ _ _)
      | (with_reducible exact octet_Take.mono _ _ _)
      | (with_reducible exact rillmeterlaw04_awake.mono _)
      | (with_reducible exact LeO.refl _)
      | (with_reducible exact LeO.none _)
      | (with_reducible refine LeO.ite ?_ ?_)
      | (with_reducible refine LeO.bind ?_ (fun _ => ?_))
      | exact ih0 _ _ _ _ _ _
      | exact octet_Put.mono _ _ _
      | exact octet_Take.mono _ _ _
      | exact rillmeterlaw04_awake.mono _
      | exact LeO.none _
      | refine LeO.ite ?_ ?_
      | refine LeO.bind ?_ (fun _ => ?_)
set_option maxHeartbeats 8000000 in
set_option maxRecDepth 100000 in
theorem rillmeterlaw04_OctetOrder.calls (k : Nat) (a0 : Int) (a1 : Int) (a2 : Int) (r : Bool) (w : World) (h : rillmeterlaw04_OctetOrder.f k a0 a1 a2 = some r) :
    Calls Try.prog 8 #[.int .i64 a0, .int .i64 a1, .int .i64 a2] w fun e w' => e = .returned (.bool r) ∧ Below w.heap.size w w' := by
  have HB := Aside0.mk (Below.refl w.heap.size w)
  have H : ((octet_Put.f k a0 a2).bind fun bt154 => ((octet_Put.f k a1 a2).bind fun bt156 => (if bt154.2 = 0 then (if bt156.2 = 0 then (rillmeterlaw04_OctetOrder.j0 k a0 a1 a2 bt154.1 bt156.1 (decide (a2 > 3))) else (rillmeterlaw04_OctetOrder.j0 k a0 a1 a2 bt154.1 bt156.1 true)) else (rillmeterlaw04_OctetOrder.j0 k a0 a1 a2 bt154.1 bt156.1 true)))) = some r := h
  clear h
  replace H := Option.bind_eq_some_iff.mp H
  obtain ⟨⟨t154, t155⟩, A40, H⟩ := H
  replace H : ((octet_Put.f k a1 a2).bind fun bt156 => (if t155 = 0 then (if bt156.2 = 0 then (rillmeterlaw04_OctetOrder.j0 k a0 a1 a2 t154 bt156.1 (decide (a2 > 3))) else (rillmeterlaw04_OctetOrder.j0 k a0 a1 a2 t154 bt156.1 true)) else (rillmeterlaw04_OctetOrder.j0 k a0 a1 a2 t154 bt156.1 true))) = some r := H
  have A4 := Aside0.mk A40
  clear A40
  replace H := Option.bind_eq_some_iff.mp H
  obtain ⟨⟨t156, t157⟩, A50, H⟩ := H
  replace H : (if t155 = 0 then (if t157 = 0 then (rillmeterlaw04_OctetOrder.j0 k a0 a1 a2 t154 t156 (decide (a2 > 3))) else (rillmeterlaw04_OctetOrder.j0 k a0 a1 a2 t154 t156 true)) else (rillmeterlaw04_OctetOrder.j0 k a0 a1 a2 t154 t156 true)) = some r := H
  have A5 := Aside0.mk A50
  clear A50
  have HC6 := Aside0.mk H
  clear H
  go_enter Try.func8, Try.ntmps8
  go_upto_region 3 with (first | ((with_reducible refine gate_callee (f := 9) rfl ?_); refine goesL_ (some 17) rfl rfl Try.func9 (by kernel_rfl) rfl #[.int .i64 a0, .int .i64 a2] rfl (by (try simp only [List.map_toArray, List.map_cons, List.map_nil]); first | done | rfl | (simp only [List.length_drop, List.length_take]; rfl) | (simp only [ByteArray.size_append, ByteArray.size_extract, Nat.sub_zero, Int.natCast_add]; rfl) | (simp [ByteArray.size_append]; done)) ?_; (with_reducible refine (octet_Put.calls k a0 a2 t154 t155 _ A4.out).mono ?_); rintro e w7 ⟨rfl, hb⟩; refine ⟨_, rfl, ?_⟩; have n0_ := Aside0.mk (below_step (by repeat (first | (with_reducible first | exact HB.out | apply below_alloc | apply pw_below_drewN | apply below_drew1) | exact HB.out)) hb); clear HB; have HB := n0_; clear n0_; (try clear hb); (try clear hb2); (try clear hk); (try clear hi)) | ((with_reducible refine gate_callee (f := 9) rfl ?_); refine goesL_ (some 23) rfl rfl Try.func9 (by kernel_rfl) rfl #[.int .i64 a1, .int .i64 a2] rfl (by (try simp only [List.map_toArray, List.map_cons, List.map_nil]); first | done | rfl | (simp only [List.length_drop, List.length_take]; rfl) | (simp only [ByteArray.size_append, ByteArray.size_extract, Nat.sub_zero, Int.natCast_add]; rfl) | (simp [ByteArray.size_append]; done)) ?_; (with_reducible refine (octet_Put.calls k a1 a2 t156 t157 _ A5.out).mono ?_); rintro e w8 ⟨rfl, hb⟩; refine ⟨_, rfl, ?_⟩; have n0_ := Aside0.mk (below_step (by repeat (first | (with_reducible first | exact HB.out | apply below_alloc | apply pw_below_drewN | apply below_drew1) | exact HB.out)) hb); clear HB; have HB := n0_; clear n0_; (try clear hb); (try clear hb2); (try clear hk); (try clear hi)))
  (try simp only [Act.put, List.setIfInBounds_toArray, List.set_cons_zero, List.set_cons_succ])
  go_cut [35] (fun v35 wc => ∃ (kq : Nat) (x35_5 : Bool), v35 = .bool x35_5 ∧ Aside0 (rillmeterlaw04_OctetOrder.j0 kq a0 a1 a2 t154 t156 x35_5 = some r) ∧ Aside0 (kq ≤ k) ∧ Aside0 (Below w.heap.size w wc))
  case first =>
    have H := HC6.out
    clear HC6
    by_cases c9 : t155 = 0
    · rw [if_pos c9] at H
      have c9b0 : (t155 == 0) = true := beq_iff_eq.mpr c9
      have c9b1 : (t155 != 0) = false := bne_eq_false_iff_eq.mpr c9
      clear c9
      (first | rw [c9b0] | (simp only [i64_w, i32_w]; rw [c9b0]) | skip)
      by_cases c10 : t157 = 0
      · rw [if_pos c10] at H
        have c10b0 : (t157 == 0) = true := beq_iff_eq.mpr c10
        have c10b1 : (t157 != 0) = false := bne_eq_false_iff_eq.mpr c10
        clear c10
        have H' := Aside0.mk H
        clear H
        go_wp2
        go_meet
        case rel => exact ⟨_, (decide (a2 > 3)), (by first | rfl | (simp; done) | (simp [*]; done)), H', ⟨by first | omega | exact Nat.le_refl _⟩, ⟨by repeat (first | (with_reducible first | exact HB.out | apply below_alloc | apply pw_below_drewN | apply below_drew1) | exact HB.out)⟩⟩
      · rw [if_neg c10] at H
        have c10b0 : (t157 == 0) = false := beq_eq_false_iff_ne.mpr c10
        have c10b1 : (t157 != 0) = true := bne_iff_ne.mpr c10
        have H' := Aside0.mk H
        clear H
        go_wp2
        go_meet
        case rel => exact ⟨_, (true), (by first | rfl | (simp; done) | (simp [*]; done)), H', ⟨by first | omega | exact Nat.le_refl _⟩, ⟨by repeat (first | (with_reducible first | exact HB.out | apply below_alloc | apply pw_below_drewN | apply below_drew1) | exact HB.out)⟩⟩
    · rw [if_neg c9] at H
      have c9b0 : (t155 == 0) = false := beq_eq_false_iff_ne.mpr c9
      have c9b1 : (t155 != 0) = true := bne_iff_ne.mpr c9
      (first | rw [c9b0] | (simp only [i64_w, i32_w]; rw [c9b0]) | skip)
      have H' := Aside0.mk H
      clear H
      go_wp2
      go_meet
      case rel => exact ⟨_, (true), (by first | rfl | (simp; done) | (simp [*]; done)), H', ⟨by first | omega | exact Nat.le_refl _⟩, ⟨by repeat (first | (with_reducible first | exact HB.out | apply below_alloc | apply pw_below_drewN | apply below_drew1) | exact HB.out)⟩⟩
  case rest =>
    clear HC6
    try clear c1
    try clear p2
    try clear c8
    try clear c9
    try clear c9b0
    try clear c9b1
    try clear c10
    try clear c10b0
    try clear c10b1
    obtain ⟨kq, x35_5, rfl, HA, HJ5, HB⟩ := hcut
    cases kq with
    | zero => exact absurd HA.out (by simp [rillmeterlaw04_OctetOrder.j0])
    | succ kj5 =>
      have H := HA.out
      clear HA
      simp only [rillmeterlaw04_OctetOrder.j0] at H
      by_cases c11 : x35_5 = true
      · subst c11
        have H1 : ((rillmeterlaw04_awake.f kj5).bind fun t158 => (some t158)) = some r := by rw [if_pos rfl] at H; exact H
        clear H
        have H := H1
        clear H1
        replace H := Option.bind_eq_some_iff.mp H
        obtain ⟨t158, A120, H⟩ := H
        replace H : (some t158) = some r := H
        have A12 := Aside0.mk A120
        clear A120
        obtain rfl := Option.some.inj H
        go_wp2_with (first | ((with_reducible refine gate_callee (f := 11) rfl ?_); refine goesL_ (some 36) rfl rfl Try.func11 (by kernel_rfl) rfl #[] rfl (by (try simp only [List.map_toArray, List.map_cons, List.map_nil]); first | done | rfl | (simp only [List.length_drop, List.length_take]; rfl) | (simp only [ByteArray.size_append, ByteArray.size_extract, Nat.sub_zero, Int.natCast_add]; rfl) | (simp [ByteArray.size_append]; done)) ?_; (with_reducible refine (rillmeterlaw04_awake.calls kj5  t158 _ A12.out).mono ?_); rintro e w13 ⟨rfl, hb⟩; refine ⟨_, rfl, ?_⟩; have n0_ := Aside0.mk (below_step (by repeat (first | (with_reducible first | exact HB.out | apply below_alloc | apply pw_below_drewN | apply below_drew1) | exact HB.out)) hb); clear HB; have HB := n0_; clear n0_; (try clear hb); (try clear hb2); (try clear hk); (try clear hi)))
        go_ret
        exact ⟨by first | rfl | (simp [errW_none, errW_some] <;> rfl) | (simp [*, errW_none, errW_some] <;> rfl), by repeat (first | (with_reducible first | exact HB.out | apply below_alloc | apply pw_below_drewN | apply below_drew1) | exact HB.out)⟩
      · replace c11 := Bool.eq_false_iff.mpr c11
        subst c11
        have H1 : (if t154.size + t156.size ≤ 9223372036854775807 then ((octet_Take.f kj5 (t154 ++ t156) (wrap64 (2 * a2))).bind fun bt159 => (if ((Op.bytesLess t154.toList t156.toList) == (decide (a0 < a1))) = true then (if ((t154.toList == t156.toList) == (a0 == a1)) = true then (if 0 ≤ (wrap64 (8 * a2)) then (if bt159.1 = (wrap64 ((shl .i64 a0 (wrap64 (8 * a2))) + a1)) then (if bt159.2.1.toList = ([] : List UInt8) then (if bt159.2.2 = 0 then ((rillmeterlaw04_awake.f kj5).bind fun t162 => (some t162)) else (some false)) else (some false)) else (some false)) else (none)) else (some false)) else (some false))) else (none)) = some r := by rw [if_neg (show ¬ (false = true) by decide)] at H; exact H
        clear H
        have H := H1
        clear H1
        by_cases c14 : t154.size + t156.size ≤ 9223372036854775807
        · rw [if_pos c14] at H
          have c14b0 := eq_true c14
          have c14b1 : decide (t154.size + t156.size ≤ 9223372036854775807) = true := decide_eq_true c14
          try have c14b2 : (9223372036854775807 < t154.size + t156.size) = False := eq_false (Nat.not_lt.2 c14)
          try (have c14b3 := c14; simp only [ByteArray.size_append, ByteArray.size_extract, Nat.sub_zero] at c14b3; have c14b4 := eq_false (Nat.not_lt.2 c14b3))
          replace H := Option.bind_eq_some_iff.mp H
          obtain ⟨⟨t159, t160, t161⟩, A150, H⟩ := H
          replace H : (if ((Op.bytesLess t154.toList t156.toList) == (decide (a0 < a1))) = true then (if ((t154.toList == t156.toList) == (a0 == a1)) = true then (if 0 ≤ (wrap64 (8 * a2)) then (if t159 = (wrap64 ((shl .i64 a0 (wrap64 (8 * a2))) + a1)) then (if t160.toList = ([] : List UInt8) then (if t161 = 0 then ((rillmeterlaw04_awake.f kj5).bind fun t162 => (some t162)) else (some false)) else (some false)) else (some false)) else (none)) else (some false)) else (some false)) = some r := H
          have A15 := Aside0.mk A150
          clear A150
          by_cases c16 : ((Op.bytesLess t154.toList t156.toList) == (decide (a0 < a1))) = true
          · rw [if_pos c16] at H
            have c16b0 : ((Op.bytesLess t154.toList t156.toList) == (decide (a0 < a1))) = true := c16
            (try (have c16b1 : decide ((Op.bytesLess t154.toList t156.toList) = (decide (a0 < a1))) = true := by simpa using c16))
            (try (have c16b2 : ((Op.bytesLess t154.toList t156.toList) == (decide (a0 < a1))) = true := by simpa using c16))
            clear c16
            by_cases c17 : ((t154.toList == t156.toList) == (a0 == a1)) = true
            · rw [if_pos c17] at H
              have c17b0 : ((t154.toList == t156.toList) == (a0 == a1)) = true := c17
              (try (have c17b1 : decide ((t154.toList == t156.toList) = (a0 == a1)) = true := by simpa using c17))
              (try (have c17b2 : ((t154.toList == t156.toList) == (a0 == a1)) = true := by simpa using c17))
              clear c17
              obtain ⟨ji18, hji18⟩ : ∃ j_ : Int, (wrap64 (8 * a2)) = j_ := ⟨_, rfl⟩
              replace H : (if 0 ≤ (ji18) then (if t159 = (wrap64 ((shl .i64 a0 (ji18)) + a1)) then (if t160.toList = ([] : List UInt8) then (if t161 = 0 then ((rillmeterlaw04_awake.f kj5).bind fun t162 => (some t162)) else (some false)) else (some false)) else (some false)) else (none)) = some r := by first | (rw [hji18] at H; exact H) | (simp only [hji18] at H ⊢; exact H)
              (try rw [hji18] at A15)
              have hji18w : (IntKind.i64.wrap (8 * a2)) = ji18 := (i64_w _).trans hji18
              by_cases c19 : 0 ≤ (ji18)
              · rw [if_pos c19] at H
                have c19b0 := eq_true c19
                have c19b1 : decide (0 ≤ (ji18)) = true := decide_eq_true c19
                clear c19
                obtain ⟨ji20, hji20⟩ : ∃ j_ : Int, (shl .i64 a0 (ji18)) = j_ := ⟨_, rfl⟩
                replace H : (if t159 = (wrap64 ((ji20) + a1)) then (if t160.toList = ([] : List UInt8) then (if t161 = 0 then ((rillmeterlaw04_awake.f kj5).bind fun t162 => (some t162)) else (some false)) else (some false)) else (some false)) = some r := by first | (rw [hji20] at H; exact H) | (simp only [hji20] at H ⊢; exact H)
                (try rw [hji20] at A15)
                have hji20_ : (IntKind.i64.wrap (a0 * 2 ^ min (ji18).toNat 64)) = ji20 := hji20
                have hji20z : (ji18) ≤ 64 → (IntKind.i64.wrap (a0 * 2 ^ (ji18).toNat)) = ji20 := shl_small hji20
                have hji20y : (wrap64 (a0 * 2 ^ min (ji18).toNat 64)) = ji20 := (i64_w _).symm.trans hji20_
                have hji20x : (ji18) ≤ 64 → (wrap64 (a0 * 2 ^ (ji18).toNat)) = ji20 := fun h_ => (i64_w _).symm.trans (hji20z h_)
                by_cases c21 : t159 = (wrap64 ((ji20) + a1))
                · rw [if_pos c21] at H
                  have c21b0 : (t159 == (wrap64 ((ji20) + a1))) = true := beq_iff_eq.mpr c21
                  have c21b1 : (t159 != (wrap64 ((ji20) + a1))) = false := bne_eq_false_iff_eq.mpr c21
                  clear c21
                  by_cases c22 : t160.toList = ([] : List UInt8)
                  · rw [if_pos c22] at H
                    have c22b0 : (t160.toList == ([] : List UInt8)) = true := beq_iff_eq.mpr c22
                    have c22b1 : (t160.toList != ([] : List UInt8)) = false := bne_eq_false_iff_eq.mpr c22
                    clear c22
                    by_cases c23 : t161 = 0
                    · rw [if_pos c23] at H
                      have c23b0 : (t161 == 0) = true := beq_iff_eq.mpr c23
                      have c23b1 : (t161 != 0) = false := bne_eq_false_iff_eq.mpr c23
                      clear c23
                      replace H := Option.bind_eq_some_iff.mp H
                      obtain ⟨t162, A240, H⟩ := H
                      replace H : (some t162) = some r := H
                      have A24 := Aside0.mk A240
                      clear A240
                      obtain rfl := Option.some.inj H
                      go_wp2_with (first | ((with_reducible refine gate_callee (f := 12) rfl ?_); refine goesL_ (some 43) rfl rfl Try.func12 (by kernel_rfl) rfl #[.string (t154 ++ t156), .int .i64 (wrap64 (2 * a2))] rfl (by (try simp only [List.map_toArray, List.map_cons, List.map_nil]); first | done | rfl | (simp only [List.length_drop, List.length_take]; rfl) | (simp only [ByteArray.size_append, ByteArray.size_extract, Nat.sub_zero, Int.natCast_add]; rfl) | (simp [ByteArray.size_append]; done)) ?_; (with_reducible refine (octet_Take.calls kj5 (t154 ++ t156) (wrap64 (2 * a2)) t159 t160 t161 _ A15.out).mono ?_); rintro e w' ⟨rfl, ⟨nd, rfl⟩⟩; refine ⟨_, rfl, ?_⟩) | (go_at_call 11; (with_reducible refine (rillmeterlaw04_awake.calls kj5  t162 _ A24.out).mono ?_); rintro e w25 ⟨rfl, hb⟩; have n0_ := Aside0.mk (below_step (by repeat (first | (with_reducible first | exact HB.out | apply below_alloc | apply pw_below_drewN | apply below_drew1) | exact HB.out)) hb); clear HB; have HB := n0_; clear n0_; (try clear hb); (try clear hb2); (try clear hk); (try clear hi)))
                      go_ret
                      exact ⟨by first | rfl | (simp [errW_none, errW_some] <;> rfl) | (simp only [← hji18, ← hji20]; first | rfl | (simp [errW_none, errW_some] <;> rfl)) | (simp [*, errW_none, errW_some] <;> rfl), by repeat (first | (with_reducible first | exact HB.out | apply below_alloc | apply pw_below_drewN | apply below_drew1) | exact HB.out)⟩
                    · rw [if_neg c23] at H
                      have c23b0 : (t161 == 0) = false := beq_eq_false_iff_ne.mpr c23
                      have c23b1 : (t161 != 0) = true := bne_iff_ne.mpr c23
                      obtain rfl := Option.some.inj H
                      go_wp2_with (first | ((with_reducible refine gate_callee (f := 12) rfl ?_); refine goesL_ (some 43) rfl rfl Try.func12 (by kernel_rfl) rfl #[.string (t154 ++ t156), .int .i64 (wrap64 (2 * a2))] rfl (by (try simp only [List.map_toArray, List.map_cons, List.map_nil]); first | done | rfl | (simp only [List.length_drop, List.length_take]; rfl) | (simp only [ByteArray.size_append, ByteArray.size_extract, Nat.sub_zero, Int.natCast_add]; rfl) | (simp [ByteArray.size_append]; done)) ?_; (with_reducible refine (octet_Take.calls kj5 (t154 ++ t156) (wrap64 (2 * a2)) t159 t160 t161 _ A15.out).mono ?_); rintro e w' ⟨rfl, ⟨nd, rfl⟩⟩; refine ⟨_, rfl, ?_⟩))
                      go_ret
                      exact ⟨by first | rfl | (simp [errW_none, errW_some] <;> rfl) | (simp only [← hji18, ← hji20]; first | rfl | (simp [errW_none, errW_some] <;> rfl)) | (simp [*, errW_none, errW_some] <;> rfl), by repeat (first | (with_reducible first | exact HB.out | apply below_alloc | apply pw_below_drewN | apply below_drew1) | exact HB.out)⟩
                  · rw [if_neg c22] at H
                    have c22b0 : (t160.toList == ([] : List UInt8)) = false := beq_eq_false_iff_ne.mpr c22
                    have c22b1 : (t160.toList != ([] : List UInt8)) = true := bne_iff_ne.mpr c22
                    obtain rfl := Option.some.inj H
                    go_wp2_with (first | ((with_reducible refine gate_callee (f := 12) rfl ?_); refine goesL_ (some 43) rfl rfl Try.func12 (by kernel_rfl) rfl #[.string (t154 ++ t156), .int .i64 (wrap64 (2 * a2))] rfl (by (try simp only [List.map_toArray, List.map_cons, List.map_nil]); first | done | rfl | (simp only [List.length_drop, List.length_take]; rfl) | (simp only [ByteArray.size_append, ByteArray.size_extract, Nat.sub_zero, Int.natCast_add]; rfl) | (simp [ByteArray.size_append]; done)) ?_; (with_reducible refine (octet_Take.calls kj5 (t154 ++ t156) (wrap64 (2 * a2)) t159 t160 t161 _ A15.out).mono ?_); rintro e w' ⟨rfl, ⟨nd, rfl⟩⟩; refine ⟨_, rfl, ?_⟩))
                    go_ret
                    exact ⟨by first | rfl | (simp [errW_none, errW_some] <;> rfl) | (simp only [← hji18, ← hji20]; first | rfl | (simp [errW_none, errW_some] <;> rfl)) | (simp [*, errW_none, errW_some] <;> rfl), by repeat (first | (with_reducible first | exact HB.out | apply below_alloc | apply pw_below_drewN | apply below_drew1) | exact HB.out)⟩
                · rw [if_neg c21] at H
                  have c21b0 : (t159 == (wrap64 ((ji20) + a1))) = false := beq_eq_false_iff_ne.mpr c21
                  have c21b1 : (t159 != (wrap64 ((ji20) + a1))) = true := bne_iff_ne.mpr c21
                  obtain rfl := Option.some.inj H
                  go_wp2_with (first | ((with_reducible refine gate_callee (f := 12) rfl ?_); refine goesL_ (some 43) rfl rfl Try.func12 (by kernel_rfl) rfl #[.string (t154 ++ t156), .int .i64 (wrap64 (2 * a2))] rfl (by (try simp only [List.map_toArray, List.map_cons, List.map_nil]); first | done | rfl | (simp only [List.length_drop, List.length_take]; rfl) | (simp only [ByteArray.size_append, ByteArray.size_extract, Nat.sub_zero, Int.natCast_add]; rfl) | (simp [ByteArray.size_append]; done)) ?_; (with_reducible refine (octet_Take.calls kj5 (t154 ++ t156) (wrap64 (2 * a2)) t159 t160 t161 _ A15.out).mono ?_); rintro e w' ⟨rfl, ⟨nd, rfl⟩⟩; refine ⟨_, rfl, ?_⟩))
                  go_ret
                  exact ⟨by first | rfl | (simp [errW_none, errW_some] <;> rfl) | (simp only [← hji18, ← hji20]; first | rfl | (simp [errW_none, errW_some] <;> rfl)) | (simp [*, errW_none, errW_some] <;> rfl), by repeat (first | (with_reducible first | exact HB.out | apply below_alloc | apply pw_below_drewN | apply below_drew1) | exact HB.out)⟩
              · rw [if_neg c19] at H
                exact absurd H (by simp)
            · rw [if_neg c17] at H
              have c17b0 : ((t154.toList == t156.toList) == (a0 == a1)) = false := by simpa using c17
              (try (have c17b1 : decide ((t154.toList == t156.toList) = (a0 == a1)) = false := by simpa using c17))
              (try (have c17b2 : ((t154.toList == t156.toList) == (a0 == a1)) = false := by simpa using c17))
              (try (have c17b3 : ¬ ((t154.toList == t156.toList) = (a0 == a1)) := by simpa using c17))
              clear c17
              obtain rfl := Option.some.inj H
              go_wp2_with (first | ((with_reducible refine gate_callee (f := 12) rfl ?_); refine goesL_ (some 43) rfl rfl Try.func12 (by kernel_rfl) rfl #[.string (t154 ++ t156), .int .i64 (wrap64 (2 * a2))] rfl (by (try simp only [List.map_toArray, List.map_cons, List.map_nil]); first | done | rfl | (simp only [List.length_drop, List.length_take]; rfl) | (simp only [ByteArray.size_append, ByteArray.size_extract, Nat.sub_zero, Int.natCast_add]; rfl) | (simp [ByteArray.size_append]; done)) ?_; (with_reducible refine (octet_Take.calls kj5 (t154 ++ t156) (wrap64 (2 * a2)) t159 t160 t161 _ A15.out).mono ?_); rintro e w' ⟨rfl, ⟨nd, rfl⟩⟩; refine ⟨_, rfl, ?_⟩))
              go_ret
              exact ⟨by first | rfl | (simp [errW_none, errW_some] <;> rfl) | (simp [*, errW_none, errW_some] <;> rfl), by repeat (first | (with_reducible first | exact HB.out | apply below_alloc | apply pw_below_drewN | apply below_drew1) | exact HB.out)⟩
          · rw [if_neg c16] at H
            have c16b0 : ((Op.bytesLess t154.toList t156.toList) == (decide (a0 < a1))) = false := by simpa using c16
            (try (have c16b1 : decide ((Op.bytesLess t154.toList t156.toList) = (decide (a0 < a1))) = false := by simpa using c16))
            (try (have c16b2 : ((Op.bytesLess t154.toList t156.toList) == (decide (a0 < a1))) = false := by simpa using c16))
            (try (have c16b3 : ¬ ((Op.bytesLess t154.toList t156.toList) = (decide (a0 < a1))) := by simpa using c16))
            clear c16
            obtain rfl := Option.some.inj H
            go_wp2_with (first | ((with_reducible refine gate_callee (f := 12) rfl ?_); refine goesL_ (some 43) rfl rfl Try.func12 (by kernel_rfl) rfl #[.string (t154 ++ t156), .int .i64 (wrap64 (2 * a2))] rfl (by (try simp only [List.map_toArray, List.map_cons, List.map_nil]); first | done | rfl | (simp only [List.length_drop, List.length_take]; rfl) | (simp only [ByteArray.size_append, ByteArray.size_extract, Nat.sub_zero, Int.natCast_add]; rfl) | (simp [ByteArray.size_append]; done)) ?_; (with_reducible refine (octet_Take.calls kj5 (t154 ++ t156) (wrap64 (2 * a2)) t159 t160 t161 _ A15.out).mono ?_); rintro e w' ⟨rfl, ⟨nd, rfl⟩⟩; refine ⟨_, rfl, ?_⟩))
            go_ret
            exact ⟨by first | rfl | (simp [errW_none, errW_some] <;> rfl) | (simp [*, errW_none, errW_some] <;> rfl), by repeat (first | (with_reducible first | exact HB.out | apply below_alloc | apply pw_below_drewN | apply below_drew1) | exact HB.out)⟩
        · rw [if_neg c14] at H
          exact absurd H (by simp)

/-- THE ONE PURE STATEMENT of rillmeterlaw04_OctetOrder: yours. -/
def rillmeterlaw04_OctetOrder.Pure : Prop := ∀ (a0 : Int) (a1 : Int) (a2 : Int), (Lit.int .i64 a0).wf = true → (Lit.int .i64 a1).wf = true → (Lit.int .i64 a2).wf = true → ∃ k, rillmeterlaw04_OctetOrder.f k a0 a1 a2 = some true
theorem rillmeterlaw04_OctetOrder.walk (P : rillmeterlaw04_OctetOrder.Pure) (a0 : Int) (a1 : Int) (a2 : Int) (w : World) (w0 : (Lit.int .i64 a0).wf = true) (w1 : (Lit.int .i64 a1).wf = true) (w2 : (Lit.int .i64 a2).wf = true) :
    Calls Try.prog 8 #[.int .i64 a0, .int .i64 a1, .int .i64 a2] w fun e w' => e = .returned (.bool true) ∧ Below w.heap.size w w' := by
  obtain ⟨k, h⟩ := P a0 a1 a2 w0 w1 w2
  refine (rillmeterlaw04_OctetOrder.calls k a0 a1 a2 true w h).mono ?_
  rintro e w' ⟨rfl, hd⟩
  exact ⟨rfl, hd⟩

end Go.Proofs.Ythkehnnnpohpcaa.Q
