-- made by a program of this session (wip/print-patch.py, over the kit's print)
import Derived.Test.YthkehnnnpohpcaaQx0
import Derived.Test.YthkehnnnpohpcaaQx1
import Derived.Test.YthkehnnnpohpcaaQx3
import Derived.Test.YthkehnnnpohpcaaQx5
import Derived.Test.YthkehnnnpohpcaaQx7
namespace Go.Proofs.Ythkehnnnpohpcaa.Q
open Go.RowKit Go.Proofs.YthkehnnnpohpcaaW.PrintWords Go.Proofs.YthkehnnnpohpcaaW.PrintLast Go.Proofs.YthkehnnnpohpcaaW.PrintMore
attribute [local go_sem] max2_int min2_int max_two min_two max_three min_three max_four min_four   -- for this text's walks alone
set_option linter.unusedVariables false
set_option linter.unusedSimpArgs false

/-! ### rillmeterlaw04_OctetPuts: function 3 -/
def rillmeterlaw04_OctetPuts.f (k : Nat) (a0 : Int) (a1 : Int) : Option (Bool) := (octet_Put.f k a0 a1).bind fun bt118 => ((rillmeterref04_Put.f k a0 a1).bind fun bt120 => (if bt120.2 = true then (if bt118.1.size + 1 ≤ 9223372036854775807 then ((octet_Take.f k (bt118.1 ++ (⟨#[120]⟩ : ByteArray)) a1).bind fun bt122 => (if bt118.1.toList = bt120.1.toList then (if bt118.2 = 0 then (if bt122.1 = a0 then (if bt122.2.1.toList = ([120] : List UInt8) then (if bt122.2.2 = 0 then ((rillmeterlaw04_awake.f k).bind fun t125 => (some t125)) else (some false)) else (some false)) else (some false)) else (some false)) else (some false))) else (none)) else (if bt118.1.toList = ([] : List UInt8) then (if bt118.2 = 1 then ((rillmeterlaw04_awake.f k).bind fun t126 => (some t126)) else (some false)) else (some false))))
theorem rillmeterlaw04_OctetPuts.mono : ∀ a0 a1 k, LeO (rillmeterlaw04_OctetPuts.f k a0 a1) (rillmeterlaw04_OctetPuts.f (k + 1) a0 a1) := by
  intro a0 a1 k
  unfold rillmeterlaw04_OctetPuts.f
  repeat' first
      | (with_reducible exact octet_Put.mono _ _ _)
      | (with_reducible exact octet_Take.mono _ _ _)
      | (with_reducible exact rillmeterlaw04_awake.mono _)
      | (with_reducible exact rillmeterref04_Put.mono _ _ _)
      | (with_reducible exact LeO.refl _)
      | (with_reducible exact LeO.none _)
      | (with_reducible refine LeO.ite ?_ ?_)
      | (with_reducible refine LeO.bind ?_ (fun _ => ?_))
      | exact octet_Put.mono _ _ _
      | exact octet_Take.mono _ _ _
      | exact rillmeterlaw04_awake.mono _
      | exact rillmeterref04_Put.mono _ _ _
      | exact LeO.none _
      | refine LeO.ite ?_ ?_
      | refine LeO.bind ?_ (fun _ => ?_)
set_option maxHeartbeats 8000000 in
set_option maxRecDepth 100000 in
theorem rillmeterlaw04_OctetPuts.calls (k : Nat) (a0 : Int) (a1 : Int) (r : Bool) (w : World) (h : rillmeterlaw04_OctetPuts.f k a0 a1 = some r) :
    Calls Try.prog 3 #[.int .i64 a0, .int .i64 a1] w fun e w' => e = .returned (.bool r) ∧ Below w.heap.size w w' := by
  have HB := Aside0.mk (Below.refl w.heap.size w)
  have H : ((octet_Put.f k a0 a1).bind fun bt118 => ((rillmeterref04_Put.f k a0 a1).bind fun bt120 => (if bt120.2 = true then (if bt118.1.size + 1 ≤ 9223372036854775807 then ((octet_Take.f k (bt118.1 ++ (⟨#[120]⟩ : ByteArray)) a1).bind fun bt122 => (if bt118.1.toList = bt120.1.toList then (if bt118.2 = 0 then (if bt122.1 = a0 then (if bt122.2.1.toList = ([120] : List UInt8) then (if bt122.2.2 = 0 then ((rillmeterlaw04_awake.f k).bind fun t125 => (some t125)) else (some false)) else (some false)) else (some false)) else (some false)) else (some false))) else (none)) else (if bt118.1.toList = ([] : List UInt8) then (if bt118.2 = 1 then ((rillmeterlaw04_awake.f k).bind fun t126 => (some t126)) else (some false)) else (some false))))) = some r := h
  clear h
  replace H := Option.bind_eq_some_iff.mp H
  obtain ⟨⟨t118, t119⟩, A30, H⟩ := H
  replace H : ((rillmeterref04_Put.f k a0 a1).bind fun bt120 => (if bt120.2 = true then (if t118.size + 1 ≤ 9223372036854775807 then ((octet_Take.f k (t118 ++ (⟨#[120]⟩ : ByteArray)) a1).bind fun bt122 => (if t118.toList = bt120.1.toList then (if t119 = 0 then (if bt122.1 = a0 then (if bt122.2.1.toList = ([120] : List UInt8) then (if bt122.2.2 = 0 then ((rillmeterlaw04_awake.f k).bind fun t125 => (some t125)) else (some false)) else (some false)) else (some false)) else (some false)) else (some false))) else (none)) else (if t118.toList = ([] : List UInt8) then (if t119 = 1 then ((rillmeterlaw04_awake.f k).bind fun t126 => (some t126)) else (some false)) else (some false)))) = some r := H
  have A3 := Aside0.mk A30
  clear A30
  replace H := Option.bind_eq_some_iff.mp H
  obtain ⟨⟨t120, t121⟩, A40, H⟩ := H
  replace H : (if t121 = true then (if t118.size + 1 ≤ 9223372036854775807 then ((octet_Take.f k (t118 ++ (⟨#[120]⟩ : ByteArray)) a1).bind fun bt122 => (if t118.toList = t120.toList then (if t119 = 0 then (if bt122.1 = a0 then (if bt122.2.1.toList = ([120] : List UInt8) then (if bt122.2.2 = 0 then ((rillmeterlaw04_awake.f k).bind fun t125 => (some t125)) else (some false)) else (some false)) else (some false)) else (some false)) else (some false))) else (none)) else (if t118.toList = ([] : List UInt8) then (if t119 = 1 then ((rillmeterlaw04_awake.f k).bind fun t126 => (some t126)) else (some false)) else (some false))) = some r := H
  have A4 := Aside0.mk A40
  clear A40
  by_cases c5 : t121 = true
  · subst c5
    have H1 : (if t118.size + 1 ≤ 9223372036854775807 then ((octet_Take.f k (t118 ++ (⟨#[120]⟩ : ByteArray)) a1).bind fun bt122 => (if t118.toList = t120.toList then (if t119 = 0 then (if bt122.1 = a0 then (if bt122.2.1.toList = ([120] : List UInt8) then (if bt122.2.2 = 0 then ((rillmeterlaw04_awake.f k).bind fun t125 => (some t125)) else (some false)) else (some false)) else (some false)) else (some false)) else (some false))) else (none)) = some r := by rw [if_pos rfl] at H; exact H
    clear H
    have H := H1
    clear H1
    by_cases c6 : t118.size + 1 ≤ 9223372036854775807
    · rw [if_pos c6] at H
      have c6b0 := eq_true c6
      have c6b1 : decide (t118.size + 1 ≤ 9223372036854775807) = true := decide_eq_true c6
      try have c6b2 : (9223372036854775807 < t118.size + 1) = False := eq_false (Nat.not_lt.2 c6)
      try (have c6b3 := c6; simp only [ByteArray.size_append, ByteArray.size_extract, Nat.sub_zero] at c6b3; have c6b4 := eq_false (Nat.not_lt.2 c6b3))
      replace H := Option.bind_eq_some_iff.mp H
      obtain ⟨⟨t122, t123, t124⟩, A70, H⟩ := H
      replace H : (if t118.toList = t120.toList then (if t119 = 0 then (if t122 = a0 then (if t123.toList = ([120] : List UInt8) then (if t124 = 0 then ((rillmeterlaw04_awake.f k).bind fun t125 => (some t125)) else (some false)) else (some false)) else (some false)) else (some false)) else (some false)) = some r := H
      have A7 := Aside0.mk A70
      clear A70
      by_cases c8 : t118.toList = t120.toList
      · rw [if_pos c8] at H
        have c8b0 : (t118.toList == t120.toList) = true := beq_iff_eq.mpr c8
        have c8b1 : (t118.toList != t120.toList) = false := bne_eq_false_iff_eq.mpr c8
        clear c8
        by_cases c9 : t119 = 0
        · rw [if_pos c9] at H
          have c9b0 : (t119 == 0) = true := beq_iff_eq.mpr c9
          have c9b1 : (t119 != 0) = false := bne_eq_false_iff_eq.mpr c9
          clear c9
          by_cases c10 : t122 = a0
          · rw [if_pos c10] at H
            have c10b0 : (t122 == a0) = true := beq_iff_eq.mpr c10
            have c10b1 : (t122 != a0) = false := bne_eq_false_iff_eq.mpr c10
            clear c10
            by_cases c11 : t123.toList = ([120] : List UInt8)
            · rw [if_pos c11] at H
              have c11b0 : (t123.toList == ([120] : List UInt8)) = true := beq_iff_eq.mpr c11
              have c11b1 : (t123.toList != ([120] : List UInt8)) = false := bne_eq_false_iff_eq.mpr c11
              clear c11
              by_cases c12 : t124 = 0
              · rw [if_pos c12] at H
                have c12b0 : (t124 == 0) = true := beq_iff_eq.mpr c12
                have c12b1 : (t124 != 0) = false := bne_eq_false_iff_eq.mpr c12
                clear c12
                replace H := Option.bind_eq_some_iff.mp H
                obtain ⟨t125, A130, H⟩ := H
                replace H : (some t125) = some r := H
                have A13 := Aside0.mk A130
                clear A130
                obtain rfl := Option.some.inj H
                go_enter Try.func3, Try.ntmps3
                go_wp2_with (first | ((with_reducible refine gate_callee (f := 9) rfl ?_); refine goesL_ (some 15) rfl rfl Try.func9 (by kernel_rfl) rfl #[.int .i64 a0, .int .i64 a1] rfl (by (try simp only [List.map_toArray, List.map_cons, List.map_nil]); first | done | rfl | (simp only [List.length_drop, List.length_take]; rfl) | (simp only [ByteArray.size_append, ByteArray.size_extract, Nat.sub_zero, Int.natCast_add]; rfl) | (simp [ByteArray.size_append]; done)) ?_; (with_reducible refine (octet_Put.calls k a0 a1 t118 t119 _ A3.out).mono ?_); rintro e w14 ⟨rfl, hb⟩; refine ⟨_, rfl, ?_⟩; have n0_ := Aside0.mk (below_step (by repeat (first | (with_reducible first | exact HB.out | apply below_alloc | apply pw_below_drewN | apply below_drew1) | exact HB.out)) hb); clear HB; have HB := n0_; clear n0_; (try clear hb); (try clear hb2); (try clear hk); (try clear hi)) | ((with_reducible refine gate_callee (f := 10) rfl ?_); refine goesL_ (some 21) rfl rfl Try.func10 (by kernel_rfl) rfl #[.int .i64 a0, .int .i64 a1] rfl (by (try simp only [List.map_toArray, List.map_cons, List.map_nil]); first | done | rfl | (simp only [List.length_drop, List.length_take]; rfl) | (simp only [ByteArray.size_append, ByteArray.size_extract, Nat.sub_zero, Int.natCast_add]; rfl) | (simp [ByteArray.size_append]; done)) ?_; (with_reducible refine (rillmeterref04_Put.calls k a0 a1 t120 true _ A4.out).mono ?_); rintro e w15 ⟨rfl, hb⟩; refine ⟨_, rfl, ?_⟩; have n0_ := Aside0.mk (below_step (by repeat (first | (with_reducible first | exact HB.out | apply below_alloc | apply pw_below_drewN | apply below_drew1) | exact HB.out)) hb); clear HB; have HB := n0_; clear n0_; (try clear hb); (try clear hb2); (try clear hk); (try clear hi)) | ((with_reducible refine gate_callee (f := 12) rfl ?_); refine goesL_ (some 39) rfl rfl Try.func12 (by kernel_rfl) rfl #[.string (t118 ++ (⟨#[120]⟩ : ByteArray)), .int .i64 a1] rfl (by (try simp only [List.map_toArray, List.map_cons, List.map_nil]); first | done | rfl | (simp only [List.length_drop, List.length_take]; rfl) | (simp only [ByteArray.size_append, ByteArray.size_extract, Nat.sub_zero, Int.natCast_add]; rfl) | (simp [ByteArray.size_append]; done)) ?_; (with_reducible refine (octet_Take.calls k (t118 ++ (⟨#[120]⟩ : ByteArray)) a1 t122 t123 t124 _ A7.out).mono ?_); rintro e w' ⟨rfl, ⟨nd, rfl⟩⟩; refine ⟨_, rfl, ?_⟩) | (go_at_call 11; (with_reducible refine (rillmeterlaw04_awake.calls k  t125 _ A13.out).mono ?_); rintro e w16 ⟨rfl, hb⟩; have n0_ := Aside0.mk (below_step (by repeat (first | (with_reducible first | exact HB.out | apply below_alloc | apply pw_below_drewN | apply below_drew1) | exact HB.out)) hb); clear HB; have HB := n0_; clear n0_; (try clear hb); (try clear hb2); (try clear hk); (try clear hi)))
                go_ret
                exact ⟨by first | rfl | (simp [errW_none, errW_some] <;> rfl) | (simp [*, errW_none, errW_some] <;> rfl), by repeat (first | (with_reducible first | exact HB.out | apply below_alloc | apply pw_below_drewN | apply below_drew1) | exact HB.out)⟩
              · rw [if_neg c12] at H
                have c12b0 : (t124 == 0) = false := beq_eq_false_iff_ne.mpr c12
                have c12b1 : (t124 != 0) = true := bne_iff_ne.mpr c12
                obtain rfl := Option.some.inj H
                go_enter Try.func3, Try.ntmps3
                go_wp2_with (first | ((with_reducible refine gate_callee (f := 9) rfl ?_); refine goesL_ (some 15) rfl rfl Try.func9 (by kernel_rfl) rfl #[.int .i64 a0, .int .i64 a1] rfl (by (try simp only [List.map_toArray, List.map_cons, List.map_nil]); first | done | rfl | (simp only [List.length_drop, List.length_take]; rfl) | (simp only [ByteArray.size_append, ByteArray.size_extract, Nat.sub_zero, Int.natCast_add]; rfl) | (simp [ByteArray.size_append]; done)) ?_; (with_reducible refine (octet_Put.calls k a0 a1 t118 t119 _ A3.out).mono ?_); rintro e w17 ⟨rfl, hb⟩; refine ⟨_, rfl, ?_⟩; have n0_ := Aside0.mk (below_step (by repeat (first | (with_reducible first | exact HB.out | apply below_alloc | apply pw_below_drewN | apply below_drew1) | exact HB.out)) hb); clear HB; have HB := n0_; clear n0_; (try clear hb); (try clear hb2); (try clear hk); (try clear hi)) | ((with_reducible refine gate_callee (f := 10) rfl ?_); refine goesL_ (some 21) rfl rfl Try.func10 (by kernel_rfl) rfl #[.int .i64 a0, .int .i64 a1] rfl (by (try simp only [List.map_toArray, List.map_cons, List.map_nil]); first | done | rfl | (simp only [List.length_drop, List.length_take]; rfl) | (simp only [ByteArray.size_append, ByteArray.size_extract, Nat.sub_zero, Int.natCast_add]; rfl) | (simp [ByteArray.size_append]; done)) ?_; (with_reducible refine (rillmeterref04_Put.calls k a0 a1 t120 true _ A4.out).mono ?_); rintro e w18 ⟨rfl, hb⟩; refine ⟨_, rfl, ?_⟩; have n0_ := Aside0.mk (below_step (by repeat (first | (with_reducible first | exact HB.out | apply below_alloc | apply pw_below_drewN | apply below_drew1) | exact HB.out)) hb); clear HB; have HB := n0_; clear n0_; (try clear hb); (try clear hb2); (try clear hk); (try clear hi)) | ((with_reducible refine gate_callee (f := 12) rfl ?_); refine goesL_ (some 39) rfl rfl Try.func12 (by kernel_rfl) rfl #[.string (t118 ++ (⟨#[120]⟩ : ByteArray)), .int .i64 a1] rfl (by (try simp only [List.map_toArray, List.map_cons, List.map_nil]); first | done | rfl | (simp only [List.length_drop, List.length_take]; rfl) | (simp only [ByteArray.size_append, ByteArray.size_extract, Nat.sub_zero, Int.natCast_add]; rfl) | (simp [ByteArray.size_append]; done)) ?_; (with_reducible refine (octet_Take.calls k (t118 ++ (⟨#[120]⟩ : ByteArray)) a1 t122 t123 t124 _ A7.out).mono ?_); rintro e w' ⟨rfl, ⟨nd, rfl⟩⟩; refine ⟨_, rfl, ?_⟩))
                go_ret
                exact ⟨by first | rfl | (simp [errW_none, errW_some] <;> rfl) | (simp [*, errW_none, errW_some] <;> rfl), by repeat (first | (with_reducible first | exact HB.out | apply below_alloc | apply pw_below_drewN | apply below_drew1) | exact HB.out)⟩
            · rw [if_neg c11] at H
              have c11b0 : (t123.toList == ([120] : List UInt8)) = false := beq_eq_false_iff_ne.mpr c11
              have c11b1 : (t123.toList != ([120] : List UInt8)) = true := bne_iff_ne.mpr c11
              obtain rfl := Option.some.inj H
              go_enter Try.func3, Try.ntmps3
              go_wp2_with (first | ((with_reducible refine gate_callee (f := 9) rfl ?_); refine goesL_ (some 15) rfl rfl Try.func9 (by kernel_rfl) rfl #[.int .i64 a0, .int .i64 a1] rfl (by (try simp only [List.map_toArray, List.map_cons, List.map_nil]); first | done | rfl | (simp only [List.length_drop, List.length_take]; rfl) | (simp only [ByteArray.size_append, ByteArray.size_extract, Nat.sub_zero, Int.natCast_add]; rfl) | (simp [ByteArray.size_append]; done)) ?_; (with_reducible refine (octet_Put.calls k a0 a1 t118 t119 _ A3.out).mono ?_); rintro e w19 ⟨rfl, hb⟩; refine ⟨_, rfl, ?_⟩; have n0_ := Aside0.mk (below_step (by repeat (first | (with_reducible first | exact HB.out | apply below_alloc | apply pw_below_drewN | apply below_drew1) | exact HB.out)) hb); clear HB; have HB := n0_; clear n0_; (try clear hb); (try clear hb2); (try clear hk); (try clear hi)) | ((with_reducible refine gate_callee (f := 10) rfl ?_); refine goesL_ (some 21) rfl rfl Try.func10 (by kernel_rfl) rfl #[.int .i64 a0, .int .i64 a1] rfl (by (try simp only [List.map_toArray, List.map_cons, List.map_nil]); first | done | rfl | (simp only [List.length_drop, List.length_take]; rfl) | (simp only [ByteArray.size_append, ByteArray.size_extract, Nat.sub_zero, Int.natCast_add]; rfl) | (simp [ByteArray.size_append]; done)) ?_; (with_reducible refine (rillmeterref04_Put.calls k a0 a1 t120 true _ A4.out).mono ?_); rintro e w20 ⟨rfl, hb⟩; refine ⟨_, rfl, ?_⟩; have n0_ := Aside0.mk (below_step (by repeat (first | (with_reducible first | exact HB.out | apply below_alloc | apply pw_below_drewN | apply below_drew1) | exact HB.out)) hb); clear HB; have HB := n0_; clear n0_; (try clear hb); (try clear hb2); (try clear hk); (try clear hi)) | ((with_reducible refine gate_callee (f := 12) rfl ?_); refine goesL_ (some 39) rfl rfl Try.func12 (by kernel_rfl) rfl #[.string (t118 ++ (⟨#[120]⟩ : ByteArray)), .int .i64 a1] rfl (by (try simp only [List.map_toArray, List.map_cons, List.map_nil]); first | done | rfl | (simp only [List.length_drop, List.length_take]; rfl) | (simp only [ByteArray.size_append, ByteArray.size_extract, Nat.sub_zero, Int.natCast_add]; rfl) | (simp [ByteArray.size_append]; done)) ?_; (with_reducible refine (octet_Take.calls k (t118 ++ (⟨#[120]⟩ : ByteArray)) a1 t122 t123 t124 _ A7.out).mono ?_); rintro e w' ⟨rfl, ⟨nd, rfl⟩⟩; refine ⟨_, rfl, ?_⟩))
              go_ret
              exact ⟨by first | rfl | (simp [errW_none, errW_some] <;> rfl) | (simp [*, errW_none, errW_some] <;> rfl), by repeat (first | (with_reducible first | exact HB.out | apply below_alloc | apply pw_below_drewN | apply below_drew1) | exact HB.out)⟩
          · rw [if_neg c10] at H
            have c10b0 : (t122 == a0) = false := beq_eq_false_iff_ne.mpr c10
            have c10b1 : (t122 != a0) = true := bne_iff_ne.mpr c10
            obtain rfl := Option.some.inj H
            go_enter Try.func3, Try.ntmps3
            go_wp2_with (first | ((with_reducible refine gate_callee (f := 9) rfl ?_); refine goesL_ (some 15) rfl rfl Try.func9 (by kernel_rfl) rfl #[.int .i64 a0, .int .i64 a1] rfl (by (try simp only [List.map_toArray, List.map_cons, List.map_nil]); first | done | rfl | (simp only [List.length_drop, List.length_take]; rfl) | (simp only [ByteArray.size_append, ByteArray.size_extract, Nat.sub_zero, Int.natCast_add]; rfl) | (simp [ByteArray.size_append]; done)) ?_; (with_reducible refine (octet_Put.calls k a0 a1 t118 t119 _ A3.out).mono ?_); rintro e w21 ⟨rfl, hb⟩; refine ⟨_, rfl, ?_⟩; have n0_ := Aside0.mk (below_step (by repeat (first | (with_reducible first | exact HB.out | apply below_alloc | apply pw_below_drewN | apply below_drew1) | exact HB.out)) hb); clear HB; have HB := n0_; clear n0_; (try clear hb); (try clear hb2); (try clear hk); (try clear hi)) | ((with_reducible refine gate_callee (f := 10) rfl ?_); refine goesL_ (some 21) rfl rfl Try.func10 (by kernel_rfl) rfl #[.int .i64 a0, .int .i64 a1] rfl (by (try simp only [List.map_toArray, List.map_cons, List.map_nil]); first | done | rfl | (simp only [List.length_drop, List.length_take]; rfl) | (simp only [ByteArray.size_append, ByteArray.size_extract, Nat.sub_zero, Int.natCast_add]; rfl) | (simp [ByteArray.size_append]; done)) ?_; (with_reducible refine (rillmeterref04_Put.calls k a0 a1 t120 true _ A4.out).mono ?_); rintro e w22 ⟨rfl, hb⟩; refine ⟨_, rfl, ?_⟩; have n0_ := Aside0.mk (below_step (by repeat (first | (with_reducible first | exact HB.out | apply below_alloc | apply pw_below_drewN | apply below_drew1) | exact HB.out)) hb); clear HB; have HB := n0_; clear n0_; (try clear hb); (try clear hb2); (try clear hk); (try clear hi)) | ((with_reducible refine gate_callee (f := 12) rfl ?_); refine goesL_ (some 39) rfl rfl Try.func12 (by kernel_rfl) rfl #[.string (t118 ++ (⟨#[120]⟩ : ByteArray)), .int .i64 a1] rfl (by (try simp only [List.map_toArray, List.map_cons, List.map_nil]); first | done | rfl | (simp only [List.length_drop, List.length_take]; rfl) | (simp only [ByteArray.size_append, ByteArray.size_extract, Nat.sub_zero, Int.natCast_add]; rfl) | (simp [ByteArray.size_append]; done)) ?_; (with_reducible refine (octet_Take.calls k (t118 ++ (⟨#[120]⟩ : ByteArray)) a1 t122 t123 t124 _ A7.out).mono ?_); rintro e w' ⟨rfl, ⟨nd, rfl⟩⟩; refine ⟨_, rfl, ?_⟩))
            go_ret
            exact ⟨by first | rfl | (simp [errW_none, errW_some] <;> rfl) | (simp [*, errW_none, errW_some] <;> rfl), by repeat (first | (with_reducible first | exact HB.out | apply below_alloc | apply pw_below_drewN | apply below_drew1) | exact HB.out)⟩
        · rw [if_neg c9] at H
          have c9b0 : (t119 == 0) = false := beq_eq_false_iff_ne.mpr c9
          have c9b1 : (t119 != 0) = true := bne_iff_ne.mpr c9
          obtain rfl := Option.some.inj H
          go_enter Try.func3, Try.ntmps3
          go_wp2_with (first | ((with_reducible refine gate_callee (f := 9) rfl ?_); refine goesL_ (some 15) rfl rfl Try.func9 (by kernel_rfl) rfl #[.int .i64 a0, .int .i64 a1] rfl (by (try simp only [List.map_toArray, List.map_cons, List.map_nil]); first | done | rfl | (simp only [List.length_drop, List.length_take]; rfl) | (simp only [ByteArray.size_append, ByteArray.size_extract, Nat.sub_zero, Int.natCast_add]; rfl) | (simp [ByteArray.size_append]; done)) ?_; (with_reducible refine (octet_Put.calls k a0 a1 t118 t119 _ A3.out).mono ?_); rintro e w23 ⟨rfl, hb⟩; refine ⟨_, rfl, ?_⟩; have n0_ := Aside0.mk (below_step (by repeat (first | (with_reducible first | exact HB.out | apply below_alloc | apply pw_below_drewN | apply below_drew1) | exact HB.out)) hb); clear HB; have HB := n0_; clear n0_; (try clear hb); (try clear hb2); (try clear hk); (try clear hi)) | ((with_reducible refine gate_callee (f := 10) rfl ?_); refine goesL_ (some 21) rfl rfl Try.func10 (by kernel_rfl) rfl #[.int .i64 a0, .int .i64 a1] rfl (by (try simp only [List.map_toArray, List.map_cons, List.map_nil]); first | done | rfl | (simp only [List.length_drop, List.length_take]; rfl) | (simp only [ByteArray.size_append, ByteArray.size_extract, Nat.sub_zero, Int.natCast_add]; rfl) | (simp [ByteArray.size_append]; done)) ?_; (with_reducible refine (rillmeterref04_Put.calls k a0 a1 t120 true _ A4.out).mono ?_); rintro e w24 ⟨rfl, hb⟩; refine ⟨_, rfl, ?_⟩; have n0_ := Aside0.mk (below_step (by repeat (first | (with_reducible first | exact HB.out | apply below_alloc | apply pw_below_drewN | apply below_drew1) | exact HB.out)) hb); clear HB; have HB := n0_; clear n0_; (try clear hb); (try clear hb2); (try clear hk); (try clear hi)) | ((with_reducible refine gate_callee (f := 12) rfl ?_); refine goesL_ (some 39) rfl rfl Try.func12 (by kernel_rfl) rfl #[.string (t118 ++ (⟨#[120]⟩ : ByteArray)), .int .i64 a1] rfl (by (try simp only [List.map_toArray, List.map_cons, List.map_nil]); first | done | rfl | (simp only [List.length_drop, List.length_take]; rfl) | (simp only [ByteArray.size_append, ByteArray.size_extract, Nat.sub_zero, Int.natCast_add]; rfl) | (simp [ByteArray.size_append]; done)) ?_; (with_reducible refine (octet_Take.calls k (t118 ++ (⟨#[120]⟩ : ByteArray)) a1 t122 t123 t124 _ A7.out).mono ?_); rintro e w' ⟨rfl, ⟨nd, rfl⟩⟩; refine ⟨_, rfl, ?_⟩))
          go_ret
          exact ⟨by first | rfl | (simp [errW_none, errW_some] <;> rfl) | (simp [*, errW_none, errW_some] <;> rfl), by repeat (first | (with_reducible first | exact HB.out | apply below_alloc | apply pw_below_drewN | apply below_drew1) | exact HB.out)⟩
      · rw [if_neg c8] at H
        have c8b0 : (t118.toList == t120.toList) = false := beq_eq_false_iff_ne.mpr c8
        have c8b1 : (t118.toList != t120.toList) = true := bne_iff_ne.mpr c8
        obtain rfl := Option.some.inj H
        go_enter Try.func3, Try.ntmps3
        go_wp2_with (first | ((with_reducible refine gate_callee (f := 9) rfl ?_); refine goesL_ (some 15) rfl rfl Try.func9 (by kernel_rfl) rfl #[.int .i64 a0, .int .i64 a1] rfl (by (try simp only [List.map_toArray, List.map_cons, List.map_nil]); first | done | rfl | (simp only [List.length_drop, List.length_take]; rfl) | (simp only [ByteArray.size_append, ByteArray.size_extract, Nat.sub_zero, Int.natCast_add]; rfl) | (simp [ByteArray.size_append]; done)) ?_; (with_reducible refine (octet_Put.calls k a0 a1 t118 t119 _ A3.out).mono ?_); rintro e w25 ⟨rfl, hb⟩; refine ⟨_, rfl, ?_⟩; have n0_ := Aside0.mk (below_step (by repeat (first | (with_reducible first | exact HB.out | apply below_alloc | apply pw_below_drewN | apply below_drew1) | exact HB.out)) hb); clear HB; have HB := n0_; clear n0_; (try clear hb); (try clear hb2); (try clear hk); (try clear hi)) | ((with_reducible refine gate_callee (f := 10) rfl ?_); refine goesL_ (some 21) rfl rfl Try.func10 (by kernel_rfl) rfl #[.int .i64 a0, .int .i64 a1] rfl (by (try simp only [List.map_toArray, List.map_cons, List.map_nil]); first | done | rfl | (simp only [List.length_drop, List.length_take]; rfl) | (simp only [ByteArray.size_append, ByteArray.size_extract, Nat.sub_zero, Int.natCast_add]; rfl) | (simp [ByteArray.size_append]; done)) ?_; (with_reducible refine (rillmeterref04_Put.calls k a0 a1 t120 true _ A4.out).mono ?_); rintro e w26 ⟨rfl, hb⟩; refine ⟨_, rfl, ?_⟩; have n0_ := Aside0.mk (below_step (by repeat (first | (with_reducible first | exact HB.out | apply below_alloc | apply pw_below_drewN | apply below_drew1) | exact HB.out)) hb); clear HB; have HB := n0_; clear n0_; (try clear hb); (try clear hb2); (try clear hk); (try clear hi)) | ((with_reducible refine gate_callee (f := 12) rfl ?_); refine goesL_ (some 39) rfl rfl Try.func12 (by kernel_rfl) rfl #[.string (t118 ++ (⟨#[120]⟩ : ByteArray)), .int .i64 a1] rfl (by (try simp only [List.map_toArray, List.map_cons, List.map_nil]); first | done | rfl | (simp only [List.length_drop, List.length_take]; rfl) | (simp only [ByteArray.size_append, ByteArray.size_extract, Nat.sub_zero, Int.natCast_add]; rfl) | (simp [ByteArray.size_append]; done)) ?_; (with_reducible refine (octet_Take.calls k (t118 ++ (⟨#[120]⟩ : ByteArray)) a1 t122 t123 t124 _ A7.out).mono ?_); rintro e w' ⟨rfl, ⟨nd, rfl⟩⟩; refine ⟨_, rfl, ?_⟩))
        go_ret
        exact ⟨by first | rfl | (simp [errW_none, errW_some] <;> rfl) | (simp [*, errW_none, errW_some] <;> rfl), by repeat (first | (with_reducible first | exact HB.out | apply below_alloc | apply pw_below_drewN | apply below_drew1) | exact HB.out)⟩
    · rw [if_neg c6] at H
      exact absurd H (by simp)
  · replace c5 := Bool.eq_false_iff.mpr c5
    subst c5
    have H1 : (if t118.toList = ([] : List UInt8) then (if t119 = 1 then ((rillmeterlaw04_awake.f k).bind fun t126 => (some t126)) else (some false)) else (some false)) = some r := by rw [if_neg (show ¬ (false = true) by decide)] at H; exact H
    clear H
    have H := H1
    clear H1
    by_cases c27 : t118.toList = ([] : List UInt8)
    · rw [if_pos c27] at H
      have c27b0 : (t118.toList == ([] : List UInt8)) = true := beq_iff_eq.mpr c27
      have c27b1 : (t118.toList != ([] : List UInt8)) = false := bne_eq_false_iff_eq.mpr c27
      clear c27
      by_cases c28 : t119 = 1
      · rw [if_pos c28] at H
        have c28b0 : (t119 == 1) = true := beq_iff_eq.mpr c28
        have c28b1 : (t119 != 1) = false := bne_eq_false_iff_eq.mpr c28
        clear c28
        replace H := Option.bind_eq_some_iff.mp H
        obtain ⟨t126, A290, H⟩ := H
        replace H : (some t126) = some r := H
        have A29 := Aside0.mk A290
        clear A290
        obtain rfl := Option.some.inj H
        go_enter Try.func3, Try.ntmps3
        go_wp2_with (first | ((with_reducible refine gate_callee (f := 9) rfl ?_); refine goesL_ (some 15) rfl rfl Try.func9 (by kernel_rfl) rfl #[.int .i64 a0, .int .i64 a1] rfl (by (try simp only [List.map_toArray, List.map_cons, List.map_nil]); first | done | rfl | (simp only [List.length_drop, List.length_take]; rfl) | (simp only [ByteArray.size_append, ByteArray.size_extract, Nat.sub_zero, Int.natCast_add]; rfl) | (simp [ByteArray.size_append]; done)) ?_; (with_reducible refine (octet_Put.calls k a0 a1 t118 t119 _ A3.out).mono ?_); rintro e w30 ⟨rfl, hb⟩; refine ⟨_, rfl, ?_⟩; have n0_ := Aside0.mk (below_step (by repeat (first | (with_reducible first | exact HB.out | apply below_alloc | apply pw_below_drewN | apply below_drew1) | exact HB.out)) hb); clear HB; have HB := n0_; clear n0_; (try clear hb); (try clear hb2); (try clear hk); (try clear hi)) | ((with_reducible refine gate_callee (f := 10) rfl ?_); refine goesL_ (some 21) rfl rfl Try.func10 (by kernel_rfl) rfl #[.int .i64 a0, .int .i64 a1] rfl (by (try simp only [List.map_toArray, List.map_cons, List.map_nil]); first | done | rfl | (simp only [List.length_drop, List.length_take]; rfl) | (simp only [ByteArray.size_append, ByteArray.size_extract, Nat.sub_zero, Int.natCast_add]; rfl) | (simp [ByteArray.size_append]; done)) ?_; (with_reducible refine (rillmeterref04_Put.calls k a0 a1 t120 false _ A4.out).mono ?_); rintro e w31 ⟨rfl, hb⟩; refine ⟨_, rfl, ?_⟩; have n0_ := Aside0.mk (below_step (by repeat (first | (with_reducible first | exact HB.out | apply below_alloc | apply pw_below_drewN | apply below_drew1) | exact HB.out)) hb); clear HB; have HB := n0_; clear n0_; (try clear hb); (try clear hb2); (try clear hk); (try clear hi)) | (go_at_call 11; (with_reducible refine (rillmeterlaw04_awake.calls k  t126 _ A29.out).mono ?_); rintro e w32 ⟨rfl, hb⟩; have n0_ := Aside0.mk (below_step (by repeat (first | (with_reducible first | exact HB.out | apply below_alloc | apply pw_below_drewN | apply below_drew1) | exact HB.out)) hb); clear HB; have HB := n0_; clear n0_; (try clear hb); (try clear hb2); (try clear hk); (try clear hi)))
        go_ret
        exact ⟨by first | rfl | (simp [errW_none, errW_some] <;> rfl) | (simp [*, errW_none, errW_some] <;> rfl), by repeat (first | (with_reducible first | exact HB.out | apply below_alloc | apply pw_below_drewN | apply below_drew1) | exact HB.out)⟩
      · rw [if_neg c28] at H
        have c28b0 : (t119 == 1) = false := beq_eq_false_iff_ne.mpr c28
        have c28b1 : (t119 != 1) = true := bne_iff_ne.mpr c28
        obtain rfl := Option.some.inj H
        go_enter Try.func3, Try.ntmps3
        go_wp2_with (first | ((with_reducible refine gate_callee (f := 9) rfl ?_); refine goesL_ (some 15) rfl rfl Try.func9 (by kernel_rfl) rfl #[.int .i64 a0, .int .i64 a1] rfl (by (try simp only [List.map_toArray, List.map_cons, List.map_nil]); first | done | rfl | (simp only [List.length_drop, List.length_take]; rfl) | (simp only [ByteArray.size_append, ByteArray.size_extract, Nat.sub_zero, Int.natCast_add]; rfl) | (simp [ByteArray.size_append]; done)) ?_; (with_reducible refine (octet_Put.calls k a0 a1 t118 t119 _ A3.out).mono ?_); rintro e w33 ⟨rfl, hb⟩; refine ⟨_, rfl, ?_⟩; have n0_ := Aside0.mk (below_step (by repeat (first | (with_reducible first | exact HB.out | apply below_alloc | apply pw_below_drewN | apply below_drew1) | exact HB.out)) hb); clear HB; have HB := n0_; clear n0_; (try clear hb); (try clear hb2); (try clear hk); (try clear hi)) | ((with_reducible refine gate_callee (f := 10) rfl ?_); refine goesL_ (some 21) rfl rfl Try.func10 (by kernel_rfl) rfl #[.int .i64 a0, .int .i64 a1] rfl (by (try simp only [List.map_toArray, List.map_cons, List.map_nil]); first | done | rfl | (simp only [List.length_drop, List.length_take]; rfl) | (simp only [ByteArray.size_append, ByteArray.size_extract, Nat.sub_zero, Int.natCast_add]; rfl) | (simp [ByteArray.size_append]; done)) ?_; (with_reducible refine (rillmeterref04_Put.calls k a0 a1 t120 false _ A4.out).mono ?_); rintro e w34 ⟨rfl, hb⟩; refine ⟨_, rfl, ?_⟩; have n0_ := Aside0.mk (below_step (by repeat (first | (with_reducible first | exact HB.out | apply below_alloc | apply pw_below_drewN | apply below_drew1) | exact HB.out)) hb); clear HB; have HB := n0_; clear n0_; (try clear hb); (try clear hb2); (try clear hk); (try clear hi)))
        go_ret
        exact ⟨by first | rfl | (simp [errW_none, errW_some] <;> rfl) | (simp [*, errW_none, errW_some] <;> rfl), by repeat (first | (with_reducible first | exact HB.out | apply below_alloc | apply pw_below_drewN | apply below_drew1) | exact HB.out)⟩
    · rw [if_neg c27] at H
      have c27b0 : (t118.toList == ([] : List UInt8)) = false := beq_eq_false_iff_ne.mpr c27
      have c27b1 : (t118.toList != ([] : List UInt8)) = true := bne_iff_ne.mpr c27
      obtain rfl := Option.some.inj H
      go_enter Try.func3, Try.ntmps3
      go_wp2_with (first | ((with_reducible refine gate_callee (f := 9) rfl ?_); refine goesL_ (some 15) rfl rfl Try.func9 (by kernel_rfl) rfl #[.int .i64 a0, .int .i64 a1] rfl (by (try simp only [List.map_toArray, List.map_cons, List.map_nil]); first | done | rfl | (simp only [List.length_drop, List.length_take]; rfl) | (simp only [ByteArray.size_append, ByteArray.size_extract, Nat.sub_zero, Int.natCast_add]; rfl) | (simp [ByteArray.size_append]; done)) ?_; (with_reducible refine (octet_Put.calls k a0 a1 t118 t119 _ A3.out).mono ?_); rintro e w35 ⟨rfl, hb⟩; refine ⟨_, rfl, ?_⟩; have n0_ := Aside0.mk (below_step (by repeat (first | (with_reducible first | exact HB.out | apply below_alloc | apply pw_below_drewN | apply below_drew1) | exact HB.out)) hb); clear HB; have HB := n0_; clear n0_; (try clear hb); (try clear hb2); (try clear hk); (try clear hi)) | ((with_reducible refine gate_callee (f := 10) rfl ?_); refine goesL_ (some 21) rfl rfl Try.func10 (by kernel_rfl) rfl #[.int .i64 a0, .int .i64 a1] rfl (by (try simp only [List.map_toArray, List.map_cons, List.map_nil]); first | done | rfl | (simp only [List.length_drop, List.length_take]; rfl) | (simp only [ByteArray.size_append, ByteArray.size_extract, Nat.sub_zero, Int.natCast_add]; rfl) | (simp [ByteArray.size_append]; done)) ?_; (with_reducible refine (rillmeterref04_Put.calls k a0 a1 t120 false _ A4.out).mono ?_); rintro e w36 ⟨rfl, hb⟩; refine ⟨_, rfl, ?_⟩; have n0_ := Aside0.mk (below_step (by repeat (first | (with_reducible first | exact HB.out | apply below_alloc | apply pw_below_drewN | apply below_drew1) | exact HB.out)) hb); clear HB; have HB := n0_; clear n0_; (try clear hb); (try clear hb2); (try clear hk); (try clear hi)))
      go_ret
      exact ⟨by first | rfl | (simp [errW_none, errW_some] <;> rfl) | (simp [*, errW_none, errW_some] <;> rfl), by repeat (first | (with_reducible first | exact HB.out | apply below_alloc | apply pw_below_drewN | apply below_drew1) | exact HB.out)⟩

/-- THE ONE PURE STATEMENT of rillmeterlaw04_OctetPuts: yours. -/
def rillmeterlaw04_OctetPuts.Pure : Prop := ∀ (a0 : Int) (a1 : Int), (Lit.int .i64 a0).wf = true → (Lit.int .i64 a1).wf = true → ∃ k, rillmeterlaw04_OctetPuts.f k a0 a1 = some true
theorem rillmeterlaw04_OctetPuts.walk (P : rillmeterlaw04_OctetPuts.Pure) (a0 : Int) (a1 : Int) (w : World) (w0 : (Lit.int .i64 a0).wf = true) (w1 : (Lit.int .i64 a1).wf = true) :
    Calls Try.prog 3 #[.int .i64 a0, .int .i64 a1] w fun e w' => e = .returned (.bool true) ∧ Below w.heap.size w w' := by
  obtain ⟨k, h⟩ := P a0 a1 w0 w1
  refine (rillmeterlaw04_OctetPuts.calls k a0 a1 true w h).mono ?_
  rintro e w' ⟨rfl, hd⟩
  exact ⟨rfl, hd⟩

end Go.Proofs.Ythkehnnnpohpcaa.Q
