-- made by a program of this session (wip/print-patch.py, over the kit's print)
import Derived.Test.YthkehnnnpohpcaaQx0
import Derived.Test.YthkehnnnpohpcaaQx6
import Derived.Test.YthkehnnnpohpcaaQx7
namespace Go.Proofs.Ythkehnnnpohpcaa.Q
open Go.RowKit Go.Proofs.YthkehnnnpohpcaaW.PrintWords Go.Proofs.YthkehnnnpohpcaaW.PrintLast Go.Proofs.YthkehnnnpohpcaaW.PrintMore
attribute [local go_sem] max2_int min2_int max_two min_two max_three min_three max_four min_four   -- for this text's walks alone
set_option linter.unusedVariables false
set_option linter.unusedSimpArgs false

/-! ### rillmeterref04_Sum: function 16 -/
def rillmeterref04_Sum.l0 : Nat → ByteArray → Int → Int → Option (Int)
  | 0, _, _, _ => none
  | k + 1, x0, x3, x4 => if x4 < (x0.size : Int) then (if 0 ≤ x4 then (if (wrap64 (x4 + 1)) < (x0.size : Int) then (if 0 ≤ (wrap64 (x4 + 1)) then (if (wrap64 (x3 + (wrap64 ((wrap64 (256 * (wrap64 (bt x0 x4)))) + (wrap64 (bt x0 (wrap64 (x4 + 1)))))))) > 65535 then (rillmeterref04_Sum.l0 k x0 (wrap64 ((wrap64 (x3 + (wrap64 ((wrap64 (256 * (wrap64 (bt x0 x4)))) + (wrap64 (bt x0 (wrap64 (x4 + 1)))))))) - 65535)) (wrap64 (x4 + 2))) else (rillmeterref04_Sum.l0 k x0 (wrap64 (x3 + (wrap64 ((wrap64 (256 * (wrap64 (bt x0 x4)))) + (wrap64 (bt x0 (wrap64 (x4 + 1)))))))) (wrap64 (x4 + 2)))) else (none)) else (if (wrap64 (x3 + (wrap64 (256 * (wrap64 (bt x0 x4)))))) > 65535 then (rillmeterref04_Sum.l0 k x0 (wrap64 ((wrap64 (x3 + (wrap64 (256 * (wrap64 (bt x0 x4)))))) - 65535)) (wrap64 (x4 + 2))) else (rillmeterref04_Sum.l0 k x0 (wrap64 (x3 + (wrap64 (256 * (wrap64 (bt x0 x4)))))) (wrap64 (x4 + 2))))) else (none)) else (some (wrap64 (65535 - x3)))
def rillmeterref04_Sum.f (k : Nat) (a0 : ByteArray) : Option (Int) := rillmeterref04_Sum.l0 k a0 0 0
theorem rillmeterref04_Sum.mono_l : ∀ k, (∀ y0 y1 y2, LeO (rillmeterref04_Sum.l0 k y0 y1 y2) (rillmeterref04_Sum.l0 (k + 1) y0 y1 y2))
  | 0 => fun _ _ _ r h => by simp [rillmeterref04_Sum.l0] at h
  | k + 1 => by
    have ih0 := rillmeterref04_Sum.mono_l k
    · intro y0 y1 y2
      unfold rillmeterref04_Sum.l0
      repeat' first
      | (with_reducible exact ih0 _ _ _)
      | (with_reducible exact LeO.refl _)
      | (with_reducible exact LeO.none _)
      | (with_reducible refine LeO.ite ?_ ?_)
      | (with_reducible refine LeO.bind ?_ (fun _ => ?_))
      | exact ih0 _ _ _
      | exact LeO.none _
      | refine LeO.ite ?_ ?_
      | refine LeO.bind ?_ (fun _ => ?_)
theorem rillmeterref04_Sum.mono : ∀ a0 k, LeO (rillmeterref04_Sum.f k a0) (rillmeterref04_Sum.f (k + 1) a0) := by
  intro a0 k
  have ih0 := rillmeterref04_Sum.mono_l k
  unfold rillmeterref04_Sum.f
  repeat' first
      | (with_reducible exact ih0 _ _ _)
      | (with_reducible exact LeO.refl _)
      | (with_reducible exact LeO.none _)
      | (with_reducible refine LeO.ite ?_ ?_)
      | (with_reducible refine LeO.bind ?_ (fun _ => ?_))
      | exact ih0 _ _ _
      | exact LeO.none _
      | refine LeO.ite ?_ ?_
      | refine LeO.bind ?_ (fun _ => ?_)
set_option maxHeartbeats 8000000 in
set_option maxRecDepth 100000 in
theorem rillmeterref04_Sum.calls (k : Nat) (a0 : ByteArray) (r : Int) (w : World) (h : rillmeterref04_Sum.f k a0 = some r) :
    Calls Try.prog 16 #[.string a0] w fun e w' => e = .returned (.int .i64 r) ∧ Drawn0 w w' := by
  have H : (rillmeterref04_Sum.l0 k a0 0 0) = some r := h
  clear h
  have H' := Aside0.mk H
  clear H
  go_enter Try.func16, Try.ntmps16
  go_wp2
  go_loopg [3, 4] k (fun kq v3 v4 w' => ∃ (x3_1 : Int) (x4_1 : Int), v3 = .int .i64 x3_1 ∧ v4 = .int .i64 x4_1 ∧ Aside0 (rillmeterref04_Sum.l0 kq a0 x3_1 x4_1 = some r) ∧ Aside0 (kq ≤ k) ∧ Drawn0 w w')
  case atStart => exact ⟨(0), (0), (by first | rfl | (simp; done) | (simp [*]; done)), (by first | rfl | (simp; done) | (simp [*]; done)), H', ⟨Nat.le_refl _⟩, by repeat (first | exact Drawn0.refl _ | apply Drawn0.step)⟩
  case round =>
    clear H'
    try clear c1
    obtain ⟨x3_1, x4_1, rfl, rfl, HA, HK1, ⟨m1, rfl⟩⟩ := hrel
    cases gk with
    | zero => exact absurd HA.out (by simp [rillmeterref04_Sum.l0])
    | succ k1 =>
      have H := HA.out
      clear HA
      simp only [rillmeterref04_Sum.l0] at H
      by_cases c2 : x4_1 < (a0.size : Int)
      · rw [if_pos c2] at H
        have c2b0 : decide (x4_1 < (a0.size : Int)) = true := decide_eq_true c2
        clear c2
        by_cases c3 : 0 ≤ x4_1
        · rw [if_pos c3] at H
          have c3b0 : decide (0 ≤ x4_1) = true := decide_eq_true c3
          clear c3
          by_cases c5 : (wrap64 (x4_1 + 1)) < (a0.size : Int)
          · rw [if_pos c5] at H
            have c5b0 : decide ((wrap64 (x4_1 + 1)) < (a0.size : Int)) = true := decide_eq_true c5
            clear c5
            obtain ⟨ji6, hji6⟩ : ∃ j_ : Int, (wrap64 (x4_1 + 1)) = j_ := ⟨_, rfl⟩
            replace H : (if 0 ≤ (ji6) then (if (wrap64 (x3_1 + (wrap64 ((wrap64 (256 * (wrap64 (bt a0 x4_1)))) + (wrap64 (bt a0 (ji6))))))) > 65535 then (rillmeterref04_Sum.l0 k1 a0 (wrap64 ((wrap64 (x3_1 + (wrap64 ((wrap64 (256 * (wrap64 (bt a0 x4_1)))) + (wrap64 (bt a0 (ji6))))))) - 65535)) (wrap64 (x4_1 + 2))) else (rillmeterref04_Sum.l0 k1 a0 (wrap64 (x3_1 + (wrap64 ((wrap64 (256 * (wrap64 (bt a0 x4_1)))) + (wrap64 (bt a0 (ji6))))))) (wrap64 (x4_1 + 2)))) else (none)) = some r := by first | (rw [hji6] at H; exact H) | (simp only [hji6] at H ⊢; exact H)
            (try rw [hji6] at c5b0)
            have hji6w : (IntKind.i64.wrap (x4_1 + 1)) = ji6 := (i64_w _).trans hji6
            by_cases c7 : 0 ≤ (ji6)
            · rw [if_pos c7] at H
              have c7b0 : decide (0 ≤ (ji6)) = true := decide_eq_true c7
              clear c7
              by_cases c9 : (wrap64 (x3_1 + (wrap64 ((wrap64 (256 * (wrap64 (bt a0 x4_1)))) + (wrap64 (bt a0 (ji6))))))) > 65535
              · rw [if_pos c9] at H
                have c9b0 : decide (65535 < (wrap64 (x3_1 + (wrap64 ((wrap64 (256 * (wrap64 (bt a0 x4_1)))) + (wrap64 (bt a0 (ji6)))))))) = true := decide_eq_true c9
                clear c9
                have H' := Aside0.mk H
                clear H
                have p4 : 0 ≤ (x4_1 : Int) := of_decide_eq_true (by first | (with_reducible assumption) | assumption)
                have q4 : x4_1 < (a0.size : Int) := of_decide_eq_true (by first | (with_reducible assumption) | assumption)
                have hx4 := bt_at a0 x4_1
                replace p4 := eq_true p4
                replace q4 := eq_true q4
                have p8 : 0 ≤ ((ji6) : Int) := of_decide_eq_true (by first | (with_reducible assumption) | assumption)
                have q8 : (ji6) < (a0.size : Int) := of_decide_eq_true (by first | (with_reducible assumption) | assumption)
                have hx8 := bt_at a0 (ji6)
                replace p8 := eq_true p8
                replace q8 := eq_true q8
                go_wp2
                go_roundg k1
                case measure => have := HK1.out; omega
                case rel => exact ⟨(wrap64 ((wrap64 (x3_1 + (wrap64 ((wrap64 (256 * (wrap64 (bt a0 x4_1)))) + (wrap64 (bt a0 (ji6))))))) - 65535)), (wrap64 (x4_1 + 2)), (by first | rfl | (simp; done) | (simp only [← hji6] <;> (first | rfl | simp)) | (simp [*]; done)), (by first | rfl | (simp; done) | (simp [*]; done)), H', ⟨by have := HK1.out; omega⟩, by repeat (first | exact Drawn0.refl _ | apply Drawn0.step)⟩
              · rw [if_neg c9] at H
                have c9b0 : decide (65535 < (wrap64 (x3_1 + (wrap64 ((wrap64 (256 * (wrap64 (bt a0 x4_1)))) + (wrap64 (bt a0 (ji6)))))))) = false := decide_eq_false c9
                clear c9
                have H' := Aside0.mk H
                clear H
                have p4 : 0 ≤ (x4_1 : Int) := of_decide_eq_true (by first | (with_reducible assumption) | assumption)
                have q4 : x4_1 < (a0.size : Int) := of_decide_eq_true (by first | (with_reducible assumption) | assumption)
                have hx4 := bt_at a0 x4_1
                replace p4 := eq_true p4
                replace q4 := eq_true q4
                have p8 : 0 ≤ ((ji6) : Int) := of_decide_eq_true (by first | (with_reducible assumption) | assumption)
                have q8 : (ji6) < (a0.size : Int) := of_decide_eq_true (by first | (with_reducible assumption) | assumption)
                have hx8 := bt_at a0 (ji6)
                replace p8 := eq_true p8
                replace q8 := eq_true q8
                go_wp2
                go_roundg k1
                case measure => have := HK1.out; omega
                case rel => exact ⟨(wrap64 (x3_1 + (wrap64 ((wrap64 (256 * (wrap64 (bt a0 x4_1)))) + (wrap64 (bt a0 (ji6))))))), (wrap64 (x4_1 + 2)), (by first | rfl | (simp; done) | (simp only [← hji6] <;> (first | rfl | simp)) | (simp [*]; done)), (by first | rfl | (simp; done) | (simp [*]; done)), H', ⟨by have := HK1.out; omega⟩, by repeat (first | exact Drawn0.refl _ | apply Drawn0.step)⟩
            · rw [if_neg c7] at H
              exact absurd H (by simp)
          · rw [if_neg c5] at H
            have c5b0 : decide ((wrap64 (x4_1 + 1)) < (a0.size : Int)) = false := decide_eq_false c5
            clear c5
            by_cases c10 : (wrap64 (x3_1 + (wrap64 (256 * (wrap64 (bt a0 x4_1)))))) > 65535
            · rw [if_pos c10] at H
              have c10b0 : decide (65535 < (wrap64 (x3_1 + (wrap64 (256 * (wrap64 (bt a0 x4_1))))))) = true := decide_eq_true c10
              clear c10
              have H' := Aside0.mk H
              clear H
              have p4 : 0 ≤ (x4_1 : Int) := of_decide_eq_true (by first | (with_reducible assumption) | assumption)
              have q4 : x4_1 < (a0.size : Int) := of_decide_eq_true (by first | (with_reducible assumption) | assumption)
              have hx4 := bt_at a0 x4_1
              replace p4 := eq_true p4
              replace q4 := eq_true q4
              go_wp2
              go_roundg k1
              case measure => have := HK1.out; omega
              case rel => exact ⟨(wrap64 ((wrap64 (x3_1 + (wrap64 (256 * (wrap64 (bt a0 x4_1)))))) - 65535)), (wrap64 (x4_1 + 2)), (by first | rfl | (simp; done) | (simp [*]; done)), (by first | rfl | (simp; done) | (simp [*]; done)), H', ⟨by have := HK1.out; omega⟩, by repeat (first | exact Drawn0.refl _ | apply Drawn0.step)⟩
            · rw [if_neg c10] at H
              have c10b0 : decide (65535 < (wrap64 (x3_1 + (wrap64 (256 * (wrap64 (bt a0 x4_1))))))) = false := decide_eq_false c10
              clear c10
              have H' := Aside0.mk H
              clear H
              have p4 : 0 ≤ (x4_1 : Int) := of_decide_eq_true (by first | (with_reducible assumption) | assumption)
              have q4 : x4_1 < (a0.size : Int) := of_decide_eq_true (by first | (with_reducible assumption) | assumption)
              have hx4 := bt_at a0 x4_1
              replace p4 := eq_true p4
              replace q4 := eq_true q4
              go_wp2
              go_roundg k1
              case measure => have := HK1.out; omega
              case rel => exact ⟨(wrap64 (x3_1 + (wrap64 (256 * (wrap64 (bt a0 x4_1)))))), (wrap64 (x4_1 + 2)), (by first | rfl | (simp; done) | (simp [*]; done)), (by first | rfl | (simp; done) | (simp [*]; done)), H', ⟨by have := HK1.out; omega⟩, by repeat (first | exact Drawn0.refl _ | apply Drawn0.step)⟩
        · rw [if_neg c3] at H
          exact absurd H (by simp)
      · rw [if_neg c2] at H
        have c2b0 : decide (x4_1 < (a0.size : Int)) = false := decide_eq_false c2
        clear c2
        obtain rfl := Option.some.inj H
        go_wp2
        go_ret
        exact ⟨by first | rfl | (simp; done) | (simp [*]; done), by repeat (first | exact Drawn0.refl _ | apply Drawn0.step)⟩

/-! ### rillmeterlaw04_OctetSums: function 5 -/
def rillmeterlaw04_OctetSums.f (k : Nat) (a0 : ByteArray) : Option (Bool) := if (a0.size : Int) > 4096 then ((rillmeterlaw04_awake.f k).bind fun t140 => (some t140)) else ((octet_Sum.f k a0).bind fun t141 => ((rillmeterref04_Sum.f k a0).bind fun t142 => (if t141 = t142 then ((rillmeterlaw04_awake.f k).bind fun t143 => (some t143)) else (some false))))
theorem rillmeterlaw04_OctetSums.mono : ∀ a0 k, LeO (rillmeterlaw04_OctetSums.f k a0) (rillmeterlaw04_OctetSums.f (k + 1) a0) := by
  intro a0 k
  unfold rillmeterlaw04_OctetSums.f
  repeat' first
      | (with_reducible exact octet_Sum.mono _ _)
      | (with_reducible exact rillmeterlaw04_awake.mono _)
      | (with_reducible exact rillmeterref04_Sum.mono _ _)
      | (with_reducible exact LeO.refl _)
      | (with_reducible exact LeO.none _)
      | (with_reducible refine LeO.ite ?_ ?_)
      | (with_reducible refine LeO.bind ?_ (fun _ => ?_))
      | exact octet_Sum.mono _ _
      | exact rillmeterlaw04_awake.mono _
      | exact rillmeterref04_Sum.mono _ _
      | exact LeO.none _
      | refine LeO.ite ?_ ?_
      | refine LeO.bind ?_ (fun _ => ?_)
set_option maxHeartbeats 8000000 in
set_option maxRecDepth 100000 in
theorem rillmeterlaw04_OctetSums.calls (k : Nat) (a0 : ByteArray) (r : Bool) (w : World) (h : rillmeterlaw04_OctetSums.f k a0 = some r) :
    Calls Try.prog 5 #[.string a0] w fun e w' => e = .returned (.bool r) ∧ Below w.heap.size w w' := by
  have HB := Aside0.mk (Below.refl w.heap.size w)
  have H : (if (a0.size : Int) > 4096 then ((rillmeterlaw04_awake.f k).bind fun t140 => (some t140)) else ((octet_Sum.f k a0).bind fun t141 => ((rillmeterref04_Sum.f k a0).bind fun t142 => (if t141 = t142 then ((rillmeterlaw04_awake.f k).bind fun t143 => (some t143)) else (some false))))) = some r := h
  clear h
  by_cases c2 : (a0.size : Int) > 4096
  · rw [if_pos c2] at H
    have c2b0 : decide (4096 < (a0.size : Int)) = true := decide_eq_true c2
    have c2b1 : decide (4096 < a0.size) = true := decide_eq_true (by omega)
    clear c2
    replace H := Option.bind_eq_some_iff.mp H
    obtain ⟨t140, A30, H⟩ := H
    replace H : (some t140) = some r := H
    have A3 := Aside0.mk A30
    clear A30
    obtain rfl := Option.some.inj H
    go_enter Try.func5, Try.ntmps5
    go_wp2_with (first | ((with_reducible refine gate_callee (f := 11) rfl ?_); refine goesL_ (some 6) rfl rfl Try.func11 (by kernel_rfl) rfl #[] rfl (by (try simp only [List.map_toArray, List.map_cons, List.map_nil]); first | done | rfl | (simp only [List.length_drop, List.length_take]; rfl) | (simp only [ByteArray.size_append, ByteArray.size_extract, Nat.sub_zero, Int.natCast_add]; rfl) | (simp [ByteArray.size_append]; done)) ?_; (with_reducible refine (rillmeterlaw04_awake.calls k  t140 _ A3.out).mono ?_); rintro e w4 ⟨rfl, hb⟩; refine ⟨_, rfl, ?_⟩; have n0_ := Aside0.mk (below_step (by repeat (first | (with_reducible first | exact HB.out | apply below_alloc | apply pw_below_drewN | apply below_drew1) | exact HB.out)) hb); clear HB; have HB := n0_; clear n0_; (try clear hb); (try clear hb2); (try clear hk); (try clear hi)))
    go_ret
    exact ⟨by first | rfl | (simp [errW_none, errW_some] <;> rfl) | (simp [*, errW_none, errW_some] <;> rfl), by repeat (first | (with_reducible first | exact HB.out | apply below_alloc | apply pw_below_drewN | apply below_drew1) | exact HB.out)⟩
  · rw [if_neg c2] at H
    have c2b0 : decide (4096 < (a0.size : Int)) = false := decide_eq_false c2
    have c2b1 : decide (4096 < a0.size) = false := decide_eq_false (by omega)
    clear c2
    replace H := Option.bind_eq_some_iff.mp H
    obtain ⟨t141, A50, H⟩ := H
    replace H : ((rillmeterref04_Sum.f k a0).bind fun t142 => (if t141 = t142 then ((rillmeterlaw04_awake.f k).bind fun t143 => (some t143)) else (some false))) = some r := H
    have A5 := Aside0.mk A50
    clear A50
    replace H := Option.bind_eq_some_iff.mp H
    obtain ⟨t142, A60, H⟩ := H
    replace H : (if t141 = t142 then ((rillmeterlaw04_awake.f k).bind fun t143 => (some t143)) else (some false)) = some r := H
    have A6 := Aside0.mk A60
    clear A60
    by_cases c7 : t141 = t142
    · rw [if_pos c7] at H
      have c7b0 : (t141 == t142) = true := beq_iff_eq.mpr c7
      have c7b1 : (t141 != t142) = false := bne_eq_false_iff_eq.mpr c7
      clear c7
      replace H := Option.bind_eq_some_iff.mp H
      obtain ⟨t143, A80, H⟩ := H
      replace H : (some t143) = some r := H
      have A8 := Aside0.mk A80
      clear A80
      obtain rfl := Option.some.inj H
      go_enter Try.func5, Try.ntmps5
      go_wp2_with (first | ((with_reducible refine gate_callee (f := 15) rfl ?_); refine goesL_ (some 8) rfl rfl Try.func15 (by kernel_rfl) rfl #[.string a0] rfl (by (try simp only [List.map_toArray, List.map_cons, List.map_nil]); first | done | rfl | (simp only [List.length_drop, List.length_take]; rfl) | (simp only [ByteArray.size_append, ByteArray.size_extract, Nat.sub_zero, Int.natCast_add]; rfl) | (simp [ByteArray.size_append]; done)) ?_; (with_reducible refine (octet_Sum.calls k a0 t141 _ A5.out).mono ?_); rintro e w' ⟨rfl, ⟨nd, rfl⟩⟩; refine ⟨_, rfl, ?_⟩) | ((with_reducible refine gate_callee (f := 16) rfl ?_); refine goesL_ (some 10) rfl rfl Try.func16 (by kernel_rfl) rfl #[.string a0] rfl (by (try simp only [List.map_toArray, List.map_cons, List.map_nil]); first | done | rfl | (simp only [List.length_drop, List.length_take]; rfl) | (simp only [ByteArray.size_append, ByteArray.size_extract, Nat.sub_zero, Int.natCast_add]; rfl) | (simp [ByteArray.size_append]; done)) ?_; (with_reducible refine (rillmeterref04_Sum.calls k a0 t142 _ A6.out).mono ?_); rintro e w' ⟨rfl, ⟨nd, rfl⟩⟩; refine ⟨_, rfl, ?_⟩) | (go_at_call 11; (with_reducible refine (rillmeterlaw04_awake.calls k  t143 _ A8.out).mono ?_); rintro e w9 ⟨rfl, hb⟩; have n0_ := Aside0.mk (below_step (by repeat (first | (with_reducible first | exact HB.out | apply below_alloc | apply pw_below_drewN | apply below_drew1) | exact HB.out)) hb); clear HB; have HB := n0_; clear n0_; (try clear hb); (try clear hb2); (try clear hk); (try clear hi)))
      go_ret
      exact ⟨by first | rfl | (simp [errW_none, errW_some] <;> rfl) | (simp [*, errW_none, errW_some] <;> rfl), by repeat (first | (with_reducible first | exact HB.out | apply below_alloc | apply pw_below_drewN | apply below_drew1) | exact HB.out)⟩
    · rw [if_neg c7] at H
      have c7b0 : (t141 == t142) = false := beq_eq_false_iff_ne.mpr c7
      have c7b1 : (t141 != t142) = true := bne_iff_ne.mpr c7
      obtain rfl := Option.some.inj H
      go_enter Try.func5, Try.ntmps5
      go_wp2_with (first | ((with_reducible refine gate_callee (f := 15) rfl ?_); refine goesL_ (some 8) rfl rfl Try.func15 (by kernel_rfl) rfl #[.string a0] rfl (by (try simp only [List.map_toArray, List.map_cons, List.map_nil]); first | done | rfl | (simp only [List.length_drop, List.length_take]; rfl) | (simp only [ByteArray.size_append, ByteArray.size_extract, Nat.sub_zero, Int.natCast_add]; rfl) | (simp [ByteArray.size_append]; done)) ?_; (with_reducible refine (octet_Sum.calls k a0 t141 _ A5.out).mono ?_); rintro e w' ⟨rfl, ⟨nd, rfl⟩⟩; refine ⟨_, rfl, ?_⟩) | ((with_reducible refine gate_callee (f := 16) rfl ?_); refine goesL_ (some 10) rfl rfl Try.func16 (by kernel_rfl) rfl #[.string a0] rfl (by (try simp only [List.map_toArray, List.map_cons, List.map_nil]); first | done | rfl | (simp only [List.length_drop, List.length_take]; rfl) | (simp only [ByteArray.size_append, ByteArray.size_extract, Nat.sub_zero, Int.natCast_add]; rfl) | (simp [ByteArray.size_append]; done)) ?_; (with_reducible refine (rillmeterref04_Sum.calls k a0 t142 _ A6.out).mono ?_); rintro e w' ⟨rfl, ⟨nd, rfl⟩⟩; refine ⟨_, rfl, ?_⟩))
      go_ret
      exact ⟨by first | rfl | (simp [errW_none, errW_some] <;> rfl) | (simp [*, errW_none, errW_some] <;> rfl), by repeat (first | (with_reducible first | exact HB.out | apply below_alloc | apply pw_below_drewN | apply below_drew1) | exact HB.out)⟩

/-- THE ONE PURE STATEMENT of rillmeterlaw04_OctetSums: yours. -/
def rillmeterlaw04_OctetSums.Pure : Prop := ∀ (a0 : ByteArray), a0.size ≤ 140737488351232 → ∃ k, rillmeterlaw04_OctetSums.f k a0 = some true
theorem rillmeterlaw04_OctetSums.walk (P : rillmeterlaw04_OctetSums.Pure) (a0 : ByteArray) (w : World) (w0 : a0.size ≤ 140737488351232) :
    Calls Try.prog 5 #[.string a0] w fun e w' => e = .returned (.bool true) ∧ Below w.heap.size w w' := by
  obtain ⟨k, h⟩ := P a0 w0
  refine (rillmeterlaw04_OctetSums.calls k a0 true w h).mono ?_
  rintro e w' ⟨rfl, hd⟩
  exact ⟨rfl, hd⟩

end Go.Proofs.Ythkehnnnpohpcaa.Q
