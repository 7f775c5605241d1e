-- made by a program of this session (wip/print-patch.py, over the kit's print)
import Derived.Test.YthkehnnnpohpcaaQx0
import Derived.Test.YthkehnnnpohpcaaQx4
import Derived.Test.YthkehnnnpohpcaaQx5
import Derived.Test.YthkehnnnpohpcaaQx7
import Derived.Test.YthkehnnnpohpcaaQx9
namespace Go.Proofs.Ythkehnnnpohpcaa.Q
open Go.RowKit Go.Proofs.YthkehnnnpohpcaaW.PrintWords Go.Proofs.YthkehnnnpohpcaaW.PrintLast Go.Proofs.YthkehnnnpohpcaaW.PrintMore
attribute [local go_sem] max2_int min2_int max_two min_two max_three min_three max_four min_four   -- for this text's walks alone
set_option linter.unusedVariables false
set_option linter.unusedSimpArgs false

/-! ### rillmeterlaw04_OctetTakes: function 4 -/
mutual
def rillmeterlaw04_OctetTakes.j0 : Nat → Int → Int → ByteArray → Int → ByteArray → ByteArray → Bool → Option (Bool)
  | 0, _, _, _, _, _, _, _ => none
  | k + 1, x1, x5, x6, x7, x8, x9, x115 => if x115 = true then (some false) else (if x1 < 1 then (rillmeterlaw04_OctetTakes.j1 k x5 x6 x7 x8 x9 true) else (rillmeterlaw04_OctetTakes.j1 k x5 x6 x7 x8 x9 (decide (x1 > 7))))
def rillmeterlaw04_OctetTakes.j1 : Nat → Int → ByteArray → Int → ByteArray → ByteArray → Bool → Option (Bool)
  | 0, _, _, _, _, _, _ => none
  | k + 1, x5, x6, x7, x8, x9, x121 => if x121 = true then (if x5 = 0 then (if x6.toList = ([] : List UInt8) then (if x7 = 1 then ((rillmeterlaw04_awake.f k).bind fun t137 => (some t137)) else (some false)) else (some false)) else (some false)) else ((rillmeterref04_Number.f k x8).bind fun t138 => (if x5 = t138 then (if x6.toList = x9.toList then (if x7 = 0 then ((rillmeterlaw04_awake.f k).bind fun t139 => (some t139)) else (some false)) else (some false)) else (some false)))
end
def rillmeterlaw04_OctetTakes.f (k : Nat) (a0 : ByteArray) (a1 : Int) : Option (Bool) := if (a0.size : Int) > 4096 then ((rillmeterlaw04_awake.f k).bind fun t127 => (some t127)) else ((octet_Take.f k a0 a1).bind fun bt128 => ((octet_Cut.f a0 a1).bind fun bt131 => (if a1 < 0 then (if bt128.1 = 0 then (if bt128.2.1.toList = ([] : List UInt8) then (if bt128.2.2 = 1 then (if bt131.1.toList = ([] : List UInt8) then (if bt131.2.1.toList = ([] : List UInt8) then (if bt131.2.2 = 1 then ((rillmeterlaw04_awake.f k).bind fun t134 => (some t134)) else (some false)) else (some false)) else (some false)) else (some false)) else (some false)) else (some false)) else (if a1 > (a0.size : Int) then (if bt128.1 = 0 then (if bt128.2.1.toList = ([] : List UInt8) then (if bt128.2.2 = 2 then (if ((decide (a1 > 7)) == (bt128.2.2 == 1)) = true then (if bt131.1.toList = ([] : List UInt8) then (if bt131.2.1.toList = ([] : List UInt8) then (if bt131.2.2 = 2 then ((rillmeterlaw04_awake.f k).bind fun t135 => (some t135)) else (some false)) else (some false)) else (some false)) else (some false)) else (if a1 > 7 then (if bt128.2.2 = 1 then (if ((decide (a1 > 7)) == (bt128.2.2 == 1)) = true then (if bt131.1.toList = ([] : List UInt8) then (if bt131.2.1.toList = ([] : List UInt8) then (if bt131.2.2 = 2 then ((rillmeterlaw04_awake.f k).bind fun t136 => (some t136)) else (some false)) else (some false)) else (some false)) else (some false)) else (some false)) else (some false))) else (some false)) else (some false)) else (if 0 ≤ a1 then (if a1 ≤ (a0.size : Int) then (if bt131.1.toList = (a0.extract 0 (a1 : Int).toNat).toList then (if bt131.2.1.toList = (a0.extract (a1 : Int).toNat a0.size).toList then (rillmeterlaw04_OctetTakes.j0 k a1 bt128.1 bt128.2.1 bt128.2.2 bt131.1 bt131.2.1 (bt131.2.2 != 0)) else (rillmeterlaw04_OctetTakes.j0 k a1 bt128.1 bt128.2.1 bt128.2.2 bt131.1 bt131.2.1 true)) else (rillmeterlaw04_OctetTakes.j0 k a1 bt128.1 bt128.2.1 bt128.2.2 bt131.1 bt131.2.1 true)) else (none)) else (none))))))
theorem rillmeterlaw04_OctetTakes.mono_l : ∀ k, (∀ y0 y1 y2 y3 y4 y5 y6, LeO (rillmeterlaw04_OctetTakes.j0 k y0 y1 y2 y3 y4 y5 y6) (rillmeterlaw04_OctetTakes.j0 (k + 1) y0 y1 y2 y3 y4 y5 y6)) ∧ (∀ y0 y1 y2 y3 y4 y5, LeO (rillmeterlaw04_OctetTakes.j1 k y0 y1 y2 y3 y4 y5) (rillmeterlaw04_OctetTakes.j1 (k + 1) y0 y1 y2 y3 y4 y5))
  | 0 => ⟨fun _ _ _ _ _ _ _ r h => by simp [rillmeterlaw04_OctetTakes.j0] at h, fun _ _ _ _ _ _ r h => by simp [rillmeterlaw04_OctetTakes.j1] at h⟩
  | k + 1 => by
    obtain ⟨ih0, ih1⟩ := rillmeterlaw04_OctetTakes.mono_l k
    refine ⟨?_, ?_⟩
    · intro y0 y1 y2 y3 y4 y5 y6
      unfold rillmeterlaw04_OctetTakes.j0
      repeat' first
      | (with_reducible exact ih0 _ _ _ _ _ _ _)
      | (with_reducible exact ih1 _ _ _ _ _ _)
      | (with_reducible exact octet_Take.mono _ _ _)
      | (with_reducible exact rillmeterlaw04_awake.mono _)
      | (with_reducible exact rillmeterref04_Number.mono _ _)
      | (with_reducible exact LeO.refl _)
      | (with_reducible exact LeO.none _)
      | (with_reducible refine LeO.ite ?_ ?_)
      | (with_reducible refine LeO.bind ?_ (fun _ => ?_))
      | exact ih0 _ _ _ _ _ _ _
      | exact ih1 _ _ _ _ _ _
      | exact octet_Take.mono _ _ _
      | exact rillmeterlaw04_awake.mono _
      | exact rillmeterref04_Number.mono _ _
      | exact LeO.none _
      | refine LeO.ite ?_ ?_
      | refine LeO.bind ?_ (fun _ => ?_)
    · intro y0 y1 y2 y3 y4 y5
      unfold rillmeterlaw04_OctetTakes.j1
      repeat' first
      | (with_reducible exact ih0 _ _ _ _ _ _ _)
      | (with_reducible exact ih1 _ _ _ _ _ _)
      | (with_reducible exact octet_Take.mono _ _ _)
      | (with_reducible exact rillmeterlaw04_awake.mono _)
      | (with_reducible exact rillmeterref04_Number.mono _ _)
      | (with_reducible exact LeO.refl _)
      | (with_reducible exact LeO.none _)
      | (with_reducible refine LeO.ite ?_ ?_)
      | (with_reducible refine LeO.bind ?_ (fun _ => ?_))
      | exact ih0 _ _ _ _ _ _ _
      | exact ih1 _ _ _ _ _ _
      | exact octet_Take.mono _ _ _
      | exact rillmeterlaw04_awake.mono _
      | exact rillmeterref04_Number.mono _ _
      | exact LeO.none _
      | refine LeO.ite ?_ ?_
      | refine LeO.bind ?_ (fun _ => ?_)
theorem rillmeterlaw04_OctetTakes.mono : ∀ a0 a1 k, LeO (rillmeterlaw04_OctetTakes.f k a0 a1) (rillmeterlaw04_OctetTakes.f (k + 1) a0 a1) := by
  intro a0 a1 k
  obtain ⟨ih0, ih1⟩ := rillmeterlaw04_OctetTakes.mono_l k
  unfold rillmeterlaw04_OctetTakes.f
  repeat' first
      | (with_reducible exact ih0 _ _ _ _ _ _ _)
      | (with_reducible exact ih1 _ _ _ _ _ _)
      | (with_reducible exact octet_Take.mono _ _ _)
      | (with_reducible exact rillmeterlaw04_awake.mono _)
      | (with_reducible exact rillmeterref04_Number.mono _ _)
      | (with_reducible exact LeO.refl _)
      | (with_reducible exact LeO.none _)
      | (with_reducible refine LeO.ite ?_ ?_)
      | (with_reducible refine LeO.bind ?_ (fun _ => ?_))
      | exact ih0 _ _ _ _ _ _ _
      | exact ih1 _ _ _ _ _ _
      | exact octet_Take.mono _ _ _
      | exact rillmeterlaw04_awake.mono _
      | exact rillmeterref04_Number.mono _ _
      | exact LeO.none _
      | refine LeO.ite ?_ ?_
      | refine LeO.bind ?_ (fun _ => ?_)
set_option maxHeartbeats 8000000 in
set_option maxRecDepth 100000 in
theorem rillmeterlaw04_OctetTakes.calls (k : Nat) (a0 : ByteArray) (a1 : Int) (r : Bool) (w : World) (h : rillmeterlaw04_OctetTakes.f k a0 a1 = some r) :
    Calls Try.prog 4 #[.string a0, .int .i64 a1] w fun e w' => e = .returned (.bool r) ∧ Below w.heap.size w w' := by
  have HB := Aside0.mk (Below.refl w.heap.size w)
  have H : (if (a0.size : Int) > 4096 then ((rillmeterlaw04_awake.f k).bind fun t127 => (some t127)) else ((octet_Take.f k a0 a1).bind fun bt128 => ((octet_Cut.f a0 a1).bind fun bt131 => (if a1 < 0 then (if bt128.1 = 0 then (if bt128.2.1.toList = ([] : List UInt8) then (if bt128.2.2 = 1 then (if bt131.1.toList = ([] : List UInt8) then (if bt131.2.1.toList = ([] : List UInt8) then (if bt131.2.2 = 1 then ((rillmeterlaw04_awake.f k).bind fun t134 => (some t134)) else (some false)) else (some false)) else (some false)) else (some false)) else (some false)) else (some false)) else (if a1 > (a0.size : Int) then (if bt128.1 = 0 then (if bt128.2.1.toList = ([] : List UInt8) then (if bt128.2.2 = 2 then (if ((decide (a1 > 7)) == (bt128.2.2 == 1)) = true then (if bt131.1.toList = ([] : List UInt8) then (if bt131.2.1.toList = ([] : List UInt8) then (if bt131.2.2 = 2 then ((rillmeterlaw04_awake.f k).bind fun t135 => (some t135)) else (some false)) else (some false)) else (some false)) else (some false)) else (if a1 > 7 then (if bt128.2.2 = 1 then (if ((decide (a1 > 7)) == (bt128.2.2 == 1)) = true then (if bt131.1.toList = ([] : List UInt8) then (if bt131.2.1.toList = ([] : List UInt8) then (if bt131.2.2 = 2 then ((rillmeterlaw04_awake.f k).bind fun t136 => (some t136)) else (some false)) else (some false)) else (some false)) else (some false)) else (some false)) else (some false))) else (some false)) else (some false)) else (if 0 ≤ a1 then (if a1 ≤ (a0.size : Int) then (if bt131.1.toList = (a0.extract 0 (a1 : Int).toNat).toList then (if bt131.2.1.toList = (a0.extract (a1 : Int).toNat a0.size).toList then (rillmeterlaw04_OctetTakes.j0 k a1 bt128.1 bt128.2.1 bt128.2.2 bt131.1 bt131.2.1 (bt131.2.2 != 0)) else (rillmeterlaw04_OctetTakes.j0 k a1 bt128.1 bt128.2.1 bt128.2.2 bt131.1 bt131.2.1 true)) else (rillmeterlaw04_OctetTakes.j0 k a1 bt128.1 bt128.2.1 bt128.2.2 bt131.1 bt131.2.1 true)) else (none)) else (none))))))) = some r := h
  clear h
  by_cases c3 : (a0.size : Int) > 4096
  · rw [if_pos c3] at H
    have c3b0 : decide (4096 < (a0.size : Int)) = true := decide_eq_true c3
    have c3b1 : decide (4096 < a0.size) = true := decide_eq_true (by omega)
    clear c3
    replace H := Option.bind_eq_some_iff.mp H
    obtain ⟨t127, A40, H⟩ := H
    replace H : (some t127) = some r := H
    have A4 := Aside0.mk A40
    clear A40
    obtain rfl := Option.some.inj H
    go_enter Try.func4, Try.ntmps4
    go_wp2_with (first | ((with_reducible refine gate_callee (f := 11) rfl ?_); refine goesL_ (some 14) rfl rfl Try.func11 (by kernel_rfl) rfl #[] rfl (by (try simp only [List.map_toArray, List.map_cons, List.map_nil]); first | done | rfl | (simp only [List.length_drop, List.length_take]; rfl) | (simp only [ByteArray.size_append, ByteArray.size_extract, Nat.sub_zero, Int.natCast_add]; rfl) | (simp [ByteArray.size_append]; done)) ?_; (with_reducible refine (rillmeterlaw04_awake.calls k  t127 _ A4.out).mono ?_); rintro e w5 ⟨rfl, hb⟩; refine ⟨_, rfl, ?_⟩; have n0_ := Aside0.mk (below_step (by repeat (first | (with_reducible first | exact HB.out | apply below_alloc | apply pw_below_drewN | apply below_drew1) | exact HB.out)) hb); clear HB; have HB := n0_; clear n0_; (try clear hb); (try clear hb2); (try clear hk); (try clear hi)))
    go_ret
    exact ⟨by first | rfl | (simp [errW_none, errW_some] <;> rfl) | (simp [*, errW_none, errW_some] <;> rfl), by repeat (first | (with_reducible first | exact HB.out | apply below_alloc | apply pw_below_drewN | apply below_drew1) | exact HB.out)⟩
  · rw [if_neg c3] at H
    have c3b0 : decide (4096 < (a0.size : Int)) = false := decide_eq_false c3
    have c3b1 : decide (4096 < a0.size) = false := decide_eq_false (by omega)
    clear c3
    replace H := Option.bind_eq_some_iff.mp H
    obtain ⟨⟨t128, t129, t130⟩, A60, H⟩ := H
    replace H : ((octet_Cut.f a0 a1).bind fun bt131 => (if a1 < 0 then (if t128 = 0 then (if t129.toList = ([] : List UInt8) then (if t130 = 1 then (if bt131.1.toList = ([] : List UInt8) then (if bt131.2.1.toList = ([] : List UInt8) then (if bt131.2.2 = 1 then ((rillmeterlaw04_awake.f k).bind fun t134 => (some t134)) else (some false)) else (some false)) else (some false)) else (some false)) else (some false)) else (some false)) else (if a1 > (a0.size : Int) then (if t128 = 0 then (if t129.toList = ([] : List UInt8) then (if t130 = 2 then (if ((decide (a1 > 7)) == (t130 == 1)) = true then (if bt131.1.toList = ([] : List UInt8) then (if bt131.2.1.toList = ([] : List UInt8) then (if bt131.2.2 = 2 then ((rillmeterlaw04_awake.f k).bind fun t135 => (some t135)) else (some false)) else (some false)) else (some false)) else (some false)) else (if a1 > 7 then (if t130 = 1 then (if ((decide (a1 > 7)) == (t130 == 1)) = true then (if bt131.1.toList = ([] : List UInt8) then (if bt131.2.1.toList = ([] : List UInt8) then (if bt131.2.2 = 2 then ((rillmeterlaw04_awake.f k).bind fun t136 => (some t136)) else (some false)) else (some false)) else (some false)) else (some false)) else (some false)) else (some false))) else (some false)) else (some false)) else (if 0 ≤ a1 then (if a1 ≤ (a0.size : Int) then (if bt131.1.toList = (a0.extract 0 (a1 : Int).toNat).toList then (if bt131.2.1.toList = (a0.extract (a1 : Int).toNat a0.size).toList then (rillmeterlaw04_OctetTakes.j0 k a1 t128 t129 t130 bt131.1 bt131.2.1 (bt131.2.2 != 0)) else (rillmeterlaw04_OctetTakes.j0 k a1 t128 t129 t130 bt131.1 bt131.2.1 true)) else (rillmeterlaw04_OctetTakes.j0 k a1 t128 t129 t130 bt131.1 bt131.2.1 true)) else (none)) else (none))))) = some r := H
    have A6 := Aside0.mk A60
    clear A60
    replace H := Option.bind_eq_some_iff.mp H
    obtain ⟨⟨t131, t132, t133⟩, A70, H⟩ := H
    replace H : (if a1 < 0 then (if t128 = 0 then (if t129.toList = ([] : List UInt8) then (if t130 = 1 then (if t131.toList = ([] : List UInt8) then (if t132.toList = ([] : List UInt8) then (if t133 = 1 then ((rillmeterlaw04_awake.f k).bind fun t134 => (some t134)) else (some false)) else (some false)) else (some false)) else (some false)) else (some false)) else (some false)) else (if a1 > (a0.size : Int) then (if t128 = 0 then (if t129.toList = ([] : List UInt8) then (if t130 = 2 then (if ((decide (a1 > 7)) == (t130 == 1)) = true then (if t131.toList = ([] : List UInt8) then (if t132.toList = ([] : List UInt8) then (if t133 = 2 then ((rillmeterlaw04_awake.f k).bind fun t135 => (some t135)) else (some false)) else (some false)) else (some false)) else (some false)) else (if a1 > 7 then (if t130 = 1 then (if ((decide (a1 > 7)) == (t130 == 1)) = true then (if t131.toList = ([] : List UInt8) then (if t132.toList = ([] : List UInt8) then (if t133 = 2 then ((rillmeterlaw04_awake.f k).bind fun t136 => (some t136)) else (some false)) else (some false)) else (some false)) else (some false)) else (some false)) else (some false))) else (some false)) else (some false)) else (if 0 ≤ a1 then (if a1 ≤ (a0.size : Int) then (if t131.toList = (a0.extract 0 (a1 : Int).toNat).toList then (if t132.toList = (a0.extract (a1 : Int).toNat a0.size).toList then (rillmeterlaw04_OctetTakes.j0 k a1 t128 t129 t130 t131 t132 (t133 != 0)) else (rillmeterlaw04_OctetTakes.j0 k a1 t128 t129 t130 t131 t132 true)) else (rillmeterlaw04_OctetTakes.j0 k a1 t128 t129 t130 t131 t132 true)) else (none)) else (none)))) = some r := H
    have A7 := Aside0.mk A70
    clear A70
    by_cases c8 : a1 < 0
    · rw [if_pos c8] at H
      have c8b0 : decide (a1 < 0) = true := decide_eq_true c8
      clear c8
      by_cases c9 : t128 = 0
      · rw [if_pos c9] at H
        have c9b0 : (t128 == 0) = true := beq_iff_eq.mpr c9
        have c9b1 : (t128 != 0) = false := bne_eq_false_iff_eq.mpr c9
        clear c9
        by_cases c10 : t129.toList = ([] : List UInt8)
        · rw [if_pos c10] at H
          have c10b0 : (t129.toList == ([] : List UInt8)) = true := beq_iff_eq.mpr c10
          have c10b1 : (t129.toList != ([] : List UInt8)) = false := bne_eq_false_iff_eq.mpr c10
          clear c10
          by_cases c11 : t130 = 1
          · rw [if_pos c11] at H
            have c11b0 : (t130 == 1) = true := beq_iff_eq.mpr c11
            have c11b1 : (t130 != 1) = false := bne_eq_false_iff_eq.mpr c11
            clear c11
            by_cases c12 : t131.toList = ([] : List UInt8)
            · rw [if_pos c12] at H
              have c12b0 : (t131.toList == ([] : List UInt8)) = true := beq_iff_eq.mpr c12
              have c12b1 : (t131.toList != ([] : List UInt8)) = false := bne_eq_false_iff_eq.mpr c12
              clear c12
              by_cases c13 : t132.toList = ([] : List UInt8)
              · rw [if_pos c13] at H
                have c13b0 : (t132.toList == ([] : List UInt8)) = true := beq_iff_eq.mpr c13
                have c13b1 : (t132.toList != ([] : List UInt8)) = false := bne_eq_false_iff_eq.mpr c13
                clear c13
                by_cases c14 : t133 = 1
                · rw [if_pos c14] at H
                  have c14b0 : (t133 == 1) = true := beq_iff_eq.mpr c14
                  have c14b1 : (t133 != 1) = false := bne_eq_false_iff_eq.mpr c14
                  clear c14
                  replace H := Option.bind_eq_some_iff.mp H
                  obtain ⟨t134, A150, H⟩ := H
                  replace H : (some t134) = some r := H
                  have A15 := Aside0.mk A150
                  clear A150
                  obtain rfl := Option.some.inj H
                  go_enter Try.func4, Try.ntmps4
                  go_wp2_with (first | ((with_reducible refine gate_callee (f := 12) rfl ?_); refine goesL_ (some 18) rfl rfl Try.func12 (by kernel_rfl) rfl #[.string a0, .int .i64 a1] rfl (by (try simp only [List.map_toArray, List.map_cons, List.map_nil]); first | done | rfl | (simp only [List.length_drop, List.length_take]; rfl) | (simp only [ByteArray.size_append, ByteArray.size_extract, Nat.sub_zero, Int.natCast_add]; rfl) | (simp [ByteArray.size_append]; done)) ?_; (with_reducible refine (octet_Take.calls k a0 a1 t128 t129 t130 _ A6.out).mono ?_); rintro e w' ⟨rfl, ⟨nd, rfl⟩⟩; refine ⟨_, rfl, ?_⟩) | ((with_reducible refine gate_callee (f := 13) rfl ?_); refine goesL_ (some 25) rfl rfl Try.func13 (by kernel_rfl) rfl #[.string a0, .int .i64 a1] rfl (by (try simp only [List.map_toArray, List.map_cons, List.map_nil]); first | done | rfl | (simp only [List.length_drop, List.length_take]; rfl) | (simp only [ByteArray.size_append, ByteArray.size_extract, Nat.sub_zero, Int.natCast_add]; rfl) | (simp [ByteArray.size_append]; done)) ?_; (with_reducible refine (octet_Cut.calls a0 a1 t131 t132 t133 _ A7.out).mono ?_); rintro e w' ⟨rfl, ⟨nd, rfl⟩⟩; refine ⟨_, rfl, ?_⟩) | (go_at_call 11; (with_reducible refine (rillmeterlaw04_awake.calls k  t134 _ A15.out).mono ?_); rintro e w16 ⟨rfl, hb⟩; have n0_ := Aside0.mk (below_step (by repeat (first | (with_reducible first | exact HB.out | apply below_alloc | apply pw_below_drewN | apply below_drew1) | exact HB.out)) hb); clear HB; have HB := n0_; clear n0_; (try clear hb); (try clear hb2); (try clear hk); (try clear hi)))
                  go_ret
                  exact ⟨by first | rfl | (simp [errW_none, errW_some] <;> rfl) | (simp [*, errW_none, errW_some] <;> rfl), by repeat (first | (with_reducible first | exact HB.out | apply below_alloc | apply pw_below_drewN | apply below_drew1) | exact HB.out)⟩
                · rw [if_neg c14] at H
                  have c14b0 : (t133 == 1) = false := beq_eq_false_iff_ne.mpr c14
                  have c14b1 : (t133 != 1) = true := bne_iff_ne.mpr c14
                  obtain rfl := Option.some.inj H
                  go_enter Try.func4, Try.ntmps4
                  go_wp2_with (first | ((with_reducible refine gate_callee (f := 12) rfl ?_); refine goesL_ (some 18) rfl rfl Try.func12 (by kernel_rfl) rfl #[.string a0, .int .i64 a1] rfl (by (try simp only [List.map_toArray, List.map_cons, List.map_nil]); first | done | rfl | (simp only [List.length_drop, List.length_take]; rfl) | (simp only [ByteArray.size_append, ByteArray.size_extract, Nat.sub_zero, Int.natCast_add]; rfl) | (simp [ByteArray.size_append]; done)) ?_; (with_reducible refine (octet_Take.calls k a0 a1 t128 t129 t130 _ A6.out).mono ?_); rintro e w' ⟨rfl, ⟨nd, rfl⟩⟩; refine ⟨_, rfl, ?_⟩) | ((with_reducible refine gate_callee (f := 13) rfl ?_); refine goesL_ (some 25) rfl rfl Try.func13 (by kernel_rfl) rfl #[.string a0, .int .i64 a1] rfl (by (try simp only [List.map_toArray, List.map_cons, List.map_nil]); first | done | rfl | (simp only [List.length_drop, List.length_take]; rfl) | (simp only [ByteArray.size_append, ByteArray.size_extract, Nat.sub_zero, Int.natCast_add]; rfl) | (simp [ByteArray.size_append]; done)) ?_; (with_reducible refine (octet_Cut.calls a0 a1 t131 t132 t133 _ A7.out).mono ?_); rintro e w' ⟨rfl, ⟨nd, rfl⟩⟩; refine ⟨_, rfl, ?_⟩))
                  go_ret
                  exact ⟨by first | rfl | (simp [errW_none, errW_some] <;> rfl) | (simp [*, errW_none, errW_some] <;> rfl), by repeat (first | (with_reducible first | exact HB.out | apply below_alloc | apply pw_below_drewN | apply below_drew1) | exact HB.out)⟩
              · rw [if_neg c13] at H
                have c13b0 : (t132.toList == ([] : List UInt8)) = false := beq_eq_false_iff_ne.mpr c13
                have c13b1 : (t132.toList != ([] : List UInt8)) = true := bne_iff_ne.mpr c13
                obtain rfl := Option.some.inj H
                go_enter Try.func4, Try.ntmps4
                go_wp2_with (first | ((with_reducible refine gate_callee (f := 12) rfl ?_); refine goesL_ (some 18) rfl rfl Try.func12 (by kernel_rfl) rfl #[.string a0, .int .i64 a1] rfl (by (try simp only [List.map_toArray, List.map_cons, List.map_nil]); first | done | rfl | (simp only [List.length_drop, List.length_take]; rfl) | (simp only [ByteArray.size_append, ByteArray.size_extract, Nat.sub_zero, Int.natCast_add]; rfl) | (simp [ByteArray.size_append]; done)) ?_; (with_reducible refine (octet_Take.calls k a0 a1 t128 t129 t130 _ A6.out).mono ?_); rintro e w' ⟨rfl, ⟨nd, rfl⟩⟩; refine ⟨_, rfl, ?_⟩) | ((with_reducible refine gate_callee (f := 13) rfl ?_); refine goesL_ (some 25) rfl rfl Try.func13 (by kernel_rfl) rfl #[.string a0, .int .i64 a1] rfl (by (try simp only [List.map_toArray, List.map_cons, List.map_nil]); first | done | rfl | (simp only [List.length_drop, List.length_take]; rfl) | (simp only [ByteArray.size_append, ByteArray.size_extract, Nat.sub_zero, Int.natCast_add]; rfl) | (simp [ByteArray.size_append]; done)) ?_; (with_reducible refine (octet_Cut.calls a0 a1 t131 t132 t133 _ A7.out).mono ?_); rintro e w' ⟨rfl, ⟨nd, rfl⟩⟩; refine ⟨_, rfl, ?_⟩))
                go_ret
                exact ⟨by first | rfl | (simp [errW_none, errW_some] <;> rfl) | (simp [*, errW_none, errW_some] <;> rfl), by repeat (first | (with_reducible first | exact HB.out | apply below_alloc | apply pw_below_drewN | apply below_drew1) | exact HB.out)⟩
            · rw [if_neg c12] at H
              have c12b0 : (t131.toList == ([] : List UInt8)) = false := beq_eq_false_iff_ne.mpr c12
              have c12b1 : (t131.toList != ([] : List UInt8)) = true := bne_iff_ne.mpr c12
              obtain rfl := Option.some.inj H
              go_enter Try.func4, Try.ntmps4
              go_wp2_with (first | ((with_reducible refine gate_callee (f := 12) rfl ?_); refine goesL_ (some 18) rfl rfl Try.func12 (by kernel_rfl) rfl #[.string a0, .int .i64 a1] rfl (by (try simp only [List.map_toArray, List.map_cons, List.map_nil]); first | done | rfl | (simp only [List.length_drop, List.length_take]; rfl) | (simp only [ByteArray.size_append, ByteArray.size_extract, Nat.sub_zero, Int.natCast_add]; rfl) | (simp [ByteArray.size_append]; done)) ?_; (with_reducible refine (octet_Take.calls k a0 a1 t128 t129 t130 _ A6.out).mono ?_); rintro e w' ⟨rfl, ⟨nd, rfl⟩⟩; refine ⟨_, rfl, ?_⟩) | ((with_reducible refine gate_callee (f := 13) rfl ?_); refine goesL_ (some 25) rfl rfl Try.func13 (by kernel_rfl) rfl #[.string a0, .int .i64 a1] rfl (by (try simp only [List.map_toArray, List.map_cons, List.map_nil]); first | done | rfl | (simp only [List.length_drop, List.length_take]; rfl) | (simp only [ByteArray.size_append, ByteArray.size_extract, Nat.sub_zero, Int.natCast_add]; rfl) | (simp [ByteArray.size_append]; done)) ?_; (with_reducible refine (octet_Cut.calls a0 a1 t131 t132 t133 _ A7.out).mono ?_); rintro e w' ⟨rfl, ⟨nd, rfl⟩⟩; refine ⟨_, rfl, ?_⟩))
              go_ret
              exact ⟨by first | rfl | (simp [errW_none, errW_some] <;> rfl) | (simp [*, errW_none, errW_some] <;> rfl), by repeat (first | (with_reducible first | exact HB.out | apply below_alloc | apply pw_below_drewN | apply below_drew1) | exact HB.out)⟩
          · rw [if_neg c11] at H
            have c11b0 : (t130 == 1) = false := beq_eq_false_iff_ne.mpr c11
            have c11b1 : (t130 != 1) = true := bne_iff_ne.mpr c11
            obtain rfl := Option.some.inj H
            go_enter Try.func4, Try.ntmps4
            go_wp2_with (first | ((with_reducible refine gate_callee (f := 12) rfl ?_); refine goesL_ (some 18) rfl rfl Try.func12 (by kernel_rfl) rfl #[.string a0, .int .i64 a1] rfl (by (try simp only [List.map_toArray, List.map_cons, List.map_nil]); first | done | rfl | (simp only [List.length_drop, List.length_take]; rfl) | (simp only [ByteArray.size_append, ByteArray.size_extract, Nat.sub_zero, Int.natCast_add]; rfl) | (simp [ByteArray.size_append]; done)) ?_; (with_reducible refine (octet_Take.calls k a0 a1 t128 t129 t130 _ A6.out).mono ?_); rintro e w' ⟨rfl, ⟨nd, rfl⟩⟩; refine ⟨_, rfl, ?_⟩) | ((with_reducible refine gate_callee (f := 13) rfl ?_); refine goesL_ (some 25) rfl rfl Try.func13 (by kernel_rfl) rfl #[.string a0, .int .i64 a1] rfl (by (try simp only [List.map_toArray, List.map_cons, List.map_nil]); first | done | rfl | (simp only [List.length_drop, List.length_take]; rfl) | (simp only [ByteArray.size_append, ByteArray.size_extract, Nat.sub_zero, Int.natCast_add]; rfl) | (simp [ByteArray.size_append]; done)) ?_; (with_reducible refine (octet_Cut.calls a0 a1 t131 t132 t133 _ A7.out).mono ?_); rintro e w' ⟨rfl, ⟨nd, rfl⟩⟩; refine ⟨_, rfl, ?_⟩))
            go_ret
            exact ⟨by first | rfl | (simp [errW_none, errW_some] <;> rfl) | (simp [*, errW_none, errW_some] <;> rfl), by repeat (first | (with_reducible first | exact HB.out | apply below_alloc | apply pw_below_drewN | apply below_drew1) | exact HB.out)⟩
        · rw [if_neg c10] at H
          have c10b0 : (t129.toList == ([] : List UInt8)) = false := beq_eq_false_iff_ne.mpr c10
          have c10b1 : (t129.toList != ([] : List UInt8)) = true := bne_iff_ne.mpr c10
          obtain rfl := Option.some.inj H
          go_enter Try.func4, Try.ntmps4
          go_wp2_with (first | ((with_reducible refine gate_callee (f := 12) rfl ?_); refine goesL_ (some 18) rfl rfl Try.func12 (by kernel_rfl) rfl #[.string a0, .int .i64 a1] rfl (by (try simp only [List.map_toArray, List.map_cons, List.map_nil]); first | done | rfl | (simp only [List.length_drop, List.length_take]; rfl) | (simp only [ByteArray.size_append, ByteArray.size_extract, Nat.sub_zero, Int.natCast_add]; rfl) | (simp [ByteArray.size_append]; done)) ?_; (with_reducible refine (octet_Take.calls k a0 a1 t128 t129 t130 _ A6.out).mono ?_); rintro e w' ⟨rfl, ⟨nd, rfl⟩⟩; refine ⟨_, rfl, ?_⟩) | ((with_reducible refine gate_callee (f := 13) rfl ?_); refine goesL_ (some 25) rfl rfl Try.func13 (by kernel_rfl) rfl #[.string a0, .int .i64 a1] rfl (by (try simp only [List.map_toArray, List.map_cons, List.map_nil]); first | done | rfl | (simp only [List.length_drop, List.length_take]; rfl) | (simp only [ByteArray.size_append, ByteArray.size_extract, Nat.sub_zero, Int.natCast_add]; rfl) | (simp [ByteArray.size_append]; done)) ?_; (with_reducible refine (octet_Cut.calls a0 a1 t131 t132 t133 _ A7.out).mono ?_); rintro e w' ⟨rfl, ⟨nd, rfl⟩⟩; refine ⟨_, rfl, ?_⟩))
          go_ret
          exact ⟨by first | rfl | (simp [errW_none, errW_some] <;> rfl) | (simp [*, errW_none, errW_some] <;> rfl), by repeat (first | (with_reducible first | exact HB.out | apply below_alloc | apply pw_below_drewN | apply below_drew1) | exact HB.out)⟩
      · rw [if_neg c9] at H
        have c9b0 : (t128 == 0) = false := beq_eq_false_iff_ne.mpr c9
        have c9b1 : (t128 != 0) = true := bne_iff_ne.mpr c9
        obtain rfl := Option.some.inj H
        go_enter Try.func4, Try.ntmps4
        go_wp2_with (first | ((with_reducible refine gate_callee (f := 12) rfl ?_); refine goesL_ (some 18) rfl rfl Try.func12 (by kernel_rfl) rfl #[.string a0, .int .i64 a1] rfl (by (try simp only [List.map_toArray, List.map_cons, List.map_nil]); first | done | rfl | (simp only [List.length_drop, List.length_take]; rfl) | (simp only [ByteArray.size_append, ByteArray.size_extract, Nat.sub_zero, Int.natCast_add]; rfl) | (simp [ByteArray.size_append]; done)) ?_; (with_reducible refine (octet_Take.calls k a0 a1 t128 t129 t130 _ A6.out).mono ?_); rintro e w' ⟨rfl, ⟨nd, rfl⟩⟩; refine ⟨_, rfl, ?_⟩) | ((with_reducible refine gate_callee (f := 13) rfl ?_); refine goesL_ (some 25) rfl rfl Try.func13 (by kernel_rfl) rfl #[.string a0, .int .i64 a1] rfl (by (try simp only [List.map_toArray, List.map_cons, List.map_nil]); first | done | rfl | (simp only [List.length_drop, List.length_take]; rfl) | (simp only [ByteArray.size_append, ByteArray.size_extract, Nat.sub_zero, Int.natCast_add]; rfl) | (simp [ByteArray.size_append]; done)) ?_; (with_reducible refine (octet_Cut.calls a0 a1 t131 t132 t133 _ A7.out).mono ?_); rintro e w' ⟨rfl, ⟨nd, rfl⟩⟩; refine ⟨_, rfl, ?_⟩))
        go_ret
        exact ⟨by first | rfl | (simp [errW_none, errW_some] <;> rfl) | (simp [*, errW_none, errW_some] <;> rfl), by repeat (first | (with_reducible first | exact HB.out | apply below_alloc | apply pw_below_drewN | apply below_drew1) | exact HB.out)⟩
    · rw [if_neg c8] at H
      have c8b0 : decide (a1 < 0) = false := decide_eq_false c8
      clear c8
      by_cases c17 : a1 > (a0.size : Int)
      · rw [if_pos c17] at H
        have c17b0 : decide ((a0.size : Int) < a1) = true := decide_eq_true c17
        clear c17
        by_cases c18 : t128 = 0
        · rw [if_pos c18] at H
          have c18b0 : (t128 == 0) = true := beq_iff_eq.mpr c18
          have c18b1 : (t128 != 0) = false := bne_eq_false_iff_eq.mpr c18
          clear c18
          by_cases c19 : t129.toList = ([] : List UInt8)
          · rw [if_pos c19] at H
            have c19b0 : (t129.toList == ([] : List UInt8)) = true := beq_iff_eq.mpr c19
            have c19b1 : (t129.toList != ([] : List UInt8)) = false := bne_eq_false_iff_eq.mpr c19
            clear c19
            by_cases c20 : t130 = 2
            · rw [if_pos c20] at H
              have c20b0 : (t130 == 2) = true := beq_iff_eq.mpr c20
              have c20b1 : (t130 != 2) = false := bne_eq_false_iff_eq.mpr c20
              clear c20
              by_cases c21 : ((decide (a1 > 7)) == (t130 == 1)) = true
              · rw [if_pos c21] at H
                have c21b0 : ((decide (a1 > 7)) == (t130 == 1)) = true := c21
                (try (have c21b1 : decide ((decide (a1 > 7)) = (t130 == 1)) = true := by simpa using c21))
                (try (have c21b2 : ((decide (a1 > 7)) == (t130 == 1)) = true := by simpa using c21))
                clear c21
                first
                  | (exfalso; simp_all; done)
                  | exact by
                      by_cases c22 : t131.toList = ([] : List UInt8)
                      · rw [if_pos c22] at H
                        have c22b0 : (t131.toList == ([] : List UInt8)) = true := beq_iff_eq.mpr c22
                        have c22b1 : (t131.toList != ([] : List UInt8)) = false := bne_eq_false_iff_eq.mpr c22
                        clear c22
                        by_cases c23 : t132.toList = ([] : List UInt8)
                        · rw [if_pos c23] at H
                          have c23b0 : (t132.toList == ([] : List UInt8)) = true := beq_iff_eq.mpr c23
                          have c23b1 : (t132.toList != ([] : List UInt8)) = false := bne_eq_false_iff_eq.mpr c23
                          clear c23
                          by_cases c24 : t133 = 2
                          · rw [if_pos c24] at H
                            have c24b0 : (t133 == 2) = true := beq_iff_eq.mpr c24
                            have c24b1 : (t133 != 2) = false := bne_eq_false_iff_eq.mpr c24
                            clear c24
                            replace H := Option.bind_eq_some_iff.mp H
                            obtain ⟨t135, A250, H⟩ := H
                            replace H : (some t135) = some r := H
                            have A25 := Aside0.mk A250
                            clear A250
                            obtain rfl := Option.some.inj H
                            go_enter Try.func4, Try.ntmps4
                            go_wp2_with (first | ((with_reducible refine gate_callee (f := 12) rfl ?_); refine goesL_ (some 18) rfl rfl Try.func12 (by kernel_rfl) rfl #[.string a0, .int .i64 a1] rfl (by (try simp only [List.map_toArray, List.map_cons, List.map_nil]); first | done | rfl | (simp only [List.length_drop, List.length_take]; rfl) | (simp only [ByteArray.size_append, ByteArray.size_extract, Nat.sub_zero, Int.natCast_add]; rfl) | (simp [ByteArray.size_append]; done)) ?_; (with_reducible refine (octet_Take.calls k a0 a1 t128 t129 t130 _ A6.out).mono ?_); rintro e w' ⟨rfl, ⟨nd, rfl⟩⟩; refine ⟨_, rfl, ?_⟩) | ((with_reducible refine gate_callee (f := 13) rfl ?_); refine goesL_ (some 25) rfl rfl Try.func13 (by kernel_rfl) rfl #[.string a0, .int .i64 a1] rfl (by (try simp only [List.map_toArray, List.map_cons, List.map_nil]); first | done | rfl | (simp only [List.length_drop, List.length_take]; rfl) | (simp only [ByteArray.size_append, ByteArray.size_extract, Nat.sub_zero, Int.natCast_add]; rfl) | (simp [ByteArray.size_append]; done)) ?_; (with_reducible refine (octet_Cut.calls a0 a1 t131 t132 t133 _ A7.out).mono ?_); rintro e w' ⟨rfl, ⟨nd, rfl⟩⟩; refine ⟨_, rfl, ?_⟩) | (go_at_call 11; (with_reducible refine (rillmeterlaw04_awake.calls k  t135 _ A25.out).mono ?_); rintro e w26 ⟨rfl, hb⟩; have n0_ := Aside0.mk (below_step (by repeat (first | (with_reducible first | exact HB.out | apply below_alloc | apply pw_below_drewN | apply below_drew1) | exact HB.out)) hb); clear HB; have HB := n0_; clear n0_; (try clear hb); (try clear hb2); (try clear hk); (try clear hi)))
                            go_ret
                            exact ⟨by first | rfl | (simp [errW_none, errW_some] <;> rfl) | (simp [*, errW_none, errW_some] <;> rfl), by repeat (first | (with_reducible first | exact HB.out | apply below_alloc | apply pw_below_drewN | apply below_drew1) | exact HB.out)⟩
                          · rw [if_neg c24] at H
                            have c24b0 : (t133 == 2) = false := beq_eq_false_iff_ne.mpr c24
                            have c24b1 : (t133 != 2) = true := bne_iff_ne.mpr c24
                            obtain rfl := Option.some.inj H
                            go_enter Try.func4, Try.ntmps4
                            go_wp2_with (first | ((with_reducible refine gate_callee (f := 12) rfl ?_); refine goesL_ (some 18) rfl rfl Try.func12 (by kernel_rfl) rfl #[.string a0, .int .i64 a1] rfl (by (try simp only [List.map_toArray, List.map_cons, List.map_nil]); first | done | rfl | (simp only [List.length_drop, List.length_take]; rfl) | (simp only [ByteArray.size_append, ByteArray.size_extract, Nat.sub_zero, Int.natCast_add]; rfl) | (simp [ByteArray.size_append]; done)) ?_; (with_reducible refine (octet_Take.calls k a0 a1 t128 t129 t130 _ A6.out).mono ?_); rintro e w' ⟨rfl, ⟨nd, rfl⟩⟩; refine ⟨_, rfl, ?_⟩) | ((with_reducible refine gate_callee (f := 13) rfl ?_); refine goesL_ (some 25) rfl rfl Try.func13 (by kernel_rfl) rfl #[.string a0, .int .i64 a1] rfl (by (try simp only [List.map_toArray, List.map_cons, List.map_nil]); first | done | rfl | (simp only [List.length_drop, List.length_take]; rfl) | (simp only [ByteArray.size_append, ByteArray.size_extract, Nat.sub_zero, Int.natCast_add]; rfl) | (simp [ByteArray.size_append]; done)) ?_; (with_reducible refine (octet_Cut.calls a0 a1 t131 t132 t133 _ A7.out).mono ?_); rintro e w' ⟨rfl, ⟨nd, rfl⟩⟩; refine ⟨_, rfl, ?_⟩))
                            go_ret
                            exact ⟨by first | rfl | (simp [errW_none, errW_some] <;> rfl) | (simp [*, errW_none, errW_some] <;> rfl), by repeat (first | (with_reducible first | exact HB.out | apply below_alloc | apply pw_below_drewN | apply below_drew1) | exact HB.out)⟩
                        · rw [if_neg c23] at H
                          have c23b0 : (t132.toList == ([] : List UInt8)) = false := beq_eq_false_iff_ne.mpr c23
                          have c23b1 : (t132.toList != ([] : List UInt8)) = true := bne_iff_ne.mpr c23
                          obtain rfl := Option.some.inj H
                          go_enter Try.func4, Try.ntmps4
                          go_wp2_with (first | ((with_reducible refine gate_callee (f := 12) rfl ?_); refine goesL_ (some 18) rfl rfl Try.func12 (by kernel_rfl) rfl #[.string a0, .int .i64 a1] rfl (by (try simp only [List.map_toArray, List.map_cons, List.map_nil]); first | done | rfl | (simp only [List.length_drop, List.length_take]; rfl) | (simp only [ByteArray.size_append, ByteArray.size_extract, Nat.sub_zero, Int.natCast_add]; rfl) | (simp [ByteArray.size_append]; done)) ?_; (with_reducible refine (octet_Take.calls k a0 a1 t128 t129 t130 _ A6.out).mono ?_); rintro e w' ⟨rfl, ⟨nd, rfl⟩⟩; refine ⟨_, rfl, ?_⟩) | ((with_reducible refine gate_callee (f := 13) rfl ?_); refine goesL_ (some 25) rfl rfl Try.func13 (by kernel_rfl) rfl #[.string a0, .int .i64 a1] rfl (by (try simp only [List.map_toArray, List.map_cons, List.map_nil]); first | done | rfl | (simp only [List.length_drop, List.length_take]; rfl) | (simp only [ByteArray.size_append, ByteArray.size_extract, Nat.sub_zero, Int.natCast_add]; rfl) | (simp [ByteArray.size_append]; done)) ?_; (with_reducible refine (octet_Cut.calls a0 a1 t131 t132 t133 _ A7.out).mono ?_); rintro e w' ⟨rfl, ⟨nd, rfl⟩⟩; refine ⟨_, rfl, ?_⟩))
                          go_ret
                          exact ⟨by first | rfl | (simp [errW_none, errW_some] <;> rfl) | (simp [*, errW_none, errW_some] <;> rfl), by repeat (first | (with_reducible first | exact HB.out | apply below_alloc | apply pw_below_drewN | apply below_drew1) | exact HB.out)⟩
                      · rw [if_neg c22] at H
                        have c22b0 : (t131.toList == ([] : List UInt8)) = false := beq_eq_false_iff_ne.mpr c22
                        have c22b1 : (t131.toList != ([] : List UInt8)) = true := bne_iff_ne.mpr c22
                        obtain rfl := Option.some.inj H
                        go_enter Try.func4, Try.ntmps4
                        go_wp2_with (first | ((with_reducible refine gate_callee (f := 12) rfl ?_); refine goesL_ (some 18) rfl rfl Try.func12 (by kernel_rfl) rfl #[.string a0, .int .i64 a1] rfl (by (try simp only [List.map_toArray, List.map_cons, List.map_nil]); first | done | rfl | (simp only [List.length_drop, List.length_take]; rfl) | (simp only [ByteArray.size_append, ByteArray.size_extract, Nat.sub_zero, Int.natCast_add]; rfl) | (simp [ByteArray.size_append]; done)) ?_; (with_reducible refine (octet_Take.calls k a0 a1 t128 t129 t130 _ A6.out).mono ?_); rintro e w' ⟨rfl, ⟨nd, rfl⟩⟩; refine ⟨_, rfl, ?_⟩) | ((with_reducible refine gate_callee (f := 13) rfl ?_); refine goesL_ (some 25) rfl rfl Try.func13 (by kernel_rfl) rfl #[.string a0, .int .i64 a1] rfl (by (try simp only [List.map_toArray, List.map_cons, List.map_nil]); first | done | rfl | (simp only [List.length_drop, List.length_take]; rfl) | (simp only [ByteArray.size_append, ByteArray.size_extract, Nat.sub_zero, Int.natCast_add]; rfl) | (simp [ByteArray.size_append]; done)) ?_; (with_reducible refine (octet_Cut.calls a0 a1 t131 t132 t133 _ A7.out).mono ?_); rintro e w' ⟨rfl, ⟨nd, rfl⟩⟩; refine ⟨_, rfl, ?_⟩))
                        go_ret
                        exact ⟨by first | rfl | (simp [errW_none, errW_some] <;> rfl) | (simp [*, errW_none, errW_some] <;> rfl), by repeat (first | (with_reducible first | exact HB.out | apply below_alloc | apply pw_below_drewN | apply below_drew1) | exact HB.out)⟩
              · rw [if_neg c21] at H
                have c21b0 : ((decide (a1 > 7)) == (t130 == 1)) = false := by simpa using c21
                (try (have c21b1 : decide ((decide (a1 > 7)) = (t130 == 1)) = false := by simpa using c21))
                (try (have c21b2 : ((decide (a1 > 7)) == (t130 == 1)) = false := by simpa using c21))
                (try (have c21b3 : ¬ ((decide (a1 > 7)) = (t130 == 1)) := by simpa using c21))
                clear c21
                first
                  | (exfalso; simp_all; done)
                  | exact by
                      obtain rfl := Option.some.inj H
                      go_enter Try.func4, Try.ntmps4
                      go_wp2_with (first | ((with_reducible refine gate_callee (f := 12) rfl ?_); refine goesL_ (some 18) rfl rfl Try.func12 (by kernel_rfl) rfl #[.string a0, .int .i64 a1] rfl (by (try simp only [List.map_toArray, List.map_cons, List.map_nil]); first | done | rfl | (simp only [List.length_drop, List.length_take]; rfl) | (simp only [ByteArray.size_append, ByteArray.size_extract, Nat.sub_zero, Int.natCast_add]; rfl) | (simp [ByteArray.size_append]; done)) ?_; (with_reducible refine (octet_Take.calls k a0 a1 t128 t129 t130 _ A6.out).mono ?_); rintro e w' ⟨rfl, ⟨nd, rfl⟩⟩; refine ⟨_, rfl, ?_⟩) | ((with_reducible refine gate_callee (f := 13) rfl ?_); refine goesL_ (some 25) rfl rfl Try.func13 (by kernel_rfl) rfl #[.string a0, .int .i64 a1] rfl (by (try simp only [List.map_toArray, List.map_cons, List.map_nil]); first | done | rfl | (simp only [List.length_drop, List.length_take]; rfl) | (simp only [ByteArray.size_append, ByteArray.size_extract, Nat.sub_zero, Int.natCast_add]; rfl) | (simp [ByteArray.size_append]; done)) ?_; (with_reducible refine (octet_Cut.calls a0 a1 t131 t132 t133 _ A7.out).mono ?_); rintro e w' ⟨rfl, ⟨nd, rfl⟩⟩; refine ⟨_, rfl, ?_⟩))
                      go_ret
                      exact ⟨by first | rfl | (simp [errW_none, errW_some] <;> rfl) | (simp [*, errW_none, errW_some] <;> rfl), by repeat (first | (with_reducible first | exact HB.out | apply below_alloc | apply pw_below_drewN | apply below_drew1) | exact HB.out)⟩
            · rw [if_neg c20] at H
              have c20b0 : (t130 == 2) = false := beq_eq_false_iff_ne.mpr c20
              have c20b1 : (t130 != 2) = true := bne_iff_ne.mpr c20
              by_cases c27 : a1 > 7
              · rw [if_pos c27] at H
                have c27b0 : decide (7 < a1) = true := decide_eq_true c27
                clear c27
                by_cases c28 : t130 = 1
                · rw [if_pos c28] at H
                  have c28b0 : (t130 == 1) = true := beq_iff_eq.mpr c28
                  have c28b1 : (t130 != 1) = false := bne_eq_false_iff_eq.mpr c28
                  clear c28
                  by_cases c29 : ((decide (a1 > 7)) == (t130 == 1)) = true
                  · rw [if_pos c29] at H
                    have c29b0 : ((decide (a1 > 7)) == (t130 == 1)) = true := c29
                    (try (have c29b1 : decide ((decide (a1 > 7)) = (t130 == 1)) = true := by simpa using c29))
                    (try (have c29b2 : ((decide (a1 > 7)) == (t130 == 1)) = true := by simpa using c29))
                    clear c29
                    first
                      | (exfalso; simp_all; done)
                      | exact by
                          by_cases c30 : t131.toList = ([] : List UInt8)
                          · rw [if_pos c30] at H
                            have c30b0 : (t131.toList == ([] : List UInt8)) = true := beq_iff_eq.mpr c30
                            have c30b1 : (t131.toList != ([] : List UInt8)) = false := bne_eq_false_iff_eq.mpr c30
                            clear c30
                            by_cases c31 : t132.toList = ([] : List UInt8)
                            · rw [if_pos c31] at H
                              have c31b0 : (t132.toList == ([] : List UInt8)) = true := beq_iff_eq.mpr c31
                              have c31b1 : (t132.toList != ([] : List UInt8)) = false := bne_eq_false_iff_eq.mpr c31
                              clear c31
                              by_cases c32 : t133 = 2
                              · rw [if_pos c32] at H
                                have c32b0 : (t133 == 2) = true := beq_iff_eq.mpr c32
                                have c32b1 : (t133 != 2) = false := bne_eq_false_iff_eq.mpr c32
                                clear c32
                                replace H := Option.bind_eq_some_iff.mp H
                                obtain ⟨t136, A330, H⟩ := H
                                replace H : (some t136) = some r := H
                                have A33 := Aside0.mk A330
                                clear A330
                                obtain rfl := Option.some.inj H
                                go_enter Try.func4, Try.ntmps4
                                go_wp2_with (first | ((with_reducible refine gate_callee (f := 12) rfl ?_); refine goesL_ (some 18) rfl rfl Try.func12 (by kernel_rfl) rfl #[.string a0, .int .i64 a1] rfl (by (try simp only [List.map_toArray, List.map_cons, List.map_nil]); first | done | rfl | (simp only [List.length_drop, List.length_take]; rfl) | (simp only [ByteArray.size_append, ByteArray.size_extract, Nat.sub_zero, Int.natCast_add]; rfl) | (simp [ByteArray.size_append]; done)) ?_; (with_reducible refine (octet_Take.calls k a0 a1 t128 t129 t130 _ A6.out).mono ?_); rintro e w' ⟨rfl, ⟨nd, rfl⟩⟩; refine ⟨_, rfl, ?_⟩) | ((with_reducible refine gate_callee (f := 13) rfl ?_); refine goesL_ (some 25) rfl rfl Try.func13 (by kernel_rfl) rfl #[.string a0, .int .i64 a1] rfl (by (try simp only [List.map_toArray, List.map_cons, List.map_nil]); first | done | rfl | (simp only [List.length_drop, List.length_take]; rfl) | (simp only [ByteArray.size_append, ByteArray.size_extract, Nat.sub_zero, Int.natCast_add]; rfl) | (simp [ByteArray.size_append]; done)) ?_; (with_reducible refine (octet_Cut.calls a0 a1 t131 t132 t133 _ A7.out).mono ?_); rintro e w' ⟨rfl, ⟨nd, rfl⟩⟩; refine ⟨_, rfl, ?_⟩) | (go_at_call 11; (with_reducible refine (rillmeterlaw04_awake.calls k  t136 _ A33.out).mono ?_); rintro e w34 ⟨rfl, hb⟩; have n0_ := Aside0.mk (below_step (by repeat (first | (with_reducible first | exact HB.out | apply below_alloc | apply pw_below_drewN | apply below_drew1) | exact HB.out)) hb); clear HB; have HB := n0_; clear n0_; (try clear hb); (try clear hb2); (try clear hk); (try clear hi)))
                                go_ret
                                exact ⟨by first | rfl | (simp [errW_none, errW_some] <;> rfl) | (simp [*, errW_none, errW_some] <;> rfl), by repeat (first | (with_reducible first | exact HB.out | apply below_alloc | apply pw_below_drewN | apply below_drew1) | exact HB.out)⟩
                              · rw [if_neg c32] at H
                                have c32b0 : (t133 == 2) = false := beq_eq_false_iff_ne.mpr c32
                                have c32b1 : (t133 != 2) = true := bne_iff_ne.mpr c32
                                obtain rfl := Option.some.inj H
                                go_enter Try.func4, Try.ntmps4
                                go_wp2_with (first | ((with_reducible refine gate_callee (f := 12) rfl ?_); refine goesL_ (some 18) rfl rfl Try.func12 (by kernel_rfl) rfl #[.string a0, .int .i64 a1] rfl (by (try simp only [List.map_toArray, List.map_cons, List.map_nil]); first | done | rfl | (simp only [List.length_drop, List.length_take]; rfl) | (simp only [ByteArray.size_append, ByteArray.size_extract, Nat.sub_zero, Int.natCast_add]; rfl) | (simp [ByteArray.size_append]; done)) ?_; (with_reducible refine (octet_Take.calls k a0 a1 t128 t129 t130 _ A6.out).mono ?_); rintro e w' ⟨rfl, ⟨nd, rfl⟩⟩; refine ⟨_, rfl, ?_⟩) | ((with_reducible refine gate_callee (f := 13) rfl ?_); refine goesL_ (some 25) rfl rfl Try.func13 (by kernel_rfl) rfl #[.string a0, .int .i64 a1] rfl (by (try simp only [List.map_toArray, List.map_cons, List.map_nil]); first | done | rfl | (simp only [List.length_drop, List.length_take]; rfl) | (simp only [ByteArray.size_append, ByteArray.size_extract, Nat.sub_zero, Int.natCast_add]; rfl) | (simp [ByteArray.size_append]; done)) ?_; (with_reducible refine (octet_Cut.calls a0 a1 t131 t132 t133 _ A7.out).mono ?_); rintro e w' ⟨rfl, ⟨nd, rfl⟩⟩; refine ⟨_, rfl, ?_⟩))
                                go_ret
                                exact ⟨by first | rfl | (simp [errW_none, errW_some] <;> rfl) | (simp [*, errW_none, errW_some] <;> rfl), by repeat (first | (with_reducible first | exact HB.out | apply below_alloc | apply pw_below_drewN | apply below_drew1) | exact HB.out)⟩
                            · rw [if_neg c31] at H
                              have c31b0 : (t132.toList == ([] : List UInt8)) = false := beq_eq_false_iff_ne.mpr c31
                              have c31b1 : (t132.toList != ([] : List UInt8)) = true := bne_iff_ne.mpr c31
                              obtain rfl := Option.some.inj H
                              go_enter Try.func4, Try.ntmps4
                              go_wp2_with (first | ((with_reducible refine gate_callee (f := 12) rfl ?_); refine goesL_ (some 18) rfl rfl Try.func12 (by kernel_rfl) rfl #[.string a0, .int .i64 a1] rfl (by (try simp only [List.map_toArray, List.map_cons, List.map_nil]); first | done | rfl | (simp only [List.length_drop, List.length_take]; rfl) | (simp only [ByteArray.size_append, ByteArray.size_extract, Nat.sub_zero, Int.natCast_add]; rfl) | (simp [ByteArray.size_append]; done)) ?_; (with_reducible refine (octet_Take.calls k a0 a1 t128 t129 t130 _ A6.out).mono ?_); rintro e w' ⟨rfl, ⟨nd, rfl⟩⟩; refine ⟨_, rfl, ?_⟩) | ((with_reducible refine gate_callee (f := 13) rfl ?_); refine goesL_ (some 25) rfl rfl Try.func13 (by kernel_rfl) rfl #[.string a0, .int .i64 a1] rfl (by (try simp only [List.map_toArray, List.map_cons, List.map_nil]); first | done | rfl | (simp only [List.length_drop, List.length_take]; rfl) | (simp only [ByteArray.size_append, ByteArray.size_extract, Nat.sub_zero, Int.natCast_add]; rfl) | (simp [ByteArray.size_append]; done)) ?_; (with_reducible refine (octet_Cut.calls a0 a1 t131 t132 t133 _ A7.out).mono ?_); rintro e w' ⟨rfl, ⟨nd, rfl⟩⟩; refine ⟨_, rfl, ?_⟩))
                              go_ret
                              exact ⟨by first | rfl | (simp [errW_none, errW_some] <;> rfl) | (simp [*, errW_none, errW_some] <;> rfl), by repeat (first | (with_reducible first | exact HB.out | apply below_alloc | apply pw_below_drewN | apply below_drew1) | exact HB.out)⟩
                          · rw [if_neg c30] at H
                            have c30b0 : (t131.toList == ([] : List UInt8)) = false := beq_eq_false_iff_ne.mpr c30
                            have c30b1 : (t131.toList != ([] : List UInt8)) = true := bne_iff_ne.mpr c30
                            obtain rfl := Option.some.inj H
                            go_enter Try.func4, Try.ntmps4
                            go_wp2_with (first | ((with_reducible refine gate_callee (f := 12) rfl ?_); refine goesL_ (some 18) rfl rfl Try.func12 (by kernel_rfl) rfl #[.string a0, .int .i64 a1] rfl (by (try simp only [List.map_toArray, List.map_cons, List.map_nil]); first | done | rfl | (simp only [List.length_drop, List.length_take]; rfl) | (simp only [ByteArray.size_append, ByteArray.size_extract, Nat.sub_zero, Int.natCast_add]; rfl) | (simp [ByteArray.size_append]; done)) ?_; (with_reducible refine (octet_Take.calls k a0 a1 t128 t129 t130 _ A6.out).mono ?_); rintro e w' ⟨rfl, ⟨nd, rfl⟩⟩; refine ⟨_, rfl, ?_⟩) | ((with_reducible refine gate_callee (f := 13) rfl ?_); refine goesL_ (some 25) rfl rfl Try.func13 (by kernel_rfl) rfl #[.string a0, .int .i64 a1] rfl (by (try simp only [List.map_toArray, List.map_cons, List.map_nil]); first | done | rfl | (simp only [List.length_drop, List.length_take]; rfl) | (simp only [ByteArray.size_append, ByteArray.size_extract, Nat.sub_zero, Int.natCast_add]; rfl) | (simp [ByteArray.size_append]; done)) ?_; (with_reducible refine (octet_Cut.calls a0 a1 t131 t132 t133 _ A7.out).mono ?_); rintro e w' ⟨rfl, ⟨nd, rfl⟩⟩; refine ⟨_, rfl, ?_⟩))
                            go_ret
                            exact ⟨by first | rfl | (simp [errW_none, errW_some] <;> rfl) | (simp [*, errW_none, errW_some] <;> rfl), by repeat (first | (with_reducible first | exact HB.out | apply below_alloc | apply pw_below_drewN | apply below_drew1) | exact HB.out)⟩
                  · rw [if_neg c29] at H
                    have c29b0 : ((decide (a1 > 7)) == (t130 == 1)) = false := by simpa using c29
                    (try (have c29b1 : decide ((decide (a1 > 7)) = (t130 == 1)) = false := by simpa using c29))
                    (try (have c29b2 : ((decide (a1 > 7)) == (t130 == 1)) = false := by simpa using c29))
                    (try (have c29b3 : ¬ ((decide (a1 > 7)) = (t130 == 1)) := by simpa using c29))
                    clear c29
                    first
                      | (exfalso; simp_all; done)
                      | exact by
                          obtain rfl := Option.some.inj H
                          go_enter Try.func4, Try.ntmps4
                          go_wp2_with (first | ((with_reducible refine gate_callee (f := 12) rfl ?_); refine goesL_ (some 18) rfl rfl Try.func12 (by kernel_rfl) rfl #[.string a0, .int .i64 a1] rfl (by (try simp only [List.map_toArray, List.map_cons, List.map_nil]); first | done | rfl | (simp only [List.length_drop, List.length_take]; rfl) | (simp only [ByteArray.size_append, ByteArray.size_extract, Nat.sub_zero, Int.natCast_add]; rfl) | (simp [ByteArray.size_append]; done)) ?_; (with_reducible refine (octet_Take.calls k a0 a1 t128 t129 t130 _ A6.out).mono ?_); rintro e w' ⟨rfl, ⟨nd, rfl⟩⟩; refine ⟨_, rfl, ?_⟩) | ((with_reducible refine gate_callee (f := 13) rfl ?_); refine goesL_ (some 25) rfl rfl Try.func13 (by kernel_rfl) rfl #[.string a0, .int .i64 a1] rfl (by (try simp only [List.map_toArray, List.map_cons, List.map_nil]); first | done | rfl | (simp only [List.length_drop, List.length_take]; rfl) | (simp only [ByteArray.size_append, ByteArray.size_extract, Nat.sub_zero, Int.natCast_add]; rfl) | (simp [ByteArray.size_append]; done)) ?_; (with_reducible refine (octet_Cut.calls a0 a1 t131 t132 t133 _ A7.out).mono ?_); rintro e w' ⟨rfl, ⟨nd, rfl⟩⟩; refine ⟨_, rfl, ?_⟩))
                          go_ret
                          exact ⟨by first | rfl | (simp [errW_none, errW_some] <;> rfl) | (simp [*, errW_none, errW_some] <;> rfl), by repeat (first | (with_reducible first | exact HB.out | apply below_alloc | apply pw_below_drewN | apply below_drew1) | exact HB.out)⟩
                · rw [if_neg c28] at H
                  have c28b0 : (t130 == 1) = false := beq_eq_false_iff_ne.mpr c28
                  have c28b1 : (t130 != 1) = true := bne_iff_ne.mpr c28
                  obtain rfl := Option.some.inj H
                  go_enter Try.func4, Try.ntmps4
                  go_wp2_with (first | ((with_reducible refine gate_callee (f := 12) rfl ?_); refine goesL_ (some 18) rfl rfl Try.func12 (by kernel_rfl) rfl #[.string a0, .int .i64 a1] rfl (by (try simp only [List.map_toArray, List.map_cons, List.map_nil]); first | done | rfl | (simp only [List.length_drop, List.length_take]; rfl) | (simp only [ByteArray.size_append, ByteArray.size_extract, Nat.sub_zero, Int.natCast_add]; rfl) | (simp [ByteArray.size_append]; done)) ?_; (with_reducible refine (octet_Take.calls k a0 a1 t128 t129 t130 _ A6.out).mono ?_); rintro e w' ⟨rfl, ⟨nd, rfl⟩⟩; refine ⟨_, rfl, ?_⟩) | ((with_reducible refine gate_callee (f := 13) rfl ?_); refine goesL_ (some 25) rfl rfl Try.func13 (by kernel_rfl) rfl #[.string a0, .int .i64 a1] rfl (by (try simp only [List.map_toArray, List.map_cons, List.map_nil]); first | done | rfl | (simp only [List.length_drop, List.length_take]; rfl) | (simp only [ByteArray.size_append, ByteArray.size_extract, Nat.sub_zero, Int.natCast_add]; rfl) | (simp [ByteArray.size_append]; done)) ?_; (with_reducible refine (octet_Cut.calls a0 a1 t131 t132 t133 _ A7.out).mono ?_); rintro e w' ⟨rfl, ⟨nd, rfl⟩⟩; refine ⟨_, rfl, ?_⟩))
                  go_ret
                  exact ⟨by first | rfl | (simp [errW_none, errW_some] <;> rfl) | (simp [*, errW_none, errW_some] <;> rfl), by repeat (first | (with_reducible first | exact HB.out | apply below_alloc | apply pw_below_drewN | apply below_drew1) | exact HB.out)⟩
              · rw [if_neg c27] at H
                have c27b0 : decide (7 < a1) = false := decide_eq_false c27
                clear c27
                obtain rfl := Option.some.inj H
                go_enter Try.func4, Try.ntmps4
                go_wp2_with (first | ((with_reducible refine gate_callee (f := 12) rfl ?_); refine goesL_ (some 18) rfl rfl Try.func12 (by kernel_rfl) rfl #[.string a0, .int .i64 a1] rfl (by (try simp only [List.map_toArray, List.map_cons, List.map_nil]); first | done | rfl | (simp only [List.length_drop, List.length_take]; rfl) | (simp only [ByteArray.size_append, ByteArray.size_extract, Nat.sub_zero, Int.natCast_add]; rfl) | (simp [ByteArray.size_append]; done)) ?_; (with_reducible refine (octet_Take.calls k a0 a1 t128 t129 t130 _ A6.out).mono ?_); rintro e w' ⟨rfl, ⟨nd, rfl⟩⟩; refine ⟨_, rfl, ?_⟩) | ((with_reducible refine gate_callee (f := 13) rfl ?_); refine goesL_ (some 25) rfl rfl Try.func13 (by kernel_rfl) rfl #[.string a0, .int .i64 a1] rfl (by (try simp only [List.map_toArray, List.map_cons, List.map_nil]); first | done | rfl | (simp only [List.length_drop, List.length_take]; rfl) | (simp only [ByteArray.size_append, ByteArray.size_extract, Nat.sub_zero, Int.natCast_add]; rfl) | (simp [ByteArray.size_append]; done)) ?_; (with_reducible refine (octet_Cut.calls a0 a1 t131 t132 t133 _ A7.out).mono ?_); rintro e w' ⟨rfl, ⟨nd, rfl⟩⟩; refine ⟨_, rfl, ?_⟩))
                go_ret
                exact ⟨by first | rfl | (simp [errW_none, errW_some] <;> rfl) | (simp [*, errW_none, errW_some] <;> rfl), by repeat (first | (with_reducible first | exact HB.out | apply below_alloc | apply pw_below_drewN | apply below_drew1) | exact HB.out)⟩
          · rw [if_neg c19] at H
            have c19b0 : (t129.toList == ([] : List UInt8)) = false := beq_eq_false_iff_ne.mpr c19
            have c19b1 : (t129.toList != ([] : List UInt8)) = true := bne_iff_ne.mpr c19
            obtain rfl := Option.some.inj H
            go_enter Try.func4, Try.ntmps4
            go_wp2_with (first | ((with_reducible refine gate_callee (f := 12) rfl ?_); refine goesL_ (some 18) rfl rfl Try.func12 (by kernel_rfl) rfl #[.string a0, .int .i64 a1] rfl (by (try simp only [List.map_toArray, List.map_cons, List.map_nil]); first | done | rfl | (simp only [List.length_drop, List.length_take]; rfl) | (simp only [ByteArray.size_append, ByteArray.size_extract, Nat.sub_zero, Int.natCast_add]; rfl) | (simp [ByteArray.size_append]; done)) ?_; (with_reducible refine (octet_Take.calls k a0 a1 t128 t129 t130 _ A6.out).mono ?_); rintro e w' ⟨rfl, ⟨nd, rfl⟩⟩; refine ⟨_, rfl, ?_⟩) | ((with_reducible refine gate_callee (f := 13) rfl ?_); refine goesL_ (some 25) rfl rfl Try.func13 (by kernel_rfl) rfl #[.string a0, .int .i64 a1] rfl (by (try simp only [List.map_toArray, List.map_cons, List.map_nil]); first | done | rfl | (simp only [List.length_drop, List.length_take]; rfl) | (simp only [ByteArray.size_append, ByteArray.size_extract, Nat.sub_zero, Int.natCast_add]; rfl) | (simp [ByteArray.size_append]; done)) ?_; (with_reducible refine (octet_Cut.calls a0 a1 t131 t132 t133 _ A7.out).mono ?_); rintro e w' ⟨rfl, ⟨nd, rfl⟩⟩; refine ⟨_, rfl, ?_⟩))
            go_ret
            exact ⟨by first | rfl | (simp [errW_none, errW_some] <;> rfl) | (simp [*, errW_none, errW_some] <;> rfl), by repeat (first | (with_reducible first | exact HB.out | apply below_alloc | apply pw_below_drewN | apply below_drew1) | exact HB.out)⟩
        · rw [if_neg c18] at H
          have c18b0 : (t128 == 0) = false := beq_eq_false_iff_ne.mpr c18
          have c18b1 : (t128 != 0) = true := bne_iff_ne.mpr c18
          obtain rfl := Option.some.inj H
          go_enter Try.func4, Try.ntmps4
          go_wp2_with (first | ((with_reducible refine gate_callee (f := 12) rfl ?_); refine goesL_ (some 18) rfl rfl Try.func12 (by kernel_rfl) rfl #[.string a0, .int .i64 a1] rfl (by (try simp only [List.map_toArray, List.map_cons, List.map_nil]); first | done | rfl | (simp only [List.length_drop, List.length_take]; rfl) | (simp only [ByteArray.size_append, ByteArray.size_extract, Nat.sub_zero, Int.natCast_add]; rfl) | (simp [ByteArray.size_append]; done)) ?_; (with_reducible refine (octet_Take.calls k a0 a1 t128 t129 t130 _ A6.out).mono ?_); rintro e w' ⟨rfl, ⟨nd, rfl⟩⟩; refine ⟨_, rfl, ?_⟩) | ((with_reducible refine gate_callee (f := 13) rfl ?_); refine goesL_ (some 25) rfl rfl Try.func13 (by kernel_rfl) rfl #[.string a0, .int .i64 a1] rfl (by (try simp only [List.map_toArray, List.map_cons, List.map_nil]); first | done | rfl | (simp only [List.length_drop, List.length_take]; rfl) | (simp only [ByteArray.size_append, ByteArray.size_extract, Nat.sub_zero, Int.natCast_add]; rfl) | (simp [ByteArray.size_append]; done)) ?_; (with_reducible refine (octet_Cut.calls a0 a1 t131 t132 t133 _ A7.out).mono ?_); rintro e w' ⟨rfl, ⟨nd, rfl⟩⟩; refine ⟨_, rfl, ?_⟩))
          go_ret
          exact ⟨by first | rfl | (simp [errW_none, errW_some] <;> rfl) | (simp [*, errW_none, errW_some] <;> rfl), by repeat (first | (with_reducible first | exact HB.out | apply below_alloc | apply pw_below_drewN | apply below_drew1) | exact HB.out)⟩
      · rw [if_neg c17] at H
        have c17b0 : decide ((a0.size : Int) < a1) = false := decide_eq_false c17
        clear c17
        have HC35 := Aside0.mk H
        clear H
        go_enter Try.func4, Try.ntmps4
        go_upto_region 9 with (first | ((with_reducible refine gate_callee (f := 12) rfl ?_); refine goesL_ (some 18) rfl rfl Try.func12 (by kernel_rfl) rfl #[.string a0, .int .i64 a1] rfl (by (try simp only [List.map_toArray, List.map_cons, List.map_nil]); first | done | rfl | (simp only [List.length_drop, List.length_take]; rfl) | (simp only [ByteArray.size_append, ByteArray.size_extract, Nat.sub_zero, Int.natCast_add]; rfl) | (simp [ByteArray.size_append]; done)) ?_; (with_reducible refine (octet_Take.calls k a0 a1 t128 t129 t130 _ A6.out).mono ?_); rintro e w' ⟨rfl, ⟨nd, rfl⟩⟩; refine ⟨_, rfl, ?_⟩) | ((with_reducible refine gate_callee (f := 13) rfl ?_); refine goesL_ (some 25) rfl rfl Try.func13 (by kernel_rfl) rfl #[.string a0, .int .i64 a1] rfl (by (try simp only [List.map_toArray, List.map_cons, List.map_nil]); first | done | rfl | (simp only [List.length_drop, List.length_take]; rfl) | (simp only [ByteArray.size_append, ByteArray.size_extract, Nat.sub_zero, Int.natCast_add]; rfl) | (simp [ByteArray.size_append]; done)) ?_; (with_reducible refine (octet_Cut.calls a0 a1 t131 t132 t133 _ A7.out).mono ?_); rintro e w' ⟨rfl, ⟨nd, rfl⟩⟩; refine ⟨_, rfl, ?_⟩))
        (try simp only [Act.put, List.setIfInBounds_toArray, List.set_cons_zero, List.set_cons_succ])
        go_cut [115] (fun v115 wc => ∃ (kq : Nat) (x115_34 : Bool), v115 = .bool x115_34 ∧ Aside0 (rillmeterlaw04_OctetTakes.j0 kq a1 t128 t129 t130 t131 t132 x115_34 = some r) ∧ Aside0 (kq ≤ k) ∧ Aside0 (Below w.heap.size w wc))
        case first =>
          have H := HC35.out
          clear HC35
          by_cases c36 : 0 ≤ a1
          · rw [if_pos c36] at H
            have c36b0 := eq_true c36
            have c36b1 : decide (0 ≤ a1) = true := decide_eq_true c36
            clear c36
            by_cases c37 : a1 ≤ (a0.size : Int)
            · rw [if_pos c37] at H
              have c37b0 := eq_true c37
              have c37b1 : decide (a1 ≤ (a0.size : Int)) = true := decide_eq_true c37
              clear c37
              by_cases c38 : t131.toList = (a0.extract 0 (a1 : Int).toNat).toList
              · rw [if_pos c38] at H
                have c38b0 : (t131.toList == (a0.extract 0 (a1 : Int).toNat).toList) = true := beq_iff_eq.mpr c38
                have c38b1 : (t131.toList != (a0.extract 0 (a1 : Int).toNat).toList) = false := bne_eq_false_iff_eq.mpr c38
                clear c38
                (first | rw [c38b0] | (simp only [i64_w, i32_w]; rw [c38b0]) | skip)
                have c39b0 := eq_true (of_decide_eq_true (by first | (with_reducible assumption) | assumption) : 0 ≤ a1)
                have c40b0 := eq_true (of_decide_eq_true (by first | (with_reducible assumption) | assumption) : a1 ≤ (a0.size : Int))
                by_cases c41 : t132.toList = (a0.extract (a1 : Int).toNat a0.size).toList
                · rw [if_pos c41] at H
                  have c41b0 : (t132.toList == (a0.extract (a1 : Int).toNat a0.size).toList) = true := beq_iff_eq.mpr c41
                  have c41b1 : (t132.toList != (a0.extract (a1 : Int).toNat a0.size).toList) = false := bne_eq_false_iff_eq.mpr c41
                  clear c41
                  have H' := Aside0.mk H
                  clear H
                  go_wp2
                  go_meet
                  case rel => exact ⟨_, ((t133 != 0)), (by first | rfl | (simp; done) | (simp [*]; done)), H', ⟨by first | omega | exact Nat.le_refl _⟩, ⟨by repeat (first | (with_reducible first | exact HB.out | apply below_alloc | apply pw_below_drewN | apply below_drew1) | exact HB.out)⟩⟩
                · rw [if_neg c41] at H
                  have c41b0 : (t132.toList == (a0.extract (a1 : Int).toNat a0.size).toList) = false := beq_eq_false_iff_ne.mpr c41
                  have c41b1 : (t132.toList != (a0.extract (a1 : Int).toNat a0.size).toList) = true := bne_iff_ne.mpr c41
                  have H' := Aside0.mk H
                  clear H
                  go_wp2
                  go_meet
                  case rel => exact ⟨_, (true), (by first | rfl | (simp; done) | (simp [*]; done)), H', ⟨by first | omega | exact Nat.le_refl _⟩, ⟨by repeat (first | (with_reducible first | exact HB.out | apply below_alloc | apply pw_below_drewN | apply below_drew1) | exact HB.out)⟩⟩
              · rw [if_neg c38] at H
                have c38b0 : (t131.toList == (a0.extract 0 (a1 : Int).toNat).toList) = false := beq_eq_false_iff_ne.mpr c38
                have c38b1 : (t131.toList != (a0.extract 0 (a1 : Int).toNat).toList) = true := bne_iff_ne.mpr c38
                (first | rw [c38b0] | (simp only [i64_w, i32_w]; rw [c38b0]) | skip)
                have H' := Aside0.mk H
                clear H
                go_wp2
                go_meet
                case rel => exact ⟨_, (true), (by first | rfl | (simp; done) | (simp [*]; done)), H', ⟨by first | omega | exact Nat.le_refl _⟩, ⟨by repeat (first | (with_reducible first | exact HB.out | apply below_alloc | apply pw_below_drewN | apply below_drew1) | exact HB.out)⟩⟩
            · rw [if_neg c37] at H
              exact absurd H (by simp)
          · rw [if_neg c36] at H
            exact absurd H (by simp)
        case rest =>
          clear HC35
          try clear c1
          try clear c2
          try clear p2
          try clear c3
          try clear c3b0
          try clear c3b1
          try clear c4
          try clear c8
          try clear c8b0
          try clear c9
          try clear c9b0
          try clear c9b1
          try clear c10
          try clear c10b0
          try clear c10b1
          try clear c11
          try clear c11b0
          try clear c11b1
          try clear c12
          try clear c12b0
          try clear c12b1
          try clear c13
          try clear c13b0
          try clear c13b1
          try clear c14
          try clear c14b0
          try clear c14b1
          try clear c17
          try clear c17b0
          try clear c18
          try clear c18b0
          try clear c18b1
          try clear c19
          try clear c19b0
          try clear c19b1
          try clear c20
          try clear c20b0
          try clear c20b1
          try clear c21
          try clear c21b0
          try clear c21b1
          try clear c21b2
          try clear c22
          try clear c22b0
          try clear c22b1
          try clear c23
          try clear c23b0
          try clear c23b1
          try clear c24
          try clear c24b0
          try clear c24b1
          try clear c27
          try clear c27b0
          try clear c28
          try clear c28b0
          try clear c28b1
          try clear c29
          try clear c29b0
          try clear c29b1
          try clear c29b2
          try clear c30
          try clear c30b0
          try clear c30b1
          try clear c31
          try clear c31b0
          try clear c31b1
          try clear c32
          try clear c32b0
          try clear c32b1
          try clear c36
          try clear c36b0
          try clear c36b1
          try clear c37
          try clear c37b0
          try clear c37b1
          try clear c38
          try clear c38b0
          try clear c38b1
          try clear c39
          try clear c39b0
          try clear c40
          try clear c40b0
          try clear c41
          try clear c41b0
          try clear c41b1
          obtain ⟨kq, x115_34, rfl, HA, HJ34, HB⟩ := hcut
          cases kq with
          | zero => exact absurd HA.out (by simp [rillmeterlaw04_OctetTakes.j0])
          | succ kj34 =>
            have H := HA.out
            clear HA
            simp only [rillmeterlaw04_OctetTakes.j0] at H
            by_cases c42 : x115_34 = true
            · subst c42
              have H1 : (some false) = some r := by rw [if_pos rfl] at H; exact H
              clear H
              have H := H1
              clear H1
              obtain rfl := Option.some.inj H
              go_wp2
              go_ret
              exact ⟨by first | rfl | (simp [errW_none, errW_some] <;> rfl) | (simp [*, errW_none, errW_some] <;> rfl), by repeat (first | (with_reducible first | exact HB.out | apply below_alloc | apply pw_below_drewN | apply below_drew1) | exact HB.out)⟩
            · replace c42 := Bool.eq_false_iff.mpr c42
              subst c42
              have H1 : (if a1 < 1 then (rillmeterlaw04_OctetTakes.j1 kj34 t128 t129 t130 t131 t132 true) else (rillmeterlaw04_OctetTakes.j1 kj34 t128 t129 t130 t131 t132 (decide (a1 > 7)))) = some r := by rw [if_neg (show ¬ (false = true) by decide)] at H; exact H
              clear H
              have H := H1
              clear H1
              have HC43 := Aside0.mk H
              clear H
              go_upto_region 11 with (fail)
              go_cut [121] (fun v121 wc => ∃ (kq : Nat) (x121_42 : Bool), v121 = .bool x121_42 ∧ Aside0 (rillmeterlaw04_OctetTakes.j1 kq t128 t129 t130 t131 t132 x121_42 = some r) ∧ Aside0 (kq ≤ kj34) ∧ Aside0 (Below w.heap.size w wc))
              case first =>
                have H := HC43.out
                clear HC43
                by_cases c44 : a1 < 1
                · rw [if_pos c44] at H
                  have c44b0 : decide (a1 < 1) = true := decide_eq_true c44
                  clear c44
                  (first | rw [c44b0] | (simp only [i64_w, i32_w]; rw [c44b0]) | skip)
                  have H' := Aside0.mk H
                  clear H
                  go_wp2
                  go_meet
                  case rel => exact ⟨_, (true), (by first | rfl | (simp; done) | (simp [*]; done)), H', ⟨by have := HJ34.out; first | omega | exact Nat.le_refl _⟩, ⟨by repeat (first | (with_reducible first | exact HB.out | apply below_alloc | apply pw_below_drewN | apply below_drew1) | exact HB.out)⟩⟩
                · rw [if_neg c44] at H
                  have c44b0 : decide (a1 < 1) = false := decide_eq_false c44
                  clear c44
                  (first | rw [c44b0] | (simp only [i64_w, i32_w]; rw [c44b0]) | skip)
                  have H' := Aside0.mk H
                  clear H
                  go_wp2
                  go_meet
                  case rel => exact ⟨_, (decide (a1 > 7)), (by first | rfl | (simp; done) | (simp [*]; done)), H', ⟨by have := HJ34.out; first | omega | exact Nat.le_refl _⟩, ⟨by repeat (first | (with_reducible first | exact HB.out | apply below_alloc | apply pw_below_drewN | apply below_drew1) | exact HB.out)⟩⟩
              case rest =>
                clear HC43
                try clear c1
                try clear c2
                try clear p2
                try clear c3
                try clear c3b0
                try clear c3b1
                try clear c4
                try clear c8
                try clear c8b0
                try clear c9
                try clear c9b0
                try clear c9b1
                try clear c10
                try clear c10b0
                try clear c10b1
                try clear c11
                try clear c11b0
                try clear c11b1
                try clear c12
                try clear c12b0
                try clear c12b1
                try clear c13
                try clear c13b0
                try clear c13b1
                try clear c14
                try clear c14b0
                try clear c14b1
                try clear c17
                try clear c17b0
                try clear c18
                try clear c18b0
                try clear c18b1
                try clear c19
                try clear c19b0
                try clear c19b1
                try clear c20
                try clear c20b0
                try clear c20b1
                try clear c21
                try clear c21b0
                try clear c21b1
                try clear c21b2
                try clear c22
                try clear c22b0
                try clear c22b1
                try clear c23
                try clear c23b0
                try clear c23b1
                try clear c24
                try clear c24b0
                try clear c24b1
                try clear c27
                try clear c27b0
                try clear c28
                try clear c28b0
                try clear c28b1
                try clear c29
                try clear c29b0
                try clear c29b1
                try clear c29b2
                try clear c30
                try clear c30b0
                try clear c30b1
                try clear c31
                try clear c31b0
                try clear c31b1
                try clear c32
                try clear c32b0
                try clear c32b1
                try clear c36
                try clear c36b0
                try clear c36b1
                try clear c37
                try clear c37b0
                try clear c37b1
                try clear c38
                try clear c38b0
                try clear c38b1
                try clear c39
                try clear c39b0
                try clear c40
                try clear c40b0
                try clear c41
                try clear c41b0
                try clear c41b1
                try clear c42
                try clear c44
                try clear c44b0
                try clear p2
                obtain ⟨kq, x121_42, rfl, HA, HJ42, HB⟩ := hcut
                cases kq with
                | zero => exact absurd HA.out (by simp [rillmeterlaw04_OctetTakes.j1])
                | succ kj42 =>
                  have H := HA.out
                  clear HA
                  simp only [rillmeterlaw04_OctetTakes.j1] at H
                  by_cases c45 : x121_42 = true
                  · subst c45
                    have H1 : (if t128 = 0 then (if t129.toList = ([] : List UInt8) then (if t130 = 1 then ((rillmeterlaw04_awake.f kj42).bind fun t137 => (some t137)) else (some false)) else (some false)) else (some false)) = some r := by rw [if_pos rfl] at H; exact H
                    clear H
                    have H := H1
                    clear H1
                    by_cases c46 : t128 = 0
                    · rw [if_pos c46] at H
                      have c46b0 : (t128 == 0) = true := beq_iff_eq.mpr c46
                      have c46b1 : (t128 != 0) = false := bne_eq_false_iff_eq.mpr c46
                      clear c46
                      by_cases c47 : t129.toList = ([] : List UInt8)
                      · rw [if_pos c47] at H
                        have c47b0 : (t129.toList == ([] : List UInt8)) = true := beq_iff_eq.mpr c47
                        have c47b1 : (t129.toList != ([] : List UInt8)) = false := bne_eq_false_iff_eq.mpr c47
                        clear c47
                        by_cases c48 : t130 = 1
                        · rw [if_pos c48] at H
                          have c48b0 : (t130 == 1) = true := beq_iff_eq.mpr c48
                          have c48b1 : (t130 != 1) = false := bne_eq_false_iff_eq.mpr c48
                          clear c48
                          replace H := Option.bind_eq_some_iff.mp H
                          obtain ⟨t137, A490, H⟩ := H
                          replace H : (some t137) = some r := H
                          have A49 := Aside0.mk A490
                          clear A490
                          obtain rfl := Option.some.inj H
                          go_wp2_with (first | (go_at_call 11; (with_reducible refine (rillmeterlaw04_awake.calls kj42  t137 _ A49.out).mono ?_); rintro e w50 ⟨rfl, hb⟩; have n0_ := Aside0.mk (below_step (by repeat (first | (with_reducible first | exact HB.out | apply below_alloc | apply pw_below_drewN | apply below_drew1) | exact HB.out)) hb); clear HB; have HB := n0_; clear n0_; (try clear hb); (try clear hb2); (try clear hk); (try clear hi)))
                          go_ret
                          exact ⟨by first | rfl | (simp [errW_none, errW_some] <;> rfl) | (simp [*, errW_none, errW_some] <;> rfl), by repeat (first | (with_reducible first | exact HB.out | apply below_alloc | apply pw_below_drewN | apply below_drew1) | exact HB.out)⟩
                        · rw [if_neg c48] at H
                          have c48b0 : (t130 == 1) = false := beq_eq_false_iff_ne.mpr c48
                          have c48b1 : (t130 != 1) = true := bne_iff_ne.mpr c48
                          obtain rfl := Option.some.inj H
                          go_wp2
                          go_ret
                          exact ⟨by first | rfl | (simp [errW_none, errW_some] <;> rfl) | (simp [*, errW_none, errW_some] <;> rfl), by repeat (first | (with_reducible first | exact HB.out | apply below_alloc | apply pw_below_drewN | apply below_drew1) | exact HB.out)⟩
                      · rw [if_neg c47] at H
                        have c47b0 : (t129.toList == ([] : List UInt8)) = false := beq_eq_false_iff_ne.mpr c47
                        have c47b1 : (t129.toList != ([] : List UInt8)) = true := bne_iff_ne.mpr c47
                        obtain rfl := Option.some.inj H
                        go_wp2
                        go_ret
                        exact ⟨by first | rfl | (simp [errW_none, errW_some] <;> rfl) | (simp [*, errW_none, errW_some] <;> rfl), by repeat (first | (with_reducible first | exact HB.out | apply below_alloc | apply pw_below_drewN | apply below_drew1) | exact HB.out)⟩
                    · rw [if_neg c46] at H
                      have c46b0 : (t128 == 0) = false := beq_eq_false_iff_ne.mpr c46
                      have c46b1 : (t128 != 0) = true := bne_iff_ne.mpr c46
                      obtain rfl := Option.some.inj H
                      go_wp2
                      go_ret
                      exact ⟨by first | rfl | (simp [errW_none, errW_some] <;> rfl) | (simp [*, errW_none, errW_some] <;> rfl), by repeat (first | (with_reducible first | exact HB.out | apply below_alloc | apply pw_below_drewN | apply below_drew1) | exact HB.out)⟩
                  · replace c45 := Bool.eq_false_iff.mpr c45
                    subst c45
                    have H1 : ((rillmeterref04_Number.f kj42 t131).bind fun t138 => (if t128 = t138 then (if t129.toList = t132.toList then (if t130 = 0 then ((rillmeterlaw04_awake.f kj42).bind fun t139 => (some t139)) else (some false)) else (some false)) else (some false))) = some r := by rw [if_neg (show ¬ (false = true) by decide)] at H; exact H
                    clear H
                    have H := H1
                    clear H1
                    replace H := Option.bind_eq_some_iff.mp H
                    obtain ⟨t138, A510, H⟩ := H
                    replace H : (if t128 = t138 then (if t129.toList = t132.toList then (if t130 = 0 then ((rillmeterlaw04_awake.f kj42).bind fun t139 => (some t139)) else (some false)) else (some false)) else (some false)) = some r := H
                    have A51 := Aside0.mk A510
                    clear A510
                    by_cases c52 : t128 = t138
                    · rw [if_pos c52] at H
                      have c52b0 : (t128 == t138) = true := beq_iff_eq.mpr c52
                      have c52b1 : (t128 != t138) = false := bne_eq_false_iff_eq.mpr c52
                      clear c52
                      by_cases c53 : t129.toList = t132.toList
                      · rw [if_pos c53] at H
                        have c53b0 : (t129.toList == t132.toList) = true := beq_iff_eq.mpr c53
                        have c53b1 : (t129.toList != t132.toList) = false := bne_eq_false_iff_eq.mpr c53
                        clear c53
                        by_cases c54 : t130 = 0
                        · rw [if_pos c54] at H
                          have c54b0 : (t130 == 0) = true := beq_iff_eq.mpr c54
                          have c54b1 : (t130 != 0) = false := bne_eq_false_iff_eq.mpr c54
                          clear c54
                          replace H := Option.bind_eq_some_iff.mp H
                          obtain ⟨t139, A550, H⟩ := H
                          replace H : (some t139) = some r := H
                          have A55 := Aside0.mk A550
                          clear A550
                          obtain rfl := Option.some.inj H
                          go_wp2_with (first | ((with_reducible refine gate_callee (f := 14) rfl ?_); refine goesL_ (some 137) rfl rfl Try.func14 (by kernel_rfl) rfl #[.string t131] rfl (by (try simp only [List.map_toArray, List.map_cons, List.map_nil]); first | done | rfl | (simp only [List.length_drop, List.length_take]; rfl) | (simp only [ByteArray.size_append, ByteArray.size_extract, Nat.sub_zero, Int.natCast_add]; rfl) | (simp [ByteArray.size_append]; done)) ?_; (with_reducible refine (rillmeterref04_Number.calls kj42 t131 t138 _ A51.out).mono ?_); rintro e w' ⟨rfl, ⟨nd, rfl⟩⟩; refine ⟨_, rfl, ?_⟩) | (go_at_call 11; (with_reducible refine (rillmeterlaw04_awake.calls kj42  t139 _ A55.out).mono ?_); rintro e w56 ⟨rfl, hb⟩; have n0_ := Aside0.mk (below_step (by repeat (first | (with_reducible first | exact HB.out | apply below_alloc | apply pw_below_drewN | apply below_drew1) | exact HB.out)) hb); clear HB; have HB := n0_; clear n0_; (try clear hb); (try clear hb2); (try clear hk); (try clear hi)))
                          go_ret
                          exact ⟨by first | rfl | (simp [errW_none, errW_some] <;> rfl) | (simp [*, errW_none, errW_some] <;> rfl), by repeat (first | (with_reducible first | exact HB.out | apply below_alloc | apply pw_below_drewN | apply below_drew1) | exact HB.out)⟩
                        · rw [if_neg c54] at H
                          have c54b0 : (t130 == 0) = false := beq_eq_false_iff_ne.mpr c54
                          have c54b1 : (t130 != 0) = true := bne_iff_ne.mpr c54
                          obtain rfl := Option.some.inj H
                          go_wp2_with (first | ((with_reducible refine gate_callee (f := 14) rfl ?_); refine goesL_ (some 137) rfl rfl Try.func14 (by kernel_rfl) rfl #[.string t131] rfl (by (try simp only [List.map_toArray, List.map_cons, List.map_nil]); first | done | rfl | (simp only [List.length_drop, List.length_take]; rfl) | (simp only [ByteArray.size_append, ByteArray.size_extract, Nat.sub_zero, Int.natCast_add]; rfl) | (simp [ByteArray.size_append]; done)) ?_; (with_reducible refine (rillmeterref04_Number.calls kj42 t131 t138 _ A51.out).mono ?_); rintro e w' ⟨rfl, ⟨nd, rfl⟩⟩; refine ⟨_, rfl, ?_⟩))
                          go_ret
                          exact ⟨by first | rfl | (simp [errW_none, errW_some] <;> rfl) | (simp [*, errW_none, errW_some] <;> rfl), by repeat (first | (with_reducible first | exact HB.out | apply below_alloc | apply pw_below_drewN | apply below_drew1) | exact HB.out)⟩
                      · rw [if_neg c53] at H
                        have c53b0 : (t129.toList == t132.toList) = false := beq_eq_false_iff_ne.mpr c53
                        have c53b1 : (t129.toList != t132.toList) = true := bne_iff_ne.mpr c53
                        obtain rfl := Option.some.inj H
                        go_wp2_with (first | ((with_reducible refine gate_callee (f := 14) rfl ?_); refine goesL_ (some 137) rfl rfl Try.func14 (by kernel_rfl) rfl #[.string t131] rfl (by (try simp only [List.map_toArray, List.map_cons, List.map_nil]); first | done | rfl | (simp only [List.length_drop, List.length_take]; rfl) | (simp only [ByteArray.size_append, ByteArray.size_extract, Nat.sub_zero, Int.natCast_add]; rfl) | (simp [ByteArray.size_append]; done)) ?_; (with_reducible refine (rillmeterref04_Number.calls kj42 t131 t138 _ A51.out).mono ?_); rintro e w' ⟨rfl, ⟨nd, rfl⟩⟩; refine ⟨_, rfl, ?_⟩))
                        go_ret
                        exact ⟨by first | rfl | (simp [errW_none, errW_some] <;> rfl) | (simp [*, errW_none, errW_some] <;> rfl), by repeat (first | (with_reducible first | exact HB.out | apply below_alloc | apply pw_below_drewN | apply below_drew1) | exact HB.out)⟩
                    · rw [if_neg c52] at H
                      have c52b0 : (t128 == t138) = false := beq_eq_false_iff_ne.mpr c52
                      have c52b1 : (t128 != t138) = true := bne_iff_ne.mpr c52
                      obtain rfl := Option.some.inj H
                      go_wp2_with (first | ((with_reducible refine gate_callee (f := 14) rfl ?_); refine goesL_ (some 137) rfl rfl Try.func14 (by kernel_rfl) rfl #[.string t131] rfl (by (try simp only [List.map_toArray, List.map_cons, List.map_nil]); first | done | rfl | (simp only [List.length_drop, List.length_take]; rfl) | (simp only [ByteArray.size_append, ByteArray.size_extract, Nat.sub_zero, Int.natCast_add]; rfl) | (simp [ByteArray.size_append]; done)) ?_; (with_reducible refine (rillmeterref04_Number.calls kj42 t131 t138 _ A51.out).mono ?_); rintro e w' ⟨rfl, ⟨nd, rfl⟩⟩; refine ⟨_, rfl, ?_⟩))
                      go_ret
                      exact ⟨by first | rfl | (simp [errW_none, errW_some] <;> rfl) | (simp [*, errW_none, errW_some] <;> rfl), by repeat (first | (with_reducible first | exact HB.out | apply below_alloc | apply pw_below_drewN | apply below_drew1) | exact HB.out)⟩

/-- THE ONE PURE STATEMENT of rillmeterlaw04_OctetTakes: yours. -/
def rillmeterlaw04_OctetTakes.Pure : Prop := ∀ (a0 : ByteArray) (a1 : Int), a0.size ≤ 140737488351232 → (Lit.int .i64 a1).wf = true → ∃ k, rillmeterlaw04_OctetTakes.f k a0 a1 = some true
theorem rillmeterlaw04_OctetTakes.walk (P : rillmeterlaw04_OctetTakes.Pure) (a0 : ByteArray) (a1 : Int) (w : World) (w0 : a0.size ≤ 140737488351232) (w1 : (Lit.int .i64 a1).wf = true) :
    Calls Try.prog 4 #[.string a0, .int .i64 a1] w fun e w' => e = .returned (.bool true) ∧ Below w.heap.size w w' := by
  obtain ⟨k, h⟩ := P a0 a1 w0 w1
  refine (rillmeterlaw04_OctetTakes.calls k a0 a1 true w h).mono ?_
  rintro e w' ⟨rfl, hd⟩
  exact ⟨rfl, hd⟩

end Go.Proofs.Ythkehnnnpohpcaa.Q
