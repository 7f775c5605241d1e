-- made by a program of this session (wip/print-patch.py, over the kit's print)
import Derived.Test.YtdmofjhncdkofaaQx0
import Derived.Test.YtdmofjhncdkofaaQx4
namespace Go.Proofs.Ytdmofjhncdkofaa.Q
open Go.RowKit Go.Proofs.YtdmofjhncdkofaaW.PrintWords Go.Proofs.YtdmofjhncdkofaaW.PrintLast Go.Proofs.YtdmofjhncdkofaaW.PrintMore
attribute [local go_sem] max2_int min2_int max_two min_two max_three min_three max_four min_four   -- for this text's walks alone
set_option linter.unusedVariables false
set_option linter.unusedSimpArgs false

attribute [local go_sem] cell_twice_ cell_twiceN_
/-! ### rillmeterlaw06_awake: function 9 -/
def rillmeterlaw06_awake.f (k : Nat)  : Option (Bool) := (ipfour_Put.f k 0 0 0 0 64 17 (⟨#[10, 0, 0, 1]⟩ : ByteArray) (⟨#[10, 0, 0, 2]⟩ : ByteArray) (⟨#[]⟩ : ByteArray) (⟨#[]⟩ : ByteArray)).bind fun bt101 => (if bt101.1.toList = ([69, 0, 0, 20, 0, 0, 0, 0, 64, 17, 102, 215, 10, 0, 0, 1, 10, 0, 0, 2] : List UInt8) then (some (bt101.2 == 0)) else (some false))
theorem rillmeterlaw06_awake.mono : ∀ k, LeO (rillmeterlaw06_awake.f k ) (rillmeterlaw06_awake.f (k + 1) ) := by
 intro  k
 unfold rillmeterlaw06_awake.f
 repeat' first
   | (with_reducible exact ipfour_Put.mono _ _ _ _ _ _ _ _ _ _ _)
   | (with_reducible exact LeO.refl _)
   | (with_reducible exact LeO.none _)
   | (with_reducible refine LeO.ite ?_ ?_)
   | (with_reducible refine LeO.bind ?_ (fun _ => ?_))
   | exact ipfour_Put.mono _ _ _ _ _ _ _ _ _ _ _
   | exact LeO.none _
   | refine LeO.ite ?_ ?_
   | refine LeO.bind ?_ (fun _ => ?_)
set_option maxHeartbeats 8000000 in
set_option maxRecDepth 100000 in
theorem rillmeterlaw06_awake.calls (k : Nat)  (r : Bool) (w : World) (hrt : Aside0 (r = true)) (h : rillmeterlaw06_awake.f k  = some r) :
  Calls Try.prog 9 #[] w fun e w' => e = .returned (.bool r) ∧ Below w.heap.size w w' := by
 have hu27 := Try.underlying27
 have HB := Aside0.mk (Below.refl w.heap.size w)
 have H : ((ipfour_Put.f k 0 0 0 0 64 17 (⟨#[10, 0, 0, 1]⟩ : ByteArray) (⟨#[10, 0, 0, 2]⟩ : ByteArray) (⟨#[]⟩ : ByteArray) (⟨#[]⟩ : ByteArray)).bind fun bt101 => (if bt101.1.toList = ([69, 0, 0, 20, 0, 0, 0, 0, 64, 17, 102, 215, 10, 0, 0, 1, 10, 0, 0, 2] : List UInt8) then (some (bt101.2 == 0)) else (some false))) = some r := h
 clear h
 replace H := Option.bind_eq_some_iff.mp H
 obtain ⟨⟨t101, t102⟩, A10, H⟩ := H
 replace H : (if t101.toList = ([69, 0, 0, 20, 0, 0, 0, 0, 64, 17, 102, 215, 10, 0, 0, 1, 10, 0, 0, 2] : List UInt8) then (some (t102 == 0)) else (some false)) = some r := H
 have A1 := Aside0.mk A10
 clear A10
 by_cases c2 : t101.toList = ([69, 0, 0, 20, 0, 0, 0, 0, 64, 17, 102, 215, 10, 0, 0, 1, 10, 0, 0, 2] : List UInt8)
 rotate_left
 ·rw [if_neg c2] at H
  obtain rfl := Option.some.inj H
  exact absurd hrt.out (by decide)
 rw [if_pos c2] at H
 have c2b0 : (t101.toList == ([69, 0, 0, 20, 0, 0, 0, 0, 64, 17, 102, 215, 10, 0, 0, 1, 10, 0, 0, 2] : List UInt8)) = true := beq_iff_eq.mpr c2
 have c2b1 : (t101.toList != ([69, 0, 0, 20, 0, 0, 0, 0, 64, 17, 102, 215, 10, 0, 0, 1, 10, 0, 0, 2] : List UInt8)) = false := bne_eq_false_iff_eq.mpr c2
 clear c2
 obtain rfl := Option.some.inj H
 go_enter Try.func9, Try.ntmps9
 go_wp2_with (first | ((with_reducible refine gate_callee (f := 8) rfl ?_); refine gL_ (some 5) rfl rfl Try.func8 (by kernel_rfl) rfl #[.agg #[.int .i64 0, .int .i64 0, .int .i64 0, .int .i64 0, .int .i64 64, .int .i64 17, .string (⟨#[10, 0, 0, 1]⟩ : ByteArray), .string (⟨#[10, 0, 0, 2]⟩ : ByteArray), .string ⟨#[]⟩], .string ⟨#[]⟩] rfl ?_; (with_reducible refine (ipfour_Put.calls k 0 0 0 0 64 17 (⟨#[10, 0, 0, 1]⟩ : ByteArray) (⟨#[10, 0, 0, 2]⟩ : ByteArray) (⟨#[]⟩ : ByteArray) (⟨#[]⟩ : ByteArray) t101 t102 _ A1.out).mono ?_); rintro e w3 ⟨rfl, hb⟩; refine ⟨_, rfl, ?_⟩; have n0_ := Aside0.mk (below_step (bU_ HB.out) hb); clear HB; have HB := n0_; clear n0_; (try clear hb); (try clear hb2); (try clear hk); (try clear hi)))
 go_ret
 exact rE_ (bU_ HB.out)
/-! ### octet_Cut: function 25 -/
def octet_Cut.f (a0 : ByteArray) (a1 : Int) : Option (ByteArray × ByteArray × Int) := if a1 < 0 then (some ((⟨#[]⟩ : ByteArray), (⟨#[]⟩ : ByteArray), 1)) else (if (a0.size : Int) < a1 then (some ((⟨#[]⟩ : ByteArray), (⟨#[]⟩ : ByteArray), 2)) else (if 0 ≤ a1 then (if a1 ≤ (a0.size : Int) then (some (a0.extract 0 (a1 : Int).toNat, a0.extract (a1 : Int).toNat a0.size, 0)) else (none)) else (none)))
set_option maxHeartbeats 8000000 in
set_option maxRecDepth 100000 in
theorem octet_Cut.calls (a0 : ByteArray) (a1 : Int) (r1 : ByteArray) (r2 : ByteArray) (r3 : Int) (w : World) (h : octet_Cut.f a0 a1 = some (r1, r2, r3)) :
  Calls Try.prog 25 #[.string a0, .int .i64 a1] w fun e w' => e = .returned (.tuple #[.string r1, .string r2, .int .i64 r3]) ∧ Drawn0 w w' := by
 have H : (if a1 < 0 then (some ((⟨#[]⟩ : ByteArray), (⟨#[]⟩ : ByteArray), 1)) else (if (a0.size : Int) < a1 then (some ((⟨#[]⟩ : ByteArray), (⟨#[]⟩ : ByteArray), 2)) else (if 0 ≤ a1 then (if a1 ≤ (a0.size : Int) then (some (a0.extract 0 (a1 : Int).toNat, a0.extract (a1 : Int).toNat a0.size, 0)) else (none)) else (none)))) = some (r1, r2, r3) := h
 clear h
 by_cases c3 : a1 < 0
 ·rw [if_pos c3] at H
  have c3b0 : decide (a1 < 0) = true := decide_eq_true c3
  clear c3
  simp only [Option.some.injEq, Prod.mk.injEq] at H
  obtain ⟨rfl, rfl, rfl⟩ := H
  go_enter Try.func25, Try.ntmps25
  go_wp2
  repeat (go_quiet (fail); try go_wp2)
  go_ret3
  exact ⟨by first | rfl | (simp; done) | (simp [*]; done), by repeat (first | exact Drawn0.refl _ | apply Drawn0.step)⟩
 ·rw [if_neg c3] at H
  have c3b0 : decide (a1 < 0) = false := decide_eq_false c3
  clear c3
  by_cases c4 : (a0.size : Int) < a1
  ·rw [if_pos c4] at H
   have c4b0 : decide ((a0.size : Int) < a1) = true := decide_eq_true c4
   clear c4
   simp only [Option.some.injEq, Prod.mk.injEq] at H
   obtain ⟨rfl, rfl, rfl⟩ := H
   go_enter Try.func25, Try.ntmps25
   go_wp2
   repeat (go_quiet (fail); try go_wp2)
   go_ret3
   exact ⟨by first | rfl | (simp; done) | (simp [*]; done), by repeat (first | exact Drawn0.refl _ | apply Drawn0.step)⟩
  ·rw [if_neg c4] at H
   have c4b0 : decide ((a0.size : Int) < a1) = false := decide_eq_false c4
   clear c4
   by_cases c5 : 0 ≤ a1
   rotate_left
   ·rw [if_neg c5] at H
    exact absurd H (by simp)
   rw [if_pos c5] at H
   have c5b0 := eq_true c5
   have c5b1 : decide (0 ≤ a1) = true := decide_eq_true c5
   clear c5
   by_cases c6 : a1 ≤ (a0.size : Int)
   rotate_left
   ·rw [if_neg c6] at H
    exact absurd H (by simp)
   rw [if_pos c6] at H
   have c6b0 := eq_true c6
   have c6b1 : decide (a1 ≤ (a0.size : Int)) = true := decide_eq_true c6
   clear c6
   have c7b0 := eq_true (oD_ : 0 ≤ a1)
   have c8b0 := eq_true (oD_ : a1 ≤ (a0.size : Int))
   simp only [Option.some.injEq, Prod.mk.injEq] at H
   obtain ⟨rfl, rfl, rfl⟩ := H
   go_enter Try.func25, Try.ntmps25
   go_wp2
   repeat (go_quiet (fail); try go_wp2)
   go_ret3
   exact ⟨by first | rfl | (simp; done) | (simp [*]; done), by repeat (first | exact Drawn0.refl _ | apply Drawn0.step)⟩
end Go.Proofs.Ytdmofjhncdkofaa.Q
