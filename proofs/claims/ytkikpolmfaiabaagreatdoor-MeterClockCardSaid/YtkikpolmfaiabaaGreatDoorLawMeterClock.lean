/- The law MeterClock, for every input. -/
import Derived.Test.YtkikpolmfaiabaaGreatDoorRows
import Derived.Test.YtkikpolmfaiabaaGreatDoorRowI
import Derived.Test.YtkikpolmfaiabaaGreatDoorCards
import Derived.Test.YtkikpolmfaiabaaGreatDoorTie
import Derived.Test.YtkikpolmfaiabaaGreatDoorFactsCardMeterClock
import Derived.Test.YtkikpolmfaiabaaGreatDoorClk7
import Derived.Test.YtkikpolmfaiabaaGreatDoorFactsMeterClock
import Derived.WalkKit
import Derived.ProofKit
import Derived.OpenShut
import Derived.ShutString
import Derived.ChangeOld
import Derived.Below
import Derived.SizedLaws
import Derived.LaidMore
import Derived.Lay
import Derived.Handed
import Derived.SevenTiedAt
namespace Go.Proofs.YtkikpolmfaiabaaGreatDoor
open Go.ChangeShapes Go.WideShapes Go.ChangeAt Go.RowKit Go.Run
open Go.ChangeMaps (open_string shut_string)
set_option linter.unusedVariables false
theorem own : ownKnob Tryz.prog.godebug = none := by kernel_rfl
theorem laidOut : laidOutB Tryz.prog = true := pf1

theorem calls_of_yl {n f : Nat} {args : List AV} {vs : Array Value} {w : World} {σ : St} {π : Pl} (hR : R π σ w) (hO : ∀ b, ¬ Go.Run.own π σ b) (hr : RT π args vs.toList) (h : Yl (callK (C 1000000) Clk.tabC n f args σ) (fun v _ => v = B true)) :
    Calls Tryz.prog f vs w fun e w' => e = .returned (.bool true) ∧ Below w.heap.size w w' := by
  obtain ⟨v, σ', h, rfl⟩ := h
  have hc := callK_ok (extOk 1000000) (Clk.tabC_ok 1000000) mixed n f args σ _ σ' h π w vs hR (fun g => by show RA _ .bad _; simp only [RA]) hr
  refine hc.2.mono fun e w' he => ?_
  obtain ⟨π', x, rfl, _, hx, hg⟩ := he
  unfold B at hx
  simp only [RA] at hx
  have hx' : x = .bool true := hx
  subst hx'
  exact ⟨rfl, hg.same.os, hg.same.tape, hg.same.output, hg.grow, fun b hb => hg.frame b hb (hO b)⟩
theorem R0 (w : World) : R (fun _ => none) σE w := R_empty w

set_option maxRecDepth 100000 in
theorem meterClock_lifted (os : Os) (started : os.Started) (H : Type) (enc : TypeId × Value → H) :
    ReturnsInHanded {} Tryz.checked os 3 .any (fun w args => (Rows.meterClockSpec.pre enc Tryz.prog Tryz.f3 [] false w args ∧ laidMetH Tryz.prog Rows.meterClockRow.laid w) ∧ sizedMet enc Tryz.prog Tryz.f3 (OpenSpec.ofChange Rows.meterClockSpec) false w args)
      (Rows.meterClockSpec.post enc Tryz.prog Tryz.f3 false true false false) := by
  refine returnsInHanded_of_change_and (C := Tryz.checked) (X := fun w _ => laidMetH Tryz.prog Rows.meterClockRow.laid w) (fun _ _ _ hh h => h.of_heap hh) own started (by kernel_rfl) Tryz.func3
    (ChangeSpec.witness_at (enc := enc) (C := Tryz.checked) (os := os) (X := fun w _ => laidMetH Tryz.prog Rows.meterClockRow.laid w) false (World.laidAll Tryz.prog os Rows.meterClockRow.laid) #[.int .i64 0, .slice none 0 0] 8 (World.laidAll_os _ _ _) (by kernel_rfl) (by kernel_rfl) (by kernel_rfl) (by kernel_rfl) (by kernel_rfl)
      (by rw [MakeChecks.laidMetH_plain _ _ _ (by kernel_rfl)]; exact laidMet_laidAll _ (by kernel_rfl) (by kernel_rfl))) ?_
  intro W base args ds gs before hval0 hW _ _ _ _
  have hval : ∀ (j : Nat) t v, Tryz.f3.params[j]? = some t → args[j]? = some v → Value.okWide Tryz.prog W .any base t v := hval0
  have hW' := hW
  obtain ⟨p, q, hA0, hV, rfl, hfz, hnd⟩ := hW
  have hA : DataW.TrodAll enc Tryz.prog W 0 (fun _ => true) true Tryz.f3.params.toList args.toList ds p := hA0
  rw [Tryz.params3] at hA hval
  obtain ⟨v0, vs0, d0, ds0, p0, q0, hargs, rfl, rfl, h0, r0⟩ := trodAll_cons hA
  obtain ⟨v1, vs1, d1, ds1, p1, q1, rfl, rfl, rfl, h1, r1⟩ := trodAll_cons r0
  obtain ⟨rfl, rfl, rfl⟩ := trodAll_nil r1
  obtain rfl : args = #[v0, v1] := by cases args; simp_all
  obtain ⟨rfl, rfl⟩ := trodVars_none hV
  obtain ⟨a0, rfl, rfl, rfl, w0⟩ := open_int Tryz.underlying3 (hval 0 3 v0 rfl rfl) h0
  have k1 := h1
  have lt1 : ∀ x ∈ p1, x.block < W.heap.size := by obtain ⟨m, hm⟩ := k1; exact DataW.trod_lt m _ _ _ hm
  obtain ⟨P_1, cap_1, zs_1, σ_1, π_1, R_1, O_1, C_1, N_1, Z_1, L_1⟩ := RowI.ints_param Tryz.underlying22 Tryz.underlying3 (by kernel_rfl) (hval 1 22 v1 rfl rfl) h1
  refine (calls_of_yl (w := W) R_1 O_1 (vs := #[.int .i64 a0, v1]) (by simp only [RT, RA, I, Iu]; exact ⟨rfl, C_1, trivial⟩) (Clk.run_law (len := a0) (cap := cap_1) L_1 rfl N_1 Z_1)).mono ?_
  rintro e W' ⟨rfl, bel⟩
  exact ⟨_, rfl, _, _, _, [], _, [], hW', trodAll_mk1 (shut_bool Tryz.underlying4 _), (trodAll_cons_mk (shut_int Tryz.underlying3 w0) (trodAll_cons_mk (Below.trod laidOut (by kernel_rfl) (of_decide_eq_true (by kernel_rfl)) k1 bel lt1) trodAll_mk0)), rfl, bel.frame _, fun h => by cases h⟩
theorem meterClock_row : Rows.MeterClockSaid :=
  OpenClaim.holds_of_wide 3 Tryz.f3 rfl rfl rfl rfl rfl rfl rfl ⟨rfl, rfl, rfl, rfl, rfl⟩ rfl rfl rfl rfl rfl (by kernel_rfl) Tryz.func3 meterClock_facts meterClock_instance meterClock_wrapper
    (fun os started H enc _ => meterClock_lifted os started H enc)
theorem meterClock_holds : Rows.MeterClockCardSaid :=
  Claim7.holds_tied_plain_at .later [] [.data] true (true, "d6a5a30e148307116b9ee67773feac4c373f877372ee994b5d241c1e00975a0f") false
    meterClock_row (fun _ h => by cases h) meterClock_c1 (fun _ h => by cases h) meterClock_row_tie rfl ⟨rfl, rfl⟩ meterClock_c2 rfl
    (fun f fn hf hfn => by
      obtain rfl : f = 3 := Option.some.inj (meterClock_c3.symm.trans hf) |>.symm
      obtain rfl : fn = Tryz.f3 := (Option.some.inj (Tryz.func3.symm.trans hfn)).symm
      exact ⟨meterClock_c4, fun j t ht => by
        rw [Tryz.params3] at ht
        have hm : t ∈ [3, 22] := by simpa using Array.mem_of_getElem? ht
        exact (show Tryz.prog.wantsStandIn t = false by simpa using List.all_eq_true.1 meterClock_c5 t hm)⟩)
    meterClock_c6
#print axioms meterClock_holds
end Go.Proofs.YtkikpolmfaiabaaGreatDoor
