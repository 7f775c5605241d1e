/- The law FabricNone, for every input. -/
import Derived.Test.YtbhbfiijkkcoeaaGreatDoorRows
import Derived.Test.YtbhbfiijkkcoeaaGreatDoorRowT
import Derived.Test.YtbhbfiijkkcoeaaGreatDoorCards
import Derived.Test.YtbhbfiijkkcoeaaGreatDoorTie
import Derived.Test.YtbhbfiijkkcoeaaGreatDoorFactsCardFabricNone
import Derived.Test.YtbhbfiijkkcoeaaGreatDoorNone3
import Derived.Test.YtbhbfiijkkcoeaaGreatDoorFactsFabricNone
import Derived.WalkKit
import Derived.ProofKit
import Derived.OpenShut
import Derived.ShutString
import Derived.ChangeOld
import Derived.Below
import Derived.SizedLaws
import Derived.LaidMore
import Derived.Lay
import Derived.Handed
import Derived.SevenTiedAt
namespace Go.Proofs.YtbhbfiijkkcoeaaGreatDoor
open Go.ChangeShapes Go.WideShapes Go.ChangeAt Go.RowKit Go.Run
open Go.ChangeMaps (open_string shut_string)
set_option linter.unusedVariables false
theorem own : ownKnob Tryz.prog.godebug = none := by kernel_rfl
theorem laidOut : laidOutB Tryz.prog = true := pf1

theorem R0 (w : World) : R (fun _ => none) σ0 w where
  blk i b h := by cases h
  inj i j bi bj x y h := by cases h
  lt i x h := by cases h

theorem calls_of_run {f : Nat} {args : List AV} {vs : Array Value} {w : World} {σ' : St} (hr : RT (fun _ => none) args vs.toList) (h : callN cx 1000000 f args σ0 = some (.one (.bool true), σ')) :
    Calls Tryz.prog f vs w fun e w' => e = .returned (.bool true) ∧ Below w.heap.size w w' := by
  have hc := callN_ok extOk tabOk mixed 1000000 f args σ0 _ σ' h (fun _ => none) w vs (R0 w) (fun g => by show RA _ .bad _; simp only [RA]) hr
  refine hc.2.mono fun e w' he => ?_
  obtain ⟨π', x, rfl, _, hx, hg⟩ := he
  simp only [RA] at hx
  have hx' : x = .bool true := hx
  subst hx'
  exact ⟨rfl, hg.same.os, hg.same.tape, hg.same.output, hg.grow, fun b hb => hg.frame b hb fun ⟨i, blk, y, hi, _⟩ => by cases hi⟩

set_option maxRecDepth 100000 in
theorem fabricNone_lifted (os : Os) (started : os.Started) (H : Type) (enc : TypeId × Value → H) :
    ReturnsInHanded {} Tryz.checked os 3 .any (fun w args => (Rows.fabricNoneSpec.pre enc Tryz.prog Tryz.f3 [] false w args ∧ laidMetH Tryz.prog Rows.fabricNoneRow.laid w) ∧ sizedMet enc Tryz.prog Tryz.f3 (OpenSpec.ofChange Rows.fabricNoneSpec) false w args)
      (Rows.fabricNoneSpec.post enc Tryz.prog Tryz.f3 false true false false) := by
  refine returnsInHanded_of_change_and (C := Tryz.checked) (X := fun w _ => laidMetH Tryz.prog Rows.fabricNoneRow.laid w) (fun _ _ _ hh h => h.of_heap hh) own started (by kernel_rfl) Tryz.func3
    (ChangeSpec.witness_at (enc := enc) (C := Tryz.checked) (os := os) (X := fun w _ => laidMetH Tryz.prog Rows.fabricNoneRow.laid w) false (World.laidAll Tryz.prog os Rows.fabricNoneRow.laid) #[.agg #[.int .i64 0, .int .i64 0, .int .i64 0, .string ByteArray.empty], .int .i64 0] 8 (World.laidAll_os _ _ _) (by kernel_rfl) (by kernel_rfl) (by kernel_rfl) (by kernel_rfl) (by kernel_rfl)
      (by rw [MakeChecks.laidMetH_plain _ _ _ (by kernel_rfl)]; exact laidMet_laidAll _ (by kernel_rfl) (by kernel_rfl))) ?_
  intro W base args ds gs before hval0 hW _ _ _ _
  have hval : ∀ (j : Nat) t v, Tryz.f3.params[j]? = some t → args[j]? = some v → Value.okWide Tryz.prog W .any base t v := hval0
  have hW' := hW
  obtain ⟨p, q, hA0, hV, rfl, hfz, hnd⟩ := hW
  have hA : DataW.TrodAll enc Tryz.prog W 0 (fun _ => true) true Tryz.f3.params.toList args.toList ds p := hA0
  rw [Tryz.params3] at hA hval
  obtain ⟨v0, vs0, d0, ds0, p0, q0, hargs, rfl, rfl, h0, r0⟩ := trodAll_cons hA
  obtain ⟨v1, vs1, d1, ds1, p1, q1, rfl, rfl, rfl, h1, r1⟩ := trodAll_cons r0
  obtain ⟨rfl, rfl, rfl⟩ := trodAll_nil r1
  obtain rfl : args = #[v0, v1] := by cases args; simp_all
  obtain ⟨rfl, rfl⟩ := trodVars_none hV
  have k0 := h0
  have lt0 : ∀ x ∈ p0, x.block < W.heap.size := by obtain ⟨m, hm⟩ := k0; exact DataW.trod_lt m _ _ _ hm
  obtain ⟨c0, y0, n0, hv0, hd0, hf0⟩ := RowT.open_aggN Tryz.underlying23 (by kernel_rfl) (by kernel_rfl) (hval 0 23 v0 rfl rfl) h0
  obtain ⟨a0_0, e0_0, g0_0, w0_0⟩ := RowT.fld_int Tryz.underlying3 (hf0 0 _ rfl)
  obtain ⟨a0_1, e0_1, g0_1, w0_1⟩ := RowT.fld_int Tryz.underlying3 (hf0 1 _ rfl)
  obtain ⟨a0_2, e0_2, g0_2, w0_2⟩ := RowT.fld_int Tryz.underlying3 (hf0 2 _ rfl)
  obtain ⟨a0_3, e0_3, g0_3⟩ := RowT.fld_str Tryz.underlying9 (hf0 3 _ rfl)
  have hx0 : v0 = .agg #[.int .i64 a0_0, .int .i64 a0_1, .int .i64 a0_2, .string a0_3] := by
    rw [hv0]
    show Value.agg #[c0 0, c0 1, c0 2, c0 3] = _
    rw [e0_0, e0_1, e0_2, e0_3]
  clear hv0
  subst hx0
  obtain ⟨a1, rfl, rfl, rfl, w1⟩ := open_int Tryz.underlying3 (hval 1 3 v1 rfl rfl) h1
  obtain ⟨σ', hrun⟩ := run_fabricNone a0_0 a0_1 a0_2 a0_3 a1
  refine (calls_of_run (w := W) (vs := #[.agg #[.int .i64 a0_0, .int .i64 a0_1, .int .i64 a0_2, .string a0_3], .int .i64 a1]) (by simp [RT, RA, RC, RL]) hrun).mono ?_
  rintro e W' ⟨rfl, bel⟩
  exact ⟨_, rfl, _, _, _, [], _, [], hW', trodAll_mk1 (shut_bool Tryz.underlying4 _), (trodAll_cons_mk (Below.trod laidOut (by kernel_rfl) (of_decide_eq_true (by kernel_rfl)) k0 bel lt0) (trodAll_cons_mk (shut_int Tryz.underlying3 w1) trodAll_mk0)), rfl, bel.frame _, fun h => by cases h⟩
theorem fabricNone_row : Rows.FabricNoneSaid :=
  OpenClaim.holds_of_wide 3 Tryz.f3 rfl rfl rfl rfl rfl rfl rfl ⟨rfl, rfl, rfl, rfl, rfl⟩ rfl rfl rfl rfl rfl (by kernel_rfl) Tryz.func3 fabricNone_facts fabricNone_instance fabricNone_wrapper
    (fun os started H enc _ => fabricNone_lifted os started H enc)
theorem fabricNone_holds : Rows.FabricNoneCardSaid :=
  Claim7.holds_tied_plain_at .later [] [.data] true (true, "b8832331339ca6047dc15a28567bcfae89fe858e98f7f90c76c3ff847aafce62") false
    fabricNone_row (fun _ h => by cases h) fabricNone_c1 (fun _ h => by cases h) fabricNone_row_tie rfl ⟨rfl, rfl⟩ fabricNone_c2 rfl
    (fun f fn hf hfn => by
      obtain rfl : f = 3 := Option.some.inj (fabricNone_c3.symm.trans hf) |>.symm
      obtain rfl : fn = Tryz.f3 := (Option.some.inj (Tryz.func3.symm.trans hfn)).symm
      exact ⟨fabricNone_c4, fun j t ht => by
        rw [Tryz.params3] at ht
        have hm : t ∈ [23, 3] := by simpa using Array.mem_of_getElem? ht
        exact (show Tryz.prog.wantsStandIn t = false by simpa using List.all_eq_true.1 fabricNone_c5 t hm)⟩)
    fabricNone_c6
#print axioms fabricNone_holds
end Go.Proofs.YtbhbfiijkkcoeaaGreatDoor
