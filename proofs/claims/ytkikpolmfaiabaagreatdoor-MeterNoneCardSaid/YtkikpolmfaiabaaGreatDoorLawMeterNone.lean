/- Of no meter nothing is told, and nothing is done to it: the tied card of MeterNone; for every frame and every reading. -/
import Derived.Test.YtkikpolmfaiabaaGreatDoorRows
import Derived.Test.YtkikpolmfaiabaaGreatDoorCards
import Derived.Test.YtkikpolmfaiabaaGreatDoorTie
import Derived.Test.YtkikpolmfaiabaaGreatDoorNoneRun2
import Derived.Test.YtkikpolmfaiabaaGreatDoorFacts4
import Derived.WalkKit
import Derived.ProofKit
import Derived.OpenShut
import Derived.ShutString
import Derived.ChangeOld
import Derived.Below
import Derived.SizedLaws
import Derived.LaidMore
import Derived.Lay
import Derived.Handed
namespace Go.Proofs.YtkikpolmfaiabaaGreatDoor
open Go.ChangeShapes Go.WideShapes Go.ChangeAt Go.RowKit Go.Run
open Go.ChangeMaps (open_string shut_string)
theorem own : ownKnob Tryz.prog.godebug = none := by kernel_rfl

theorem R0 (w : World) : R (fun _ => none) σ0 w where
  blk i b h := by cases h
  inj i j bi bj x y h := by cases h
  lt i x h := by cases h

theorem calls_of_run {f : Nat} {args : List AV} {vs : Array Value} {w : World} {σ' : St} (hr : RT (fun _ => none) args vs.toList) (h : callN cx 1000000 f args σ0 = some (.one (.bool true), σ')) :
    Calls Tryz.prog f vs w fun e w' => e = .returned (.bool true) ∧ Below w.heap.size w w' := by
  have hc := callN_ok extOk (fun f s h => by cases h) mixed 1000000 f args σ0 _ σ' h (fun _ => none) w vs (R0 w) (fun g => by show RA _ .bad _; simp only [RA]) hr
  refine hc.2.mono fun e w' he => ?_
  obtain ⟨π', x, rfl, _, hx, hg⟩ := he
  simp only [RA] at hx
  have hx' : x = .bool true := hx
  subst hx'
  exact ⟨rfl, hg.same.os, hg.same.tape, hg.same.output, hg.grow, fun b hb => hg.frame b hb fun ⟨i, blk, y, hi, _⟩ => by cases hi⟩

set_option maxRecDepth 100000 in
theorem lifted (os : Os) (started : os.Started) (H : Type) (enc : TypeId × Value → H) :
    ReturnsInHanded {} Tryz.checked os 7 .any (fun w args => (Rows.meterNoneSpec.pre enc Tryz.prog Tryz.f7 [] false w args ∧ laidMetH Tryz.prog Rows.meterNoneRow.laid w) ∧ sizedMet enc Tryz.prog Tryz.f7 (OpenSpec.ofChange Rows.meterNoneSpec) false w args)
      (Rows.meterNoneSpec.post enc Tryz.prog Tryz.f7 false true false false) := by
  refine returnsInHanded_of_change_and (C := Tryz.checked) (X := fun w _ => laidMetH Tryz.prog Rows.meterNoneRow.laid w) (fun _ _ _ hh h => h.of_heap hh) own started (by kernel_rfl) Tryz.func7
    (ChangeSpec.witness_at (enc := enc) (C := Tryz.checked) (os := os) (X := fun w _ => laidMetH Tryz.prog Rows.meterNoneRow.laid w) false (World.laidAll Tryz.prog os Rows.meterNoneRow.laid) #[.string ByteArray.empty, .int .i64 0] 8 (World.laidAll_os _ _ _) (by kernel_rfl) (by kernel_rfl) (by kernel_rfl) (by kernel_rfl) (by kernel_rfl)
      (by rw [MakeChecks.laidMetH_plain _ _ _ (by kernel_rfl)]; exact laidMet_laidAll _ (by kernel_rfl) (by kernel_rfl))) ?_
  intro W base args ds gs before hval0 hW _ _ _ _
  have hval : ∀ (j : Nat) t v, Tryz.f7.params[j]? = some t → args[j]? = some v → Value.okWide Tryz.prog W .any base t v := hval0
  have hW' := hW
  obtain ⟨p, q, hA0, hV, rfl, hfz, hnd⟩ := hW
  have hA : DataW.TrodAll enc Tryz.prog W 0 (fun _ => true) true Tryz.f7.params.toList args.toList ds p := hA0
  rw [Tryz.params7] at hA hval
  obtain ⟨v0, vs0, d0, ds0, p0, q0, hargs, rfl, rfl, h0, r0⟩ := trodAll_cons hA
  obtain ⟨v1, vs1, d1, ds1, p1, q1, rfl, rfl, rfl, h1, r1⟩ := trodAll_cons r0
  obtain ⟨rfl, rfl, rfl⟩ := trodAll_nil r1
  obtain rfl : args = #[v0, v1] := by cases args; simp_all
  obtain ⟨rfl, rfl⟩ := trodVars_none hV
  obtain ⟨s, rfl, rfl, rfl, z0⟩ := open_string Tryz.underlying9 (hval 0 9 v0 rfl rfl) h0
  obtain ⟨n, rfl, rfl, rfl, w1⟩ := open_int Tryz.underlying3 (hval 1 3 v1 rfl rfl) h1
  obtain ⟨σ', hrun⟩ := run_none s n
  refine (calls_of_run (w := W) (vs := #[.string s, .int .i64 n]) (by simp [RT, RA, RC]) hrun).mono ?_
  rintro e W' ⟨rfl, bel⟩
  exact ⟨_, rfl, _, _, _, [], _, [], hW', trodAll_mk1 (shut_bool Tryz.underlying4 _), (trodAll_cons_mk (shut_string Tryz.underlying9 z0) (trodAll_cons_mk (shut_int Tryz.underlying3 w1) trodAll_mk0)), rfl, bel.frame _, fun h => by cases h⟩

theorem meterNone_row : Rows.MeterNoneSaid :=
  OpenClaim.holds_of_wide 7 Tryz.f7 rfl rfl rfl rfl rfl rfl rfl ⟨rfl, rfl, rfl, rfl, rfl⟩ rfl rfl rfl rfl rfl (by kernel_rfl) Tryz.func7 none_facts none_instance none_wrapper
    (fun os started H enc _ => lifted os started H enc)

/-- Of no meter nothing is told: the tied card. -/
theorem meterNone_holds : Rows.MeterNoneCardSaid :=
  Claim7.holds_tied_plain_at .later [] [.data] true (true, "d6a5a30e148307116b9ee67773feac4c373f877372ee994b5d241c1e00975a0f") false
    meterNone_row (fun _ h => by cases h) (by kernel_rfl) (fun _ h => by cases h) meterNone_row_tie rfl ⟨rfl, rfl⟩ (by kernel_rfl) rfl
    (fun f fn hf hfn => by
      obtain rfl : f = 7 := Option.some.inj ((show Tryz.prog.funcNamed "rillmeter/rillmeterlaw21.MeterNone" = some 7 by kernel_rfl).symm.trans hf) |>.symm
      obtain rfl : fn = Tryz.f7 := (Option.some.inj (Tryz.func7.symm.trans hfn)).symm
      exact ⟨by kernel_rfl, fun j t ht => by
        rw [Tryz.params7] at ht
        have hm : t ∈ [9, 3] := by simpa using Array.mem_of_getElem? ht
        have hall : ([9, 3].all fun u => !Tryz.prog.wantsStandIn u) = true := by kernel_rfl
        exact (show Tryz.prog.wantsStandIn t = false by simpa using List.all_eq_true.1 hall t hm)⟩)
    (by kernel_rfl)
#print axioms meterNone_holds
end Go.Proofs.YtkikpolmfaiabaaGreatDoor
