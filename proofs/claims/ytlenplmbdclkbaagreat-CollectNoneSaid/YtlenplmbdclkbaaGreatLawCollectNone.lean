/- The law CollectNone, for every input. -/
import Derived.Test.YtlenplmbdclkbaaGreatRows
import Derived.Test.YtlenplmbdclkbaaGreatNone4
import Derived.Test.YtlenplmbdclkbaaGreatFactsCollectNone
import Derived.WalkKit
import Derived.ProofKit
import Derived.OpenShut
import Derived.ShutString
import Derived.ChangeOld
import Derived.Below
import Derived.SizedLaws
import Derived.LaidMore
import Derived.Lay
import Derived.Handed
namespace Go.Proofs.YtlenplmbdclkbaaGreat
open Go.ChangeShapes Go.WideShapes Go.ChangeAt Go.RowKit Go.Run
open Go.ChangeMaps (open_string shut_string)
set_option linter.unusedVariables false
theorem own : ownKnob Tryz.prog.godebug = none := by kernel_rfl

theorem R0 (w : World) : R (fun _ => none) σ0 w where
  blk i b h := by cases h
  inj i j bi bj x y h := by cases h
  lt i x h := by cases h

theorem calls_of_run {f : Nat} {args : List AV} {vs : Array Value} {w : World} {σ' : St} (hr : RT (fun _ => none) args vs.toList) (h : callN cx 1000000 f args σ0 = some (.one (.bool true), σ')) :
    Calls Tryz.prog f vs w fun e w' => e = .returned (.bool true) ∧ Below w.heap.size w w' := by
  have hc := callN_ok extOk (fun f s h => by cases h) mixed 1000000 f args σ0 _ σ' h (fun _ => none) w vs (R0 w) (fun g => by show RA _ .bad _; simp only [RA]) hr
  refine hc.2.mono fun e w' he => ?_
  obtain ⟨π', x, rfl, _, hx, hg⟩ := he
  simp only [RA] at hx
  have hx' : x = .bool true := hx
  subst hx'
  exact ⟨rfl, hg.same.os, hg.same.tape, hg.same.output, hg.grow, fun b hb => hg.frame b hb fun ⟨i, blk, y, hi, _⟩ => by cases hi⟩

set_option maxRecDepth 100000 in
theorem collectNone_lifted (os : Os) (started : os.Started) (H : Type) (enc : TypeId × Value → H) :
    ReturnsInHanded {} Tryz.checked os 6 .any (Rows.collectNoneSpec.pre6 enc Tryz.prog Tryz.f6 Rows.collectNoneRow.domain false) (Rows.collectNoneSpec.post enc Tryz.prog Tryz.f6 false true false false) := by
  refine returnsInHanded_of_change_sized (C := Tryz.checked) own started (by kernel_rfl) Tryz.func6
    (ChangeSpec.witness6 (enc := enc) (C := Tryz.checked) false ⟨#[], #[.string ByteArray.empty, .int .i64 0, .int .i64 0, .string ByteArray.empty], []⟩ 8 (by kernel_rfl) (by kernel_rfl) (by kernel_rfl) (by kernel_rfl)) ?_
  intro W base args ds gs before hval0 hW _ _ _
  have hval : ∀ (j : Nat) t v, Tryz.f6.params[j]? = some t → args[j]? = some v → Value.okWide Tryz.prog W .any base t v := hval0
  have hW' := hW
  obtain ⟨p, q, hA0, hV, rfl, hfz, hnd⟩ := hW
  have hA : DataW.TrodAll enc Tryz.prog W 0 (fun _ => true) true Tryz.f6.params.toList args.toList ds p := hA0
  rw [Tryz.params6] at hA hval
  obtain ⟨v0, vs0, d0, ds0, p0, q0, hargs, rfl, rfl, h0, r0⟩ := trodAll_cons hA
  obtain ⟨v1, vs1, d1, ds1, p1, q1, rfl, rfl, rfl, h1, r1⟩ := trodAll_cons r0
  obtain ⟨v2, vs2, d2, ds2, p2, q2, rfl, rfl, rfl, h2, r2⟩ := trodAll_cons r1
  obtain ⟨v3, vs3, d3, ds3, p3, q3, rfl, rfl, rfl, h3, r3⟩ := trodAll_cons r2
  obtain ⟨rfl, rfl, rfl⟩ := trodAll_nil r3
  obtain rfl : args = #[v0, v1, v2, v3] := by cases args; simp_all
  obtain ⟨rfl, rfl⟩ := trodVars_none hV
  obtain ⟨a0, rfl, rfl, rfl, w0⟩ := open_string Tryz.underlying9 (hval 0 9 v0 rfl rfl) h0
  obtain ⟨a1, rfl, rfl, rfl, w1⟩ := open_int Tryz.underlying3 (hval 1 3 v1 rfl rfl) h1
  obtain ⟨a2, rfl, rfl, rfl, w2⟩ := open_int Tryz.underlying3 (hval 2 3 v2 rfl rfl) h2
  obtain ⟨a3, rfl, rfl, rfl, w3⟩ := open_string Tryz.underlying9 (hval 3 9 v3 rfl rfl) h3
  obtain ⟨σ', hrun⟩ := run_collectNone a0 a1 a2 a3
  refine (calls_of_run (w := W) (vs := #[.string a0, .int .i64 a1, .int .i64 a2, .string a3]) (by simp [RT, RA, RC]) hrun).mono ?_
  rintro e W' ⟨rfl, bel⟩
  exact ⟨_, rfl, _, _, _, [], _, [], hW', trodAll_mk1 (shut_bool Tryz.underlying4 _), (trodAll_cons_mk (shut_string Tryz.underlying9 w0) (trodAll_cons_mk (shut_int Tryz.underlying3 w1) (trodAll_cons_mk (shut_int Tryz.underlying3 w2) (trodAll_cons_mk (shut_string Tryz.underlying9 w3) trodAll_mk0)))), rfl, bel.frame _, fun h => by cases h⟩
theorem collectNone_holds : Rows.CollectNoneSaid :=
  OpenClaim.holds_of_wide 6 Tryz.f6 rfl rfl rfl rfl rfl rfl rfl ⟨rfl, rfl, rfl, rfl, rfl⟩ rfl rfl rfl rfl rfl (by kernel_rfl) Tryz.func6 collectNone_facts collectNone_instance collectNone_wrapper
    (fun os started H enc _ => collectNone_lifted os started H enc)
#print axioms collectNone_holds
end Go.Proofs.YtlenplmbdclkbaaGreat
