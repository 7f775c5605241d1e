/- The law CollectWrites, for every input. -/
import Derived.Test.YtggjhmhjjghncaaGreatRows
import Derived.Test.YtggjhmhjjghncaaGreatRowT
import Derived.Test.YtggjhmhjjghncaaGreatRun3
import Derived.Test.YtggjhmhjjghncaaGreatFactsCollectWrites
import Derived.WalkKit
import Derived.ProofKit
import Derived.OpenShut
import Derived.ShutString
import Derived.ChangeOld
import Derived.Below
import Derived.SizedLaws
import Derived.LaidMore
import Derived.Lay
import Derived.Handed
namespace Go.Proofs.YtggjhmhjjghncaaGreat
open Go.ChangeShapes Go.WideShapes Go.ChangeAt Go.RowKit Go.Run
open Go.ChangeMaps (open_string shut_string)
set_option linter.unusedVariables false
theorem own : ownKnob Tryz.prog.godebug = none := by kernel_rfl
theorem laidOut : laidOutB Tryz.prog = true := pf1

theorem calls_of_yl {n f : Nat} {args : List AV} {vs : Array Value} {w : World} {σ : St} {π : Pl} (hR : R π σ w) (hO : ∀ b, ¬ Go.Run.own π σ b) (hr : RT π args vs.toList) (h : Yl (callK (C 1000000) Oct.U4 n f args σ) (fun v _ => v = B true)) :
    Calls Tryz.prog f vs w fun e w' => e = .returned (.bool true) ∧ Below w.heap.size w w' := by
  obtain ⟨v, σ', h, rfl⟩ := h
  have hc := callK_ok (extOk 1000000) Oct.U4_ok mixed n f args σ _ σ' h π w vs hR (fun g => by show RA _ .bad _; simp only [RA]) hr
  refine hc.2.mono fun e w' he => ?_
  obtain ⟨π', x, rfl, _, hx, hg⟩ := he
  unfold B at hx
  simp only [RA] at hx
  have hx' : x = .bool true := hx
  subst hx'
  exact ⟨rfl, hg.same.os, hg.same.tape, hg.same.output, hg.grow, fun b hb => hg.frame b hb (hO b)⟩
theorem R0 (w : World) : R (fun _ => none) σE w := R_empty w

set_option maxRecDepth 100000 in
theorem collectWrites_lifted (os : Os) (started : os.Started) (H : Type) (enc : TypeId × Value → H) :
    ReturnsInHanded {} Tryz.checked os 3 .any (Rows.collectWritesSpec.pre6 enc Tryz.prog Tryz.f3 Rows.collectWritesRow.domain false) (Rows.collectWritesSpec.post enc Tryz.prog Tryz.f3 false true false false) := by
  refine returnsInHanded_of_change_sized (C := Tryz.checked) own started (by kernel_rfl) Tryz.func3
    (ChangeSpec.witness6 (enc := enc) (C := Tryz.checked) false ⟨#[], #[.agg #[.int .i64 0, .int .i64 0, .int .i64 0, .int .i64 0, .string ByteArray.empty], .int .i64 0, .int .i64 0], []⟩ 8 (by kernel_rfl) (by kernel_rfl) (by kernel_rfl) (by kernel_rfl)) ?_
  intro W base args ds gs before hval0 hW _ _ _
  have hval : ∀ (j : Nat) t v, Tryz.f3.params[j]? = some t → args[j]? = some v → Value.okWide Tryz.prog W .any base t v := hval0
  have hW' := hW
  obtain ⟨p, q, hA0, hV, rfl, hfz, hnd⟩ := hW
  have hA : DataW.TrodAll enc Tryz.prog W 0 (fun _ => true) true Tryz.f3.params.toList args.toList ds p := hA0
  rw [Tryz.params3] at hA hval
  obtain ⟨v0, vs0, d0, ds0, p0, q0, hargs, rfl, rfl, h0, r0⟩ := trodAll_cons hA
  obtain ⟨v1, vs1, d1, ds1, p1, q1, rfl, rfl, rfl, h1, r1⟩ := trodAll_cons r0
  obtain ⟨v2, vs2, d2, ds2, p2, q2, rfl, rfl, rfl, h2, r2⟩ := trodAll_cons r1
  obtain ⟨rfl, rfl, rfl⟩ := trodAll_nil r2
  obtain rfl : args = #[v0, v1, v2] := by cases args; simp_all
  obtain ⟨rfl, rfl⟩ := trodVars_none hV
  have k0 := h0
  have lt0 : ∀ x ∈ p0, x.block < W.heap.size := by obtain ⟨m, hm⟩ := k0; exact DataW.trod_lt m _ _ _ hm
  obtain ⟨c0, y0, n0, hv0, hd0, hf0⟩ := RowT.open_aggN Tryz.underlying23 (by kernel_rfl) (by kernel_rfl) (hval 0 23 v0 rfl rfl) h0
  obtain ⟨a0_0, e0_0, g0_0, w0_0⟩ := RowT.fld_int Tryz.underlying3 (hf0 0 _ rfl)
  obtain ⟨a0_1, e0_1, g0_1, w0_1⟩ := RowT.fld_int Tryz.underlying3 (hf0 1 _ rfl)
  obtain ⟨a0_2, e0_2, g0_2, w0_2⟩ := RowT.fld_int Tryz.underlying3 (hf0 2 _ rfl)
  obtain ⟨a0_3, e0_3, g0_3, w0_3⟩ := RowT.fld_int Tryz.underlying3 (hf0 3 _ rfl)
  obtain ⟨a0_4, e0_4, g0_4⟩ := RowT.fld_str Tryz.underlying9 (hf0 4 _ rfl)
  have hx0 : v0 = .agg #[.int .i64 a0_0, .int .i64 a0_1, .int .i64 a0_2, .int .i64 a0_3, .string a0_4] := by
    rw [hv0]
    show Value.agg #[c0 0, c0 1, c0 2, c0 3, c0 4] = _
    rw [e0_0, e0_1, e0_2, e0_3, e0_4]
  clear hv0
  subst hx0
  obtain ⟨a1, rfl, rfl, rfl, w1⟩ := open_int Tryz.underlying3 (hval 1 3 v1 rfl rfl) h1
  obtain ⟨a2, rfl, rfl, rfl, w2⟩ := open_int Tryz.underlying3 (hval 2 3 v2 rfl rfl) h2
  refine (calls_of_yl (w := W) (R0 W) (fun b ⟨i, blk, x, hb, _⟩ => by cases hb) (vs := #[.agg #[.int .i64 a0_0, .int .i64 a0_1, .int .i64 a0_2, .int .i64 a0_3, .string a0_4], .int .i64 a1, .int .i64 a2]) (by simp only [RT, RA, I, Iu]; exact ⟨⟨_, rfl, rfl, rfl, rfl, rfl, rfl, trivial⟩, rfl, rfl, trivial⟩) (Oct.law_run (n := 0) (sw := a0_0) (ep := a0_1) (pt := a0_2) (of := a0_3) (d := a0_4.data.toList) (id := a1) (t := a2))).mono ?_
  rintro e W' ⟨rfl, bel⟩
  exact ⟨_, rfl, _, _, _, [], _, [], hW', trodAll_mk1 (shut_bool Tryz.underlying4 _), (trodAll_cons_mk (Below.trod laidOut (by kernel_rfl) (of_decide_eq_true (by kernel_rfl)) k0 bel lt0) (trodAll_cons_mk (shut_int Tryz.underlying3 w1) (trodAll_cons_mk (shut_int Tryz.underlying3 w2) trodAll_mk0))), rfl, bel.frame _, fun h => by cases h⟩
theorem collectWrites_holds : Rows.CollectWritesSaid :=
  OpenClaim.holds_of_wide 3 Tryz.f3 rfl rfl rfl rfl rfl rfl rfl ⟨rfl, rfl, rfl, rfl, rfl⟩ rfl rfl rfl rfl rfl (by kernel_rfl) Tryz.func3 collectWrites_facts collectWrites_instance collectWrites_wrapper
    (fun os started H enc _ => collectWrites_lifted os started H enc)
#print axioms collectWrites_holds
end Go.Proofs.YtggjhmhjjghncaaGreat
