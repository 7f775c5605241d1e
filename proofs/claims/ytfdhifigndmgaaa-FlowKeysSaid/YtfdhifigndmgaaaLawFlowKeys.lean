-- made by a program of this session (wip/rowgen.py)
import Derived.Test.YtfdhifigndmgaaaRows
import Derived.Test.YtfdhifigndmgaaaQx9
import Derived.Test.YtfdhifigndmgaaaPureFlowKeys
import Derived.Test.YtfdhifigndmgaaaRowS
import Derived.WalkKit
import Derived.ProofKit
import Derived.OpenShut
import Derived.ShutString
import Derived.ChangeOld
import Derived.Below
import Derived.SizedLaws
namespace Go.Proofs.Ytfdhifigndmgaaa.flowKeys
open Go.ChangeShapes Go.WideShapes Go.ChangeAt Go.RowKit Go.Proofs.Ytfdhifigndmgaaa.Q Go.Proofs.YtfdhifigndmgaaaW.PrintWords
open Go.ChangeMaps (open_string shut_string)
set_option linter.unusedVariables false
theorem own : ownKnob Try.prog.godebug = none := by kernel_rfl
theorem laidOut : laidOutB Try.prog = true := by kernel_rfl
set_option maxRecDepth 100000 in
theorem lifted (os : Os) (started : os.Started) (H : Type) (enc : TypeId × Value → H) :
    ReturnsInHanded {} Try.checked os 3 .any (Rows.flowKeysSpec.pre6 enc Try.prog Try.f3 Rows.flowKeysRow.domain false) (Rows.flowKeysSpec.post enc Try.prog Try.f3 false true false false) := by
  refine returnsInHanded_of_change_sized (C := Try.checked) own started (by kernel_rfl) Try.func3
    (ChangeSpec.witness6 (enc := enc) (C := Try.checked) false ⟨#[], #[.agg #[.string ByteArray.empty, .string ByteArray.empty, .int .i64 0, .int .i64 0, .int .i64 0]], []⟩ 8 (by kernel_rfl) (by kernel_rfl) (by kernel_rfl) (by kernel_rfl)) ?_
  intro W base args ds gs before hval0 hW hcnd hsz0 _
  have hsz : (DataW.weightsEach Try.prog (Try.f3.params.toList ++ Rows.flowKeysSpec.plain.varTypes Try.prog) (ds ++ gs)).all (· ≤ reachBytes) = true := hsz0
  have hval : ∀ (j : Nat) t v, Try.f3.params[j]? = some t → args[j]? = some v → Value.okWide Try.prog W .any base t v := hval0
  have hW' := hW
  obtain ⟨p, q, hA0, hV, rfl, hfz, hnd⟩ := hW
  have hA : DataW.TrodAll enc Try.prog W 0 (fun _ => true) true Try.f3.params.toList args.toList ds p := hA0
  rw [Try.params3] at hA hval hsz
  obtain ⟨v0, vs0, d0, ds0, p0, q0, hargs, rfl, rfl, h0, r0⟩ := trodAll_cons hA
  obtain ⟨rfl, rfl, rfl⟩ := trodAll_nil r0
  obtain rfl : args = #[v0] := by cases args; simp_all
  obtain ⟨rfl, rfl⟩ := trodVars_none hV
  have k0 := h0
  have lt0 : ∀ x ∈ p0, x.block < W.heap.size := by obtain ⟨m, hm⟩ := k0; exact DataW.trod_lt m _ _ _ hm
  obtain ⟨c0, y0, n0, hv0, hd0, hf0⟩ := RowS.open_aggN Try.underlying23 (by kernel_rfl) (by kernel_rfl) (hval 0 23 v0 rfl rfl) h0
  have hz0 : ∀ m ∈ d0.weights Try.prog 23, m ≤ reachBytes := fun m hm => RowS.sized_mem hsz (j := 0) (t := 23) (d := d0) rfl rfl hm
  rw [hd0] at hz0
  obtain ⟨a0_0, e0_0, g0_0⟩ := RowS.fld_str Try.underlying9 (hf0 0 _ rfl)
  have w0_0 : a0_0.size ≤ 140737488351232 := by
    have z := hz0 _ (RowS.agg_mem Try.underlying23 (j := 0) (d := (y0 0).1) rfl rfl (by rw [g0_0]; exact RowS.str_mem))
    rw [Array.length_toList] at z
    exact z
  obtain ⟨a0_1, e0_1, g0_1⟩ := RowS.fld_str Try.underlying9 (hf0 1 _ rfl)
  have w0_1 : a0_1.size ≤ 140737488351232 := by
    have z := hz0 _ (RowS.agg_mem Try.underlying23 (j := 1) (d := (y0 1).1) rfl rfl (by rw [g0_1]; exact RowS.str_mem))
    rw [Array.length_toList] at z
    exact z
  obtain ⟨a0_2, e0_2, g0_2, w0_2⟩ := RowS.fld_int Try.underlying3 (hf0 2 _ rfl)
  obtain ⟨a0_3, e0_3, g0_3, w0_3⟩ := RowS.fld_int Try.underlying3 (hf0 3 _ rfl)
  obtain ⟨a0_4, e0_4, g0_4, w0_4⟩ := RowS.fld_int Try.underlying3 (hf0 4 _ rfl)
  have hx0 : v0 = .agg #[.string a0_0, .string a0_1, .int .i64 a0_2, .int .i64 a0_3, .int .i64 a0_4] := by
    rw [hv0]
    show Value.agg #[c0 0, c0 1, c0 2, c0 3, c0 4] = _
    rw [e0_0, e0_1, e0_2, e0_3, e0_4]
  clear hv0
  subst hx0
  clear hA0 hval0 hsz0 hsz
  obtain ⟨k, hp⟩ := Pure.FlowKeys a0_0 a0_1 a0_2 a0_3 a0_4 w0_0 w0_1 w0_2 w0_3 w0_4
  refine (rillmeterlaw09_FlowKeys.calls k a0_0 a0_1 a0_2 a0_3 a0_4 true W  (Aside0.mk rfl) hp).mono ?_
  rintro e W' ⟨rfl, hbel⟩
  have bel : Below W.heap.size W W' := by first | exact hbel | exact hbel.below
  exact ⟨_, rfl, _, _, _, [], _, [], hW', trodAll_mk1 (shut_bool Try.underlying4 _), (trodAll_cons_mk (Below.trod laidOut (by kernel_rfl) (of_decide_eq_true (by kernel_rfl)) k0 bel lt0) trodAll_mk0), rfl, bel.frame _, fun h => by cases h⟩
theorem over : Rows.flowKeysRow.holds Try.pinned (OpenSpec.ofChange Rows.flowKeysSpec) :=
  OpenClaim.holds_of_wide 3 Try.f3 rfl rfl rfl rfl rfl rfl rfl ⟨rfl, rfl, rfl, rfl, rfl⟩ rfl rfl rfl rfl rfl (by kernel_rfl) Try.func3 (by kernel_rfl)
    (of_decide_eq_true (by kernel_rfl)) (by unfold Func.isWrapper; first | (rw [if_pos (by decide +kernel)]; kernel_rfl) | (rw [if_neg (by decide +kernel)]; exact ⟨rfl, rfl⟩))
    (fun os started H enc _ => lifted os started H enc)
theorem proved : Rows.FlowKeysSaid := over
#print axioms proved
end Go.Proofs.Ytfdhifigndmgaaa.flowKeys
namespace Go.Proofs.Ytfdhifigndmgaaa
/-- The row, under a short name, for the claim. -/
theorem flowKeys_holds : Rows.FlowKeysSaid := flowKeys.proved
end Go.Proofs.Ytfdhifigndmgaaa
