-- made by a program of this session (wip/rowgen.py)
import Derived.Test.YtngcelombflnfaaRows
import Derived.Test.YtngcelombflnfaaQx18
import Derived.Test.YtngcelombflnfaaPureEtherPuts
import Derived.Test.YtngcelombflnfaaRowS
import Derived.WalkKit
import Derived.ProofKit
import Derived.OpenShut
import Derived.ShutString
import Derived.ChangeOld
import Derived.Below
import Derived.SizedLaws
namespace Go.Proofs.Ytngcelombflnfaa.etherPuts
open Go.ChangeShapes Go.WideShapes Go.ChangeAt Go.RowKit Go.Proofs.Ytngcelombflnfaa.Q Go.Proofs.YtngcelombflnfaaW.PrintWords
open Go.ChangeMaps (open_string shut_string)
set_option linter.unusedVariables false
theorem own : ownKnob Try.prog.godebug = none := by kernel_rfl
theorem laidOut : laidOutB Try.prog = true := by kernel_rfl
set_option maxRecDepth 100000 in
theorem lifted (os : Os) (started : os.Started) (H : Type) (enc : TypeId × Value → H) :
    ReturnsInHanded {} Try.checked os 6 .any (Rows.etherPutsSpec.pre6 enc Try.prog Try.f6 Rows.etherPutsRow.domain false) (Rows.etherPutsSpec.post enc Try.prog Try.f6 false true false false) := by
  refine returnsInHanded_of_change_sized (C := Try.checked) own started (by kernel_rfl) Try.func6
    (ChangeSpec.witness6 (enc := enc) (C := Try.checked) false ⟨#[], #[.agg #[.string ByteArray.empty, .string ByteArray.empty, .slice none 0 0, .int .i64 0], .string ByteArray.empty], []⟩ 8 (by kernel_rfl) (by kernel_rfl) (by kernel_rfl) (by kernel_rfl)) ?_
  intro W base args ds gs before hval0 hW hcnd hsz0 _
  have hsz : (DataW.weightsEach Try.prog (Try.f6.params.toList ++ Rows.etherPutsSpec.plain.varTypes Try.prog) (ds ++ gs)).all (· ≤ reachBytes) = true := hsz0
  have hval : ∀ (j : Nat) t v, Try.f6.params[j]? = some t → args[j]? = some v → Value.okWide Try.prog W .any base t v := hval0
  have hW' := hW
  obtain ⟨p, q, hA0, hV, rfl, hfz, hnd⟩ := hW
  have hA : DataW.TrodAll enc Try.prog W 0 (fun _ => true) true Try.f6.params.toList args.toList ds p := hA0
  rw [Try.params6] at hA hval hsz
  obtain ⟨v0, vs0, d0, ds0, p0, q0, hargs, rfl, rfl, h0, r0⟩ := trodAll_cons hA
  obtain ⟨v1, vs1, d1, ds1, p1, q1, rfl, rfl, rfl, h1, r1⟩ := trodAll_cons r0
  obtain ⟨rfl, rfl, rfl⟩ := trodAll_nil r1
  obtain rfl : args = #[v0, v1] := by cases args; simp_all
  obtain ⟨rfl, rfl⟩ := trodVars_none hV
  have k0 := h0
  have lt0 : ∀ x ∈ p0, x.block < W.heap.size := by obtain ⟨m, hm⟩ := k0; exact DataW.trod_lt m _ _ _ hm
  obtain ⟨c0, y0, n0, hv0, hd0, hf0⟩ := RowS.open_aggN Try.underlying25 (by kernel_rfl) (by kernel_rfl) (hval 0 25 v0 rfl rfl) h0
  have hz0 : ∀ m ∈ d0.weights Try.prog 25, m ≤ reachBytes := fun m hm => RowS.sized_mem hsz (j := 0) (t := 25) (d := d0) rfl rfl hm
  rw [hd0] at hz0
  obtain ⟨a0_0, e0_0, g0_0⟩ := RowS.fld_str Try.underlying9 (hf0 0 _ rfl)
  have w0_0 : a0_0.size ≤ 140737488351232 := by
    have z := hz0 _ (RowS.agg_mem Try.underlying25 (j := 0) (d := (y0 0).1) rfl rfl (by rw [g0_0]; exact RowS.str_mem))
    rw [Array.length_toList] at z
    exact z
  obtain ⟨a0_1, e0_1, g0_1⟩ := RowS.fld_str Try.underlying9 (hf0 1 _ rfl)
  have w0_1 : a0_1.size ≤ 140737488351232 := by
    have z := hz0 _ (RowS.agg_mem Try.underlying25 (j := 1) (d := (y0 1).1) rfl rfl (by rw [g0_1]; exact RowS.str_mem))
    rw [Array.length_toList] at z
    exact z
  obtain ⟨A0_2, c0_2, l0_2, e0_2, l1_0_2, l2_0_2, l3_0_2, l4_0_2⟩ := RowS.fld_rows k39 (fun x => True) Try.underlying23 Try.underlying39 (by kernel_rfl) (by kernel_rfl) rfl (fun g y n hf hw => by
    obtain ⟨b0, eb0, gb0, wb0⟩ := RowS.fld_int Try.underlying3 (hf 0 _ rfl)
    obtain ⟨b1, eb1, gb1, wb1⟩ := RowS.fld_int Try.underlying3 (hf 1 _ rfl)
    refine ⟨⟨b0, b1⟩, ?_, trivial⟩
    have hg : (List.range 2).map g = [g 0, g 1] := rfl
    show k39.K W _ ((List.range 2).map g)
    rw [hg, eb0, eb1]
    exact k39_mk W _)
    (hf0 2 _ rfl) (fun m hm => hz0 m (RowS.agg_mem Try.underlying25 (j := 2) (d := (y0 2).1) rfl rfl hm))
  have l5_0_2 : l0_2.length * 16 ≤ 140737488351232 := l4_0_2
  obtain ⟨a0_3, e0_3, g0_3, w0_3⟩ := RowS.fld_int Try.underlying3 (hf0 3 _ rfl)
  have hx0 : v0 = .agg #[.string a0_0, .string a0_1, .slice A0_2 l0_2.length c0_2, .int .i64 a0_3] := by
    rw [hv0]
    show Value.agg #[c0 0, c0 1, c0 2, c0 3] = _
    rw [e0_0, e0_1, e0_2, e0_3]
  clear hv0
  subst hx0
  obtain ⟨a1, rfl, rfl, rfl, z1⟩ := open_string Try.underlying9 (hval 1 9 v1 rfl rfl) h1
  have w1 : a1.size ≤ 140737488351232 := by
    have z := sized_string hsz (j := 1) (t := 9) rfl rfl
    rw [Array.length_toList] at z
    exact z
  clear hA0 hval0 hsz0 hsz
  obtain ⟨k, hp⟩ := Pure.EtherPuts a0_0 a0_1 l0_2 a0_3 a1 w0_0 w0_1 l5_0_2 l3_0_2 w0_3 w1
  refine (rillmeterlaw05_EtherPuts.calls k a0_0 a0_1 A0_2 c0_2 l0_2 a0_3 a1 true W l2_0_2 l1_0_2 (Aside0.mk rfl) hp).mono ?_
  rintro e W' ⟨rfl, hbel⟩
  have bel : Below W.heap.size W W' := by first | exact hbel | exact hbel.below
  exact ⟨_, rfl, _, _, _, [], _, [], hW', trodAll_mk1 (shut_bool Try.underlying4 _), (trodAll_cons_mk (Below.trod laidOut (by kernel_rfl) (of_decide_eq_true (by kernel_rfl)) k0 bel lt0) (trodAll_cons_mk (shut_string Try.underlying9 z1) trodAll_mk0)), rfl, bel.frame _, fun h => by cases h⟩
theorem over : Rows.etherPutsRow.holds Try.pinned (OpenSpec.ofChange Rows.etherPutsSpec) :=
  OpenClaim.holds_of_wide 6 Try.f6 rfl rfl rfl rfl rfl rfl rfl ⟨rfl, rfl, rfl, rfl, rfl⟩ rfl rfl rfl rfl rfl (by kernel_rfl) Try.func6 (by kernel_rfl)
    (of_decide_eq_true (by kernel_rfl)) (by unfold Func.isWrapper; first | (rw [if_pos (by decide +kernel)]; kernel_rfl) | (rw [if_neg (by decide +kernel)]; exact ⟨rfl, rfl⟩))
    (fun os started H enc _ => lifted os started H enc)
theorem proved : Rows.EtherPutsSaid := over
#print axioms proved
end Go.Proofs.Ytngcelombflnfaa.etherPuts
namespace Go.Proofs.Ytngcelombflnfaa
/-- The row, under a short name, for the claim. -/
theorem etherPuts_holds : Rows.EtherPutsSaid := etherPuts.proved
end Go.Proofs.Ytngcelombflnfaa
