-- made by a program of this session (wip/rowgen.py)
import Derived.Test.YtfdhifigndmgaaaRows
import Derived.Test.YtfdhifigndmgaaaQx41
import Derived.Test.YtfdhifigndmgaaaPureFlowWritten
import Derived.Test.YtfdhifigndmgaaaRowS
import Derived.WalkKit
import Derived.ProofKit
import Derived.OpenShut
import Derived.ShutString
import Derived.ChangeOld
import Derived.Below
import Derived.SizedLaws
namespace Go.Proofs.Ytfdhifigndmgaaa.flowWritten
open Go.ChangeShapes Go.WideShapes Go.ChangeAt Go.RowKit Go.Proofs.Ytfdhifigndmgaaa.Q Go.Proofs.YtfdhifigndmgaaaW.PrintWords
open Go.ChangeMaps (open_string shut_string)
set_option linter.unusedVariables false
theorem own : ownKnob Try.prog.godebug = none := by kernel_rfl
theorem laidOut : laidOutB Try.prog = true := by kernel_rfl
set_option maxRecDepth 100000 in
theorem lifted (os : Os) (started : os.Started) (H : Type) (enc : TypeId × Value → H) :
    ReturnsInHanded {} Try.checked os 8 .any (Rows.flowWrittenSpec.pre6 enc Try.prog Try.f8 Rows.flowWrittenRow.domain false) (Rows.flowWrittenSpec.post enc Try.prog Try.f8 false true false false) := by
  refine returnsInHanded_of_change_sized (C := Try.checked) own started (by kernel_rfl) Try.func8
    (ChangeSpec.witness6 (enc := enc) (C := Try.checked) false ⟨#[], #[.agg #[.string ByteArray.empty, .string ByteArray.empty, .slice none 0 0, .int .i64 0], .agg #[.int .i64 0, .int .i64 0, .int .i64 0, .int .i64 0, .int .i64 0, .int .i64 0, .string ByteArray.empty, .string ByteArray.empty, .string ByteArray.empty], .int .i64 0, .int .i64 0, .string ByteArray.empty, .string ByteArray.empty], []⟩ 8 (by kernel_rfl) (by kernel_rfl) (by kernel_rfl) (by kernel_rfl)) ?_
  intro W base args ds gs before hval0 hW hcnd hsz0 _
  have hsz : (DataW.weightsEach Try.prog (Try.f8.params.toList ++ Rows.flowWrittenSpec.plain.varTypes Try.prog) (ds ++ gs)).all (· ≤ reachBytes) = true := hsz0
  have hval : ∀ (j : Nat) t v, Try.f8.params[j]? = some t → args[j]? = some v → Value.okWide Try.prog W .any base t v := hval0
  have hW' := hW
  obtain ⟨p, q, hA0, hV, rfl, hfz, hnd⟩ := hW
  have hA : DataW.TrodAll enc Try.prog W 0 (fun _ => true) true Try.f8.params.toList args.toList ds p := hA0
  rw [Try.params8] at hA hval hsz
  obtain ⟨v0, vs0, d0, ds0, p0, q0, hargs, rfl, rfl, h0, r0⟩ := trodAll_cons hA
  obtain ⟨v1, vs1, d1, ds1, p1, q1, rfl, rfl, rfl, h1, r1⟩ := trodAll_cons r0
  obtain ⟨v2, vs2, d2, ds2, p2, q2, rfl, rfl, rfl, h2, r2⟩ := trodAll_cons r1
  obtain ⟨v3, vs3, d3, ds3, p3, q3, rfl, rfl, rfl, h3, r3⟩ := trodAll_cons r2
  obtain ⟨v4, vs4, d4, ds4, p4, q4, rfl, rfl, rfl, h4, r4⟩ := trodAll_cons r3
  obtain ⟨v5, vs5, d5, ds5, p5, q5, rfl, rfl, rfl, h5, r5⟩ := trodAll_cons r4
  obtain ⟨rfl, rfl, rfl⟩ := trodAll_nil r5
  obtain rfl : args = #[v0, v1, v2, v3, v4, v5] := by cases args; simp_all
  obtain ⟨rfl, rfl⟩ := trodVars_none hV
  have k0 := h0
  have lt0 : ∀ x ∈ p0, x.block < W.heap.size := by obtain ⟨m, hm⟩ := k0; exact DataW.trod_lt m _ _ _ hm
  obtain ⟨c0, y0, n0, hv0, hd0, hf0⟩ := RowS.open_aggN Try.underlying41 (by kernel_rfl) (by kernel_rfl) (hval 0 41 v0 rfl rfl) h0
  have hz0 : ∀ m ∈ d0.weights Try.prog 41, m ≤ reachBytes := fun m hm => RowS.sized_mem hsz (j := 0) (t := 41) (d := d0) rfl rfl hm
  rw [hd0] at hz0
  obtain ⟨a0_0, e0_0, g0_0⟩ := RowS.fld_str Try.underlying9 (hf0 0 _ rfl)
  have w0_0 : a0_0.size ≤ 140737488351232 := by
    have z := hz0 _ (RowS.agg_mem Try.underlying41 (j := 0) (d := (y0 0).1) rfl rfl (by rw [g0_0]; exact RowS.str_mem))
    rw [Array.length_toList] at z
    exact z
  obtain ⟨a0_1, e0_1, g0_1⟩ := RowS.fld_str Try.underlying9 (hf0 1 _ rfl)
  have w0_1 : a0_1.size ≤ 140737488351232 := by
    have z := hz0 _ (RowS.agg_mem Try.underlying41 (j := 1) (d := (y0 1).1) rfl rfl (by rw [g0_1]; exact RowS.str_mem))
    rw [Array.length_toList] at z
    exact z
  obtain ⟨A0_2, c0_2, l0_2, e0_2, l1_0_2, l2_0_2, l3_0_2, l4_0_2⟩ := RowS.fld_rows k81 (fun x => True) Try.underlying39 Try.underlying81 (by kernel_rfl) (by kernel_rfl) rfl (fun g y n hf hw => by
    obtain ⟨b0, eb0, gb0, wb0⟩ := RowS.fld_int Try.underlying3 (hf 0 _ rfl)
    obtain ⟨b1, eb1, gb1, wb1⟩ := RowS.fld_int Try.underlying3 (hf 1 _ rfl)
    refine ⟨⟨b0, b1⟩, ?_, trivial⟩
    have hg : (List.range 2).map g = [g 0, g 1] := rfl
    show k81.K W _ ((List.range 2).map g)
    rw [hg, eb0, eb1]
    exact k81_mk W _)
    (hf0 2 _ rfl) (fun m hm => hz0 m (RowS.agg_mem Try.underlying41 (j := 2) (d := (y0 2).1) rfl rfl hm))
  have l5_0_2 : l0_2.length * 16 ≤ 140737488351232 := l4_0_2
  obtain ⟨a0_3, e0_3, g0_3, w0_3⟩ := RowS.fld_int Try.underlying3 (hf0 3 _ rfl)
  have hx0 : v0 = .agg #[.string a0_0, .string a0_1, .slice A0_2 l0_2.length c0_2, .int .i64 a0_3] := by
    rw [hv0]
    show Value.agg #[c0 0, c0 1, c0 2, c0 3] = _
    rw [e0_0, e0_1, e0_2, e0_3]
  clear hv0
  subst hx0
  have k1 := h1
  have lt1 : ∀ x ∈ p1, x.block < W.heap.size := by obtain ⟨m, hm⟩ := k1; exact DataW.trod_lt m _ _ _ hm
  obtain ⟨c1, y1, n1, hv1, hd1, hf1⟩ := RowS.open_aggN Try.underlying48 (by kernel_rfl) (by kernel_rfl) (hval 1 48 v1 rfl rfl) h1
  have hz1 : ∀ m ∈ d1.weights Try.prog 48, m ≤ reachBytes := fun m hm => RowS.sized_mem hsz (j := 1) (t := 48) (d := d1) rfl rfl hm
  rw [hd1] at hz1
  obtain ⟨a1_0, e1_0, g1_0, w1_0⟩ := RowS.fld_int Try.underlying3 (hf1 0 _ rfl)
  obtain ⟨a1_1, e1_1, g1_1, w1_1⟩ := RowS.fld_int Try.underlying3 (hf1 1 _ rfl)
  obtain ⟨a1_2, e1_2, g1_2, w1_2⟩ := RowS.fld_int Try.underlying3 (hf1 2 _ rfl)
  obtain ⟨a1_3, e1_3, g1_3, w1_3⟩ := RowS.fld_int Try.underlying3 (hf1 3 _ rfl)
  obtain ⟨a1_4, e1_4, g1_4, w1_4⟩ := RowS.fld_int Try.underlying3 (hf1 4 _ rfl)
  obtain ⟨a1_5, e1_5, g1_5, w1_5⟩ := RowS.fld_int Try.underlying3 (hf1 5 _ rfl)
  obtain ⟨a1_6, e1_6, g1_6⟩ := RowS.fld_str Try.underlying9 (hf1 6 _ rfl)
  have w1_6 : a1_6.size ≤ 140737488351232 := by
    have z := hz1 _ (RowS.agg_mem Try.underlying48 (j := 6) (d := (y1 6).1) rfl rfl (by rw [g1_6]; exact RowS.str_mem))
    rw [Array.length_toList] at z
    exact z
  obtain ⟨a1_7, e1_7, g1_7⟩ := RowS.fld_str Try.underlying9 (hf1 7 _ rfl)
  have w1_7 : a1_7.size ≤ 140737488351232 := by
    have z := hz1 _ (RowS.agg_mem Try.underlying48 (j := 7) (d := (y1 7).1) rfl rfl (by rw [g1_7]; exact RowS.str_mem))
    rw [Array.length_toList] at z
    exact z
  obtain ⟨a1_8, e1_8, g1_8⟩ := RowS.fld_str Try.underlying9 (hf1 8 _ rfl)
  have w1_8 : a1_8.size ≤ 140737488351232 := by
    have z := hz1 _ (RowS.agg_mem Try.underlying48 (j := 8) (d := (y1 8).1) rfl rfl (by rw [g1_8]; exact RowS.str_mem))
    rw [Array.length_toList] at z
    exact z
  have hx1 : v1 = .agg #[.int .i64 a1_0, .int .i64 a1_1, .int .i64 a1_2, .int .i64 a1_3, .int .i64 a1_4, .int .i64 a1_5, .string a1_6, .string a1_7, .string a1_8] := by
    rw [hv1]
    show Value.agg #[c1 0, c1 1, c1 2, c1 3, c1 4, c1 5, c1 6, c1 7, c1 8] = _
    rw [e1_0, e1_1, e1_2, e1_3, e1_4, e1_5, e1_6, e1_7, e1_8]
  clear hv1
  subst hx1
  obtain ⟨a2, rfl, rfl, rfl, w2⟩ := open_int Try.underlying3 (hval 2 3 v2 rfl rfl) h2
  obtain ⟨a3, rfl, rfl, rfl, w3⟩ := open_int Try.underlying3 (hval 3 3 v3 rfl rfl) h3
  obtain ⟨a4, rfl, rfl, rfl, z4⟩ := open_string Try.underlying9 (hval 4 9 v4 rfl rfl) h4
  have w4 : a4.size ≤ 140737488351232 := by
    have z := sized_string hsz (j := 4) (t := 9) rfl rfl
    rw [Array.length_toList] at z
    exact z
  obtain ⟨a5, rfl, rfl, rfl, z5⟩ := open_string Try.underlying9 (hval 5 9 v5 rfl rfl) h5
  have w5 : a5.size ≤ 140737488351232 := by
    have z := sized_string hsz (j := 5) (t := 9) rfl rfl
    rw [Array.length_toList] at z
    exact z
  clear hA0 hval0 hsz0 hsz
  obtain ⟨k, hp⟩ := Pure.FlowWritten a0_0 a0_1 l0_2 a0_3 a1_0 a1_1 a1_2 a1_3 a1_4 a1_5 a1_6 a1_7 a1_8 a2 a3 a4 a5 w0_0 w0_1 l5_0_2 l3_0_2 w0_3 w1_0 w1_1 w1_2 w1_3 w1_4 w1_5 w1_6 w1_7 w1_8 w2 w3 w4 w5
  refine (rillmeterlaw09_FlowWritten.calls k a0_0 a0_1 A0_2 c0_2 l0_2 a0_3 a1_0 a1_1 a1_2 a1_3 a1_4 a1_5 a1_6 a1_7 a1_8 a2 a3 a4 a5 true W l2_0_2 l1_0_2 (Aside0.mk rfl) hp).mono ?_
  rintro e W' ⟨rfl, hbel⟩
  have bel : Below W.heap.size W W' := by first | exact hbel | exact hbel.below
  exact ⟨_, rfl, _, _, _, [], _, [], hW', trodAll_mk1 (shut_bool Try.underlying4 _), (trodAll_cons_mk (Below.trod laidOut (by kernel_rfl) (of_decide_eq_true (by kernel_rfl)) k0 bel lt0) (trodAll_cons_mk (Below.trod laidOut (by kernel_rfl) (of_decide_eq_true (by kernel_rfl)) k1 bel lt1) (trodAll_cons_mk (shut_int Try.underlying3 w2) (trodAll_cons_mk (shut_int Try.underlying3 w3) (trodAll_cons_mk (shut_string Try.underlying9 z4) (trodAll_cons_mk (shut_string Try.underlying9 z5) trodAll_mk0)))))), rfl, bel.frame _, fun h => by cases h⟩
theorem over : Rows.flowWrittenRow.holds Try.pinned (OpenSpec.ofChange Rows.flowWrittenSpec) :=
  OpenClaim.holds_of_wide 8 Try.f8 rfl rfl rfl rfl rfl rfl rfl ⟨rfl, rfl, rfl, rfl, rfl⟩ rfl rfl rfl rfl rfl (by kernel_rfl) Try.func8 (by kernel_rfl)
    (of_decide_eq_true (by kernel_rfl)) (by unfold Func.isWrapper; first | (rw [if_pos (by decide +kernel)]; kernel_rfl) | (rw [if_neg (by decide +kernel)]; exact ⟨rfl, rfl⟩))
    (fun os started H enc _ => lifted os started H enc)
theorem proved : Rows.FlowWrittenSaid := over
#print axioms proved
end Go.Proofs.Ytfdhifigndmgaaa.flowWritten
namespace Go.Proofs.Ytfdhifigndmgaaa
/-- The row, under a short name, for the claim. -/
theorem flowWritten_holds : Rows.FlowWrittenSaid := flowWritten.proved
end Go.Proofs.Ytfdhifigndmgaaa
