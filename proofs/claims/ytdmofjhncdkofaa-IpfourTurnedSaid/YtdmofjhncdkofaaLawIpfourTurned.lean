-- made by a program of this session (wip/rowgen.py)
import Derived.Test.YtdmofjhncdkofaaRows
import Derived.Test.YtdmofjhncdkofaaQxT
import Derived.Test.YtdmofjhncdkofaaPureIpfourTurned
import Derived.Test.YtdmofjhncdkofaaRowS
import Derived.WalkKit
import Derived.ProofKit
import Derived.OpenShut
import Derived.ShutString
import Derived.ChangeOld
import Derived.Below
import Derived.SizedLaws
namespace Go.Proofs.Ytdmofjhncdkofaa.ipfourTurned
open Go.ChangeShapes Go.WideShapes Go.ChangeAt Go.RowKit Go.Proofs.Ytdmofjhncdkofaa.Q Go.Proofs.YtdmofjhncdkofaaW.PrintWords
open Go.ChangeMaps (open_string shut_string)
set_option linter.unusedVariables false
theorem own : ownKnob Try.prog.godebug = none := by kernel_rfl
theorem laidOut : laidOutB Try.prog = true := by kernel_rfl
set_option maxRecDepth 100000 in
theorem lifted (os : Os) (started : os.Started) (H : Type) (enc : TypeId × Value → H) :
    ReturnsInHanded {} Try.checked os 6 .any (Rows.ipfourTurnedSpec.pre6 enc Try.prog Try.f6 Rows.ipfourTurnedRow.domain false) (Rows.ipfourTurnedSpec.post enc Try.prog Try.f6 false true false false) := by
  refine returnsInHanded_of_change_sized (C := Try.checked) own started (by kernel_rfl) Try.func6
    (ChangeSpec.witness6 (enc := enc) (C := Try.checked) false ⟨#[], #[.agg #[.int .i64 0, .int .i64 0, .int .i64 0, .int .i64 0, .int .i64 0, .int .i64 0, .string ByteArray.empty, .string ByteArray.empty, .string ByteArray.empty], .string ByteArray.empty, .int .i64 0, .int .u8 0], []⟩ 8 (by kernel_rfl) (by kernel_rfl) (by kernel_rfl) (by kernel_rfl)) ?_
  intro W base args ds gs before hval0 hW hcnd hsz0 _
  have hsz : (DataW.weightsEach Try.prog (Try.f6.params.toList ++ Rows.ipfourTurnedSpec.plain.varTypes Try.prog) (ds ++ gs)).all (· ≤ reachBytes) = true := hsz0
  have hval : ∀ (j : Nat) t v, Try.f6.params[j]? = some t → args[j]? = some v → Value.okWide Try.prog W .any base t v := hval0
  have hW' := hW
  obtain ⟨p, q, hA0, hV, rfl, hfz, hnd⟩ := hW
  have hA : DataW.TrodAll enc Try.prog W 0 (fun _ => true) true Try.f6.params.toList args.toList ds p := hA0
  rw [Try.params6] at hA hval hsz
  obtain ⟨v0, vs0, d0, ds0, p0, q0, hargs, rfl, rfl, h0, r0⟩ := trodAll_cons hA
  obtain ⟨v1, vs1, d1, ds1, p1, q1, rfl, rfl, rfl, h1, r1⟩ := trodAll_cons r0
  obtain ⟨v2, vs2, d2, ds2, p2, q2, rfl, rfl, rfl, h2, r2⟩ := trodAll_cons r1
  obtain ⟨v3, vs3, d3, ds3, p3, q3, rfl, rfl, rfl, h3, r3⟩ := trodAll_cons r2
  obtain ⟨rfl, rfl, rfl⟩ := trodAll_nil r3
  obtain rfl : args = #[v0, v1, v2, v3] := by cases args; simp_all
  obtain ⟨rfl, rfl⟩ := trodVars_none hV
  have k0 := h0
  have lt0 : ∀ x ∈ p0, x.block < W.heap.size := by obtain ⟨m, hm⟩ := k0; exact DataW.trod_lt m _ _ _ hm
  obtain ⟨c0, y0, n0, hv0, hd0, hf0⟩ := RowS.open_aggN Try.underlying27 (by kernel_rfl) (by kernel_rfl) (hval 0 27 v0 rfl rfl) h0
  have hz0 : ∀ m ∈ d0.weights Try.prog 27, m ≤ reachBytes := fun m hm => RowS.sized_mem hsz (j := 0) (t := 27) (d := d0) rfl rfl hm
  rw [hd0] at hz0
  obtain ⟨a0_0, e0_0, g0_0, w0_0⟩ := RowS.fld_int Try.underlying3 (hf0 0 _ rfl)
  obtain ⟨a0_1, e0_1, g0_1, w0_1⟩ := RowS.fld_int Try.underlying3 (hf0 1 _ rfl)
  obtain ⟨a0_2, e0_2, g0_2, w0_2⟩ := RowS.fld_int Try.underlying3 (hf0 2 _ rfl)
  obtain ⟨a0_3, e0_3, g0_3, w0_3⟩ := RowS.fld_int Try.underlying3 (hf0 3 _ rfl)
  obtain ⟨a0_4, e0_4, g0_4, w0_4⟩ := RowS.fld_int Try.underlying3 (hf0 4 _ rfl)
  obtain ⟨a0_5, e0_5, g0_5, w0_5⟩ := RowS.fld_int Try.underlying3 (hf0 5 _ rfl)
  obtain ⟨a0_6, e0_6, g0_6⟩ := RowS.fld_str Try.underlying9 (hf0 6 _ rfl)
  have w0_6 : a0_6.size ≤ 140737488351232 := by
    have z := hz0 _ (RowS.agg_mem Try.underlying27 (j := 6) (d := (y0 6).1) rfl rfl (by rw [g0_6]; exact RowS.str_mem))
    rw [Array.length_toList] at z
    exact z
  obtain ⟨a0_7, e0_7, g0_7⟩ := RowS.fld_str Try.underlying9 (hf0 7 _ rfl)
  have w0_7 : a0_7.size ≤ 140737488351232 := by
    have z := hz0 _ (RowS.agg_mem Try.underlying27 (j := 7) (d := (y0 7).1) rfl rfl (by rw [g0_7]; exact RowS.str_mem))
    rw [Array.length_toList] at z
    exact z
  obtain ⟨a0_8, e0_8, g0_8⟩ := RowS.fld_str Try.underlying9 (hf0 8 _ rfl)
  have w0_8 : a0_8.size ≤ 140737488351232 := by
    have z := hz0 _ (RowS.agg_mem Try.underlying27 (j := 8) (d := (y0 8).1) rfl rfl (by rw [g0_8]; exact RowS.str_mem))
    rw [Array.length_toList] at z
    exact z
  have hx0 : v0 = .agg #[.int .i64 a0_0, .int .i64 a0_1, .int .i64 a0_2, .int .i64 a0_3, .int .i64 a0_4, .int .i64 a0_5, .string a0_6, .string a0_7, .string a0_8] := by
    rw [hv0]
    show Value.agg #[c0 0, c0 1, c0 2, c0 3, c0 4, c0 5, c0 6, c0 7, c0 8] = _
    rw [e0_0, e0_1, e0_2, e0_3, e0_4, e0_5, e0_6, e0_7, e0_8]
  clear hv0
  subst hx0
  obtain ⟨a1, rfl, rfl, rfl, z1⟩ := open_string Try.underlying9 (hval 1 9 v1 rfl rfl) h1
  have w1 : a1.size ≤ 140737488351232 := by
    have z := sized_string hsz (j := 1) (t := 9) rfl rfl
    rw [Array.length_toList] at z
    exact z
  obtain ⟨a2, rfl, rfl, rfl, w2⟩ := open_int Try.underlying3 (hval 2 3 v2 rfl rfl) h2
  obtain ⟨a3, rfl, rfl, rfl, w3⟩ := open_int Try.underlying5 (hval 3 5 v3 rfl rfl) h3
  clear hA0 hval0 hsz0 hsz
  obtain ⟨k, hp⟩ := Pure.IpfourTurned a0_0 a0_1 a0_2 a0_3 a0_4 a0_5 a0_6 a0_7 a0_8 a1 a2 a3 w0_0 w0_1 w0_2 w0_3 w0_4 w0_5 w0_6 w0_7 w0_8 w1 w2 w3
  refine (rillmeterlaw06_IpfourTurned.calls k a0_0 a0_1 a0_2 a0_3 a0_4 a0_5 a0_6 a0_7 a0_8 a1 a2 a3 true W  (Aside0.mk rfl) hp).mono ?_
  rintro e W' ⟨rfl, hbel⟩
  have bel : Below W.heap.size W W' := by first | exact hbel | exact hbel.below
  exact ⟨_, rfl, _, _, _, [], _, [], hW', trodAll_mk1 (shut_bool Try.underlying4 _), (trodAll_cons_mk (Below.trod laidOut (by kernel_rfl) (of_decide_eq_true (by kernel_rfl)) k0 bel lt0) (trodAll_cons_mk (shut_string Try.underlying9 z1) (trodAll_cons_mk (shut_int Try.underlying3 w2) (trodAll_cons_mk (shut_int Try.underlying5 w3) trodAll_mk0)))), rfl, bel.frame _, fun h => by cases h⟩
theorem over : Rows.ipfourTurnedRow.holds Try.pinned (OpenSpec.ofChange Rows.ipfourTurnedSpec) :=
  OpenClaim.holds_of_wide 6 Try.f6 rfl rfl rfl rfl rfl rfl rfl ⟨rfl, rfl, rfl, rfl, rfl⟩ rfl rfl rfl rfl rfl (by kernel_rfl) Try.func6 (by kernel_rfl)
    (of_decide_eq_true (by kernel_rfl)) (by unfold Func.isWrapper; first | (rw [if_pos (by decide +kernel)]; kernel_rfl) | (rw [if_neg (by decide +kernel)]; exact ⟨rfl, rfl⟩))
    (fun os started H enc _ => lifted os started H enc)
theorem proved : Rows.IpfourTurnedSaid := over
#print axioms proved
end Go.Proofs.Ytdmofjhncdkofaa.ipfourTurned
namespace Go.Proofs.Ytdmofjhncdkofaa
/-- The row, under a short name, for the claim. -/
theorem ipfourTurned_holds : Rows.IpfourTurnedSaid := ipfourTurned.proved
end Go.Proofs.Ytdmofjhncdkofaa
