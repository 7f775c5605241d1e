/- The law FabricRefuses, for every input. -/
import Derived.Test.YtnoieleoklpciaaGreatDoorRows
import Derived.Test.YtnoieleoklpciaaGreatDoorRowT
import Derived.Test.YtnoieleoklpciaaGreatDoorCards
import Derived.Test.YtnoieleoklpciaaGreatDoorTie
import Derived.Test.YtnoieleoklpciaaGreatDoorFactsCardFabricRefuses
import Derived.Test.YtnoieleoklpciaaGreatDoorLw3
import Derived.Test.YtnoieleoklpciaaGreatDoorFactsFabricRefuses
import Derived.WalkKit
import Derived.Lib.LaidTab
import Derived.ProofKit
import Derived.OpenShut
import Derived.ShutString
import Derived.ChangeOld
import Derived.Below
import Derived.SizedLaws
import Derived.LaidMore
import Derived.Lay
import Derived.Handed
import Derived.SevenTiedAt
set_option linter.unusedVariables false
set_option linter.unusedSimpArgs false
namespace Go.Proofs.YtnoieleoklpciaaGreatDoor
open Go.ChangeShapes Go.WideShapes Go.ChangeAt Go.RowKit Go.Run
open Go.ChangeMaps (open_string shut_string)
set_option linter.unusedVariables false
theorem own : ownKnob Tryz.prog.godebug = none := by kernel_rfl
theorem laidOut : laidOutB Tryz.prog = true := pf1

/-- the table's numbers -/
def dbZ : List Int := [0, 1, 56, 2, 57, 49, 28, 3, 61, 58, 42, 50, 38, 29, 17, 4, 62, 47, 59, 36, 45, 43, 51, 22, 53, 39, 33, 30, 24, 18, 12, 5, 63, 55, 48, 27, 60, 41, 37, 16, 46, 35, 44, 21, 52, 32, 23, 11, 54, 26, 40, 15, 34, 20, 31, 10, 25, 14, 19, 9, 13, 8, 7, 6]
/-- where the table lies -/
def pl0 : Pl := fun i => if i = 0 then some (0, 0, 64) else none
theorem RL_u8 {π : Pl} : ∀ (zs : List Int), RL π (zs.map fun z => CV.int .u8 z) (zs.map fun z => Value.int .u8 z)
  | [] => trivial
  | z :: zs => ⟨rfl, RL_u8 zs⟩
theorem R_tab {w : World} (h : Lib.TabIs Tryz.prog w "math/bits.deBruijn64tab" .u8 dbZ) : R pl0 (σE.push (.ro Core.deB)) w := by
  have hg : Tryz.prog.globalNamed "math/bits.deBruijn64tab" = some 0 := by kernel_rfl
  unfold Lib.TabIs World.var? at h
  rw [hg] at h
  have h1 := h
  simp only [Option.bind_some] at h1
  refine ⟨fun i b hb => ?_, fun i j bi bj x y hb hb2 hro => ?_, fun i x hx => ?_⟩
  · rw [St.get_push] at hb
    by_cases hi : i = 0
    · subst hi
      rw [if_pos (show (0 : Nat) = σE.next from rfl)] at hb
      cases hb
      refine ⟨(0, 0, 64), rfl, ?_⟩
      split at h1
      · rename_i cs e frz hh
        have h2 := Option.some.inj h1
        subst h2
        refine ⟨_, e, frz, hh, rfl, Nat.le_refl _, dbZ.map fun z => Value.int .u8 z, RL_u8 dbZ, fun j v hj => ?_⟩
        rw [Nat.zero_add]
        simpa using hj
      · cases h1
    · rw [if_neg (show ¬ i = σE.next from hi)] at hb
      cases hb
  · rw [St.get_push] at hb
    by_cases hi : i = 0
    · subst hi
      rw [if_pos (show (0 : Nat) = σE.next from rfl)] at hb
      cases hb
      cases hro
    · rw [if_neg (show ¬ i = σE.next from hi)] at hb
      cases hb
  · by_cases hi : i = 0
    · subst hi; exact Nat.one_pos
    · simp only [pl0, hi, if_false] at hx; cases hx
theorem own0 (b : Nat) : ¬ Go.Run.own pl0 (σE.push (.ro Core.deB)) b := by
  rintro ⟨i, blk, x, hb, hro, _⟩
  rw [St.get_push] at hb
  by_cases hi : i = 0
  · subst hi
    rw [if_pos (show (0 : Nat) = σE.next from rfl)] at hb
    cases hb
    cases hro
  · rw [if_neg (show ¬ i = σE.next from hi)] at hb
    cases hb
theorem globT (m : Nat) : GlobOk (C m) pl0 := fun g => by
  have e : (C m).g.get .bad g = if g = 0 then .one (.ptr (some (0, 0))) else .bad := by
    have e1 : (C m).g = Tr.set .bad (.one (.ptr (some (0, 0)))) .leaf 0 := rfl
    rw [e1, Tr.get_set]
    by_cases h : g = 0
    · rw [if_pos h, if_pos h]
    · rw [if_neg h, if_neg h]; rfl
  rw [e]
  by_cases h : g = 0
  · subst h
    rw [if_pos rfl]
    simp only [RA]
    exact ⟨0, 0, 64, rfl, rfl⟩
  · rw [if_neg h]; simp only [RA]
theorem calls_of_yl {n f : Nat} {args : List AV} {vs : Array Value} {w : World} (hT : Lib.TabIs Tryz.prog w "math/bits.deBruijn64tab" .u8 dbZ) (hr : RT pl0 args vs.toList) (h : Yl (callK (C 1000000) Core.tabL n f args (σE.push (.ro Core.deB))) (fun v _ => v = B true)) :
    Calls Tryz.prog f vs w fun e w' => e = .returned (.bool true) ∧ Below w.heap.size w w' := by
  obtain ⟨v, σ', h, rfl⟩ := h
  have hc := callK_ok (extOk 1000000) Core.tabL_ok mixed n f args _ _ σ' h pl0 w vs (R_tab hT) (globT _) hr
  refine hc.2.mono fun e w' he => ?_
  obtain ⟨π', x, rfl, _, hx, hg⟩ := he
  unfold B at hx
  simp only [RA] at hx
  have hx' : x = .bool true := hx
  subst hx'
  exact ⟨rfl, hg.same.os, hg.same.tape, hg.same.output, hg.grow, fun b hb => hg.frame b hb (own0 b)⟩

set_option maxRecDepth 100000 in
theorem fabricRefuses_lifted (os : Os) (started : os.Started) (H : Type) (enc : TypeId × Value → H) :
    ReturnsInHanded {} Tryz.checked os 3 .any (fun w args => (Rows.fabricRefusesSpec.pre enc Tryz.prog Tryz.f3 [] false w args ∧ laidMetH Tryz.prog Rows.fabricRefusesRow.laid w) ∧ sizedMet enc Tryz.prog Tryz.f3 (OpenSpec.ofChange Rows.fabricRefusesSpec) false w args)
      (Rows.fabricRefusesSpec.post enc Tryz.prog Tryz.f3 false true false false) := by
  refine returnsInHanded_of_change_and (C := Tryz.checked) (X := fun w _ => laidMetH Tryz.prog Rows.fabricRefusesRow.laid w) (fun _ _ _ hh h => h.of_heap hh) own started (by kernel_rfl) Tryz.func3
    (ChangeSpec.witness_at (enc := enc) (C := Tryz.checked) (os := os) (X := fun w _ => laidMetH Tryz.prog Rows.fabricRefusesRow.laid w) false (World.laidAll Tryz.prog os Rows.fabricRefusesRow.laid) #[.agg #[.int .i64 0, .int .i64 0, .int .i64 0, .string ByteArray.empty]] 8 (World.laidAll_os _ _ _) (by kernel_rfl) (by kernel_rfl) (by kernel_rfl) (by kernel_rfl) (by kernel_rfl)
      (by rw [MakeChecks.laidMetH_plain _ _ _ (by kernel_rfl)]; exact laidMet_laidAll _ (by kernel_rfl) (by kernel_rfl))) ?_
  intro W base args ds gs before hval0 hW _ _ hX _
  have hT : Lib.TabIs Tryz.prog W "math/bits.deBruijn64tab" .u8 dbZ := by
    have hX : laidMetH Tryz.prog Rows.fabricRefusesRow.laid W := hX
    rw [MakeChecks.laidMetH_plain _ _ _ (by kernel_rfl)] at hX
    exact Lib.tabIs_of_head (rest := []) (g := 0) (t := 448) (e := 5) (n := 64) (by kernel_rfl) (by kernel_rfl) Tryz.underlying448 Tryz.underlying5 (by kernel_rfl) (by kernel_rfl) hX
  have hval : ∀ (j : Nat) t v, Tryz.f3.params[j]? = some t → args[j]? = some v → Value.okWide Tryz.prog W .any base t v := hval0
  have hW' := hW
  obtain ⟨p, q, hA0, hV, rfl, hfz, hnd⟩ := hW
  have hA : DataW.TrodAll enc Tryz.prog W 0 (fun _ => true) true Tryz.f3.params.toList args.toList ds p := hA0
  rw [Tryz.params3] at hA hval
  obtain ⟨v0, vs0, d0, ds0, p0, q0, hargs, rfl, rfl, h0, r0⟩ := trodAll_cons hA
  obtain ⟨rfl, rfl, rfl⟩ := trodAll_nil r0
  obtain rfl : args = #[v0] := by cases args; simp_all
  obtain ⟨rfl, rfl⟩ := trodVars_none hV
  have k0 := h0
  have lt0 : ∀ x ∈ p0, x.block < W.heap.size := by obtain ⟨m, hm⟩ := k0; exact DataW.trod_lt m _ _ _ hm
  obtain ⟨c0, y0, n0, hv0, hd0, hf0⟩ := RowT.open_aggN Tryz.underlying23 (by kernel_rfl) (by kernel_rfl) (hval 0 23 v0 rfl rfl) h0
  obtain ⟨a0_0, e0_0, g0_0, w0_0⟩ := RowT.fld_int Tryz.underlying3 (hf0 0 _ rfl)
  obtain ⟨a0_1, e0_1, g0_1, w0_1⟩ := RowT.fld_int Tryz.underlying3 (hf0 1 _ rfl)
  obtain ⟨a0_2, e0_2, g0_2, w0_2⟩ := RowT.fld_int Tryz.underlying3 (hf0 2 _ rfl)
  obtain ⟨a0_3, e0_3, g0_3⟩ := RowT.fld_str Tryz.underlying9 (hf0 3 _ rfl)
  have hx0 : v0 = .agg #[.int .i64 a0_0, .int .i64 a0_1, .int .i64 a0_2, .string a0_3] := by
    rw [hv0]
    show Value.agg #[c0 0, c0 1, c0 2, c0 3] = _
    rw [e0_0, e0_1, e0_2, e0_3]
  clear hv0
  subst hx0
  obtain ⟨⟨l0⟩⟩ := a0_3
  refine (calls_of_yl (w := W) hT (vs := #[.agg #[.int .i64 a0_0, .int .i64 a0_1, .int .i64 a0_2, .string ⟨⟨l0⟩⟩]]) (by simp only [RT, RA]; exact ⟨⟨_, rfl, rfl, rfl, rfl, rfl, trivial⟩, trivial⟩) (Core.law_run a0_0 a0_1 a0_2 l0)).mono ?_
  rintro e W' ⟨rfl, bel⟩
  exact ⟨_, rfl, _, _, _, [], _, [], hW', trodAll_mk1 (shut_bool Tryz.underlying4 _), (trodAll_cons_mk (Below.trod laidOut (by kernel_rfl) (of_decide_eq_true (by kernel_rfl)) k0 bel lt0) trodAll_mk0), rfl, bel.frame _, fun h => by cases h⟩
theorem fabricRefuses_row : Rows.FabricRefusesSaid :=
  OpenClaim.holds_of_wide 3 Tryz.f3 rfl rfl rfl rfl rfl rfl rfl ⟨rfl, rfl, rfl, rfl, rfl⟩ rfl rfl rfl rfl rfl (by kernel_rfl) Tryz.func3 fabricRefuses_facts fabricRefuses_instance fabricRefuses_wrapper
    (fun os started H enc _ => fabricRefuses_lifted os started H enc)
theorem fabricRefuses_holds : Rows.FabricRefusesCardSaid :=
  Claim7.holds_tied_plain_at .later [] [.data] true (true, "8fa8f401ed78c6ae76945d802435a45cce93047418e1b6c2902a4a2286de5231") false
    fabricRefuses_row (fun _ h => by cases h) fabricRefuses_c1 (fun _ h => by cases h) fabricRefuses_row_tie rfl ⟨rfl, rfl⟩ fabricRefuses_c2 rfl
    (fun f fn hf hfn => by
      obtain rfl : f = 3 := Option.some.inj (fabricRefuses_c3.symm.trans hf) |>.symm
      obtain rfl : fn = Tryz.f3 := (Option.some.inj (Tryz.func3.symm.trans hfn)).symm
      exact ⟨fabricRefuses_c4, fun j t ht => by
        rw [Tryz.params3] at ht
        have hm : t ∈ [23] := by simpa using Array.mem_of_getElem? ht
        exact (show Tryz.prog.wantsStandIn t = false by simpa using List.all_eq_true.1 fabricRefuses_c5 t hm)⟩)
    fabricRefuses_c6
#print axioms fabricRefuses_holds
end Go.Proofs.YtnoieleoklpciaaGreatDoor
