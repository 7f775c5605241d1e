/- Functions of the program as plain functions over the interpreter's words, and the theorems that they are what the interpreter makes of the code. -/
import Derived.Test.YtnoieleoklpciaaGreatDoorCx
set_option linter.unusedVariables false
set_option linter.unusedSimpArgs false
namespace Go.Proofs.YtnoieleoklpciaaGreatDoor
open Go.Run
set_option maxRecDepth 100000
open Go
/-! rillmeter/radar.Add -/
noncomputable def c113_0 : Code := (bodyOf Tryz.f113)
noncomputable def c113_1 : Code := (pS2 c113_0)
noncomputable def c113_2 : Code := (pS2 c113_1)
noncomputable def c113_3 : Code := (pS2 c113_2)
noncomputable def c113_4 : Code := (pS2 c113_3)
noncomputable def c113_5 : Code := (pS2 c113_4)
noncomputable def c113_6 : Code := (pS2 c113_5)
noncomputable def c113_7 : Code := (pS2 (pS1 c113_5))
noncomputable def c113_8 : Code := (pL (pB c113_7))
noncomputable def c113_9 : Code := (pS2 c113_8)
noncomputable def c113_10 : Code := (pS2 c113_9)
noncomputable def c113_11 : Code := (pS2 c113_10)
noncomputable def c113_12 : Code := (pS2 (pB (pS1 c113_10)))
noncomputable def c113_13 : Code := (pS2 c113_12)
noncomputable def c113_14 : Code := (pS2 c113_13)
noncomputable def c113_15 : Code := (pS2 c113_14)
noncomputable def c113_16 : Code := (pS2 c113_15)
noncomputable def Z113 (m : Nat) := fun (e : Nat → AV) => retV (C m) (resE e Tryz.f113.results.toList)
noncomputable def K113_6 (m : Nat) (call : CallF) (t3 t6 : AV) : Kt :=
 bnd (ldO (C m) 95 t3) fun v0 =>
 bnd (stO (C m) 95 t6 v0) fun _ =>
 retV (C m) [(some 95, t6), (none, (I 0))]
theorem K113_6_eq (m : Nat) (call : CallF) : compF c113_6 (C m) call (Z113 m) nx (Z113 m) = (fun e => K113_6 m call (e 3) (e 6)) := by
  refine Eq.trans (b := (compF (pS1 c113_6) (C m) call (Z113 m) nx (Z113 m))) (by kernel_rfl) ?_
  kernel_rfl
noncomputable def K113_11 (m : Nat) (call : CallF) (h8 : AV → AV → AV → AV → AV → AV → AV → Kt) (t1 t2 t3 t6 t8 t39 t40 : AV) : Kt :=
 bnd (binO (C m) .add 3 t40 (I 1)) fun v0 =>
 h8 t1 t2 t3 t6 t8 t39 v0
theorem K113_11_eq (m : Nat) (call : CallF) (h8 : AV → AV → AV → AV → AV → AV → AV → Kt) : compF c113_11 (C m) call (fun e => h8 (e 1) (e 2) (e 3) (e 6) (e 8) (e 39) (e 40)) (exitF 0 (fun e => K113_6 m call (e 3) (e 6)) nx) (Z113 m) = (fun e => K113_11 m call h8 (e 1) (e 2) (e 3) (e 6) (e 8) (e 39) (e 40)) := by
  kernel_rfl
noncomputable def K113_16 (m : Nat) (call : CallF) (h8 : AV → AV → AV → AV → AV → AV → AV → Kt) (t1 t2 t3 t6 t8 t9 t10 t39 t40 : AV) : Kt :=
 bnd (ldO (C m) 177 t10) fun v0 =>
 bnd (calO (C m) call (fnV 164) [v0]) fun v1 =>
 ifB v1
 ((bnd (bldO (C m) 95 []) fun v2 =>
 bnd (stO (C m) 95 t6 v2) fun _ =>
 retV (C m) [(some 95, t6), (none, (I 5))]))
 ((dIn fun sv3 =>
 dChk (ldO (C m) 95 t3) fun v4 =>
 dEff (calO (C m) call (fnV 162) [v4, t1, t9]) fun v5 sv5 =>
 dVal (fadO (C m) 95 t3 2) fun v6 =>
 dSam (some true) (ldO (C m) 93 v6) (fun v7 => (eqIn (ldO (C m) 93 v6) v7 sv5 && (eqIn (ldO (C m) 93 v6) v7 sv3 && true))) fun v8 =>
 dVal (iadO (C m) 93 v8 t9) fun v9 =>
 dSam (some true) (ldO (C m) 176 v9) (fun v10 => (eqIn (ldO (C m) 176 v9) v10 sv5 && (eqIn (ldO (C m) 176 v9) v10 sv3 && true))) fun v11 =>
 dSam (some true) (ldO (C m) 177 t10) (fun v12 => (eqIn (ldO (C m) 177 t10) v12 sv5 && (eqIn (ldO (C m) 177 t10) v12 sv3 && true))) fun v13 =>
 dVal (iadO (C m) 176 v11 v5) fun v14 =>
 dEff (stO (C m) 177 v14 v13) fun v15 sv15 =>
 K113_11 m call h8 t1 t2 t3 t6 t8 t39 t40))
theorem K113_16_eq (m : Nat) (call : CallF) (h8 : AV → AV → AV → AV → AV → AV → AV → Kt) : compF c113_16 (C m) call (fun e => K113_11 m call h8 (e 1) (e 2) (e 3) (e 6) (e 8) (e 39) (e 40)) (exitF 1 (fun e => K113_11 m call h8 (e 1) (e 2) (e 3) (e 6) (e 8) (e 39) (e 40)) (exitF 0 (fun e => K113_6 m call (e 3) (e 6)) nx)) (Z113 m) = (fun e => K113_16 m call h8 (e 1) (e 2) (e 3) (e 6) (e 8) (e 9) (e 10) (e 39) (e 40)) := by
  refine Eq.trans (b := (compF (pS1 (pS1 c113_16)) (C m) call (fun e => ifB (e 74) ((compF (pS1 (pC1 (pS2 (pS1 c113_16)))) (C m) call (Z113 m) (exitF 1 (fun e => K113_11 m call h8 (e 1) (e 2) (e 3) (e 6) (e 8) (e 39) (e 40)) (exitF 0 (fun e => K113_6 m call (e 3) (e 6)) nx)) (Z113 m)) e) ((compF (pS2 c113_16) (C m) call (fun e => K113_11 m call h8 (e 1) (e 2) (e 3) (e 6) (e 8) (e 39) (e 40)) (exitF 1 (fun e => K113_11 m call h8 (e 1) (e 2) (e 3) (e 6) (e 8) (e 39) (e 40)) (exitF 0 (fun e => K113_6 m call (e 3) (e 6)) nx)) (Z113 m)) e)) (exitF 1 (fun e => K113_11 m call h8 (e 1) (e 2) (e 3) (e 6) (e 8) (e 39) (e 40)) (exitF 0 (fun e => K113_6 m call (e 3) (e 6)) nx)) (Z113 m))) (by kernel_rfl) ?_
  kernel_rfl
noncomputable def K113_15 (m : Nat) (call : CallF) (h8 : AV → AV → AV → AV → AV → AV → AV → Kt) (t1 t2 t3 t6 t8 t9 t10 t39 t40 : AV) : Kt :=
 ifB t8
 ((bnd (fadO (C m) 177 t10 1) fun v0 =>
 bnd (ldO (C m) 3 v0) fun v1 =>
 bnd (binO (C m) .add 3 v1 (I 1)) fun v2 =>
 bnd (fadO (C m) 177 t10 1) fun v3 =>
 bnd (stO (C m) 3 v3 v2) fun _ =>
 bnd (fadO (C m) 177 t10 0) fun v4 =>
 bnd (ldO (C m) 9 v4) fun v5 =>
 bnd (calO (C m) call (fnV 163) [v5, t1]) fun v6 =>
 bnd (fadO (C m) 177 t10 0) fun v7 =>
 bnd (stO (C m) 9 v7 v6) fun _ =>
 K113_16 m call h8 t1 t2 t3 t6 t8 t9 t10 t39 t40))
 ((K113_16 m call h8 t1 t2 t3 t6 t8 t9 t10 t39 t40))
theorem K113_15_eq (m : Nat) (call : CallF) (h8 : AV → AV → AV → AV → AV → AV → AV → Kt) : compF c113_15 (C m) call (fun e => K113_11 m call h8 (e 1) (e 2) (e 3) (e 6) (e 8) (e 39) (e 40)) (exitF 1 (fun e => K113_11 m call h8 (e 1) (e 2) (e 3) (e 6) (e 8) (e 39) (e 40)) (exitF 0 (fun e => K113_6 m call (e 3) (e 6)) nx)) (Z113 m) = (fun e => K113_15 m call h8 (e 1) (e 2) (e 3) (e 6) (e 8) (e 9) (e 10) (e 39) (e 40)) := by
  refine Eq.trans (b := (compF (pS1 (pS1 c113_15)) (C m) call (fun e => ifB (e 63) ((compF (pS1 (pC1 (pS2 (pS1 c113_15)))) (C m) call (compF (pS2 (pC1 (pS2 (pS1 c113_15)))) (C m) call (compF c113_16 (C m) call (fun e => K113_11 m call h8 (e 1) (e 2) (e 3) (e 6) (e 8) (e 39) (e 40)) (exitF 1 (fun e => K113_11 m call h8 (e 1) (e 2) (e 3) (e 6) (e 8) (e 39) (e 40)) (exitF 0 (fun e => K113_6 m call (e 3) (e 6)) nx)) (Z113 m)) (exitF 1 (fun e => K113_11 m call h8 (e 1) (e 2) (e 3) (e 6) (e 8) (e 39) (e 40)) (exitF 0 (fun e => K113_6 m call (e 3) (e 6)) nx)) (Z113 m)) (exitF 1 (fun e => K113_11 m call h8 (e 1) (e 2) (e 3) (e 6) (e 8) (e 39) (e 40)) (exitF 0 (fun e => K113_6 m call (e 3) (e 6)) nx)) (Z113 m)) e) ((compF c113_16 (C m) call (fun e => K113_11 m call h8 (e 1) (e 2) (e 3) (e 6) (e 8) (e 39) (e 40)) (exitF 1 (fun e => K113_11 m call h8 (e 1) (e 2) (e 3) (e 6) (e 8) (e 39) (e 40)) (exitF 0 (fun e => K113_6 m call (e 3) (e 6)) nx)) (Z113 m)) e)) (exitF 1 (fun e => K113_11 m call h8 (e 1) (e 2) (e 3) (e 6) (e 8) (e 39) (e 40)) (exitF 0 (fun e => K113_6 m call (e 3) (e 6)) nx)) (Z113 m))) (by kernel_rfl) ?_
  rw [K113_16_eq m call h8 ]
  first | done | (show _ = _; kernel_rfl)
noncomputable def K113_14 (m : Nat) (call : CallF) (h8 : AV → AV → AV → AV → AV → AV → AV → Kt) (t1 t2 t3 t6 t8 t9 t10 t39 t40 : AV) : Kt :=
 bnd (fadO (C m) 177 t10 3) fun v0 =>
 bnd (ldO (C m) 3 v0) fun v1 =>
 bnd (binO (C m) .add 3 v1 t2) fun v2 =>
 bnd (fadO (C m) 177 t10 3) fun v3 =>
 bnd (stO (C m) 3 v3 v2) fun _ =>
 K113_15 m call h8 t1 t2 t3 t6 t8 t9 t10 t39 t40
theorem K113_14_eq (m : Nat) (call : CallF) (h8 : AV → AV → AV → AV → AV → AV → AV → Kt) : compF c113_14 (C m) call (fun e => K113_11 m call h8 (e 1) (e 2) (e 3) (e 6) (e 8) (e 39) (e 40)) (exitF 1 (fun e => K113_11 m call h8 (e 1) (e 2) (e 3) (e 6) (e 8) (e 39) (e 40)) (exitF 0 (fun e => K113_6 m call (e 3) (e 6)) nx)) (Z113 m) = (fun e => K113_14 m call h8 (e 1) (e 2) (e 3) (e 6) (e 8) (e 9) (e 10) (e 39) (e 40)) := by
  refine Eq.trans (b := (compF (pS1 c113_14) (C m) call (compF c113_15 (C m) call (fun e => K113_11 m call h8 (e 1) (e 2) (e 3) (e 6) (e 8) (e 39) (e 40)) (exitF 1 (fun e => K113_11 m call h8 (e 1) (e 2) (e 3) (e 6) (e 8) (e 39) (e 40)) (exitF 0 (fun e => K113_6 m call (e 3) (e 6)) nx)) (Z113 m)) (exitF 1 (fun e => K113_11 m call h8 (e 1) (e 2) (e 3) (e 6) (e 8) (e 39) (e 40)) (exitF 0 (fun e => K113_6 m call (e 3) (e 6)) nx)) (Z113 m))) (by kernel_rfl) ?_
  rw [K113_15_eq m call h8 ]
  first | done | (show _ = _; kernel_rfl)
noncomputable def K113_13 (m : Nat) (call : CallF) (h8 : AV → AV → AV → AV → AV → AV → AV → Kt) (t1 t2 t3 t6 t8 t9 t10 t39 t40 : AV) : Kt :=
 bnd (fadO (C m) 177 t10 2) fun v0 =>
 bnd (ldO (C m) 3 v0) fun v1 =>
 bnd (binO (C m) .add 3 v1 (I 1)) fun v2 =>
 bnd (fadO (C m) 177 t10 2) fun v3 =>
 bnd (stO (C m) 3 v3 v2) fun _ =>
 K113_14 m call h8 t1 t2 t3 t6 t8 t9 t10 t39 t40
theorem K113_13_eq (m : Nat) (call : CallF) (h8 : AV → AV → AV → AV → AV → AV → AV → Kt) : compF c113_13 (C m) call (fun e => K113_11 m call h8 (e 1) (e 2) (e 3) (e 6) (e 8) (e 39) (e 40)) (exitF 1 (fun e => K113_11 m call h8 (e 1) (e 2) (e 3) (e 6) (e 8) (e 39) (e 40)) (exitF 0 (fun e => K113_6 m call (e 3) (e 6)) nx)) (Z113 m) = (fun e => K113_13 m call h8 (e 1) (e 2) (e 3) (e 6) (e 8) (e 9) (e 10) (e 39) (e 40)) := by
  refine Eq.trans (b := (compF (pS1 c113_13) (C m) call (compF c113_14 (C m) call (fun e => K113_11 m call h8 (e 1) (e 2) (e 3) (e 6) (e 8) (e 39) (e 40)) (exitF 1 (fun e => K113_11 m call h8 (e 1) (e 2) (e 3) (e 6) (e 8) (e 39) (e 40)) (exitF 0 (fun e => K113_6 m call (e 3) (e 6)) nx)) (Z113 m)) (exitF 1 (fun e => K113_11 m call h8 (e 1) (e 2) (e 3) (e 6) (e 8) (e 39) (e 40)) (exitF 0 (fun e => K113_6 m call (e 3) (e 6)) nx)) (Z113 m))) (by kernel_rfl) ?_
  rw [K113_14_eq m call h8 ]
  first | done | (show _ = _; kernel_rfl)
noncomputable def K113_12 (m : Nat) (call : CallF) (h8 : AV → AV → AV → AV → AV → AV → AV → Kt) (t1 t2 t3 t6 t8 t9 t39 t40 : AV) : Kt :=
 atN 13 fun v0 =>
 dIn fun sv0 =>
 dChk (ldO (C m) 95 t3) fun v1 =>
 dEff (calO (C m) call (fnV 162) [v1, t1, t9]) fun v2 sv2 =>
 dVal (fadO (C m) 95 t3 2) fun v3 =>
 dSam (some true) (ldO (C m) 93 v3) (fun v4 => (eqIn (ldO (C m) 93 v3) v4 sv2 && (eqIn (ldO (C m) 93 v3) v4 sv0 && true))) fun v5 =>
 dVal (iadO (C m) 93 v5 t9) fun v6 =>
 dSam (some true) (ldO (C m) 176 v6) (fun v7 => (eqIn (ldO (C m) 176 v6) v7 sv2 && (eqIn (ldO (C m) 176 v6) v7 sv0 && true))) fun v8 =>
 dVal (iadO (C m) 176 v8 v2) fun v9 =>
 dChk (ldO (C m) 177 v9) fun v10 =>
 dNew (newO (C m) 177) (Nat.add v0 11) fun v11 =>
 dEff (stO (C m) 177 v11 v10) fun v12 sv12 =>
 K113_13 m call h8 t1 t2 t3 t6 t8 t9 v11 t39 t40
theorem K113_12_eq (m : Nat) (call : CallF) (h8 : AV → AV → AV → AV → AV → AV → AV → Kt) : compF c113_12 (C m) call (fun e => K113_11 m call h8 (e 1) (e 2) (e 3) (e 6) (e 8) (e 39) (e 40)) (exitF 1 (fun e => K113_11 m call h8 (e 1) (e 2) (e 3) (e 6) (e 8) (e 39) (e 40)) (exitF 0 (fun e => K113_6 m call (e 3) (e 6)) nx)) (Z113 m) = (fun e => K113_12 m call h8 (e 1) (e 2) (e 3) (e 6) (e 8) (e 9) (e 39) (e 40)) := by
  refine Eq.trans (b := (compF (pS1 c113_12) (C m) call (compF c113_13 (C m) call (fun e => K113_11 m call h8 (e 1) (e 2) (e 3) (e 6) (e 8) (e 39) (e 40)) (exitF 1 (fun e => K113_11 m call h8 (e 1) (e 2) (e 3) (e 6) (e 8) (e 39) (e 40)) (exitF 0 (fun e => K113_6 m call (e 3) (e 6)) nx)) (Z113 m)) (exitF 1 (fun e => K113_11 m call h8 (e 1) (e 2) (e 3) (e 6) (e 8) (e 39) (e 40)) (exitF 0 (fun e => K113_6 m call (e 3) (e 6)) nx)) (Z113 m))) (by kernel_rfl) ?_
  rw [K113_13_eq m call h8 ]
  first | done | (show _ = _; kernel_rfl)
noncomputable def K113_10 (m : Nat) (call : CallF) (h8 : AV → AV → AV → AV → AV → AV → AV → Kt) (t1 t2 t3 t6 t8 t39 t40 : AV) : Kt :=
 K113_12 m call h8 t1 t2 t3 t6 t8 t40 t39 t40
theorem K113_10_eq (m : Nat) (call : CallF) (h8 : AV → AV → AV → AV → AV → AV → AV → Kt) : compF c113_10 (C m) call (fun e => h8 (e 1) (e 2) (e 3) (e 6) (e 8) (e 39) (e 40)) (exitF 0 (fun e => K113_6 m call (e 3) (e 6)) nx) (Z113 m) = (fun e => K113_10 m call h8 (e 1) (e 2) (e 3) (e 6) (e 8) (e 39) (e 40)) := by
  refine Eq.trans (b := (compF (pS1 (pB (pS1 c113_10))) (C m) call (compF c113_12 (C m) call (compF c113_11 (C m) call (fun e => h8 (e 1) (e 2) (e 3) (e 6) (e 8) (e 39) (e 40)) (exitF 0 (fun e => K113_6 m call (e 3) (e 6)) nx) (Z113 m)) (exitF 1 (compF c113_11 (C m) call (fun e => h8 (e 1) (e 2) (e 3) (e 6) (e 8) (e 39) (e 40)) (exitF 0 (fun e => K113_6 m call (e 3) (e 6)) nx) (Z113 m)) (exitF 0 (fun e => K113_6 m call (e 3) (e 6)) nx)) (Z113 m)) (exitF 1 (compF c113_11 (C m) call (fun e => h8 (e 1) (e 2) (e 3) (e 6) (e 8) (e 39) (e 40)) (exitF 0 (fun e => K113_6 m call (e 3) (e 6)) nx) (Z113 m)) (exitF 0 (fun e => K113_6 m call (e 3) (e 6)) nx)) (Z113 m))) (by kernel_rfl) ?_
  rw [K113_11_eq m call h8 , K113_12_eq m call h8 ]
  first | done | (show _ = _; kernel_rfl)
noncomputable def K113_9 (m : Nat) (call : CallF) (h8 : AV → AV → AV → AV → AV → AV → AV → Kt) (t1 t2 t3 t6 t8 t39 t40 t41 : AV) : Kt :=
 ifB t41
 ((K113_10 m call h8 t1 t2 t3 t6 t8 t39 t40))
 ((K113_6 m call t3 t6))
theorem K113_9_eq (m : Nat) (call : CallF) (h8 : AV → AV → AV → AV → AV → AV → AV → Kt) : compF c113_9 (C m) call (fun e => h8 (e 1) (e 2) (e 3) (e 6) (e 8) (e 39) (e 40)) (exitF 0 (fun e => K113_6 m call (e 3) (e 6)) nx) (Z113 m) = (fun e => K113_9 m call h8 (e 1) (e 2) (e 3) (e 6) (e 8) (e 39) (e 40) (e 41)) := by
  refine Eq.trans (b := (fun e => ifB (e 41) ((compF c113_10 (C m) call (fun e => h8 (e 1) (e 2) (e 3) (e 6) (e 8) (e 39) (e 40)) (exitF 0 (fun e => K113_6 m call (e 3) (e 6)) nx) (Z113 m)) e) ((fun e => K113_6 m call (e 3) (e 6)) e))) (by kernel_rfl) ?_
  rw [K113_10_eq m call h8 ]
  first | done | (show _ = _; kernel_rfl)
noncomputable def L113_8_b (m : Nat) (call : CallF) (h8 : AV → AV → AV → AV → AV → AV → AV → Kt) (t1 t2 t3 t6 t8 t39 t40 : AV) : Kt :=
 bnd (binO (C m) .lss 3 t40 t39) fun v0 =>
 K113_9 m call h8 t1 t2 t3 t6 t8 t39 t40 v0
noncomputable def L113_8 (m : Nat) (call : CallF) (n : Nat) : AV → AV → AV → AV → AV → AV → AV → Kt :=
 Nat.rec (motive := fun _ => AV → AV → AV → AV → AV → AV → AV → Kt) (fun t1 t2 t3 t6 t8 t39 t40 => noK) (fun _ ih => L113_8_b m call ih) n
theorem L113_8_b_eq (m : Nat) (call : CallF) (h8 : AV → AV → AV → AV → AV → AV → AV → Kt) : compF c113_8 (C m) call (fun e => h8 (e 1) (e 2) (e 3) (e 6) (e 8) (e 39) (e 40)) (exitF 0 (fun e => K113_6 m call (e 3) (e 6)) nx) (Z113 m) = fun e => L113_8_b m call h8 (e 1) (e 2) (e 3) (e 6) (e 8) (e 39) (e 40) := by
  refine Eq.trans (b := (compF (pS1 c113_8) (C m) call (compF c113_9 (C m) call (fun e => h8 (e 1) (e 2) (e 3) (e 6) (e 8) (e 39) (e 40)) (exitF 0 (fun e => K113_6 m call (e 3) (e 6)) nx) (Z113 m)) (exitF 0 (fun e => K113_6 m call (e 3) (e 6)) nx) (Z113 m))) (by kernel_rfl) ?_
  rw [K113_9_eq m call h8 ]
  first | done | (show _ = _; kernel_rfl)
theorem L113_8_eq (m : Nat) (call : CallF) (n : Nat) : (loopF (fun k => compF c113_8 (C m) call k (exitF 0 (fun e => K113_6 m call (e 3) (e 6)) nx) (Z113 m)) n) = (fun e => L113_8 m call n (e 1) (e 2) (e 3) (e 6) (e 8) (e 39) (e 40)) := by
  induction n with
  | zero => rfl
  | succ n ih =>
    show compF c113_8 (C m) call (loopF (fun k => compF c113_8 (C m) call k (exitF 0 (fun e => K113_6 m call (e 3) (e 6)) nx) (Z113 m)) n) (exitF 0 (fun e => K113_6 m call (e 3) (e 6)) nx) (Z113 m) = _
    rw [ih, L113_8_b_eq m call (L113_8 m call n)]
    rfl
theorem L113_8_succ (m : Nat) (call : CallF) (n : Nat) : L113_8 m call (n + 1) = L113_8_b m call (L113_8 m call n) := rfl
noncomputable def K113_7 (m : Nat) (call : CallF) (t1 t2 t3 t6 t8 t39 t40 : AV) : Kt :=
 L113_8 m call m t1 t2 t3 t6 t8 t39 t40
theorem K113_7_eq (m : Nat) (call : CallF) : compF c113_7 (C m) call (fun e => K113_6 m call (e 3) (e 6)) nx (Z113 m) = (fun e => K113_7 m call (e 1) (e 2) (e 3) (e 6) (e 8) (e 39) (e 40)) := by
  refine Eq.trans (b := (loopF (fun k => compF c113_8 (C m) call k (exitF 0 (fun e => K113_6 m call (e 3) (e 6)) nx) (Z113 m)) m)) (by kernel_rfl) ?_
  rw [L113_8_eq m call m]
  first | done | (show _ = _; kernel_rfl)
noncomputable def K113_5 (m : Nat) (call : CallF) (t1 t2 t3 t6 t8 : AV) : Kt :=
 bnd (fadO (C m) 95 t3 2) fun v0 =>
 bnd (ldO (C m) 93 v0) fun v1 =>
 bnd (bltO (C m) .len [93] [v1]) fun v2 =>
 K113_7 m call t1 t2 t3 t6 t8 v2 (I 0)
theorem K113_5_eq (m : Nat) (call : CallF) : compF c113_5 (C m) call (Z113 m) nx (Z113 m) = (fun e => K113_5 m call (e 1) (e 2) (e 3) (e 6) (e 8)) := by
  refine Eq.trans (b := (compF (pS1 (pS1 c113_5)) (C m) call (compF c113_7 (C m) call (compF c113_6 (C m) call (Z113 m) nx (Z113 m)) nx (Z113 m)) nx (Z113 m))) (by kernel_rfl) ?_
  rw [K113_6_eq m call , K113_7_eq m call ]
  first | done | (show _ = _; kernel_rfl)
noncomputable def K113_4 (m : Nat) (call : CallF) (t1 t2 t3 t6 t8 : AV) : Kt :=
 bnd (fadO (C m) 95 t3 1) fun v0 =>
 bnd (ldO (C m) 92 v0) fun v1 =>
 bnd (calO (C m) call (fnV 161) [v1, t1]) fun v2 =>
 bnd (fadO (C m) 95 t3 1) fun v3 =>
 bnd (stO (C m) 92 v3 v2) fun _ =>
 K113_5 m call t1 t2 t3 t6 t8
theorem K113_4_eq (m : Nat) (call : CallF) : compF c113_4 (C m) call (Z113 m) nx (Z113 m) = (fun e => K113_4 m call (e 1) (e 2) (e 3) (e 6) (e 8)) := by
  refine Eq.trans (b := (compF (pS1 c113_4) (C m) call (compF c113_5 (C m) call (Z113 m) nx (Z113 m)) nx (Z113 m))) (by kernel_rfl) ?_
  rw [K113_5_eq m call ]
  first | done | (show _ = _; kernel_rfl)
noncomputable def K113_3 (m : Nat) (call : CallF) (t1 t2 t3 t6 t8 : AV) : Kt :=
 bnd (ldO (C m) 95 t3) fun v0 =>
 bnd (calO (C m) call (fnV 160) [v0]) fun v1 =>
 bnd (stO (C m) 95 t3 v1) fun _ =>
 K113_4 m call t1 t2 t3 t6 t8
theorem K113_3_eq (m : Nat) (call : CallF) : compF c113_3 (C m) call (Z113 m) nx (Z113 m) = (fun e => K113_3 m call (e 1) (e 2) (e 3) (e 6) (e 8)) := by
  refine Eq.trans (b := (compF (pS1 c113_3) (C m) call (compF c113_4 (C m) call (Z113 m) nx (Z113 m)) nx (Z113 m))) (by kernel_rfl) ?_
  rw [K113_4_eq m call ]
  first | done | (show _ = _; kernel_rfl)
noncomputable def K113_2 (m : Nat) (call : CallF) (t1 t2 t3 t6 : AV) : Kt :=
 bnd (fadO (C m) 95 t3 1) fun v0 =>
 bnd (ldO (C m) 92 v0) fun v1 =>
 bnd (calO (C m) call (fnV 159) [v1, t1]) fun v2 =>
 bnd (unO .not v2) fun v3 =>
 K113_3 m call t1 t2 t3 t6 v3
theorem K113_2_eq (m : Nat) (call : CallF) : compF c113_2 (C m) call (Z113 m) nx (Z113 m) = (fun e => K113_2 m call (e 1) (e 2) (e 3) (e 6)) := by
  refine Eq.trans (b := (compF (pS1 c113_2) (C m) call (compF c113_3 (C m) call (Z113 m) nx (Z113 m)) nx (Z113 m))) (by kernel_rfl) ?_
  rw [K113_3_eq m call ]
  first | done | (show _ = _; kernel_rfl)
noncomputable def K113_1 (m : Nat) (call : CallF) (t1 t2 t3 t6 : AV) : Kt :=
 bnd (ldO (C m) 95 t3) fun v0 =>
 bnd (calO (C m) call (fnV 134) [v0]) fun v1 =>
 bnd (unO .not v1) fun v2 =>
 bnd (gdO (wantV v2 false) (fun _ => .val t1)) fun v3 =>
 bnd (gdO (wantV v2 false) (bltO (C m) .len [9] [v3])) fun v4 =>
 bnd (gdO (wantV v2 false) (binO (C m) .neq 3 v4 (I 37))) fun v5 =>
 bnd (pickO v2 (B true) v5) fun v6 =>
 bnd (gdO (wantV v6 false) (fun _ => .val t2)) fun v7 =>
 bnd (gdO (wantV v6 false) (calO (C m) call (fnV 158) [v7])) fun v8 =>
 bnd (gdO (wantV v6 false) (unO .not v8)) fun v9 =>
 bnd (pickO v6 (B true) v9) fun v10 =>
 ifB v10
 ((bnd (bldO (C m) 95 []) fun v11 =>
 bnd (stO (C m) 95 t6 v11) fun _ =>
 retV (C m) [(some 95, t6), (none, (I 1))]))
 ((K113_2 m call t1 t2 t3 t6))
theorem K113_1_eq (m : Nat) (call : CallF) : compF c113_1 (C m) call (Z113 m) nx (Z113 m) = (fun e => K113_1 m call (e 1) (e 2) (e 3) (e 6)) := by
  refine Eq.trans (b := (compF (pS1 (pS1 c113_1)) (C m) call (fun e => ifB (e 23) ((compF (pS1 (pC1 (pS2 (pS1 c113_1)))) (C m) call (Z113 m) nx (Z113 m)) e) ((compF c113_2 (C m) call (Z113 m) nx (Z113 m)) e)) nx (Z113 m))) (by kernel_rfl) ?_
  rw [K113_2_eq m call ]
  first | done | (show _ = _; kernel_rfl)
noncomputable def K113_0 (m : Nat) (call : CallF) (t0 t1 t2 : AV) : Kt :=
 bnd (boxO 95 t0) fun v0 =>
 bnd (newO (C m) 95) fun v1 =>
 K113_1 m call t1 t2 v0 v1
theorem K113_0_eq (m : Nat) (call : CallF) : compF c113_0 (C m) call (Z113 m) nx (Z113 m) = (fun e => K113_0 m call (e 0) (e 1) (e 2)) := by
  refine Eq.trans (b := (compF (pS1 c113_0) (C m) call (compF c113_1 (C m) call (Z113 m) nx (Z113 m)) nx (Z113 m))) (by kernel_rfl) ?_
  rw [K113_1_eq m call ]
  first | done | (show _ = _; kernel_rfl)
theorem F113_eq (m : Nat) (call : CallF) (t0 t1 t2 : AV) : enterK (C m) call Tryz.f113 [t0, t1, t2] = K113_0 m call t0 t1 t2 := by
  refine Eq.trans (b := (compF c113_0 (C m) call (Z113 m) nx (Z113 m)) (argF [t0, t1, t2])) (by kernel_rfl) ?_
  rw [K113_0_eq m call]
  first | done | rfl
/-! rillmeter/radar.fits -/
noncomputable def c158_0 : Code := (bodyOf Tryz.f158)
noncomputable def Z158 (m : Nat) := fun (e : Nat → AV) => retV (C m) (resE e Tryz.f158.results.toList)
noncomputable def K158_0 (m : Nat) (call : CallF) (t0 : AV) : Kt :=
 bnd (binO (C m) .geq 3 t0 (I 0)) fun v0 =>
 bnd (gdO (wantV v0 true) (fun _ => .val t0)) fun v1 =>
 bnd (gdO (wantV v0 true) (binO (C m) .leq 3 v1 (I 1099511627776))) fun v2 =>
 bnd (pickO v0 v2 (B false)) fun v3 =>
 retV (C m) [(none, v3)]
theorem K158_0_eq (m : Nat) (call : CallF) : compF c158_0 (C m) call (Z158 m) nx (Z158 m) = (fun e => K158_0 m call (e 0)) := by
  refine Eq.trans (b := (compF (pS1 c158_0) (C m) call (compF (pS1 (pS2 c158_0)) (C m) call (Z158 m) nx (Z158 m)) nx (Z158 m))) (by kernel_rfl) ?_
  kernel_rfl
theorem F158_eq (m : Nat) (call : CallF) (t0 : AV) : enterK (C m) call Tryz.f158 [t0] = K158_0 m call t0 := by
  refine Eq.trans (b := (compF c158_0 (C m) call (Z158 m) nx (Z158 m)) (argF [t0])) (by kernel_rfl) ?_
  rw [K158_0_eq m call]
  first | done | rfl
/-! rillmeter/bloom.Has -/
noncomputable def c159_0 : Code := (bodyOf Tryz.f159)
noncomputable def Z159 (m : Nat) := fun (e : Nat → AV) => retV (C m) (resE e Tryz.f159.results.toList)
noncomputable def K159_0 (m : Nat) (call : CallF) (t0 t1 : AV) : Kt :=
 bnd (boxO 92 t0) fun v0 =>
 bnd (ldO (C m) 92 v0) fun v1 =>
 bnd (calO (C m) call (fnV 148) [v1]) fun v2 =>
 bnd (gdO (wantV v2 true) (ldO (C m) 92 v0)) fun v3 =>
 bnd (gdO (wantV v2 true) (fun _ => .val t1)) fun v4 =>
 bnd (gdO (wantV v2 true) (calO (C m) call (fnV 217) [v3, v4])) fun v5 =>
 bnd (gdO (wantV v2 true) (funO (.func 218) true [v0])) fun v6 =>
 bnd (gdO (wantV v2 true) (calO (C m) call (fnV 90) [v5, v6])) fun v7 =>
 bnd (gdO (wantV v2 true) (unO .not v7)) fun v8 =>
 bnd (pickO v2 v8 (B false)) fun v9 =>
 retV (C m) [(none, v9)]
theorem K159_0_eq (m : Nat) (call : CallF) : compF c159_0 (C m) call (Z159 m) nx (Z159 m) = (fun e => K159_0 m call (e 0) (e 1)) := by
  refine Eq.trans (b := (compF (pS1 c159_0) (C m) call (compF (pS1 (pS2 c159_0)) (C m) call (Z159 m) nx (Z159 m)) nx (Z159 m))) (by kernel_rfl) ?_
  kernel_rfl
theorem F159_eq (m : Nat) (call : CallF) (t0 t1 : AV) : enterK (C m) call Tryz.f159 [t0, t1] = K159_0 m call t0 t1 := by
  refine Eq.trans (b := (compF c159_0 (C m) call (Z159 m) nx (Z159 m)) (argF [t0, t1])) (by kernel_rfl) ?_
  rw [K159_0_eq m call]
  first | done | rfl
/-! slices.ContainsFunc[[]int,int] -/
noncomputable def c90_0 : Code := (bodyOf Tryz.f90)
noncomputable def Z90 (m : Nat) := fun (e : Nat → AV) => retV (C m) (resE e Tryz.f90.results.toList)
noncomputable def K90_0 (m : Nat) (call : CallF) (t0 t1 : AV) : Kt :=
 bnd (calO (C m) call (fnV 132) [t0, t1]) fun v0 =>
 bnd (binO (C m) .geq 3 v0 (I 0)) fun v1 =>
 retV (C m) [(none, v1)]
theorem K90_0_eq (m : Nat) (call : CallF) : compF c90_0 (C m) call (Z90 m) nx (Z90 m) = (fun e => K90_0 m call (e 0) (e 1)) := by
  refine Eq.trans (b := (compF (pS1 c90_0) (C m) call (compF (pS1 (pS2 c90_0)) (C m) call (Z90 m) nx (Z90 m)) nx (Z90 m))) (by kernel_rfl) ?_
  kernel_rfl
theorem F90_eq (m : Nat) (call : CallF) (t0 t1 : AV) : enterK (C m) call Tryz.f90 [t0, t1] = K90_0 m call t0 t1 := by
  refine Eq.trans (b := (compF c90_0 (C m) call (Z90 m) nx (Z90 m)) (argF [t0, t1])) (by kernel_rfl) ?_
  rw [K90_0_eq m call]
  first | done | rfl
/-! slices.IndexFunc[[]int,int] -/
noncomputable def c132_0 : Code := (bodyOf Tryz.f132)
noncomputable def c132_1 : Code := (pS2 c132_0)
noncomputable def c132_2 : Code := (pS2 c132_1)
noncomputable def c132_3 : Code := (pS2 (pS1 c132_1))
noncomputable def c132_4 : Code := (pL (pB c132_3))
noncomputable def c132_5 : Code := (pS2 c132_4)
noncomputable def c132_6 : Code := (pS2 c132_5)
noncomputable def c132_7 : Code := (pS2 c132_6)
noncomputable def Z132 (m : Nat) := fun (e : Nat → AV) => retV (C m) (resE e Tryz.f132.results.toList)
noncomputable def K132_2 (m : Nat) (call : CallF) : Kt :=
 retV (C m) [(none, (I (-1)))]
theorem K132_2_eq (m : Nat) (call : CallF) : compF c132_2 (C m) call (Z132 m) nx (Z132 m) = (fun e => K132_2 m call ) := by
  refine Eq.trans (b := (compF (pS1 c132_2) (C m) call (Z132 m) nx (Z132 m))) (by kernel_rfl) ?_
  kernel_rfl
noncomputable def K132_7 (m : Nat) (call : CallF) (h4 : AV → AV → AV → AV → Kt) (t0 t1 t7 t8 : AV) : Kt :=
 bnd (binO (C m) .add 3 t8 (I 1)) fun v0 =>
 h4 t0 t1 t7 v0
theorem K132_7_eq (m : Nat) (call : CallF) (h4 : AV → AV → AV → AV → Kt) : compF c132_7 (C m) call (fun e => h4 (e 0) (e 1) (e 7) (e 8)) (exitF 0 (fun e => K132_2 m call ) nx) (Z132 m) = (fun e => K132_7 m call h4 (e 0) (e 1) (e 7) (e 8)) := by
  kernel_rfl
noncomputable def K132_6 (m : Nat) (call : CallF) (h4 : AV → AV → AV → AV → Kt) (t0 t1 t7 t8 : AV) : Kt :=
 bnd (iadO (C m) 56 t0 t8) fun v0 =>
 bnd (ldO (C m) 3 v0) fun v1 =>
 bnd (calO (C m) call t1 [v1]) fun v2 =>
 ifB v2
 ((retV (C m) [(none, t8)]))
 ((K132_7 m call h4 t0 t1 t7 t8))
theorem K132_6_eq (m : Nat) (call : CallF) (h4 : AV → AV → AV → AV → Kt) : compF c132_6 (C m) call (fun e => h4 (e 0) (e 1) (e 7) (e 8)) (exitF 0 (fun e => K132_2 m call ) nx) (Z132 m) = (fun e => K132_6 m call h4 (e 0) (e 1) (e 7) (e 8)) := by
  refine Eq.trans (b := (compF (pS1 (pB (pS1 c132_6))) (C m) call (compF (pS1 (pS2 (pB (pS1 c132_6)))) (C m) call (fun e => ifB (e 16) ((compF (pS1 (pC1 (pS2 (pS2 (pB (pS1 c132_6)))))) (C m) call (Z132 m) (exitF 1 (compF c132_7 (C m) call (fun e => h4 (e 0) (e 1) (e 7) (e 8)) (exitF 0 (fun e => K132_2 m call ) nx) (Z132 m)) (exitF 0 (fun e => K132_2 m call ) nx)) (Z132 m)) e) ((compF c132_7 (C m) call (fun e => h4 (e 0) (e 1) (e 7) (e 8)) (exitF 0 (fun e => K132_2 m call ) nx) (Z132 m)) e)) (exitF 1 (compF c132_7 (C m) call (fun e => h4 (e 0) (e 1) (e 7) (e 8)) (exitF 0 (fun e => K132_2 m call ) nx) (Z132 m)) (exitF 0 (fun e => K132_2 m call ) nx)) (Z132 m)) (exitF 1 (compF c132_7 (C m) call (fun e => h4 (e 0) (e 1) (e 7) (e 8)) (exitF 0 (fun e => K132_2 m call ) nx) (Z132 m)) (exitF 0 (fun e => K132_2 m call ) nx)) (Z132 m))) (by kernel_rfl) ?_
  rw [K132_7_eq m call h4 ]
  first | done | (show _ = _; kernel_rfl)
noncomputable def K132_5 (m : Nat) (call : CallF) (h4 : AV → AV → AV → AV → Kt) (t0 t1 t7 t8 t9 : AV) : Kt :=
 ifB t9
 ((K132_6 m call h4 t0 t1 t7 t8))
 ((K132_2 m call ))
theorem K132_5_eq (m : Nat) (call : CallF) (h4 : AV → AV → AV → AV → Kt) : compF c132_5 (C m) call (fun e => h4 (e 0) (e 1) (e 7) (e 8)) (exitF 0 (fun e => K132_2 m call ) nx) (Z132 m) = (fun e => K132_5 m call h4 (e 0) (e 1) (e 7) (e 8) (e 9)) := by
  refine Eq.trans (b := (fun e => ifB (e 9) ((compF c132_6 (C m) call (fun e => h4 (e 0) (e 1) (e 7) (e 8)) (exitF 0 (fun e => K132_2 m call ) nx) (Z132 m)) e) ((fun e => K132_2 m call ) e))) (by kernel_rfl) ?_
  rw [K132_6_eq m call h4 ]
  first | done | (show _ = _; kernel_rfl)
noncomputable def L132_4_b (m : Nat) (call : CallF) (h4 : AV → AV → AV → AV → Kt) (t0 t1 t7 t8 : AV) : Kt :=
 bnd (binO (C m) .lss 3 t8 t7) fun v0 =>
 K132_5 m call h4 t0 t1 t7 t8 v0
noncomputable def L132_4 (m : Nat) (call : CallF) (n : Nat) : AV → AV → AV → AV → Kt :=
 Nat.rec (motive := fun _ => AV → AV → AV → AV → Kt) (fun t0 t1 t7 t8 => noK) (fun _ ih => L132_4_b m call ih) n
theorem L132_4_b_eq (m : Nat) (call : CallF) (h4 : AV → AV → AV → AV → Kt) : compF c132_4 (C m) call (fun e => h4 (e 0) (e 1) (e 7) (e 8)) (exitF 0 (fun e => K132_2 m call ) nx) (Z132 m) = fun e => L132_4_b m call h4 (e 0) (e 1) (e 7) (e 8) := by
  refine Eq.trans (b := (compF (pS1 c132_4) (C m) call (compF c132_5 (C m) call (fun e => h4 (e 0) (e 1) (e 7) (e 8)) (exitF 0 (fun e => K132_2 m call ) nx) (Z132 m)) (exitF 0 (fun e => K132_2 m call ) nx) (Z132 m))) (by kernel_rfl) ?_
  rw [K132_5_eq m call h4 ]
  first | done | (show _ = _; kernel_rfl)
theorem L132_4_eq (m : Nat) (call : CallF) (n : Nat) : (loopF (fun k => compF c132_4 (C m) call k (exitF 0 (fun e => K132_2 m call ) nx) (Z132 m)) n) = (fun e => L132_4 m call n (e 0) (e 1) (e 7) (e 8)) := by
  induction n with
  | zero => rfl
  | succ n ih =>
    show compF c132_4 (C m) call (loopF (fun k => compF c132_4 (C m) call k (exitF 0 (fun e => K132_2 m call ) nx) (Z132 m)) n) (exitF 0 (fun e => K132_2 m call ) nx) (Z132 m) = _
    rw [ih, L132_4_b_eq m call (L132_4 m call n)]
    rfl
theorem L132_4_succ (m : Nat) (call : CallF) (n : Nat) : L132_4 m call (n + 1) = L132_4_b m call (L132_4 m call n) := rfl
noncomputable def K132_3 (m : Nat) (call : CallF) (t0 t1 t7 t8 : AV) : Kt :=
 L132_4 m call m t0 t1 t7 t8
theorem K132_3_eq (m : Nat) (call : CallF) : compF c132_3 (C m) call (fun e => K132_2 m call ) nx (Z132 m) = (fun e => K132_3 m call (e 0) (e 1) (e 7) (e 8)) := by
  refine Eq.trans (b := (loopF (fun k => compF c132_4 (C m) call k (exitF 0 (fun e => K132_2 m call ) nx) (Z132 m)) m)) (by kernel_rfl) ?_
  rw [L132_4_eq m call m]
  first | done | (show _ = _; kernel_rfl)
noncomputable def K132_1 (m : Nat) (call : CallF) (t0 t1 : AV) : Kt :=
 bnd (bltO (C m) .len [56] [t0]) fun v0 =>
 K132_3 m call t0 t1 v0 (I 0)
theorem K132_1_eq (m : Nat) (call : CallF) : compF c132_1 (C m) call (Z132 m) nx (Z132 m) = (fun e => K132_1 m call (e 0) (e 1)) := by
  refine Eq.trans (b := (compF (pS1 (pS1 c132_1)) (C m) call (compF c132_3 (C m) call (compF c132_2 (C m) call (Z132 m) nx (Z132 m)) nx (Z132 m)) nx (Z132 m))) (by kernel_rfl) ?_
  rw [K132_2_eq m call , K132_3_eq m call ]
  first | done | (show _ = _; kernel_rfl)
noncomputable def K132_0 (m : Nat) (call : CallF) (t0 t1 : AV) : Kt :=
 K132_1 m call t0 t1
theorem K132_0_eq (m : Nat) (call : CallF) : compF c132_0 (C m) call (Z132 m) nx (Z132 m) = (fun e => K132_0 m call (e 0) (e 1)) := by
  refine Eq.trans (b := (compF (pS1 c132_0) (C m) call (compF c132_1 (C m) call (Z132 m) nx (Z132 m)) nx (Z132 m))) (by kernel_rfl) ?_
  rw [K132_1_eq m call ]
  first | done | (show _ = _; kernel_rfl)
theorem F132_eq (m : Nat) (call : CallF) (t0 t1 : AV) : enterK (C m) call Tryz.f132 [t0, t1] = K132_0 m call t0 t1 := by
  refine Eq.trans (b := (compF c132_0 (C m) call (Z132 m) nx (Z132 m)) (argF [t0, t1])) (by kernel_rfl) ?_
  rw [K132_0_eq m call]
  first | done | rfl
/-! rillmeter/bloom.Has$1 -/
noncomputable def c218_0 : Code := (bodyOf Tryz.f218)
noncomputable def Z218 (m : Nat) := fun (e : Nat → AV) => retV (C m) (resE e Tryz.f218.results.toList)
noncomputable def K218_0 (m : Nat) (call : CallF) (t0 t1 : AV) : Kt :=
 bnd (fadO (C m) 92 t1 2) fun v0 =>
 bnd (ldO (C m) 63 v0) fun v1 =>
 bnd (iadO (C m) 63 v1 t0) fun v2 =>
 bnd (ldO (C m) 4 v2) fun v3 =>
 bnd (unO .not v3) fun v4 =>
 retV (C m) [(none, v4)]
theorem K218_0_eq (m : Nat) (call : CallF) : compF c218_0 (C m) call (Z218 m) nx (Z218 m) = (fun e => K218_0 m call (e 0) (e 1)) := by
  refine Eq.trans (b := (compF (pS1 c218_0) (C m) call (compF (pS1 (pS2 c218_0)) (C m) call (Z218 m) nx (Z218 m)) nx (Z218 m))) (by kernel_rfl) ?_
  kernel_rfl
theorem F218_eq (m : Nat) (call : CallF) (t0 t1 : AV) : enterK (C m) call Tryz.f218 [t0, t1] = K218_0 m call t0 t1 := by
  refine Eq.trans (b := (compF c218_0 (C m) call (Z218 m) nx (Z218 m)) (argF [t0, t1])) (by kernel_rfl) ?_
  rw [K218_0_eq m call]
  first | done | rfl
/-! rillmeter/bloom.Places -/
noncomputable def c217_0 : Code := (bodyOf Tryz.f217)
noncomputable def c217_1 : Code := (pS2 c217_0)
noncomputable def c217_2 : Code := (pS2 c217_1)
noncomputable def c217_3 : Code := (pS2 c217_2)
noncomputable def c217_4 : Code := (pS2 c217_3)
noncomputable def c217_5 : Code := (pS2 (pS1 c217_3))
noncomputable def c217_6 : Code := (pL (pB c217_5))
noncomputable def c217_7 : Code := (pS2 c217_6)
noncomputable def c217_8 : Code := (pS2 c217_7)
noncomputable def c217_9 : Code := (pS2 c217_8)
noncomputable def Z217 (m : Nat) := fun (e : Nat → AV) => retV (C m) (resE e Tryz.f217.results.toList)
noncomputable def K217_4 (m : Nat) (call : CallF) (t5 : AV) : Kt :=
 retV (C m) [(none, t5)]
theorem K217_4_eq (m : Nat) (call : CallF) : compF c217_4 (C m) call (Z217 m) nx (Z217 m) = (fun e => K217_4 m call (e 5)) := by
  refine Eq.trans (b := (compF (pS1 c217_4) (C m) call (Z217 m) nx (Z217 m))) (by kernel_rfl) ?_
  kernel_rfl
noncomputable def K217_9 (m : Nat) (call : CallF) (h6 : AV → AV → AV → AV → AV → Kt) (t1 t2 t5 t11 t12 : AV) : Kt :=
 bnd (binO (C m) .add 3 t12 (I 1)) fun v0 =>
 h6 t1 t2 t5 t11 v0
theorem K217_9_eq (m : Nat) (call : CallF) (h6 : AV → AV → AV → AV → AV → Kt) : compF c217_9 (C m) call (fun e => h6 (e 1) (e 2) (e 5) (e 11) (e 12)) (exitF 0 (fun e => K217_4 m call (e 5)) nx) (Z217 m) = (fun e => K217_9 m call h6 (e 1) (e 2) (e 5) (e 11) (e 12)) := by
  kernel_rfl
noncomputable def K217_8 (m : Nat) (call : CallF) (h6 : AV → AV → AV → AV → AV → Kt) (t1 t2 t5 t11 t12 : AV) : Kt :=
 atN 13 fun v0 =>
 dIn fun sv0 =>
 dVal (fadO (C m) 92 t2 0) fun v1 =>
 dChk (ldO (C m) 27 v1) fun v2 =>
 dEff (calO (C m) call (fnV 60) [v2, t12]) fun v3 sv3 =>
 dVal (fadO (C m) 92 t2 2) fun v4 =>
 dSam (some true) (ldO (C m) 63 v4) (fun v5 => (eqIn (ldO (C m) 63 v4) v5 sv3 && (eqIn (ldO (C m) 63 v4) v5 sv0 && true))) fun v6 =>
 dSam (some true) (bltO (C m) .len [63] [v6]) (fun v7 => (eqIn (bltO (C m) .len [63] [v6]) v7 sv3 && (eqIn (bltO (C m) .len [63] [v6]) v7 sv0 && true))) fun v8 =>
 dEff (calO (C m) call (fnV 214) [v3, t1, v8]) fun v9 sv9 =>
 dNew (bslO (C m) 56 1 [(0, v9)]) (Nat.add v0 10) fun v10 =>
 dEff (bltO (C m) .append [56, 56] [t5, v10]) fun v11 sv11 =>
 K217_9 m call h6 t1 t2 v11 t11 t12
theorem K217_8_eq (m : Nat) (call : CallF) (h6 : AV → AV → AV → AV → AV → Kt) : compF c217_8 (C m) call (fun e => h6 (e 1) (e 2) (e 5) (e 11) (e 12)) (exitF 0 (fun e => K217_4 m call (e 5)) nx) (Z217 m) = (fun e => K217_8 m call h6 (e 1) (e 2) (e 5) (e 11) (e 12)) := by
  refine Eq.trans (b := (compF (pS1 (pB (pS1 c217_8))) (C m) call (compF (pS2 (pB (pS1 c217_8))) (C m) call (compF c217_9 (C m) call (fun e => h6 (e 1) (e 2) (e 5) (e 11) (e 12)) (exitF 0 (fun e => K217_4 m call (e 5)) nx) (Z217 m)) (exitF 1 (compF c217_9 (C m) call (fun e => h6 (e 1) (e 2) (e 5) (e 11) (e 12)) (exitF 0 (fun e => K217_4 m call (e 5)) nx) (Z217 m)) (exitF 0 (fun e => K217_4 m call (e 5)) nx)) (Z217 m)) (exitF 1 (compF c217_9 (C m) call (fun e => h6 (e 1) (e 2) (e 5) (e 11) (e 12)) (exitF 0 (fun e => K217_4 m call (e 5)) nx) (Z217 m)) (exitF 0 (fun e => K217_4 m call (e 5)) nx)) (Z217 m))) (by kernel_rfl) ?_
  rw [K217_9_eq m call h6 ]
  first | done | (show _ = _; kernel_rfl)
noncomputable def K217_7 (m : Nat) (call : CallF) (h6 : AV → AV → AV → AV → AV → Kt) (t1 t2 t5 t11 t12 t13 : AV) : Kt :=
 ifB t13
 ((K217_8 m call h6 t1 t2 t5 t11 t12))
 ((K217_4 m call t5))
theorem K217_7_eq (m : Nat) (call : CallF) (h6 : AV → AV → AV → AV → AV → Kt) : compF c217_7 (C m) call (fun e => h6 (e 1) (e 2) (e 5) (e 11) (e 12)) (exitF 0 (fun e => K217_4 m call (e 5)) nx) (Z217 m) = (fun e => K217_7 m call h6 (e 1) (e 2) (e 5) (e 11) (e 12) (e 13)) := by
  refine Eq.trans (b := (fun e => ifB (e 13) ((compF c217_8 (C m) call (fun e => h6 (e 1) (e 2) (e 5) (e 11) (e 12)) (exitF 0 (fun e => K217_4 m call (e 5)) nx) (Z217 m)) e) ((fun e => K217_4 m call (e 5)) e))) (by kernel_rfl) ?_
  rw [K217_8_eq m call h6 ]
  first | done | (show _ = _; kernel_rfl)
noncomputable def L217_6_b (m : Nat) (call : CallF) (h6 : AV → AV → AV → AV → AV → Kt) (t1 t2 t5 t11 t12 : AV) : Kt :=
 bnd (binO (C m) .lss 3 t12 t11) fun v0 =>
 K217_7 m call h6 t1 t2 t5 t11 t12 v0
noncomputable def L217_6 (m : Nat) (call : CallF) (n : Nat) : AV → AV → AV → AV → AV → Kt :=
 Nat.rec (motive := fun _ => AV → AV → AV → AV → AV → Kt) (fun t1 t2 t5 t11 t12 => noK) (fun _ ih => L217_6_b m call ih) n
theorem L217_6_b_eq (m : Nat) (call : CallF) (h6 : AV → AV → AV → AV → AV → Kt) : compF c217_6 (C m) call (fun e => h6 (e 1) (e 2) (e 5) (e 11) (e 12)) (exitF 0 (fun e => K217_4 m call (e 5)) nx) (Z217 m) = fun e => L217_6_b m call h6 (e 1) (e 2) (e 5) (e 11) (e 12) := by
  refine Eq.trans (b := (compF (pS1 c217_6) (C m) call (compF c217_7 (C m) call (fun e => h6 (e 1) (e 2) (e 5) (e 11) (e 12)) (exitF 0 (fun e => K217_4 m call (e 5)) nx) (Z217 m)) (exitF 0 (fun e => K217_4 m call (e 5)) nx) (Z217 m))) (by kernel_rfl) ?_
  rw [K217_7_eq m call h6 ]
  first | done | (show _ = _; kernel_rfl)
theorem L217_6_eq (m : Nat) (call : CallF) (n : Nat) : (loopF (fun k => compF c217_6 (C m) call k (exitF 0 (fun e => K217_4 m call (e 5)) nx) (Z217 m)) n) = (fun e => L217_6 m call n (e 1) (e 2) (e 5) (e 11) (e 12)) := by
  induction n with
  | zero => rfl
  | succ n ih =>
    show compF c217_6 (C m) call (loopF (fun k => compF c217_6 (C m) call k (exitF 0 (fun e => K217_4 m call (e 5)) nx) (Z217 m)) n) (exitF 0 (fun e => K217_4 m call (e 5)) nx) (Z217 m) = _
    rw [ih, L217_6_b_eq m call (L217_6 m call n)]
    rfl
theorem L217_6_succ (m : Nat) (call : CallF) (n : Nat) : L217_6 m call (n + 1) = L217_6_b m call (L217_6 m call n) := rfl
noncomputable def K217_5 (m : Nat) (call : CallF) (t1 t2 t5 t11 t12 : AV) : Kt :=
 L217_6 m call m t1 t2 t5 t11 t12
theorem K217_5_eq (m : Nat) (call : CallF) : compF c217_5 (C m) call (fun e => K217_4 m call (e 5)) nx (Z217 m) = (fun e => K217_5 m call (e 1) (e 2) (e 5) (e 11) (e 12)) := by
  refine Eq.trans (b := (loopF (fun k => compF c217_6 (C m) call k (exitF 0 (fun e => K217_4 m call (e 5)) nx) (Z217 m)) m)) (by kernel_rfl) ?_
  rw [L217_6_eq m call m]
  first | done | (show _ = _; kernel_rfl)
noncomputable def K217_3 (m : Nat) (call : CallF) (t1 t2 t5 : AV) : Kt :=
 bnd (fadO (C m) 92 t2 1) fun v0 =>
 bnd (ldO (C m) 3 v0) fun v1 =>
 K217_5 m call t1 t2 t5 v1 (I 0)
theorem K217_3_eq (m : Nat) (call : CallF) : compF c217_3 (C m) call (Z217 m) nx (Z217 m) = (fun e => K217_3 m call (e 1) (e 2) (e 5)) := by
  refine Eq.trans (b := (compF (pS1 (pS1 c217_3)) (C m) call (compF c217_5 (C m) call (compF c217_4 (C m) call (Z217 m) nx (Z217 m)) nx (Z217 m)) nx (Z217 m))) (by kernel_rfl) ?_
  rw [K217_4_eq m call , K217_5_eq m call ]
  first | done | (show _ = _; kernel_rfl)
noncomputable def K217_2 (m : Nat) (call : CallF) (t1 t2 : AV) : Kt :=
 K217_3 m call t1 t2 NS
theorem K217_2_eq (m : Nat) (call : CallF) : compF c217_2 (C m) call (Z217 m) nx (Z217 m) = (fun e => K217_2 m call (e 1) (e 2)) := by
  refine Eq.trans (b := (compF (pS1 c217_2) (C m) call (compF c217_3 (C m) call (Z217 m) nx (Z217 m)) nx (Z217 m))) (by kernel_rfl) ?_
  rw [K217_3_eq m call ]
  first | done | (show _ = _; kernel_rfl)
noncomputable def K217_1 (m : Nat) (call : CallF) (t1 t2 : AV) : Kt :=
 bnd (ldO (C m) 92 t2) fun v0 =>
 bnd (calO (C m) call (fnV 148) [v0]) fun v1 =>
 bnd (unO .not v1) fun v2 =>
 ifB v2
 ((retV (C m) [(none, NS)]))
 ((K217_2 m call t1 t2))
theorem K217_1_eq (m : Nat) (call : CallF) : compF c217_1 (C m) call (Z217 m) nx (Z217 m) = (fun e => K217_1 m call (e 1) (e 2)) := by
  refine Eq.trans (b := (compF (pS1 (pS1 c217_1)) (C m) call (fun e => ifB (e 9) ((compF (pS1 (pC1 (pS2 (pS1 c217_1)))) (C m) call (Z217 m) nx (Z217 m)) e) ((compF c217_2 (C m) call (Z217 m) nx (Z217 m)) e)) nx (Z217 m))) (by kernel_rfl) ?_
  rw [K217_2_eq m call ]
  first | done | (show _ = _; kernel_rfl)
noncomputable def K217_0 (m : Nat) (call : CallF) (t0 t1 : AV) : Kt :=
 bnd (boxO 92 t0) fun v0 =>
 K217_1 m call t1 v0
theorem K217_0_eq (m : Nat) (call : CallF) : compF c217_0 (C m) call (Z217 m) nx (Z217 m) = (fun e => K217_0 m call (e 0) (e 1)) := by
  refine Eq.trans (b := (compF (pS1 c217_0) (C m) call (compF c217_1 (C m) call (Z217 m) nx (Z217 m)) nx (Z217 m))) (by kernel_rfl) ?_
  rw [K217_1_eq m call ]
  first | done | (show _ = _; kernel_rfl)
theorem F217_eq (m : Nat) (call : CallF) (t0 t1 : AV) : enterK (C m) call Tryz.f217 [t0, t1] = K217_0 m call t0 t1 := by
  refine Eq.trans (b := (compF c217_0 (C m) call (Z217 m) nx (Z217 m)) (argF [t0, t1])) (by kernel_rfl) ?_
  rw [K217_0_eq m call]
  first | done | rfl
/-! rillmeter/bloom.Add -/
noncomputable def c161_0 : Code := (bodyOf Tryz.f161)
noncomputable def c161_1 : Code := (pS2 c161_0)
noncomputable def c161_2 : Code := (pS2 c161_1)
noncomputable def c161_3 : Code := (pS2 c161_2)
noncomputable def c161_4 : Code := (pS2 (pS1 c161_2))
noncomputable def c161_5 : Code := (pL (pB c161_4))
noncomputable def c161_6 : Code := (pS2 c161_5)
noncomputable def c161_7 : Code := (pS2 c161_6)
noncomputable def c161_8 : Code := (pS2 c161_7)
noncomputable def Z161 (m : Nat) := fun (e : Nat → AV) => retV (C m) (resE e Tryz.f161.results.toList)
noncomputable def K161_3 (m : Nat) (call : CallF) (t2 t4 : AV) : Kt :=
 bnd (ldO (C m) 92 t2) fun v0 =>
 bnd (stO (C m) 92 t4 v0) fun _ =>
 retV (C m) [(some 92, t4)]
theorem K161_3_eq (m : Nat) (call : CallF) : compF c161_3 (C m) call (Z161 m) nx (Z161 m) = (fun e => K161_3 m call (e 2) (e 4)) := by
  refine Eq.trans (b := (compF (pS1 c161_3) (C m) call (Z161 m) nx (Z161 m))) (by kernel_rfl) ?_
  kernel_rfl
noncomputable def K161_8 (m : Nat) (call : CallF) (h5 : AV → AV → AV → AV → AV → Kt) (t2 t4 t13 t14 t15 : AV) : Kt :=
 bnd (binO (C m) .add 3 t15 (I 1)) fun v0 =>
 h5 t2 t4 t13 t14 v0
theorem K161_8_eq (m : Nat) (call : CallF) (h5 : AV → AV → AV → AV → AV → Kt) : compF c161_8 (C m) call (fun e => h5 (e 2) (e 4) (e 13) (e 14) (e 15)) (exitF 0 (fun e => K161_3 m call (e 2) (e 4)) nx) (Z161 m) = (fun e => K161_8 m call h5 (e 2) (e 4) (e 13) (e 14) (e 15)) := by
  kernel_rfl
noncomputable def K161_7 (m : Nat) (call : CallF) (h5 : AV → AV → AV → AV → AV → Kt) (t2 t4 t13 t14 t15 : AV) : Kt :=
 bnd (iadO (C m) 56 t13 t15) fun v0 =>
 bnd (ldO (C m) 3 v0) fun v1 =>
 bnd (fadO (C m) 92 t2 2) fun v2 =>
 bnd (ldO (C m) 63 v2) fun v3 =>
 bnd (iadO (C m) 63 v3 v1) fun v4 =>
 bnd (stO (C m) 4 v4 (B true)) fun _ =>
 K161_8 m call h5 t2 t4 t13 t14 t15
theorem K161_7_eq (m : Nat) (call : CallF) (h5 : AV → AV → AV → AV → AV → Kt) : compF c161_7 (C m) call (fun e => h5 (e 2) (e 4) (e 13) (e 14) (e 15)) (exitF 0 (fun e => K161_3 m call (e 2) (e 4)) nx) (Z161 m) = (fun e => K161_7 m call h5 (e 2) (e 4) (e 13) (e 14) (e 15)) := by
  refine Eq.trans (b := (compF (pS1 (pB (pS1 c161_7))) (C m) call (compF (pS2 (pB (pS1 c161_7))) (C m) call (compF c161_8 (C m) call (fun e => h5 (e 2) (e 4) (e 13) (e 14) (e 15)) (exitF 0 (fun e => K161_3 m call (e 2) (e 4)) nx) (Z161 m)) (exitF 1 (compF c161_8 (C m) call (fun e => h5 (e 2) (e 4) (e 13) (e 14) (e 15)) (exitF 0 (fun e => K161_3 m call (e 2) (e 4)) nx) (Z161 m)) (exitF 0 (fun e => K161_3 m call (e 2) (e 4)) nx)) (Z161 m)) (exitF 1 (compF c161_8 (C m) call (fun e => h5 (e 2) (e 4) (e 13) (e 14) (e 15)) (exitF 0 (fun e => K161_3 m call (e 2) (e 4)) nx) (Z161 m)) (exitF 0 (fun e => K161_3 m call (e 2) (e 4)) nx)) (Z161 m))) (by kernel_rfl) ?_
  rw [K161_8_eq m call h5 ]
  first | done | (show _ = _; kernel_rfl)
noncomputable def K161_6 (m : Nat) (call : CallF) (h5 : AV → AV → AV → AV → AV → Kt) (t2 t4 t13 t14 t15 t16 : AV) : Kt :=
 ifB t16
 ((K161_7 m call h5 t2 t4 t13 t14 t15))
 ((K161_3 m call t2 t4))
theorem K161_6_eq (m : Nat) (call : CallF) (h5 : AV → AV → AV → AV → AV → Kt) : compF c161_6 (C m) call (fun e => h5 (e 2) (e 4) (e 13) (e 14) (e 15)) (exitF 0 (fun e => K161_3 m call (e 2) (e 4)) nx) (Z161 m) = (fun e => K161_6 m call h5 (e 2) (e 4) (e 13) (e 14) (e 15) (e 16)) := by
  refine Eq.trans (b := (fun e => ifB (e 16) ((compF c161_7 (C m) call (fun e => h5 (e 2) (e 4) (e 13) (e 14) (e 15)) (exitF 0 (fun e => K161_3 m call (e 2) (e 4)) nx) (Z161 m)) e) ((fun e => K161_3 m call (e 2) (e 4)) e))) (by kernel_rfl) ?_
  rw [K161_7_eq m call h5 ]
  first | done | (show _ = _; kernel_rfl)
noncomputable def L161_5_b (m : Nat) (call : CallF) (h5 : AV → AV → AV → AV → AV → Kt) (t2 t4 t13 t14 t15 : AV) : Kt :=
 bnd (binO (C m) .lss 3 t15 t14) fun v0 =>
 K161_6 m call h5 t2 t4 t13 t14 t15 v0
noncomputable def L161_5 (m : Nat) (call : CallF) (n : Nat) : AV → AV → AV → AV → AV → Kt :=
 Nat.rec (motive := fun _ => AV → AV → AV → AV → AV → Kt) (fun t2 t4 t13 t14 t15 => noK) (fun _ ih => L161_5_b m call ih) n
theorem L161_5_b_eq (m : Nat) (call : CallF) (h5 : AV → AV → AV → AV → AV → Kt) : compF c161_5 (C m) call (fun e => h5 (e 2) (e 4) (e 13) (e 14) (e 15)) (exitF 0 (fun e => K161_3 m call (e 2) (e 4)) nx) (Z161 m) = fun e => L161_5_b m call h5 (e 2) (e 4) (e 13) (e 14) (e 15) := by
  refine Eq.trans (b := (compF (pS1 c161_5) (C m) call (compF c161_6 (C m) call (fun e => h5 (e 2) (e 4) (e 13) (e 14) (e 15)) (exitF 0 (fun e => K161_3 m call (e 2) (e 4)) nx) (Z161 m)) (exitF 0 (fun e => K161_3 m call (e 2) (e 4)) nx) (Z161 m))) (by kernel_rfl) ?_
  rw [K161_6_eq m call h5 ]
  first | done | (show _ = _; kernel_rfl)
theorem L161_5_eq (m : Nat) (call : CallF) (n : Nat) : (loopF (fun k => compF c161_5 (C m) call k (exitF 0 (fun e => K161_3 m call (e 2) (e 4)) nx) (Z161 m)) n) = (fun e => L161_5 m call n (e 2) (e 4) (e 13) (e 14) (e 15)) := by
  induction n with
  | zero => rfl
  | succ n ih =>
    show compF c161_5 (C m) call (loopF (fun k => compF c161_5 (C m) call k (exitF 0 (fun e => K161_3 m call (e 2) (e 4)) nx) (Z161 m)) n) (exitF 0 (fun e => K161_3 m call (e 2) (e 4)) nx) (Z161 m) = _
    rw [ih, L161_5_b_eq m call (L161_5 m call n)]
    rfl
theorem L161_5_succ (m : Nat) (call : CallF) (n : Nat) : L161_5 m call (n + 1) = L161_5_b m call (L161_5 m call n) := rfl
noncomputable def K161_4 (m : Nat) (call : CallF) (t2 t4 t13 t14 t15 : AV) : Kt :=
 L161_5 m call m t2 t4 t13 t14 t15
theorem K161_4_eq (m : Nat) (call : CallF) : compF c161_4 (C m) call (fun e => K161_3 m call (e 2) (e 4)) nx (Z161 m) = (fun e => K161_4 m call (e 2) (e 4) (e 13) (e 14) (e 15)) := by
  refine Eq.trans (b := (loopF (fun k => compF c161_5 (C m) call k (exitF 0 (fun e => K161_3 m call (e 2) (e 4)) nx) (Z161 m)) m)) (by kernel_rfl) ?_
  rw [L161_5_eq m call m]
  first | done | (show _ = _; kernel_rfl)
noncomputable def K161_2 (m : Nat) (call : CallF) (t1 t2 t4 : AV) : Kt :=
 bnd (ldO (C m) 92 t2) fun v0 =>
 bnd (calO (C m) call (fnV 217) [v0, t1]) fun v1 =>
 bnd (bltO (C m) .len [56] [v1]) fun v2 =>
 K161_4 m call t2 t4 v1 v2 (I 0)
theorem K161_2_eq (m : Nat) (call : CallF) : compF c161_2 (C m) call (Z161 m) nx (Z161 m) = (fun e => K161_2 m call (e 1) (e 2) (e 4)) := by
  refine Eq.trans (b := (compF (pS1 (pS1 c161_2)) (C m) call (compF c161_4 (C m) call (compF c161_3 (C m) call (Z161 m) nx (Z161 m)) nx (Z161 m)) nx (Z161 m))) (by kernel_rfl) ?_
  rw [K161_3_eq m call , K161_4_eq m call ]
  first | done | (show _ = _; kernel_rfl)
noncomputable def K161_1 (m : Nat) (call : CallF) (t1 t2 t4 : AV) : Kt :=
 bnd (fadO (C m) 92 t2 2) fun v0 =>
 bnd (ldO (C m) 63 v0) fun v1 =>
 bnd (calO (C m) call (fnV 220) [v1]) fun v2 =>
 bnd (fadO (C m) 92 t2 2) fun v3 =>
 bnd (stO (C m) 63 v3 v2) fun _ =>
 K161_2 m call t1 t2 t4
theorem K161_1_eq (m : Nat) (call : CallF) : compF c161_1 (C m) call (Z161 m) nx (Z161 m) = (fun e => K161_1 m call (e 1) (e 2) (e 4)) := by
  refine Eq.trans (b := (compF (pS1 c161_1) (C m) call (compF c161_2 (C m) call (Z161 m) nx (Z161 m)) nx (Z161 m))) (by kernel_rfl) ?_
  rw [K161_2_eq m call ]
  first | done | (show _ = _; kernel_rfl)
noncomputable def K161_0 (m : Nat) (call : CallF) (t0 t1 : AV) : Kt :=
 bnd (boxO 92 t0) fun v0 =>
 bnd (newO (C m) 92) fun v1 =>
 K161_1 m call t1 v0 v1
theorem K161_0_eq (m : Nat) (call : CallF) : compF c161_0 (C m) call (Z161 m) nx (Z161 m) = (fun e => K161_0 m call (e 0) (e 1)) := by
  refine Eq.trans (b := (compF (pS1 c161_0) (C m) call (compF c161_1 (C m) call (Z161 m) nx (Z161 m)) nx (Z161 m))) (by kernel_rfl) ?_
  rw [K161_1_eq m call ]
  first | done | (show _ = _; kernel_rfl)
theorem F161_eq (m : Nat) (call : CallF) (t0 t1 : AV) : enterK (C m) call Tryz.f161 [t0, t1] = K161_0 m call t0 t1 := by
  refine Eq.trans (b := (compF c161_0 (C m) call (Z161 m) nx (Z161 m)) (argF [t0, t1])) (by kernel_rfl) ?_
  rw [K161_0_eq m call]
  first | done | rfl
/-! (rillmeter/radar.Radar).place -/
noncomputable def c162_0 : Code := (bodyOf Tryz.f162)
noncomputable def Z162 (m : Nat) := fun (e : Nat → AV) => retV (C m) (resE e Tryz.f162.results.toList)
noncomputable def K162_0 (m : Nat) (call : CallF) (t0 t1 t2 : AV) : Kt :=
 bnd (boxO 95 t0) fun v0 =>
 dIn fun sv1 =>
 dVal (fadO (C m) 95 v0 0) fun v2 =>
 dChk (ldO (C m) 27 v2) fun v3 =>
 dVal (binO (C m) .add 3 t2 (I 1)) fun v4 =>
 dEff (calO (C m) call (fnV 60) [v3, v4]) fun v5 sv5 =>
 dVal (fadO (C m) 95 v0 2) fun v6 =>
 dSam (some true) (ldO (C m) 93 v6) (fun v7 => (eqIn (ldO (C m) 93 v6) v7 sv5 && (eqIn (ldO (C m) 93 v6) v7 sv1 && true))) fun v8 =>
 dVal (iadO (C m) 93 v8 t2) fun v9 =>
 dSam (some true) (ldO (C m) 176 v9) (fun v10 => (eqIn (ldO (C m) 176 v9) v10 sv5 && (eqIn (ldO (C m) 176 v9) v10 sv1 && true))) fun v11 =>
 dSam (some true) (bltO (C m) .len [176] [v11]) (fun v12 => (eqIn (bltO (C m) .len [176] [v11]) v12 sv5 && (eqIn (bltO (C m) .len [176] [v11]) v12 sv1 && true))) fun v13 =>
 dEff (calO (C m) call (fnV 214) [v5, t1, v13]) fun v14 sv14 =>
 retV (C m) [(none, v14)]
theorem K162_0_eq (m : Nat) (call : CallF) : compF c162_0 (C m) call (Z162 m) nx (Z162 m) = (fun e => K162_0 m call (e 0) (e 1) (e 2)) := by
  refine Eq.trans (b := (compF (pS1 c162_0) (C m) call (compF (pS1 (pS2 c162_0)) (C m) call (Z162 m) nx (Z162 m)) nx (Z162 m))) (by kernel_rfl) ?_
  kernel_rfl
theorem F162_eq (m : Nat) (call : CallF) (t0 t1 t2 : AV) : enterK (C m) call Tryz.f162 [t0, t1, t2] = K162_0 m call t0 t1 t2 := by
  refine Eq.trans (b := (compF c162_0 (C m) call (Z162 m) nx (Z162 m)) (argF [t0, t1, t2])) (by kernel_rfl) ?_
  rw [K162_0_eq m call]
  first | done | rfl
/-! rillmeter/radar.xor -/
noncomputable def c163_0 : Code := (bodyOf Tryz.f163)
noncomputable def c163_1 : Code := (pS2 c163_0)
noncomputable def c163_2 : Code := (pS2 c163_1)
noncomputable def c163_3 : Code := (pS2 c163_2)
noncomputable def c163_4 : Code := (pS2 (pS1 c163_2))
noncomputable def c163_5 : Code := (pL (pB c163_4))
noncomputable def c163_6 : Code := (pS2 c163_5)
noncomputable def c163_7 : Code := (pS2 c163_6)
noncomputable def c163_8 : Code := (pS2 c163_7)
noncomputable def Z163 (m : Nat) := fun (e : Nat → AV) => retV (C m) (resE e Tryz.f163.results.toList)
noncomputable def K163_3 (m : Nat) (call : CallF) (t5 : AV) : Kt :=
 bnd (cvO (C m) 133 9 t5) fun v0 =>
 retV (C m) [(none, v0)]
theorem K163_3_eq (m : Nat) (call : CallF) : compF c163_3 (C m) call (Z163 m) nx (Z163 m) = (fun e => K163_3 m call (e 5)) := by
  refine Eq.trans (b := (compF (pS1 c163_3) (C m) call (Z163 m) nx (Z163 m))) (by kernel_rfl) ?_
  kernel_rfl
noncomputable def K163_8 (m : Nat) (call : CallF) (h5 : AV → AV → AV → AV → Kt) (t1 t5 t10 t11 : AV) : Kt :=
 bnd (binO (C m) .add 3 t11 (I 1)) fun v0 =>
 h5 t1 t5 t10 v0
theorem K163_8_eq (m : Nat) (call : CallF) (h5 : AV → AV → AV → AV → Kt) : compF c163_8 (C m) call (fun e => h5 (e 1) (e 5) (e 10) (e 11)) (exitF 0 (fun e => K163_3 m call (e 5)) nx) (Z163 m) = (fun e => K163_8 m call h5 (e 1) (e 5) (e 10) (e 11)) := by
  kernel_rfl
noncomputable def K163_7 (m : Nat) (call : CallF) (h5 : AV → AV → AV → AV → Kt) (t1 t5 t10 t11 : AV) : Kt :=
 dIn fun sv0 =>
 dVal (iadO (C m) 133 t5 t11) fun v1 =>
 dChk (ldO (C m) 5 v1) fun v2 =>
 dVal (idxO (C m) 9 t1 t11) fun v3 =>
 dVal (binO (C m) .xor 5 v2 v3) fun v4 =>
 dVal (iadO (C m) 133 t5 t11) fun v5 =>
 dEff (stO (C m) 5 v5 v4) fun v6 sv6 =>
 K163_8 m call h5 t1 t5 t10 t11
theorem K163_7_eq (m : Nat) (call : CallF) (h5 : AV → AV → AV → AV → Kt) : compF c163_7 (C m) call (fun e => h5 (e 1) (e 5) (e 10) (e 11)) (exitF 0 (fun e => K163_3 m call (e 5)) nx) (Z163 m) = (fun e => K163_7 m call h5 (e 1) (e 5) (e 10) (e 11)) := by
  refine Eq.trans (b := (compF (pS1 (pB (pS1 c163_7))) (C m) call (compF (pS2 (pB (pS1 c163_7))) (C m) call (compF c163_8 (C m) call (fun e => h5 (e 1) (e 5) (e 10) (e 11)) (exitF 0 (fun e => K163_3 m call (e 5)) nx) (Z163 m)) (exitF 1 (compF c163_8 (C m) call (fun e => h5 (e 1) (e 5) (e 10) (e 11)) (exitF 0 (fun e => K163_3 m call (e 5)) nx) (Z163 m)) (exitF 0 (fun e => K163_3 m call (e 5)) nx)) (Z163 m)) (exitF 1 (compF c163_8 (C m) call (fun e => h5 (e 1) (e 5) (e 10) (e 11)) (exitF 0 (fun e => K163_3 m call (e 5)) nx) (Z163 m)) (exitF 0 (fun e => K163_3 m call (e 5)) nx)) (Z163 m))) (by kernel_rfl) ?_
  rw [K163_8_eq m call h5 ]
  first | done | (show _ = _; kernel_rfl)
noncomputable def K163_6 (m : Nat) (call : CallF) (h5 : AV → AV → AV → AV → Kt) (t1 t5 t10 t11 t12 : AV) : Kt :=
 ifB t12
 ((K163_7 m call h5 t1 t5 t10 t11))
 ((K163_3 m call t5))
theorem K163_6_eq (m : Nat) (call : CallF) (h5 : AV → AV → AV → AV → Kt) : compF c163_6 (C m) call (fun e => h5 (e 1) (e 5) (e 10) (e 11)) (exitF 0 (fun e => K163_3 m call (e 5)) nx) (Z163 m) = (fun e => K163_6 m call h5 (e 1) (e 5) (e 10) (e 11) (e 12)) := by
  refine Eq.trans (b := (fun e => ifB (e 12) ((compF c163_7 (C m) call (fun e => h5 (e 1) (e 5) (e 10) (e 11)) (exitF 0 (fun e => K163_3 m call (e 5)) nx) (Z163 m)) e) ((fun e => K163_3 m call (e 5)) e))) (by kernel_rfl) ?_
  rw [K163_7_eq m call h5 ]
  first | done | (show _ = _; kernel_rfl)
noncomputable def L163_5_b (m : Nat) (call : CallF) (h5 : AV → AV → AV → AV → Kt) (t1 t5 t10 t11 : AV) : Kt :=
 bnd (binO (C m) .lss 3 t11 t10) fun v0 =>
 K163_6 m call h5 t1 t5 t10 t11 v0
noncomputable def L163_5 (m : Nat) (call : CallF) (n : Nat) : AV → AV → AV → AV → Kt :=
 Nat.rec (motive := fun _ => AV → AV → AV → AV → Kt) (fun t1 t5 t10 t11 => noK) (fun _ ih => L163_5_b m call ih) n
theorem L163_5_b_eq (m : Nat) (call : CallF) (h5 : AV → AV → AV → AV → Kt) : compF c163_5 (C m) call (fun e => h5 (e 1) (e 5) (e 10) (e 11)) (exitF 0 (fun e => K163_3 m call (e 5)) nx) (Z163 m) = fun e => L163_5_b m call h5 (e 1) (e 5) (e 10) (e 11) := by
  refine Eq.trans (b := (compF (pS1 c163_5) (C m) call (compF c163_6 (C m) call (fun e => h5 (e 1) (e 5) (e 10) (e 11)) (exitF 0 (fun e => K163_3 m call (e 5)) nx) (Z163 m)) (exitF 0 (fun e => K163_3 m call (e 5)) nx) (Z163 m))) (by kernel_rfl) ?_
  rw [K163_6_eq m call h5 ]
  first | done | (show _ = _; kernel_rfl)
theorem L163_5_eq (m : Nat) (call : CallF) (n : Nat) : (loopF (fun k => compF c163_5 (C m) call k (exitF 0 (fun e => K163_3 m call (e 5)) nx) (Z163 m)) n) = (fun e => L163_5 m call n (e 1) (e 5) (e 10) (e 11)) := by
  induction n with
  | zero => rfl
  | succ n ih =>
    show compF c163_5 (C m) call (loopF (fun k => compF c163_5 (C m) call k (exitF 0 (fun e => K163_3 m call (e 5)) nx) (Z163 m)) n) (exitF 0 (fun e => K163_3 m call (e 5)) nx) (Z163 m) = _
    rw [ih, L163_5_b_eq m call (L163_5 m call n)]
    rfl
theorem L163_5_succ (m : Nat) (call : CallF) (n : Nat) : L163_5 m call (n + 1) = L163_5_b m call (L163_5 m call n) := rfl
noncomputable def K163_4 (m : Nat) (call : CallF) (t1 t5 t10 t11 : AV) : Kt :=
 L163_5 m call m t1 t5 t10 t11
theorem K163_4_eq (m : Nat) (call : CallF) : compF c163_4 (C m) call (fun e => K163_3 m call (e 5)) nx (Z163 m) = (fun e => K163_4 m call (e 1) (e 5) (e 10) (e 11)) := by
  refine Eq.trans (b := (loopF (fun k => compF c163_5 (C m) call k (exitF 0 (fun e => K163_3 m call (e 5)) nx) (Z163 m)) m)) (by kernel_rfl) ?_
  rw [L163_5_eq m call m]
  first | done | (show _ = _; kernel_rfl)
noncomputable def K163_2 (m : Nat) (call : CallF) (t1 t5 : AV) : Kt :=
 bnd (bltO (C m) .len [133] [t5]) fun v0 =>
 K163_4 m call t1 t5 v0 (I 0)
theorem K163_2_eq (m : Nat) (call : CallF) : compF c163_2 (C m) call (Z163 m) nx (Z163 m) = (fun e => K163_2 m call (e 1) (e 5)) := by
  refine Eq.trans (b := (compF (pS1 (pS1 c163_2)) (C m) call (compF c163_4 (C m) call (compF c163_3 (C m) call (Z163 m) nx (Z163 m)) nx (Z163 m)) nx (Z163 m))) (by kernel_rfl) ?_
  rw [K163_3_eq m call , K163_4_eq m call ]
  first | done | (show _ = _; kernel_rfl)
noncomputable def K163_1 (m : Nat) (call : CallF) (t0 t1 : AV) : Kt :=
 bnd (cvO (C m) 9 133 t0) fun v0 =>
 K163_2 m call t1 v0
theorem K163_1_eq (m : Nat) (call : CallF) : compF c163_1 (C m) call (Z163 m) nx (Z163 m) = (fun e => K163_1 m call (e 0) (e 1)) := by
  refine Eq.trans (b := (compF (pS1 c163_1) (C m) call (compF c163_2 (C m) call (Z163 m) nx (Z163 m)) nx (Z163 m))) (by kernel_rfl) ?_
  rw [K163_2_eq m call ]
  first | done | (show _ = _; kernel_rfl)
noncomputable def K163_0 (m : Nat) (call : CallF) (t0 t1 : AV) : Kt :=
 K163_1 m call t0 t1
theorem K163_0_eq (m : Nat) (call : CallF) : compF c163_0 (C m) call (Z163 m) nx (Z163 m) = (fun e => K163_0 m call (e 0) (e 1)) := by
  refine Eq.trans (b := (compF (pS1 c163_0) (C m) call (compF c163_1 (C m) call (Z163 m) nx (Z163 m)) nx (Z163 m))) (by kernel_rfl) ?_
  rw [K163_1_eq m call ]
  first | done | (show _ = _; kernel_rfl)
theorem F163_eq (m : Nat) (call : CallF) (t0 t1 : AV) : enterK (C m) call Tryz.f163 [t0, t1] = K163_0 m call t0 t1 := by
  refine Eq.trans (b := (compF c163_0 (C m) call (Z163 m) nx (Z163 m)) (argF [t0, t1])) (by kernel_rfl) ?_
  rw [K163_0_eq m call]
  first | done | rfl
/-! rillmeter/radar.wrong -/
noncomputable def c164_0 : Code := (bodyOf Tryz.f164)
noncomputable def Z164 (m : Nat) := fun (e : Nat → AV) => retV (C m) (resE e Tryz.f164.results.toList)
noncomputable def K164_0 (m : Nat) (call : CallF) (t0 : AV) : Kt :=
 bnd (boxO 177 t0) fun v0 =>
 bnd (fadO (C m) 177 v0 0) fun v1 =>
 bnd (ldO (C m) 9 v1) fun v2 =>
 bnd (bltO (C m) .len [9] [v2]) fun v3 =>
 bnd (binO (C m) .neq 3 v3 (I 37)) fun v4 =>
 bnd (gdO (wantV v4 false) (fadO (C m) 177 v0 1)) fun v5 =>
 bnd (gdO (wantV v4 false) (ldO (C m) 3 v5)) fun v6 =>
 bnd (gdO (wantV v4 false) (binO (C m) .lss 3 v6 (I (-1099511627776)))) fun v7 =>
 bnd (pickO v4 (B true) v7) fun v8 =>
 bnd (gdO (wantV v8 false) (fadO (C m) 177 v0 1)) fun v9 =>
 bnd (gdO (wantV v8 false) (ldO (C m) 3 v9)) fun v10 =>
 bnd (gdO (wantV v8 false) (binO (C m) .gtr 3 v10 (I 1099511627776))) fun v11 =>
 bnd (pickO v8 (B true) v11) fun v12 =>
 bnd (gdO (wantV v12 false) (fadO (C m) 177 v0 2)) fun v13 =>
 bnd (gdO (wantV v12 false) (ldO (C m) 3 v13)) fun v14 =>
 bnd (gdO (wantV v12 false) (calO (C m) call (fnV 158) [v14])) fun v15 =>
 bnd (gdO (wantV v12 false) (unO .not v15)) fun v16 =>
 bnd (pickO v12 (B true) v16) fun v17 =>
 bnd (gdO (wantV v17 false) (fadO (C m) 177 v0 3)) fun v18 =>
 bnd (gdO (wantV v17 false) (ldO (C m) 3 v18)) fun v19 =>
 bnd (gdO (wantV v17 false) (calO (C m) call (fnV 158) [v19])) fun v20 =>
 bnd (gdO (wantV v17 false) (unO .not v20)) fun v21 =>
 bnd (pickO v17 (B true) v21) fun v22 =>
 retV (C m) [(none, v22)]
theorem K164_0_eq (m : Nat) (call : CallF) : compF c164_0 (C m) call (Z164 m) nx (Z164 m) = (fun e => K164_0 m call (e 0)) := by
  refine Eq.trans (b := (compF (pS1 c164_0) (C m) call (compF (pS1 (pS2 c164_0)) (C m) call (Z164 m) nx (Z164 m)) nx (Z164 m))) (by kernel_rfl) ?_
  kernel_rfl
theorem F164_eq (m : Nat) (call : CallF) (t0 : AV) : enterK (C m) call Tryz.f164 [t0] = K164_0 m call t0 := by
  refine Eq.trans (b := (compF c164_0 (C m) call (Z164 m) nx (Z164 m)) (argF [t0])) (by kernel_rfl) ?_
  rw [K164_0_eq m call]
  first | done | rfl
/-! rillmeter/univ.Add -/
noncomputable def c114_0 : Code := (bodyOf Tryz.f114)
noncomputable def c114_1 : Code := (pS2 c114_0)
noncomputable def c114_2 : Code := (pS2 c114_1)
noncomputable def c114_3 : Code := (pS2 c114_2)
noncomputable def c114_4 : Code := (pS2 c114_3)
noncomputable def c114_5 : Code := (pS2 (pS1 c114_3))
noncomputable def c114_6 : Code := (pL (pB c114_5))
noncomputable def c114_7 : Code := (pS2 c114_6)
noncomputable def c114_8 : Code := (pS2 c114_7)
noncomputable def c114_9 : Code := (pS2 c114_8)
noncomputable def c114_10 : Code := (pS2 (pB (pS1 c114_8)))
noncomputable def c114_11 : Code := (pS2 c114_10)
noncomputable def Z114 (m : Nat) := fun (e : Nat → AV) => retV (C m) (resE e Tryz.f114.results.toList)
noncomputable def K114_4 (m : Nat) (call : CallF) (t2 t4 : AV) : Kt :=
 bnd (ldO (C m) 98 t2) fun v0 =>
 bnd (stO (C m) 98 t4 v0) fun _ =>
 retV (C m) [(some 98, t4), (none, (I 0))]
theorem K114_4_eq (m : Nat) (call : CallF) : compF c114_4 (C m) call (Z114 m) nx (Z114 m) = (fun e => K114_4 m call (e 2) (e 4)) := by
  refine Eq.trans (b := (compF (pS1 c114_4) (C m) call (Z114 m) nx (Z114 m))) (by kernel_rfl) ?_
  kernel_rfl
noncomputable def K114_9 (m : Nat) (call : CallF) (h6 : AV → AV → AV → AV → AV → Kt) (t1 t2 t4 t21 t22 : AV) : Kt :=
 bnd (binO (C m) .add 3 t22 (I 1)) fun v0 =>
 h6 t1 t2 t4 t21 v0
theorem K114_9_eq (m : Nat) (call : CallF) (h6 : AV → AV → AV → AV → AV → Kt) : compF c114_9 (C m) call (fun e => h6 (e 1) (e 2) (e 4) (e 21) (e 22)) (exitF 0 (fun e => K114_4 m call (e 2) (e 4)) nx) (Z114 m) = (fun e => K114_9 m call h6 (e 1) (e 2) (e 4) (e 21) (e 22)) := by
  kernel_rfl
noncomputable def K114_11 (m : Nat) (call : CallF) (h6 : AV → AV → AV → AV → AV → Kt) (t1 t2 t4 t6 t7 t8 t21 t22 : AV) : Kt :=
 bnd (binO (C m) .neq 42 t8 (I 0)) fun v0 =>
 ifB v0
 ((bnd (bldO (C m) 98 []) fun v1 =>
 bnd (stO (C m) 98 t4 v1) fun _ =>
 retV (C m) [(some 98, t4), (none, t8)]))
 ((dIn fun sv2 =>
 dVal (fadO (C m) 98 t2 1) fun v3 =>
 dChk (ldO (C m) 3 v3) fun v4 =>
 dVal (fadO (C m) 98 t2 2) fun v5 =>
 dChk (ldO (C m) 96 v5) fun v6 =>
 dVal (iadO (C m) 96 v6 t6) fun v7 =>
 dVal (fadO (C m) 259 v7 1) fun v8 =>
 dChk (ldO (C m) 257 v8) fun v9 =>
 dEff (calO (C m) call (fnV 168) [v4, v9]) fun v10 sv10 =>
 bnd (ldO (C m) 256 t7) fun v11 =>
 bnd (calO (C m) call (fnV 170) [v11, t1]) fun v12 =>
 bnd (calO (C m) call (fnV 169) [v10, t1, v12]) fun v13 =>
 dIn fun sv14 =>
 dEff (calO (C m) call (fnV 171) [v10]) fun v15 sv15 =>
 dVal (fadO (C m) 98 t2 2) fun v16 =>
 dSam (some true) (ldO (C m) 96 v16) (fun v17 => (eqIn (ldO (C m) 96 v16) v17 sv15 && (eqIn (ldO (C m) 96 v16) v17 sv14 && true))) fun v18 =>
 dSam (some true) (ldO (C m) 256 t7) (fun v19 => (eqIn (ldO (C m) 256 t7) v19 sv15 && (eqIn (ldO (C m) 256 t7) v19 sv14 && true))) fun v20 =>
 dVal (bldO (C m) 259 [(0, v20), (1, v15)]) fun v21 =>
 dVal (iadO (C m) 96 v18 t6) fun v22 =>
 dEff (stO (C m) 259 v22 v21) fun v23 sv23 =>
 K114_9 m call h6 t1 t2 t4 t21 t22))
theorem K114_11_eq (m : Nat) (call : CallF) (h6 : AV → AV → AV → AV → AV → Kt) : compF c114_11 (C m) call (fun e => K114_9 m call h6 (e 1) (e 2) (e 4) (e 21) (e 22)) (exitF 1 (fun e => K114_9 m call h6 (e 1) (e 2) (e 4) (e 21) (e 22)) (exitF 0 (fun e => K114_4 m call (e 2) (e 4)) nx)) (Z114 m) = (fun e => K114_11 m call h6 (e 1) (e 2) (e 4) (e 6) (e 7) (e 8) (e 21) (e 22)) := by
  refine Eq.trans (b := (compF (pS1 (pS1 c114_11)) (C m) call (fun e => ifB (e 37) ((compF (pS1 (pC1 (pS2 (pS1 c114_11)))) (C m) call (Z114 m) (exitF 1 (fun e => K114_9 m call h6 (e 1) (e 2) (e 4) (e 21) (e 22)) (exitF 0 (fun e => K114_4 m call (e 2) (e 4)) nx)) (Z114 m)) e) ((compF (pS1 (pS2 c114_11)) (C m) call (compF (pS1 (pS2 (pS2 c114_11))) (C m) call (compF (pS2 (pS2 (pS2 c114_11))) (C m) call (fun e => K114_9 m call h6 (e 1) (e 2) (e 4) (e 21) (e 22)) (exitF 1 (fun e => K114_9 m call h6 (e 1) (e 2) (e 4) (e 21) (e 22)) (exitF 0 (fun e => K114_4 m call (e 2) (e 4)) nx)) (Z114 m)) (exitF 1 (fun e => K114_9 m call h6 (e 1) (e 2) (e 4) (e 21) (e 22)) (exitF 0 (fun e => K114_4 m call (e 2) (e 4)) nx)) (Z114 m)) (exitF 1 (fun e => K114_9 m call h6 (e 1) (e 2) (e 4) (e 21) (e 22)) (exitF 0 (fun e => K114_4 m call (e 2) (e 4)) nx)) (Z114 m)) e)) (exitF 1 (fun e => K114_9 m call h6 (e 1) (e 2) (e 4) (e 21) (e 22)) (exitF 0 (fun e => K114_4 m call (e 2) (e 4)) nx)) (Z114 m))) (by kernel_rfl) ?_
  kernel_rfl
noncomputable def K114_10 (m : Nat) (call : CallF) (h6 : AV → AV → AV → AV → AV → Kt) (t1 t2 t4 t6 t21 t22 : AV) : Kt :=
 bnd (fadO (C m) 98 t2 2) fun v0 =>
 bnd (ldO (C m) 96 v0) fun v1 =>
 bnd (iadO (C m) 96 v1 t6) fun v2 =>
 bnd (fadO (C m) 259 v2 0) fun v3 =>
 bnd (ldO (C m) 256 v3) fun v4 =>
 bnd (calO (C m) call (fnV 167) [v4, t1, (I 1)]) fun v5 =>
 bnd (extO v5 0) fun v6 =>
 bnd (extO v5 1) fun v7 =>
 bnd (newO (C m) 256) fun v8 =>
 bnd (stO (C m) 256 v8 v6) fun _ =>
 K114_11 m call h6 t1 t2 t4 t6 v8 v7 t21 t22
theorem K114_10_eq (m : Nat) (call : CallF) (h6 : AV → AV → AV → AV → AV → Kt) : compF c114_10 (C m) call (fun e => K114_9 m call h6 (e 1) (e 2) (e 4) (e 21) (e 22)) (exitF 1 (fun e => K114_9 m call h6 (e 1) (e 2) (e 4) (e 21) (e 22)) (exitF 0 (fun e => K114_4 m call (e 2) (e 4)) nx)) (Z114 m) = (fun e => K114_10 m call h6 (e 1) (e 2) (e 4) (e 6) (e 21) (e 22)) := by
  refine Eq.trans (b := (compF (pS1 c114_10) (C m) call (compF c114_11 (C m) call (fun e => K114_9 m call h6 (e 1) (e 2) (e 4) (e 21) (e 22)) (exitF 1 (fun e => K114_9 m call h6 (e 1) (e 2) (e 4) (e 21) (e 22)) (exitF 0 (fun e => K114_4 m call (e 2) (e 4)) nx)) (Z114 m)) (exitF 1 (fun e => K114_9 m call h6 (e 1) (e 2) (e 4) (e 21) (e 22)) (exitF 0 (fun e => K114_4 m call (e 2) (e 4)) nx)) (Z114 m))) (by kernel_rfl) ?_
  rw [K114_11_eq m call h6 ]
  first | done | (show _ = _; kernel_rfl)
noncomputable def K114_8 (m : Nat) (call : CallF) (h6 : AV → AV → AV → AV → AV → Kt) (t1 t2 t4 t21 t22 : AV) : Kt :=
 K114_10 m call h6 t1 t2 t4 t22 t21 t22
theorem K114_8_eq (m : Nat) (call : CallF) (h6 : AV → AV → AV → AV → AV → Kt) : compF c114_8 (C m) call (fun e => h6 (e 1) (e 2) (e 4) (e 21) (e 22)) (exitF 0 (fun e => K114_4 m call (e 2) (e 4)) nx) (Z114 m) = (fun e => K114_8 m call h6 (e 1) (e 2) (e 4) (e 21) (e 22)) := by
  refine Eq.trans (b := (compF (pS1 (pB (pS1 c114_8))) (C m) call (compF c114_10 (C m) call (compF c114_9 (C m) call (fun e => h6 (e 1) (e 2) (e 4) (e 21) (e 22)) (exitF 0 (fun e => K114_4 m call (e 2) (e 4)) nx) (Z114 m)) (exitF 1 (compF c114_9 (C m) call (fun e => h6 (e 1) (e 2) (e 4) (e 21) (e 22)) (exitF 0 (fun e => K114_4 m call (e 2) (e 4)) nx) (Z114 m)) (exitF 0 (fun e => K114_4 m call (e 2) (e 4)) nx)) (Z114 m)) (exitF 1 (compF c114_9 (C m) call (fun e => h6 (e 1) (e 2) (e 4) (e 21) (e 22)) (exitF 0 (fun e => K114_4 m call (e 2) (e 4)) nx) (Z114 m)) (exitF 0 (fun e => K114_4 m call (e 2) (e 4)) nx)) (Z114 m))) (by kernel_rfl) ?_
  rw [K114_9_eq m call h6 , K114_10_eq m call h6 ]
  first | done | (show _ = _; kernel_rfl)
noncomputable def K114_7 (m : Nat) (call : CallF) (h6 : AV → AV → AV → AV → AV → Kt) (t1 t2 t4 t21 t22 t23 : AV) : Kt :=
 ifB t23
 ((K114_8 m call h6 t1 t2 t4 t21 t22))
 ((K114_4 m call t2 t4))
theorem K114_7_eq (m : Nat) (call : CallF) (h6 : AV → AV → AV → AV → AV → Kt) : compF c114_7 (C m) call (fun e => h6 (e 1) (e 2) (e 4) (e 21) (e 22)) (exitF 0 (fun e => K114_4 m call (e 2) (e 4)) nx) (Z114 m) = (fun e => K114_7 m call h6 (e 1) (e 2) (e 4) (e 21) (e 22) (e 23)) := by
  refine Eq.trans (b := (fun e => ifB (e 23) ((compF c114_8 (C m) call (fun e => h6 (e 1) (e 2) (e 4) (e 21) (e 22)) (exitF 0 (fun e => K114_4 m call (e 2) (e 4)) nx) (Z114 m)) e) ((fun e => K114_4 m call (e 2) (e 4)) e))) (by kernel_rfl) ?_
  rw [K114_8_eq m call h6 ]
  first | done | (show _ = _; kernel_rfl)
noncomputable def L114_6_b (m : Nat) (call : CallF) (h6 : AV → AV → AV → AV → AV → Kt) (t1 t2 t4 t21 t22 : AV) : Kt :=
 bnd (binO (C m) .lss 3 t22 t21) fun v0 =>
 K114_7 m call h6 t1 t2 t4 t21 t22 v0
noncomputable def L114_6 (m : Nat) (call : CallF) (n : Nat) : AV → AV → AV → AV → AV → Kt :=
 Nat.rec (motive := fun _ => AV → AV → AV → AV → AV → Kt) (fun t1 t2 t4 t21 t22 => noK) (fun _ ih => L114_6_b m call ih) n
theorem L114_6_b_eq (m : Nat) (call : CallF) (h6 : AV → AV → AV → AV → AV → Kt) : compF c114_6 (C m) call (fun e => h6 (e 1) (e 2) (e 4) (e 21) (e 22)) (exitF 0 (fun e => K114_4 m call (e 2) (e 4)) nx) (Z114 m) = fun e => L114_6_b m call h6 (e 1) (e 2) (e 4) (e 21) (e 22) := by
  refine Eq.trans (b := (compF (pS1 c114_6) (C m) call (compF c114_7 (C m) call (fun e => h6 (e 1) (e 2) (e 4) (e 21) (e 22)) (exitF 0 (fun e => K114_4 m call (e 2) (e 4)) nx) (Z114 m)) (exitF 0 (fun e => K114_4 m call (e 2) (e 4)) nx) (Z114 m))) (by kernel_rfl) ?_
  rw [K114_7_eq m call h6 ]
  first | done | (show _ = _; kernel_rfl)
theorem L114_6_eq (m : Nat) (call : CallF) (n : Nat) : (loopF (fun k => compF c114_6 (C m) call k (exitF 0 (fun e => K114_4 m call (e 2) (e 4)) nx) (Z114 m)) n) = (fun e => L114_6 m call n (e 1) (e 2) (e 4) (e 21) (e 22)) := by
  induction n with
  | zero => rfl
  | succ n ih =>
    show compF c114_6 (C m) call (loopF (fun k => compF c114_6 (C m) call k (exitF 0 (fun e => K114_4 m call (e 2) (e 4)) nx) (Z114 m)) n) (exitF 0 (fun e => K114_4 m call (e 2) (e 4)) nx) (Z114 m) = _
    rw [ih, L114_6_b_eq m call (L114_6 m call n)]
    rfl
theorem L114_6_succ (m : Nat) (call : CallF) (n : Nat) : L114_6 m call (n + 1) = L114_6_b m call (L114_6 m call n) := rfl
noncomputable def K114_5 (m : Nat) (call : CallF) (t1 t2 t4 t21 t22 : AV) : Kt :=
 L114_6 m call m t1 t2 t4 t21 t22
theorem K114_5_eq (m : Nat) (call : CallF) : compF c114_5 (C m) call (fun e => K114_4 m call (e 2) (e 4)) nx (Z114 m) = (fun e => K114_5 m call (e 1) (e 2) (e 4) (e 21) (e 22)) := by
  refine Eq.trans (b := (loopF (fun k => compF c114_6 (C m) call k (exitF 0 (fun e => K114_4 m call (e 2) (e 4)) nx) (Z114 m)) m)) (by kernel_rfl) ?_
  rw [L114_6_eq m call m]
  first | done | (show _ = _; kernel_rfl)
noncomputable def K114_3 (m : Nat) (call : CallF) (t1 t2 t4 : AV) : Kt :=
 bnd (ldO (C m) 98 t2) fun v0 =>
 bnd (calO (C m) call (fnV 166) [v0, t1]) fun v1 =>
 bnd (binO (C m) .add 3 v1 (I 1)) fun v2 =>
 K114_5 m call t1 t2 t4 v2 (I 0)
theorem K114_3_eq (m : Nat) (call : CallF) : compF c114_3 (C m) call (Z114 m) nx (Z114 m) = (fun e => K114_3 m call (e 1) (e 2) (e 4)) := by
  refine Eq.trans (b := (compF (pS1 (pS1 c114_3)) (C m) call (compF c114_5 (C m) call (compF c114_4 (C m) call (Z114 m) nx (Z114 m)) nx (Z114 m)) nx (Z114 m))) (by kernel_rfl) ?_
  rw [K114_4_eq m call , K114_5_eq m call ]
  first | done | (show _ = _; kernel_rfl)
noncomputable def K114_2 (m : Nat) (call : CallF) (t1 t2 t4 : AV) : Kt :=
 bnd (fadO (C m) 98 t2 2) fun v0 =>
 bnd (ldO (C m) 96 v0) fun v1 =>
 bnd (calO (C m) call (fnV 165) [v1]) fun v2 =>
 bnd (fadO (C m) 98 t2 2) fun v3 =>
 bnd (stO (C m) 96 v3 v2) fun _ =>
 K114_3 m call t1 t2 t4
theorem K114_2_eq (m : Nat) (call : CallF) : compF c114_2 (C m) call (Z114 m) nx (Z114 m) = (fun e => K114_2 m call (e 1) (e 2) (e 4)) := by
  refine Eq.trans (b := (compF (pS1 c114_2) (C m) call (compF c114_3 (C m) call (Z114 m) nx (Z114 m)) nx (Z114 m))) (by kernel_rfl) ?_
  rw [K114_3_eq m call ]
  first | done | (show _ = _; kernel_rfl)
noncomputable def K114_1 (m : Nat) (call : CallF) (t1 t2 t4 : AV) : Kt :=
 bnd (ldO (C m) 98 t2) fun v0 =>
 bnd (calO (C m) call (fnV 135) [v0]) fun v1 =>
 bnd (unO .not v1) fun v2 =>
 ifB v2
 ((bnd (bldO (C m) 98 []) fun v3 =>
 bnd (stO (C m) 98 t4 v3) fun _ =>
 retV (C m) [(some 98, t4), (none, (I 1))]))
 ((K114_2 m call t1 t2 t4))
theorem K114_1_eq (m : Nat) (call : CallF) : compF c114_1 (C m) call (Z114 m) nx (Z114 m) = (fun e => K114_1 m call (e 1) (e 2) (e 4)) := by
  refine Eq.trans (b := (compF (pS1 (pS1 c114_1)) (C m) call (fun e => ifB (e 12) ((compF (pS1 (pC1 (pS2 (pS1 c114_1)))) (C m) call (Z114 m) nx (Z114 m)) e) ((compF c114_2 (C m) call (Z114 m) nx (Z114 m)) e)) nx (Z114 m))) (by kernel_rfl) ?_
  rw [K114_2_eq m call ]
  first | done | (show _ = _; kernel_rfl)
noncomputable def K114_0 (m : Nat) (call : CallF) (t0 t1 : AV) : Kt :=
 bnd (boxO 98 t0) fun v0 =>
 bnd (newO (C m) 98) fun v1 =>
 K114_1 m call t1 v0 v1
theorem K114_0_eq (m : Nat) (call : CallF) : compF c114_0 (C m) call (Z114 m) nx (Z114 m) = (fun e => K114_0 m call (e 0) (e 1)) := by
  refine Eq.trans (b := (compF (pS1 c114_0) (C m) call (compF c114_1 (C m) call (Z114 m) nx (Z114 m)) nx (Z114 m))) (by kernel_rfl) ?_
  rw [K114_1_eq m call ]
  first | done | (show _ = _; kernel_rfl)
theorem F114_eq (m : Nat) (call : CallF) (t0 t1 : AV) : enterK (C m) call Tryz.f114 [t0, t1] = K114_0 m call t0 t1 := by
  refine Eq.trans (b := (compF c114_0 (C m) call (Z114 m) nx (Z114 m)) (argF [t0, t1])) (by kernel_rfl) ?_
  rw [K114_0_eq m call]
  first | done | rfl
/-! rillmeter/univ.level -/
noncomputable def c166_0 : Code := (bodyOf Tryz.f166)
noncomputable def Z166 (m : Nat) := fun (e : Nat → AV) => retV (C m) (resE e Tryz.f166.results.toList)
noncomputable def K166_0 (m : Nat) (call : CallF) (t0 t1 : AV) : Kt :=
 bnd (boxO 98 t0) fun v0 =>
 dIn fun sv1 =>
 dVal (fadO (C m) 98 v0 0) fun v2 =>
 dChk (ldO (C m) 27 v2) fun v3 =>
 dEff (calO (C m) call (fnV 60) [v3, (I 0)]) fun v4 sv4 =>
 dVal (fadO (C m) 98 v0 2) fun v5 =>
 dSam (some true) (ldO (C m) 96 v5) (fun v6 => (eqIn (ldO (C m) 96 v5) v6 sv4 && (eqIn (ldO (C m) 96 v5) v6 sv1 && true))) fun v7 =>
 dSam (some true) (bltO (C m) .len [96] [v7]) (fun v8 => (eqIn (bltO (C m) .len [96] [v7]) v8 sv4 && (eqIn (bltO (C m) .len [96] [v7]) v8 sv1 && true))) fun v9 =>
 dVal (binO (C m) .sub 3 v9 (I 1)) fun v10 =>
 dEff (calO (C m) call (fnV 172) [v4, t1, v10]) fun v11 sv11 =>
 retV (C m) [(none, v11)]
theorem K166_0_eq (m : Nat) (call : CallF) : compF c166_0 (C m) call (Z166 m) nx (Z166 m) = (fun e => K166_0 m call (e 0) (e 1)) := by
  refine Eq.trans (b := (compF (pS1 c166_0) (C m) call (compF (pS1 (pS2 c166_0)) (C m) call (Z166 m) nx (Z166 m)) nx (Z166 m))) (by kernel_rfl) ?_
  kernel_rfl
theorem F166_eq (m : Nat) (call : CallF) (t0 t1 : AV) : enterK (C m) call Tryz.f166 [t0, t1] = K166_0 m call t0 t1 := by
  refine Eq.trans (b := (compF c166_0 (C m) call (Z166 m) nx (Z166 m)) (argF [t0, t1])) (by kernel_rfl) ?_
  rw [K166_0_eq m call]
  first | done | rfl
/-! rillmeter/signed.Add -/
noncomputable def c167_0 : Code := (bodyOf Tryz.f167)
noncomputable def c167_1 : Code := (pS2 c167_0)
noncomputable def c167_2 : Code := (pS2 c167_1)
noncomputable def c167_3 : Code := (pS2 c167_2)
noncomputable def c167_4 : Code := (pS2 c167_3)
noncomputable def c167_5 : Code := (pS2 (pS1 c167_3))
noncomputable def c167_6 : Code := (pL (pB c167_5))
noncomputable def c167_7 : Code := (pS2 c167_6)
noncomputable def c167_8 : Code := (pS2 c167_7)
noncomputable def c167_9 : Code := (pS2 c167_8)
noncomputable def c167_10 : Code := (pS2 (pB (pS1 c167_8)))
noncomputable def Z167 (m : Nat) := fun (e : Nat → AV) => retV (C m) (resE e Tryz.f167.results.toList)
noncomputable def K167_4 (m : Nat) (call : CallF) (t3 t6 : AV) : Kt :=
 bnd (ldO (C m) 256 t3) fun v0 =>
 bnd (stO (C m) 256 t6 v0) fun _ =>
 retV (C m) [(some 256, t6), (none, (I 0))]
theorem K167_4_eq (m : Nat) (call : CallF) : compF c167_4 (C m) call (Z167 m) nx (Z167 m) = (fun e => K167_4 m call (e 3) (e 6)) := by
  refine Eq.trans (b := (compF (pS1 c167_4) (C m) call (Z167 m) nx (Z167 m))) (by kernel_rfl) ?_
  kernel_rfl
noncomputable def K167_9 (m : Nat) (call : CallF) (h6 : AV → AV → AV → AV → AV → AV → AV → Kt) (t1 t2 t3 t6 t24 t25 t26 : AV) : Kt :=
 bnd (binO (C m) .add 3 t26 (I 1)) fun v0 =>
 h6 t1 t2 t3 t6 t24 t25 v0
theorem K167_9_eq (m : Nat) (call : CallF) (h6 : AV → AV → AV → AV → AV → AV → AV → Kt) : compF c167_9 (C m) call (fun e => h6 (e 1) (e 2) (e 3) (e 6) (e 24) (e 25) (e 26)) (exitF 0 (fun e => K167_4 m call (e 3) (e 6)) nx) (Z167 m) = (fun e => K167_9 m call h6 (e 1) (e 2) (e 3) (e 6) (e 24) (e 25) (e 26)) := by
  kernel_rfl
noncomputable def K167_10 (m : Nat) (call : CallF) (h6 : AV → AV → AV → AV → AV → AV → AV → Kt) (t1 t2 t3 t6 t8 t9 t24 t25 t26 : AV) : Kt :=
 bnd (ldO (C m) 256 t3) fun v0 =>
 bnd (calO (C m) call (fnV 223) [v0, t1, t8]) fun v1 =>
 bnd (extO v1 0) fun v2 =>
 bnd (extO v1 1) fun v3 =>
 bnd (iadO (C m) 56 t9 v2) fun v4 =>
 bnd (ldO (C m) 3 v4) fun v5 =>
 bnd (binO (C m) .mul 3 v3 t2) fun v6 =>
 bnd (binO (C m) .add 3 v5 v6) fun v7 =>
 bnd (iadO (C m) 56 t9 v2) fun v8 =>
 bnd (stO (C m) 3 v8 v7) fun _ =>
 bnd (iadO (C m) 56 t9 v2) fun v9 =>
 bnd (ldO (C m) 3 v9) fun v10 =>
 bnd (calO (C m) call (fnV 221) [v10]) fun v11 =>
 bnd (unO .not v11) fun v12 =>
 ifB v12
 ((bnd (bldO (C m) 256 []) fun v13 =>
 bnd (stO (C m) 256 t6 v13) fun _ =>
 retV (C m) [(some 256, t6), (none, (I 5))]))
 ((K167_9 m call h6 t1 t2 t3 t6 t24 t25 t26))
theorem K167_10_eq (m : Nat) (call : CallF) (h6 : AV → AV → AV → AV → AV → AV → AV → Kt) : compF c167_10 (C m) call (fun e => K167_9 m call h6 (e 1) (e 2) (e 3) (e 6) (e 24) (e 25) (e 26)) (exitF 1 (fun e => K167_9 m call h6 (e 1) (e 2) (e 3) (e 6) (e 24) (e 25) (e 26)) (exitF 0 (fun e => K167_4 m call (e 3) (e 6)) nx)) (Z167 m) = (fun e => K167_10 m call h6 (e 1) (e 2) (e 3) (e 6) (e 8) (e 9) (e 24) (e 25) (e 26)) := by
  refine Eq.trans (b := (compF (pS1 c167_10) (C m) call (compF (pS1 (pS2 c167_10)) (C m) call (compF (pS1 (pS2 (pS2 c167_10))) (C m) call (fun e => ifB (e 52) ((compF (pS1 (pC1 (pS2 (pS2 (pS2 c167_10))))) (C m) call (Z167 m) (exitF 1 (fun e => K167_9 m call h6 (e 1) (e 2) (e 3) (e 6) (e 24) (e 25) (e 26)) (exitF 0 (fun e => K167_4 m call (e 3) (e 6)) nx)) (Z167 m)) e) ((fun e => K167_9 m call h6 (e 1) (e 2) (e 3) (e 6) (e 24) (e 25) (e 26)) e)) (exitF 1 (fun e => K167_9 m call h6 (e 1) (e 2) (e 3) (e 6) (e 24) (e 25) (e 26)) (exitF 0 (fun e => K167_4 m call (e 3) (e 6)) nx)) (Z167 m)) (exitF 1 (fun e => K167_9 m call h6 (e 1) (e 2) (e 3) (e 6) (e 24) (e 25) (e 26)) (exitF 0 (fun e => K167_4 m call (e 3) (e 6)) nx)) (Z167 m)) (exitF 1 (fun e => K167_9 m call h6 (e 1) (e 2) (e 3) (e 6) (e 24) (e 25) (e 26)) (exitF 0 (fun e => K167_4 m call (e 3) (e 6)) nx)) (Z167 m))) (by kernel_rfl) ?_
  kernel_rfl
noncomputable def K167_8 (m : Nat) (call : CallF) (h6 : AV → AV → AV → AV → AV → AV → AV → Kt) (t1 t2 t3 t6 t24 t25 t26 : AV) : Kt :=
 bnd (iadO (C m) 58 t24 t26) fun v0 =>
 bnd (ldO (C m) 56 v0) fun v1 =>
 K167_10 m call h6 t1 t2 t3 t6 t26 v1 t24 t25 t26
theorem K167_8_eq (m : Nat) (call : CallF) (h6 : AV → AV → AV → AV → AV → AV → AV → Kt) : compF c167_8 (C m) call (fun e => h6 (e 1) (e 2) (e 3) (e 6) (e 24) (e 25) (e 26)) (exitF 0 (fun e => K167_4 m call (e 3) (e 6)) nx) (Z167 m) = (fun e => K167_8 m call h6 (e 1) (e 2) (e 3) (e 6) (e 24) (e 25) (e 26)) := by
  refine Eq.trans (b := (compF (pS1 (pB (pS1 c167_8))) (C m) call (compF c167_10 (C m) call (compF c167_9 (C m) call (fun e => h6 (e 1) (e 2) (e 3) (e 6) (e 24) (e 25) (e 26)) (exitF 0 (fun e => K167_4 m call (e 3) (e 6)) nx) (Z167 m)) (exitF 1 (compF c167_9 (C m) call (fun e => h6 (e 1) (e 2) (e 3) (e 6) (e 24) (e 25) (e 26)) (exitF 0 (fun e => K167_4 m call (e 3) (e 6)) nx) (Z167 m)) (exitF 0 (fun e => K167_4 m call (e 3) (e 6)) nx)) (Z167 m)) (exitF 1 (compF c167_9 (C m) call (fun e => h6 (e 1) (e 2) (e 3) (e 6) (e 24) (e 25) (e 26)) (exitF 0 (fun e => K167_4 m call (e 3) (e 6)) nx) (Z167 m)) (exitF 0 (fun e => K167_4 m call (e 3) (e 6)) nx)) (Z167 m))) (by kernel_rfl) ?_
  rw [K167_9_eq m call h6 , K167_10_eq m call h6 ]
  first | done | (show _ = _; kernel_rfl)
noncomputable def K167_7 (m : Nat) (call : CallF) (h6 : AV → AV → AV → AV → AV → AV → AV → Kt) (t1 t2 t3 t6 t24 t25 t26 t27 : AV) : Kt :=
 ifB t27
 ((K167_8 m call h6 t1 t2 t3 t6 t24 t25 t26))
 ((K167_4 m call t3 t6))
theorem K167_7_eq (m : Nat) (call : CallF) (h6 : AV → AV → AV → AV → AV → AV → AV → Kt) : compF c167_7 (C m) call (fun e => h6 (e 1) (e 2) (e 3) (e 6) (e 24) (e 25) (e 26)) (exitF 0 (fun e => K167_4 m call (e 3) (e 6)) nx) (Z167 m) = (fun e => K167_7 m call h6 (e 1) (e 2) (e 3) (e 6) (e 24) (e 25) (e 26) (e 27)) := by
  refine Eq.trans (b := (fun e => ifB (e 27) ((compF c167_8 (C m) call (fun e => h6 (e 1) (e 2) (e 3) (e 6) (e 24) (e 25) (e 26)) (exitF 0 (fun e => K167_4 m call (e 3) (e 6)) nx) (Z167 m)) e) ((fun e => K167_4 m call (e 3) (e 6)) e))) (by kernel_rfl) ?_
  rw [K167_8_eq m call h6 ]
  first | done | (show _ = _; kernel_rfl)
noncomputable def L167_6_b (m : Nat) (call : CallF) (h6 : AV → AV → AV → AV → AV → AV → AV → Kt) (t1 t2 t3 t6 t24 t25 t26 : AV) : Kt :=
 bnd (binO (C m) .lss 3 t26 t25) fun v0 =>
 K167_7 m call h6 t1 t2 t3 t6 t24 t25 t26 v0
noncomputable def L167_6 (m : Nat) (call : CallF) (n : Nat) : AV → AV → AV → AV → AV → AV → AV → Kt :=
 Nat.rec (motive := fun _ => AV → AV → AV → AV → AV → AV → AV → Kt) (fun t1 t2 t3 t6 t24 t25 t26 => noK) (fun _ ih => L167_6_b m call ih) n
theorem L167_6_b_eq (m : Nat) (call : CallF) (h6 : AV → AV → AV → AV → AV → AV → AV → Kt) : compF c167_6 (C m) call (fun e => h6 (e 1) (e 2) (e 3) (e 6) (e 24) (e 25) (e 26)) (exitF 0 (fun e => K167_4 m call (e 3) (e 6)) nx) (Z167 m) = fun e => L167_6_b m call h6 (e 1) (e 2) (e 3) (e 6) (e 24) (e 25) (e 26) := by
  refine Eq.trans (b := (compF (pS1 c167_6) (C m) call (compF c167_7 (C m) call (fun e => h6 (e 1) (e 2) (e 3) (e 6) (e 24) (e 25) (e 26)) (exitF 0 (fun e => K167_4 m call (e 3) (e 6)) nx) (Z167 m)) (exitF 0 (fun e => K167_4 m call (e 3) (e 6)) nx) (Z167 m))) (by kernel_rfl) ?_
  rw [K167_7_eq m call h6 ]
  first | done | (show _ = _; kernel_rfl)
theorem L167_6_eq (m : Nat) (call : CallF) (n : Nat) : (loopF (fun k => compF c167_6 (C m) call k (exitF 0 (fun e => K167_4 m call (e 3) (e 6)) nx) (Z167 m)) n) = (fun e => L167_6 m call n (e 1) (e 2) (e 3) (e 6) (e 24) (e 25) (e 26)) := by
  induction n with
  | zero => rfl
  | succ n ih =>
    show compF c167_6 (C m) call (loopF (fun k => compF c167_6 (C m) call k (exitF 0 (fun e => K167_4 m call (e 3) (e 6)) nx) (Z167 m)) n) (exitF 0 (fun e => K167_4 m call (e 3) (e 6)) nx) (Z167 m) = _
    rw [ih, L167_6_b_eq m call (L167_6 m call n)]
    rfl
theorem L167_6_succ (m : Nat) (call : CallF) (n : Nat) : L167_6 m call (n + 1) = L167_6_b m call (L167_6 m call n) := rfl
noncomputable def K167_5 (m : Nat) (call : CallF) (t1 t2 t3 t6 t24 t25 t26 : AV) : Kt :=
 L167_6 m call m t1 t2 t3 t6 t24 t25 t26
theorem K167_5_eq (m : Nat) (call : CallF) : compF c167_5 (C m) call (fun e => K167_4 m call (e 3) (e 6)) nx (Z167 m) = (fun e => K167_5 m call (e 1) (e 2) (e 3) (e 6) (e 24) (e 25) (e 26)) := by
  refine Eq.trans (b := (loopF (fun k => compF c167_6 (C m) call k (exitF 0 (fun e => K167_4 m call (e 3) (e 6)) nx) (Z167 m)) m)) (by kernel_rfl) ?_
  rw [L167_6_eq m call m]
  first | done | (show _ = _; kernel_rfl)
noncomputable def K167_3 (m : Nat) (call : CallF) (t1 t2 t3 t6 : AV) : Kt :=
 bnd (fadO (C m) 256 t3 1) fun v0 =>
 bnd (ldO (C m) 58 v0) fun v1 =>
 bnd (bltO (C m) .len [58] [v1]) fun v2 =>
 K167_5 m call t1 t2 t3 t6 v1 v2 (I 0)
theorem K167_3_eq (m : Nat) (call : CallF) : compF c167_3 (C m) call (Z167 m) nx (Z167 m) = (fun e => K167_3 m call (e 1) (e 2) (e 3) (e 6)) := by
  refine Eq.trans (b := (compF (pS1 (pS1 c167_3)) (C m) call (compF c167_5 (C m) call (compF c167_4 (C m) call (Z167 m) nx (Z167 m)) nx (Z167 m)) nx (Z167 m))) (by kernel_rfl) ?_
  rw [K167_4_eq m call , K167_5_eq m call ]
  first | done | (show _ = _; kernel_rfl)
noncomputable def K167_2 (m : Nat) (call : CallF) (t1 t2 t3 t6 : AV) : Kt :=
 bnd (ldO (C m) 256 t3) fun v0 =>
 bnd (calO (C m) call (fnV 222) [v0]) fun v1 =>
 bnd (stO (C m) 256 t3 v1) fun _ =>
 K167_3 m call t1 t2 t3 t6
theorem K167_2_eq (m : Nat) (call : CallF) : compF c167_2 (C m) call (Z167 m) nx (Z167 m) = (fun e => K167_2 m call (e 1) (e 2) (e 3) (e 6)) := by
  refine Eq.trans (b := (compF (pS1 c167_2) (C m) call (compF c167_3 (C m) call (Z167 m) nx (Z167 m)) nx (Z167 m))) (by kernel_rfl) ?_
  rw [K167_3_eq m call ]
  first | done | (show _ = _; kernel_rfl)
noncomputable def K167_1 (m : Nat) (call : CallF) (t1 t2 t3 t6 : AV) : Kt :=
 bnd (ldO (C m) 256 t3) fun v0 =>
 bnd (calO (C m) call (fnV 200) [v0]) fun v1 =>
 bnd (unO .not v1) fun v2 =>
 bnd (gdO (wantV v2 false) (fun _ => .val t2)) fun v3 =>
 bnd (gdO (wantV v2 false) (calO (C m) call (fnV 221) [v3])) fun v4 =>
 bnd (gdO (wantV v2 false) (unO .not v4)) fun v5 =>
 bnd (pickO v2 (B true) v5) fun v6 =>
 ifB v6
 ((bnd (bldO (C m) 256 []) fun v7 =>
 bnd (stO (C m) 256 t6 v7) fun _ =>
 retV (C m) [(some 256, t6), (none, (I 1))]))
 ((K167_2 m call t1 t2 t3 t6))
theorem K167_1_eq (m : Nat) (call : CallF) : compF c167_1 (C m) call (Z167 m) nx (Z167 m) = (fun e => K167_1 m call (e 1) (e 2) (e 3) (e 6)) := by
  refine Eq.trans (b := (compF (pS1 (pS1 c167_1)) (C m) call (fun e => ifB (e 19) ((compF (pS1 (pC1 (pS2 (pS1 c167_1)))) (C m) call (Z167 m) nx (Z167 m)) e) ((compF c167_2 (C m) call (Z167 m) nx (Z167 m)) e)) nx (Z167 m))) (by kernel_rfl) ?_
  rw [K167_2_eq m call ]
  first | done | (show _ = _; kernel_rfl)
noncomputable def K167_0 (m : Nat) (call : CallF) (t0 t1 t2 : AV) : Kt :=
 bnd (boxO 256 t0) fun v0 =>
 bnd (newO (C m) 256) fun v1 =>
 K167_1 m call t1 t2 v0 v1
theorem K167_0_eq (m : Nat) (call : CallF) : compF c167_0 (C m) call (Z167 m) nx (Z167 m) = (fun e => K167_0 m call (e 0) (e 1) (e 2)) := by
  refine Eq.trans (b := (compF (pS1 c167_0) (C m) call (compF c167_1 (C m) call (Z167 m) nx (Z167 m)) nx (Z167 m))) (by kernel_rfl) ?_
  rw [K167_1_eq m call ]
  first | done | (show _ = _; kernel_rfl)
theorem F167_eq (m : Nat) (call : CallF) (t0 t1 t2 : AV) : enterK (C m) call Tryz.f167 [t0, t1, t2] = K167_0 m call t0 t1 t2 := by
  refine Eq.trans (b := (compF c167_0 (C m) call (Z167 m) nx (Z167 m)) (argF [t0, t1, t2])) (by kernel_rfl) ?_
  rw [K167_0_eq m call]
  first | done | rfl
/-! rillmeter/signed.place -/
noncomputable def c223_0 : Code := (bodyOf Tryz.f223)
noncomputable def Z223 (m : Nat) := fun (e : Nat → AV) => retV (C m) (resE e Tryz.f223.results.toList)
noncomputable def K223_0 (m : Nat) (call : CallF) (t0 t1 t2 : AV) : Kt :=
 bnd (boxO 256 t0) fun v0 =>
 dIn fun sv1 =>
 dVal (fadO (C m) 256 v0 0) fun v2 =>
 dChk (ldO (C m) 27 v2) fun v3 =>
 dVal (binO (C m) .mul 3 (I 2) t2) fun v4 =>
 dEff (calO (C m) call (fnV 60) [v3, v4]) fun v5 sv5 =>
 dVal (fadO (C m) 256 v0 1) fun v6 =>
 dSam (some true) (ldO (C m) 58 v6) (fun v7 => (eqIn (ldO (C m) 58 v6) v7 sv5 && (eqIn (ldO (C m) 58 v6) v7 sv1 && true))) fun v8 =>
 dVal (iadO (C m) 58 v8 t2) fun v9 =>
 dSam (some true) (ldO (C m) 56 v9) (fun v10 => (eqIn (ldO (C m) 56 v9) v10 sv5 && (eqIn (ldO (C m) 56 v9) v10 sv1 && true))) fun v11 =>
 dSam (some true) (bltO (C m) .len [56] [v11]) (fun v12 => (eqIn (bltO (C m) .len [56] [v11]) v12 sv5 && (eqIn (bltO (C m) .len [56] [v11]) v12 sv1 && true))) fun v13 =>
 dEff (calO (C m) call (fnV 214) [v5, t1, v13]) fun v14 sv14 =>
 dVal (fadO (C m) 256 v0 0) fun v15 =>
 dSam (some true) (ldO (C m) 27 v15) (fun v16 => (eqIn (ldO (C m) 27 v15) v16 sv14 && (eqIn (ldO (C m) 27 v15) v16 sv5 && (eqIn (ldO (C m) 27 v15) v16 sv1 && true)))) fun v17 =>
 dVal (binO (C m) .mul 3 (I 2) t2) fun v18 =>
 dVal (binO (C m) .add 3 v18 (I 1)) fun v19 =>
 dEff (calO (C m) call (fnV 60) [v17, v19]) fun v20 sv20 =>
 dEff (calO (C m) call (fnV 264) [v20, t1]) fun v21 sv21 =>
 retV (C m) [(none, v14), (none, v21)]
theorem K223_0_eq (m : Nat) (call : CallF) : compF c223_0 (C m) call (Z223 m) nx (Z223 m) = (fun e => K223_0 m call (e 0) (e 1) (e 2)) := by
  refine Eq.trans (b := (compF (pS1 c223_0) (C m) call (compF (pS1 (pS2 c223_0)) (C m) call (Z223 m) nx (Z223 m)) nx (Z223 m))) (by kernel_rfl) ?_
  kernel_rfl
theorem F223_eq (m : Nat) (call : CallF) (t0 t1 t2 : AV) : enterK (C m) call Tryz.f223 [t0, t1, t2] = K223_0 m call t0 t1 t2 := by
  refine Eq.trans (b := (compF c223_0 (C m) call (Z223 m) nx (Z223 m)) (argF [t0, t1, t2])) (by kernel_rfl) ?_
  rw [K223_0_eq m call]
  first | done | rfl
/-! rillmeter/signed.fits -/
noncomputable def c221_0 : Code := (bodyOf Tryz.f221)
noncomputable def Z221 (m : Nat) := fun (e : Nat → AV) => retV (C m) (resE e Tryz.f221.results.toList)
noncomputable def K221_0 (m : Nat) (call : CallF) (t0 : AV) : Kt :=
 bnd (binO (C m) .geq 3 t0 (I (-1099511627776))) fun v0 =>
 bnd (gdO (wantV v0 true) (fun _ => .val t0)) fun v1 =>
 bnd (gdO (wantV v0 true) (binO (C m) .leq 3 v1 (I 1099511627776))) fun v2 =>
 bnd (pickO v0 v2 (B false)) fun v3 =>
 retV (C m) [(none, v3)]
theorem K221_0_eq (m : Nat) (call : CallF) : compF c221_0 (C m) call (Z221 m) nx (Z221 m) = (fun e => K221_0 m call (e 0)) := by
  refine Eq.trans (b := (compF (pS1 c221_0) (C m) call (compF (pS1 (pS2 c221_0)) (C m) call (Z221 m) nx (Z221 m)) nx (Z221 m))) (by kernel_rfl) ?_
  kernel_rfl
theorem F221_eq (m : Nat) (call : CallF) (t0 : AV) : enterK (C m) call Tryz.f221 [t0] = K221_0 m call t0 := by
  refine Eq.trans (b := (compF c221_0 (C m) call (Z221 m) nx (Z221 m)) (argF [t0])) (by kernel_rfl) ?_
  rw [K221_0_eq m call]
  first | done | rfl
/-! rillmeter/signed.Get -/
noncomputable def c170_0 : Code := (bodyOf Tryz.f170)
noncomputable def c170_1 : Code := (pS2 c170_0)
noncomputable def c170_2 : Code := (pS2 c170_1)
noncomputable def c170_3 : Code := (pS2 c170_2)
noncomputable def c170_4 : Code := (pS2 c170_3)
noncomputable def c170_5 : Code := (pS2 (pS1 c170_3))
noncomputable def c170_6 : Code := (pL (pB c170_5))
noncomputable def c170_7 : Code := (pS2 c170_6)
noncomputable def c170_8 : Code := (pS2 c170_7)
noncomputable def c170_9 : Code := (pS2 c170_8)
noncomputable def Z170 (m : Nat) := fun (e : Nat → AV) => retV (C m) (resE e Tryz.f170.results.toList)
noncomputable def K170_4 (m : Nat) (call : CallF) (t5 : AV) : Kt :=
 bnd (calO (C m) call (fnV 227) [t5]) fun v0 =>
 bnd (bltO (C m) .len [56] [t5]) fun v1 =>
 bnd (binO (C m) .quo 3 v1 (I 2)) fun v2 =>
 bnd (iadO (C m) 56 t5 v2) fun v3 =>
 bnd (ldO (C m) 3 v3) fun v4 =>
 retV (C m) [(none, v4)]
theorem K170_4_eq (m : Nat) (call : CallF) : compF c170_4 (C m) call (Z170 m) nx (Z170 m) = (fun e => K170_4 m call (e 5)) := by
  refine Eq.trans (b := (compF (pS1 c170_4) (C m) call (compF (pS1 (pS2 c170_4)) (C m) call (Z170 m) nx (Z170 m)) nx (Z170 m))) (by kernel_rfl) ?_
  kernel_rfl
noncomputable def K170_9 (m : Nat) (call : CallF) (h6 : AV → AV → AV → AV → AV → AV → Kt) (t1 t2 t5 t14 t15 t16 : AV) : Kt :=
 bnd (binO (C m) .add 3 t16 (I 1)) fun v0 =>
 h6 t1 t2 t5 t14 t15 v0
theorem K170_9_eq (m : Nat) (call : CallF) (h6 : AV → AV → AV → AV → AV → AV → Kt) : compF c170_9 (C m) call (fun e => h6 (e 1) (e 2) (e 5) (e 14) (e 15) (e 16)) (exitF 0 (fun e => K170_4 m call (e 5)) nx) (Z170 m) = (fun e => K170_9 m call h6 (e 1) (e 2) (e 5) (e 14) (e 15) (e 16)) := by
  kernel_rfl
noncomputable def K170_8 (m : Nat) (call : CallF) (h6 : AV → AV → AV → AV → AV → AV → Kt) (t1 t2 t5 t14 t15 t16 : AV) : Kt :=
 bnd (iadO (C m) 58 t14 t16) fun v0 =>
 bnd (ldO (C m) 56 v0) fun v1 =>
 bnd (ldO (C m) 256 t2) fun v2 =>
 bnd (calO (C m) call (fnV 223) [v2, t1, t16]) fun v3 =>
 bnd (extO v3 0) fun v4 =>
 bnd (extO v3 1) fun v5 =>
 bnd (iadO (C m) 56 v1 v4) fun v6 =>
 bnd (ldO (C m) 3 v6) fun v7 =>
 bnd (binO (C m) .mul 3 v5 v7) fun v8 =>
 bnd (bslO (C m) 56 1 [(0, v8)]) fun v9 =>
 bnd (bltO (C m) .append [56, 56] [t5, v9]) fun v10 =>
 K170_9 m call h6 t1 t2 v10 t14 t15 t16
theorem K170_8_eq (m : Nat) (call : CallF) (h6 : AV → AV → AV → AV → AV → AV → Kt) : compF c170_8 (C m) call (fun e => h6 (e 1) (e 2) (e 5) (e 14) (e 15) (e 16)) (exitF 0 (fun e => K170_4 m call (e 5)) nx) (Z170 m) = (fun e => K170_8 m call h6 (e 1) (e 2) (e 5) (e 14) (e 15) (e 16)) := by
  refine Eq.trans (b := (compF (pS1 (pB (pS1 c170_8))) (C m) call (compF (pS1 (pS2 (pB (pS1 c170_8)))) (C m) call (compF (pS2 (pS2 (pB (pS1 c170_8)))) (C m) call (compF c170_9 (C m) call (fun e => h6 (e 1) (e 2) (e 5) (e 14) (e 15) (e 16)) (exitF 0 (fun e => K170_4 m call (e 5)) nx) (Z170 m)) (exitF 1 (compF c170_9 (C m) call (fun e => h6 (e 1) (e 2) (e 5) (e 14) (e 15) (e 16)) (exitF 0 (fun e => K170_4 m call (e 5)) nx) (Z170 m)) (exitF 0 (fun e => K170_4 m call (e 5)) nx)) (Z170 m)) (exitF 1 (compF c170_9 (C m) call (fun e => h6 (e 1) (e 2) (e 5) (e 14) (e 15) (e 16)) (exitF 0 (fun e => K170_4 m call (e 5)) nx) (Z170 m)) (exitF 0 (fun e => K170_4 m call (e 5)) nx)) (Z170 m)) (exitF 1 (compF c170_9 (C m) call (fun e => h6 (e 1) (e 2) (e 5) (e 14) (e 15) (e 16)) (exitF 0 (fun e => K170_4 m call (e 5)) nx) (Z170 m)) (exitF 0 (fun e => K170_4 m call (e 5)) nx)) (Z170 m))) (by kernel_rfl) ?_
  rw [K170_9_eq m call h6 ]
  first | done | (show _ = _; kernel_rfl)
noncomputable def K170_7 (m : Nat) (call : CallF) (h6 : AV → AV → AV → AV → AV → AV → Kt) (t1 t2 t5 t14 t15 t16 t17 : AV) : Kt :=
 ifB t17
 ((K170_8 m call h6 t1 t2 t5 t14 t15 t16))
 ((K170_4 m call t5))
theorem K170_7_eq (m : Nat) (call : CallF) (h6 : AV → AV → AV → AV → AV → AV → Kt) : compF c170_7 (C m) call (fun e => h6 (e 1) (e 2) (e 5) (e 14) (e 15) (e 16)) (exitF 0 (fun e => K170_4 m call (e 5)) nx) (Z170 m) = (fun e => K170_7 m call h6 (e 1) (e 2) (e 5) (e 14) (e 15) (e 16) (e 17)) := by
  refine Eq.trans (b := (fun e => ifB (e 17) ((compF c170_8 (C m) call (fun e => h6 (e 1) (e 2) (e 5) (e 14) (e 15) (e 16)) (exitF 0 (fun e => K170_4 m call (e 5)) nx) (Z170 m)) e) ((fun e => K170_4 m call (e 5)) e))) (by kernel_rfl) ?_
  rw [K170_8_eq m call h6 ]
  first | done | (show _ = _; kernel_rfl)
noncomputable def L170_6_b (m : Nat) (call : CallF) (h6 : AV → AV → AV → AV → AV → AV → Kt) (t1 t2 t5 t14 t15 t16 : AV) : Kt :=
 bnd (binO (C m) .lss 3 t16 t15) fun v0 =>
 K170_7 m call h6 t1 t2 t5 t14 t15 t16 v0
noncomputable def L170_6 (m : Nat) (call : CallF) (n : Nat) : AV → AV → AV → AV → AV → AV → Kt :=
 Nat.rec (motive := fun _ => AV → AV → AV → AV → AV → AV → Kt) (fun t1 t2 t5 t14 t15 t16 => noK) (fun _ ih => L170_6_b m call ih) n
theorem L170_6_b_eq (m : Nat) (call : CallF) (h6 : AV → AV → AV → AV → AV → AV → Kt) : compF c170_6 (C m) call (fun e => h6 (e 1) (e 2) (e 5) (e 14) (e 15) (e 16)) (exitF 0 (fun e => K170_4 m call (e 5)) nx) (Z170 m) = fun e => L170_6_b m call h6 (e 1) (e 2) (e 5) (e 14) (e 15) (e 16) := by
  refine Eq.trans (b := (compF (pS1 c170_6) (C m) call (compF c170_7 (C m) call (fun e => h6 (e 1) (e 2) (e 5) (e 14) (e 15) (e 16)) (exitF 0 (fun e => K170_4 m call (e 5)) nx) (Z170 m)) (exitF 0 (fun e => K170_4 m call (e 5)) nx) (Z170 m))) (by kernel_rfl) ?_
  rw [K170_7_eq m call h6 ]
  first | done | (show _ = _; kernel_rfl)
theorem L170_6_eq (m : Nat) (call : CallF) (n : Nat) : (loopF (fun k => compF c170_6 (C m) call k (exitF 0 (fun e => K170_4 m call (e 5)) nx) (Z170 m)) n) = (fun e => L170_6 m call n (e 1) (e 2) (e 5) (e 14) (e 15) (e 16)) := by
  induction n with
  | zero => rfl
  | succ n ih =>
    show compF c170_6 (C m) call (loopF (fun k => compF c170_6 (C m) call k (exitF 0 (fun e => K170_4 m call (e 5)) nx) (Z170 m)) n) (exitF 0 (fun e => K170_4 m call (e 5)) nx) (Z170 m) = _
    rw [ih, L170_6_b_eq m call (L170_6 m call n)]
    rfl
theorem L170_6_succ (m : Nat) (call : CallF) (n : Nat) : L170_6 m call (n + 1) = L170_6_b m call (L170_6 m call n) := rfl
noncomputable def K170_5 (m : Nat) (call : CallF) (t1 t2 t5 t14 t15 t16 : AV) : Kt :=
 L170_6 m call m t1 t2 t5 t14 t15 t16
theorem K170_5_eq (m : Nat) (call : CallF) : compF c170_5 (C m) call (fun e => K170_4 m call (e 5)) nx (Z170 m) = (fun e => K170_5 m call (e 1) (e 2) (e 5) (e 14) (e 15) (e 16)) := by
  refine Eq.trans (b := (loopF (fun k => compF c170_6 (C m) call k (exitF 0 (fun e => K170_4 m call (e 5)) nx) (Z170 m)) m)) (by kernel_rfl) ?_
  rw [L170_6_eq m call m]
  first | done | (show _ = _; kernel_rfl)
noncomputable def K170_3 (m : Nat) (call : CallF) (t1 t2 t5 : AV) : Kt :=
 bnd (fadO (C m) 256 t2 1) fun v0 =>
 bnd (ldO (C m) 58 v0) fun v1 =>
 bnd (bltO (C m) .len [58] [v1]) fun v2 =>
 K170_5 m call t1 t2 t5 v1 v2 (I 0)
theorem K170_3_eq (m : Nat) (call : CallF) : compF c170_3 (C m) call (Z170 m) nx (Z170 m) = (fun e => K170_3 m call (e 1) (e 2) (e 5)) := by
  refine Eq.trans (b := (compF (pS1 (pS1 c170_3)) (C m) call (compF c170_5 (C m) call (compF c170_4 (C m) call (Z170 m) nx (Z170 m)) nx (Z170 m)) nx (Z170 m))) (by kernel_rfl) ?_
  rw [K170_4_eq m call , K170_5_eq m call ]
  first | done | (show _ = _; kernel_rfl)
noncomputable def K170_2 (m : Nat) (call : CallF) (t1 t2 : AV) : Kt :=
 K170_3 m call t1 t2 NS
theorem K170_2_eq (m : Nat) (call : CallF) : compF c170_2 (C m) call (Z170 m) nx (Z170 m) = (fun e => K170_2 m call (e 1) (e 2)) := by
  refine Eq.trans (b := (compF (pS1 c170_2) (C m) call (compF c170_3 (C m) call (Z170 m) nx (Z170 m)) nx (Z170 m))) (by kernel_rfl) ?_
  rw [K170_3_eq m call ]
  first | done | (show _ = _; kernel_rfl)
noncomputable def K170_1 (m : Nat) (call : CallF) (t1 t2 : AV) : Kt :=
 bnd (ldO (C m) 256 t2) fun v0 =>
 bnd (calO (C m) call (fnV 200) [v0]) fun v1 =>
 bnd (unO .not v1) fun v2 =>
 ifB v2
 ((retV (C m) [(none, (I 0))]))
 ((K170_2 m call t1 t2))
theorem K170_1_eq (m : Nat) (call : CallF) : compF c170_1 (C m) call (Z170 m) nx (Z170 m) = (fun e => K170_1 m call (e 1) (e 2)) := by
  refine Eq.trans (b := (compF (pS1 (pS1 c170_1)) (C m) call (fun e => ifB (e 12) ((compF (pS1 (pC1 (pS2 (pS1 c170_1)))) (C m) call (Z170 m) nx (Z170 m)) e) ((compF c170_2 (C m) call (Z170 m) nx (Z170 m)) e)) nx (Z170 m))) (by kernel_rfl) ?_
  rw [K170_2_eq m call ]
  first | done | (show _ = _; kernel_rfl)
noncomputable def K170_0 (m : Nat) (call : CallF) (t0 t1 : AV) : Kt :=
 bnd (boxO 256 t0) fun v0 =>
 K170_1 m call t1 v0
theorem K170_0_eq (m : Nat) (call : CallF) : compF c170_0 (C m) call (Z170 m) nx (Z170 m) = (fun e => K170_0 m call (e 0) (e 1)) := by
  refine Eq.trans (b := (compF (pS1 c170_0) (C m) call (compF c170_1 (C m) call (Z170 m) nx (Z170 m)) nx (Z170 m))) (by kernel_rfl) ?_
  rw [K170_1_eq m call ]
  first | done | (show _ = _; kernel_rfl)
theorem F170_eq (m : Nat) (call : CallF) (t0 t1 : AV) : enterK (C m) call Tryz.f170 [t0, t1] = K170_0 m call t0 t1 := by
  refine Eq.trans (b := (compF c170_0 (C m) call (Z170 m) nx (Z170 m)) (argF [t0, t1])) (by kernel_rfl) ?_
  rw [K170_0_eq m call]
  first | done | rfl
/-! rillmeter/spread.Add -/
noncomputable def c115_0 : Code := (bodyOf Tryz.f115)
noncomputable def c115_1 : Code := (pS2 c115_0)
noncomputable def c115_2 : Code := (pS2 c115_1)
noncomputable def c115_3 : Code := (pS2 c115_2)
noncomputable def c115_4 : Code := (pS2 c115_3)
noncomputable def c115_5 : Code := (pS2 c115_4)
noncomputable def c115_6 : Code := (pS2 (pS1 c115_4))
noncomputable def c115_7 : Code := (pL (pB c115_6))
noncomputable def c115_8 : Code := (pS2 c115_7)
noncomputable def c115_9 : Code := (pS2 c115_8)
noncomputable def c115_10 : Code := (pS2 c115_9)
noncomputable def c115_11 : Code := (pS2 (pB (pS1 c115_9)))
noncomputable def c115_12 : Code := (pS2 c115_11)
noncomputable def c115_13 : Code := (pS2 c115_12)
noncomputable def c115_14 : Code := (pS2 c115_13)
noncomputable def c115_15 : Code := (pS2 c115_14)
noncomputable def Z115 (m : Nat) := fun (e : Nat → AV) => retV (C m) (resE e Tryz.f115.results.toList)
noncomputable def K115_5 (m : Nat) (call : CallF) (t3 t6 : AV) : Kt :=
 bnd (ldO (C m) 101 t3) fun v0 =>
 bnd (stO (C m) 101 t6 v0) fun _ =>
 retV (C m) [(some 101, t6)]
theorem K115_5_eq (m : Nat) (call : CallF) : compF c115_5 (C m) call (Z115 m) nx (Z115 m) = (fun e => K115_5 m call (e 3) (e 6)) := by
  refine Eq.trans (b := (compF (pS1 c115_5) (C m) call (Z115 m) nx (Z115 m))) (by kernel_rfl) ?_
  kernel_rfl
noncomputable def K115_10 (m : Nat) (call : CallF) (h7 : AV → AV → AV → AV → AV → AV → AV → Kt) (t1 t2 t3 t6 t7 t32 t33 : AV) : Kt :=
 bnd (binO (C m) .add 3 t33 (I 1)) fun v0 =>
 h7 t1 t2 t3 t6 t7 t32 v0
theorem K115_10_eq (m : Nat) (call : CallF) (h7 : AV → AV → AV → AV → AV → AV → AV → Kt) : compF c115_10 (C m) call (fun e => h7 (e 1) (e 2) (e 3) (e 6) (e 7) (e 32) (e 33)) (exitF 0 (fun e => K115_5 m call (e 3) (e 6)) nx) (Z115 m) = (fun e => K115_10 m call h7 (e 1) (e 2) (e 3) (e 6) (e 7) (e 32) (e 33)) := by
  kernel_rfl
noncomputable def K115_15 (m : Nat) (call : CallF) (h7 : AV → AV → AV → AV → AV → AV → AV → Kt) (t1 t2 t3 t6 t7 t8 t9 t10 t32 t33 : AV) : Kt :=
 dIn fun sv0 =>
 dVal (fadO (C m) 101 t3 1) fun v1 =>
 dChk (ldO (C m) 99 v1) fun v2 =>
 dVal (iadO (C m) 99 v2 t8) fun v3 =>
 dChk (ldO (C m) 183 v3) fun v4 =>
 dEff (calO (C m) call (fnV 176) [v4]) fun v5 sv5 =>
 dVal (fadO (C m) 101 t3 1) fun v6 =>
 dSam (some true) (ldO (C m) 99 v6) (fun v7 => (eqIn (ldO (C m) 99 v6) v7 sv5 && (eqIn (ldO (C m) 99 v6) v7 sv0 && true))) fun v8 =>
 dVal (iadO (C m) 99 v8 t8) fun v9 =>
 dEff (stO (C m) 183 v9 v5) fun v10 sv10 =>
 dIn fun sv11 =>
 dVal (fadO (C m) 101 t3 1) fun v12 =>
 dChk (ldO (C m) 99 v12) fun v13 =>
 dVal (iadO (C m) 99 v13 t8) fun v14 =>
 dChk (ldO (C m) 183 v14) fun v15 =>
 dChk (ldO (C m) 188 t10) fun v16 =>
 dVal (iadO (C m) 183 v15 t9) fun v17 =>
 dEff (stO (C m) 188 v17 v16) fun v18 sv18 =>
 K115_10 m call h7 t1 t2 t3 t6 t7 t32 t33
theorem K115_15_eq (m : Nat) (call : CallF) (h7 : AV → AV → AV → AV → AV → AV → AV → Kt) : compF c115_15 (C m) call (fun e => K115_10 m call h7 (e 1) (e 2) (e 3) (e 6) (e 7) (e 32) (e 33)) (exitF 1 (fun e => K115_10 m call h7 (e 1) (e 2) (e 3) (e 6) (e 7) (e 32) (e 33)) (exitF 0 (fun e => K115_5 m call (e 3) (e 6)) nx)) (Z115 m) = (fun e => K115_15 m call h7 (e 1) (e 2) (e 3) (e 6) (e 7) (e 8) (e 9) (e 10) (e 32) (e 33)) := by
  refine Eq.trans (b := (compF (pS1 c115_15) (C m) call (compF (pS2 c115_15) (C m) call (fun e => K115_10 m call h7 (e 1) (e 2) (e 3) (e 6) (e 7) (e 32) (e 33)) (exitF 1 (fun e => K115_10 m call h7 (e 1) (e 2) (e 3) (e 6) (e 7) (e 32) (e 33)) (exitF 0 (fun e => K115_5 m call (e 3) (e 6)) nx)) (Z115 m)) (exitF 1 (fun e => K115_10 m call h7 (e 1) (e 2) (e 3) (e 6) (e 7) (e 32) (e 33)) (exitF 0 (fun e => K115_5 m call (e 3) (e 6)) nx)) (Z115 m))) (by kernel_rfl) ?_
  kernel_rfl
noncomputable def K115_14 (m : Nat) (call : CallF) (h7 : AV → AV → AV → AV → AV → AV → AV → Kt) (t1 t2 t3 t6 t7 t8 t9 t10 t32 t33 : AV) : Kt :=
 bnd (fadO (C m) 188 t10 2) fun v0 =>
 bnd (ldO (C m) 3 v0) fun v1 =>
 bnd (binO (C m) .geq 3 t7 v1) fun v2 =>
 ifB v2
 ((bnd (fadO (C m) 188 t10 1) fun v3 =>
 bnd (stO (C m) 9 v3 t1) fun _ =>
 bnd (fadO (C m) 188 t10 2) fun v4 =>
 bnd (stO (C m) 3 v4 t7) fun _ =>
 K115_15 m call h7 t1 t2 t3 t6 t7 t8 t9 t10 t32 t33))
 ((K115_15 m call h7 t1 t2 t3 t6 t7 t8 t9 t10 t32 t33))
theorem K115_14_eq (m : Nat) (call : CallF) (h7 : AV → AV → AV → AV → AV → AV → AV → Kt) : compF c115_14 (C m) call (fun e => K115_10 m call h7 (e 1) (e 2) (e 3) (e 6) (e 7) (e 32) (e 33)) (exitF 1 (fun e => K115_10 m call h7 (e 1) (e 2) (e 3) (e 6) (e 7) (e 32) (e 33)) (exitF 0 (fun e => K115_5 m call (e 3) (e 6)) nx)) (Z115 m) = (fun e => K115_14 m call h7 (e 1) (e 2) (e 3) (e 6) (e 7) (e 8) (e 9) (e 10) (e 32) (e 33)) := by
  refine Eq.trans (b := (compF (pS1 (pS1 c115_14)) (C m) call (fun e => ifB (e 58) ((compF (pC1 (pS2 (pS1 c115_14))) (C m) call (compF c115_15 (C m) call (fun e => K115_10 m call h7 (e 1) (e 2) (e 3) (e 6) (e 7) (e 32) (e 33)) (exitF 1 (fun e => K115_10 m call h7 (e 1) (e 2) (e 3) (e 6) (e 7) (e 32) (e 33)) (exitF 0 (fun e => K115_5 m call (e 3) (e 6)) nx)) (Z115 m)) (exitF 1 (fun e => K115_10 m call h7 (e 1) (e 2) (e 3) (e 6) (e 7) (e 32) (e 33)) (exitF 0 (fun e => K115_5 m call (e 3) (e 6)) nx)) (Z115 m)) e) ((compF c115_15 (C m) call (fun e => K115_10 m call h7 (e 1) (e 2) (e 3) (e 6) (e 7) (e 32) (e 33)) (exitF 1 (fun e => K115_10 m call h7 (e 1) (e 2) (e 3) (e 6) (e 7) (e 32) (e 33)) (exitF 0 (fun e => K115_5 m call (e 3) (e 6)) nx)) (Z115 m)) e)) (exitF 1 (fun e => K115_10 m call h7 (e 1) (e 2) (e 3) (e 6) (e 7) (e 32) (e 33)) (exitF 0 (fun e => K115_5 m call (e 3) (e 6)) nx)) (Z115 m))) (by kernel_rfl) ?_
  rw [K115_15_eq m call h7 ]
  first | done | (show _ = _; kernel_rfl)
noncomputable def K115_13 (m : Nat) (call : CallF) (h7 : AV → AV → AV → AV → AV → AV → AV → Kt) (t1 t2 t3 t6 t7 t8 t9 t10 t32 t33 : AV) : Kt :=
 bnd (fadO (C m) 188 t10 0) fun v0 =>
 bnd (ldO (C m) 186 v0) fun v1 =>
 bnd (binO (C m) .add 9 t1 t2) fun v2 =>
 bnd (calO (C m) call (fnV 175) [v1, v2]) fun v3 =>
 bnd (fadO (C m) 188 t10 0) fun v4 =>
 bnd (stO (C m) 186 v4 v3) fun _ =>
 K115_14 m call h7 t1 t2 t3 t6 t7 t8 t9 t10 t32 t33
theorem K115_13_eq (m : Nat) (call : CallF) (h7 : AV → AV → AV → AV → AV → AV → AV → Kt) : compF c115_13 (C m) call (fun e => K115_10 m call h7 (e 1) (e 2) (e 3) (e 6) (e 7) (e 32) (e 33)) (exitF 1 (fun e => K115_10 m call h7 (e 1) (e 2) (e 3) (e 6) (e 7) (e 32) (e 33)) (exitF 0 (fun e => K115_5 m call (e 3) (e 6)) nx)) (Z115 m) = (fun e => K115_13 m call h7 (e 1) (e 2) (e 3) (e 6) (e 7) (e 8) (e 9) (e 10) (e 32) (e 33)) := by
  refine Eq.trans (b := (compF (pS1 c115_13) (C m) call (compF c115_14 (C m) call (fun e => K115_10 m call h7 (e 1) (e 2) (e 3) (e 6) (e 7) (e 32) (e 33)) (exitF 1 (fun e => K115_10 m call h7 (e 1) (e 2) (e 3) (e 6) (e 7) (e 32) (e 33)) (exitF 0 (fun e => K115_5 m call (e 3) (e 6)) nx)) (Z115 m)) (exitF 1 (fun e => K115_10 m call h7 (e 1) (e 2) (e 3) (e 6) (e 7) (e 32) (e 33)) (exitF 0 (fun e => K115_5 m call (e 3) (e 6)) nx)) (Z115 m))) (by kernel_rfl) ?_
  rw [K115_14_eq m call h7 ]
  first | done | (show _ = _; kernel_rfl)
noncomputable def K115_12 (m : Nat) (call : CallF) (h7 : AV → AV → AV → AV → AV → AV → AV → Kt) (t1 t2 t3 t6 t7 t8 t9 t32 t33 : AV) : Kt :=
 bnd (fadO (C m) 101 t3 1) fun v0 =>
 bnd (ldO (C m) 99 v0) fun v1 =>
 bnd (iadO (C m) 99 v1 t8) fun v2 =>
 bnd (ldO (C m) 183 v2) fun v3 =>
 bnd (iadO (C m) 183 v3 t9) fun v4 =>
 bnd (ldO (C m) 188 v4) fun v5 =>
 bnd (newO (C m) 188) fun v6 =>
 bnd (stO (C m) 188 v6 v5) fun _ =>
 K115_13 m call h7 t1 t2 t3 t6 t7 t8 t9 v6 t32 t33
theorem K115_12_eq (m : Nat) (call : CallF) (h7 : AV → AV → AV → AV → AV → AV → AV → Kt) : compF c115_12 (C m) call (fun e => K115_10 m call h7 (e 1) (e 2) (e 3) (e 6) (e 7) (e 32) (e 33)) (exitF 1 (fun e => K115_10 m call h7 (e 1) (e 2) (e 3) (e 6) (e 7) (e 32) (e 33)) (exitF 0 (fun e => K115_5 m call (e 3) (e 6)) nx)) (Z115 m) = (fun e => K115_12 m call h7 (e 1) (e 2) (e 3) (e 6) (e 7) (e 8) (e 9) (e 32) (e 33)) := by
  refine Eq.trans (b := (compF (pS1 c115_12) (C m) call (compF c115_13 (C m) call (fun e => K115_10 m call h7 (e 1) (e 2) (e 3) (e 6) (e 7) (e 32) (e 33)) (exitF 1 (fun e => K115_10 m call h7 (e 1) (e 2) (e 3) (e 6) (e 7) (e 32) (e 33)) (exitF 0 (fun e => K115_5 m call (e 3) (e 6)) nx)) (Z115 m)) (exitF 1 (fun e => K115_10 m call h7 (e 1) (e 2) (e 3) (e 6) (e 7) (e 32) (e 33)) (exitF 0 (fun e => K115_5 m call (e 3) (e 6)) nx)) (Z115 m))) (by kernel_rfl) ?_
  rw [K115_13_eq m call h7 ]
  first | done | (show _ = _; kernel_rfl)
noncomputable def K115_11 (m : Nat) (call : CallF) (h7 : AV → AV → AV → AV → AV → AV → AV → Kt) (t1 t2 t3 t6 t7 t8 t32 t33 : AV) : Kt :=
 bnd (ldO (C m) 101 t3) fun v0 =>
 bnd (calO (C m) call (fnV 174) [v0, t1, t8]) fun v1 =>
 K115_12 m call h7 t1 t2 t3 t6 t7 t8 v1 t32 t33
theorem K115_11_eq (m : Nat) (call : CallF) (h7 : AV → AV → AV → AV → AV → AV → AV → Kt) : compF c115_11 (C m) call (fun e => K115_10 m call h7 (e 1) (e 2) (e 3) (e 6) (e 7) (e 32) (e 33)) (exitF 1 (fun e => K115_10 m call h7 (e 1) (e 2) (e 3) (e 6) (e 7) (e 32) (e 33)) (exitF 0 (fun e => K115_5 m call (e 3) (e 6)) nx)) (Z115 m) = (fun e => K115_11 m call h7 (e 1) (e 2) (e 3) (e 6) (e 7) (e 8) (e 32) (e 33)) := by
  refine Eq.trans (b := (compF (pS1 c115_11) (C m) call (compF c115_12 (C m) call (fun e => K115_10 m call h7 (e 1) (e 2) (e 3) (e 6) (e 7) (e 32) (e 33)) (exitF 1 (fun e => K115_10 m call h7 (e 1) (e 2) (e 3) (e 6) (e 7) (e 32) (e 33)) (exitF 0 (fun e => K115_5 m call (e 3) (e 6)) nx)) (Z115 m)) (exitF 1 (fun e => K115_10 m call h7 (e 1) (e 2) (e 3) (e 6) (e 7) (e 32) (e 33)) (exitF 0 (fun e => K115_5 m call (e 3) (e 6)) nx)) (Z115 m))) (by kernel_rfl) ?_
  rw [K115_12_eq m call h7 ]
  first | done | (show _ = _; kernel_rfl)
noncomputable def K115_9 (m : Nat) (call : CallF) (h7 : AV → AV → AV → AV → AV → AV → AV → Kt) (t1 t2 t3 t6 t7 t32 t33 : AV) : Kt :=
 K115_11 m call h7 t1 t2 t3 t6 t7 t33 t32 t33
theorem K115_9_eq (m : Nat) (call : CallF) (h7 : AV → AV → AV → AV → AV → AV → AV → Kt) : compF c115_9 (C m) call (fun e => h7 (e 1) (e 2) (e 3) (e 6) (e 7) (e 32) (e 33)) (exitF 0 (fun e => K115_5 m call (e 3) (e 6)) nx) (Z115 m) = (fun e => K115_9 m call h7 (e 1) (e 2) (e 3) (e 6) (e 7) (e 32) (e 33)) := by
  refine Eq.trans (b := (compF (pS1 (pB (pS1 c115_9))) (C m) call (compF c115_11 (C m) call (compF c115_10 (C m) call (fun e => h7 (e 1) (e 2) (e 3) (e 6) (e 7) (e 32) (e 33)) (exitF 0 (fun e => K115_5 m call (e 3) (e 6)) nx) (Z115 m)) (exitF 1 (compF c115_10 (C m) call (fun e => h7 (e 1) (e 2) (e 3) (e 6) (e 7) (e 32) (e 33)) (exitF 0 (fun e => K115_5 m call (e 3) (e 6)) nx) (Z115 m)) (exitF 0 (fun e => K115_5 m call (e 3) (e 6)) nx)) (Z115 m)) (exitF 1 (compF c115_10 (C m) call (fun e => h7 (e 1) (e 2) (e 3) (e 6) (e 7) (e 32) (e 33)) (exitF 0 (fun e => K115_5 m call (e 3) (e 6)) nx) (Z115 m)) (exitF 0 (fun e => K115_5 m call (e 3) (e 6)) nx)) (Z115 m))) (by kernel_rfl) ?_
  rw [K115_10_eq m call h7 , K115_11_eq m call h7 ]
  first | done | (show _ = _; kernel_rfl)
noncomputable def K115_8 (m : Nat) (call : CallF) (h7 : AV → AV → AV → AV → AV → AV → AV → Kt) (t1 t2 t3 t6 t7 t32 t33 t34 : AV) : Kt :=
 ifB t34
 ((K115_9 m call h7 t1 t2 t3 t6 t7 t32 t33))
 ((K115_5 m call t3 t6))
theorem K115_8_eq (m : Nat) (call : CallF) (h7 : AV → AV → AV → AV → AV → AV → AV → Kt) : compF c115_8 (C m) call (fun e => h7 (e 1) (e 2) (e 3) (e 6) (e 7) (e 32) (e 33)) (exitF 0 (fun e => K115_5 m call (e 3) (e 6)) nx) (Z115 m) = (fun e => K115_8 m call h7 (e 1) (e 2) (e 3) (e 6) (e 7) (e 32) (e 33) (e 34)) := by
  refine Eq.trans (b := (fun e => ifB (e 34) ((compF c115_9 (C m) call (fun e => h7 (e 1) (e 2) (e 3) (e 6) (e 7) (e 32) (e 33)) (exitF 0 (fun e => K115_5 m call (e 3) (e 6)) nx) (Z115 m)) e) ((fun e => K115_5 m call (e 3) (e 6)) e))) (by kernel_rfl) ?_
  rw [K115_9_eq m call h7 ]
  first | done | (show _ = _; kernel_rfl)
noncomputable def L115_7_b (m : Nat) (call : CallF) (h7 : AV → AV → AV → AV → AV → AV → AV → Kt) (t1 t2 t3 t6 t7 t32 t33 : AV) : Kt :=
 bnd (binO (C m) .lss 3 t33 t32) fun v0 =>
 K115_8 m call h7 t1 t2 t3 t6 t7 t32 t33 v0
noncomputable def L115_7 (m : Nat) (call : CallF) (n : Nat) : AV → AV → AV → AV → AV → AV → AV → Kt :=
 Nat.rec (motive := fun _ => AV → AV → AV → AV → AV → AV → AV → Kt) (fun t1 t2 t3 t6 t7 t32 t33 => noK) (fun _ ih => L115_7_b m call ih) n
theorem L115_7_b_eq (m : Nat) (call : CallF) (h7 : AV → AV → AV → AV → AV → AV → AV → Kt) : compF c115_7 (C m) call (fun e => h7 (e 1) (e 2) (e 3) (e 6) (e 7) (e 32) (e 33)) (exitF 0 (fun e => K115_5 m call (e 3) (e 6)) nx) (Z115 m) = fun e => L115_7_b m call h7 (e 1) (e 2) (e 3) (e 6) (e 7) (e 32) (e 33) := by
  refine Eq.trans (b := (compF (pS1 c115_7) (C m) call (compF c115_8 (C m) call (fun e => h7 (e 1) (e 2) (e 3) (e 6) (e 7) (e 32) (e 33)) (exitF 0 (fun e => K115_5 m call (e 3) (e 6)) nx) (Z115 m)) (exitF 0 (fun e => K115_5 m call (e 3) (e 6)) nx) (Z115 m))) (by kernel_rfl) ?_
  rw [K115_8_eq m call h7 ]
  first | done | (show _ = _; kernel_rfl)
theorem L115_7_eq (m : Nat) (call : CallF) (n : Nat) : (loopF (fun k => compF c115_7 (C m) call k (exitF 0 (fun e => K115_5 m call (e 3) (e 6)) nx) (Z115 m)) n) = (fun e => L115_7 m call n (e 1) (e 2) (e 3) (e 6) (e 7) (e 32) (e 33)) := by
  induction n with
  | zero => rfl
  | succ n ih =>
    show compF c115_7 (C m) call (loopF (fun k => compF c115_7 (C m) call k (exitF 0 (fun e => K115_5 m call (e 3) (e 6)) nx) (Z115 m)) n) (exitF 0 (fun e => K115_5 m call (e 3) (e 6)) nx) (Z115 m) = _
    rw [ih, L115_7_b_eq m call (L115_7 m call n)]
    rfl
theorem L115_7_succ (m : Nat) (call : CallF) (n : Nat) : L115_7 m call (n + 1) = L115_7_b m call (L115_7 m call n) := rfl
noncomputable def K115_6 (m : Nat) (call : CallF) (t1 t2 t3 t6 t7 t32 t33 : AV) : Kt :=
 L115_7 m call m t1 t2 t3 t6 t7 t32 t33
theorem K115_6_eq (m : Nat) (call : CallF) : compF c115_6 (C m) call (fun e => K115_5 m call (e 3) (e 6)) nx (Z115 m) = (fun e => K115_6 m call (e 1) (e 2) (e 3) (e 6) (e 7) (e 32) (e 33)) := by
  refine Eq.trans (b := (loopF (fun k => compF c115_7 (C m) call k (exitF 0 (fun e => K115_5 m call (e 3) (e 6)) nx) (Z115 m)) m)) (by kernel_rfl) ?_
  rw [L115_7_eq m call m]
  first | done | (show _ = _; kernel_rfl)
noncomputable def K115_4 (m : Nat) (call : CallF) (t1 t2 t3 t6 t7 : AV) : Kt :=
 bnd (fadO (C m) 101 t3 1) fun v0 =>
 bnd (ldO (C m) 99 v0) fun v1 =>
 bnd (bltO (C m) .len [99] [v1]) fun v2 =>
 K115_6 m call t1 t2 t3 t6 t7 v2 (I 0)
theorem K115_4_eq (m : Nat) (call : CallF) : compF c115_4 (C m) call (Z115 m) nx (Z115 m) = (fun e => K115_4 m call (e 1) (e 2) (e 3) (e 6) (e 7)) := by
  refine Eq.trans (b := (compF (pS1 (pS1 c115_4)) (C m) call (compF c115_6 (C m) call (compF c115_5 (C m) call (Z115 m) nx (Z115 m)) nx (Z115 m)) nx (Z115 m))) (by kernel_rfl) ?_
  rw [K115_5_eq m call , K115_6_eq m call ]
  first | done | (show _ = _; kernel_rfl)
noncomputable def K115_3 (m : Nat) (call : CallF) (t1 t2 t3 t6 t7 : AV) : Kt :=
 bnd (fadO (C m) 101 t3 1) fun v0 =>
 bnd (ldO (C m) 99 v0) fun v1 =>
 bnd (calO (C m) call (fnV 173) [v1]) fun v2 =>
 bnd (fadO (C m) 101 t3 1) fun v3 =>
 bnd (stO (C m) 99 v3 v2) fun _ =>
 K115_4 m call t1 t2 t3 t6 t7
theorem K115_3_eq (m : Nat) (call : CallF) : compF c115_3 (C m) call (Z115 m) nx (Z115 m) = (fun e => K115_3 m call (e 1) (e 2) (e 3) (e 6) (e 7)) := by
  refine Eq.trans (b := (compF (pS1 c115_3) (C m) call (compF c115_4 (C m) call (Z115 m) nx (Z115 m)) nx (Z115 m))) (by kernel_rfl) ?_
  rw [K115_4_eq m call ]
  first | done | (show _ = _; kernel_rfl)
noncomputable def K115_2 (m : Nat) (call : CallF) (t1 t2 t3 t6 : AV) : Kt :=
 bnd (fadO (C m) 101 t3 0) fun v0 =>
 bnd (ldO (C m) 27 v0) fun v1 =>
 bnd (calO (C m) call (fnV 60) [v1, (I 20)]) fun v2 =>
 bnd (binO (C m) .add 9 t1 t2) fun v3 =>
 bnd (calO (C m) call (fnV 172) [v2, v3, (I 16)]) fun v4 =>
 K115_3 m call t1 t2 t3 t6 v4
theorem K115_2_eq (m : Nat) (call : CallF) : compF c115_2 (C m) call (Z115 m) nx (Z115 m) = (fun e => K115_2 m call (e 1) (e 2) (e 3) (e 6)) := by
  refine Eq.trans (b := (compF (pS1 c115_2) (C m) call (compF c115_3 (C m) call (Z115 m) nx (Z115 m)) nx (Z115 m))) (by kernel_rfl) ?_
  rw [K115_3_eq m call ]
  first | done | (show _ = _; kernel_rfl)
noncomputable def K115_1 (m : Nat) (call : CallF) (t1 t2 t3 t6 : AV) : Kt :=
 bnd (ldO (C m) 101 t3) fun v0 =>
 bnd (calO (C m) call (fnV 136) [v0]) fun v1 =>
 bnd (unO .not v1) fun v2 =>
 bnd (gdO (wantV v2 false) (fun _ => .val t1)) fun v3 =>
 bnd (gdO (wantV v2 false) (binO (C m) .eql 9 v3 (S []))) fun v4 =>
 bnd (pickO v2 (B true) v4) fun v5 =>
 ifB v5
 ((bnd (ldO (C m) 101 t3) fun v6 =>
 bnd (stO (C m) 101 t6 v6) fun _ =>
 retV (C m) [(some 101, t6)]))
 ((K115_2 m call t1 t2 t3 t6))
theorem K115_1_eq (m : Nat) (call : CallF) : compF c115_1 (C m) call (Z115 m) nx (Z115 m) = (fun e => K115_1 m call (e 1) (e 2) (e 3) (e 6)) := by
  refine Eq.trans (b := (compF (pS1 (pS1 c115_1)) (C m) call (fun e => ifB (e 17) ((compF (pS1 (pC1 (pS2 (pS1 c115_1)))) (C m) call (Z115 m) nx (Z115 m)) e) ((compF c115_2 (C m) call (Z115 m) nx (Z115 m)) e)) nx (Z115 m))) (by kernel_rfl) ?_
  rw [K115_2_eq m call ]
  first | done | (show _ = _; kernel_rfl)
noncomputable def K115_0 (m : Nat) (call : CallF) (t0 t1 t2 : AV) : Kt :=
 bnd (boxO 101 t0) fun v0 =>
 bnd (newO (C m) 101) fun v1 =>
 K115_1 m call t1 t2 v0 v1
theorem K115_0_eq (m : Nat) (call : CallF) : compF c115_0 (C m) call (Z115 m) nx (Z115 m) = (fun e => K115_0 m call (e 0) (e 1) (e 2)) := by
  refine Eq.trans (b := (compF (pS1 c115_0) (C m) call (compF c115_1 (C m) call (Z115 m) nx (Z115 m)) nx (Z115 m))) (by kernel_rfl) ?_
  rw [K115_1_eq m call ]
  first | done | (show _ = _; kernel_rfl)
theorem F115_eq (m : Nat) (call : CallF) (t0 t1 t2 : AV) : enterK (C m) call Tryz.f115 [t0, t1, t2] = K115_0 m call t0 t1 t2 := by
  refine Eq.trans (b := (compF c115_0 (C m) call (Z115 m) nx (Z115 m)) (argF [t0, t1, t2])) (by kernel_rfl) ?_
  rw [K115_0_eq m call]
  first | done | rfl
/-! rillmeter/spread.place -/
noncomputable def c174_0 : Code := (bodyOf Tryz.f174)
noncomputable def Z174 (m : Nat) := fun (e : Nat → AV) => retV (C m) (resE e Tryz.f174.results.toList)
noncomputable def K174_0 (m : Nat) (call : CallF) (t0 t1 t2 : AV) : Kt :=
 bnd (boxO 101 t0) fun v0 =>
 dIn fun sv1 =>
 dVal (fadO (C m) 101 v0 0) fun v2 =>
 dChk (ldO (C m) 27 v2) fun v3 =>
 dVal (binO (C m) .add 3 t2 (I 1)) fun v4 =>
 dEff (calO (C m) call (fnV 60) [v3, v4]) fun v5 sv5 =>
 dVal (fadO (C m) 101 v0 1) fun v6 =>
 dSam (some true) (ldO (C m) 99 v6) (fun v7 => (eqIn (ldO (C m) 99 v6) v7 sv5 && (eqIn (ldO (C m) 99 v6) v7 sv1 && true))) fun v8 =>
 dVal (iadO (C m) 99 v8 t2) fun v9 =>
 dSam (some true) (ldO (C m) 183 v9) (fun v10 => (eqIn (ldO (C m) 183 v9) v10 sv5 && (eqIn (ldO (C m) 183 v9) v10 sv1 && true))) fun v11 =>
 dSam (some true) (bltO (C m) .len [183] [v11]) (fun v12 => (eqIn (bltO (C m) .len [183] [v11]) v12 sv5 && (eqIn (bltO (C m) .len [183] [v11]) v12 sv1 && true))) fun v13 =>
 dEff (calO (C m) call (fnV 214) [v5, t1, v13]) fun v14 sv14 =>
 retV (C m) [(none, v14)]
theorem K174_0_eq (m : Nat) (call : CallF) : compF c174_0 (C m) call (Z174 m) nx (Z174 m) = (fun e => K174_0 m call (e 0) (e 1) (e 2)) := by
  refine Eq.trans (b := (compF (pS1 c174_0) (C m) call (compF (pS1 (pS2 c174_0)) (C m) call (Z174 m) nx (Z174 m)) nx (Z174 m))) (by kernel_rfl) ?_
  kernel_rfl
theorem F174_eq (m : Nat) (call : CallF) (t0 t1 t2 : AV) : enterK (C m) call Tryz.f174 [t0, t1, t2] = K174_0 m call t0 t1 t2 := by
  refine Eq.trans (b := (compF c174_0 (C m) call (Z174 m) nx (Z174 m)) (argF [t0, t1, t2])) (by kernel_rfl) ?_
  rw [K174_0_eq m call]
  first | done | rfl
/-! rillmeter/bitmap.Add -/
noncomputable def c175_0 : Code := (bodyOf Tryz.f175)
noncomputable def c175_1 : Code := (pS2 c175_0)
noncomputable def c175_2 : Code := (pS2 c175_1)
noncomputable def c175_3 : Code := (pS2 c175_2)
noncomputable def Z175 (m : Nat) := fun (e : Nat → AV) => retV (C m) (resE e Tryz.f175.results.toList)
noncomputable def K175_3 (m : Nat) (call : CallF) (t2 t4 t5 t6 : AV) : Kt :=
 bnd (fadO (C m) 186 t2 1) fun v0 =>
 bnd (ldO (C m) 184 v0) fun v1 =>
 bnd (calO (C m) call (fnV 234) [v1]) fun v2 =>
 bnd (fadO (C m) 186 t2 1) fun v3 =>
 bnd (stO (C m) 184 v3 v2) fun _ =>
 dIn fun sv4 =>
 dVal (fadO (C m) 186 t2 1) fun v5 =>
 dChk (ldO (C m) 184 v5) fun v6 =>
 dVal (iadO (C m) 184 v6 t5) fun v7 =>
 dChk (ldO (C m) 63 v7) fun v8 =>
 dEff (calO (C m) call (fnV 220) [v8]) fun v9 sv9 =>
 dVal (fadO (C m) 186 t2 1) fun v10 =>
 dSam (some true) (ldO (C m) 184 v10) (fun v11 => (eqIn (ldO (C m) 184 v10) v11 sv9 && (eqIn (ldO (C m) 184 v10) v11 sv4 && true))) fun v12 =>
 dVal (iadO (C m) 184 v12 t5) fun v13 =>
 dEff (stO (C m) 63 v13 v9) fun v14 sv14 =>
 bnd (fadO (C m) 186 t2 1) fun v15 =>
 bnd (ldO (C m) 184 v15) fun v16 =>
 bnd (iadO (C m) 184 v16 t5) fun v17 =>
 bnd (ldO (C m) 63 v17) fun v18 =>
 bnd (iadO (C m) 63 v18 t6) fun v19 =>
 bnd (stO (C m) 4 v19 (B true)) fun _ =>
 bnd (ldO (C m) 186 t2) fun v20 =>
 bnd (stO (C m) 186 t4 v20) fun _ =>
 retV (C m) [(some 186, t4)]
theorem K175_3_eq (m : Nat) (call : CallF) : compF c175_3 (C m) call (Z175 m) nx (Z175 m) = (fun e => K175_3 m call (e 2) (e 4) (e 5) (e 6)) := by
  refine Eq.trans (b := (compF (pS1 c175_3) (C m) call (compF (pS1 (pS2 c175_3)) (C m) call (compF (pS1 (pS2 (pS2 c175_3))) (C m) call (compF (pS1 (pS2 (pS2 (pS2 c175_3)))) (C m) call (Z175 m) nx (Z175 m)) nx (Z175 m)) nx (Z175 m)) nx (Z175 m))) (by kernel_rfl) ?_
  kernel_rfl
noncomputable def K175_2 (m : Nat) (call : CallF) (t1 t2 t4 : AV) : Kt :=
 bnd (ldO (C m) 186 t2) fun v0 =>
 bnd (calO (C m) call (fnV 233) [v0, t1]) fun v1 =>
 bnd (extO v1 0) fun v2 =>
 bnd (extO v1 1) fun v3 =>
 K175_3 m call t2 t4 v2 v3
theorem K175_2_eq (m : Nat) (call : CallF) : compF c175_2 (C m) call (Z175 m) nx (Z175 m) = (fun e => K175_2 m call (e 1) (e 2) (e 4)) := by
  refine Eq.trans (b := (compF (pS1 c175_2) (C m) call (compF c175_3 (C m) call (Z175 m) nx (Z175 m)) nx (Z175 m))) (by kernel_rfl) ?_
  rw [K175_3_eq m call ]
  first | done | (show _ = _; kernel_rfl)
noncomputable def K175_1 (m : Nat) (call : CallF) (t1 t2 t4 : AV) : Kt :=
 bnd (ldO (C m) 186 t2) fun v0 =>
 bnd (calO (C m) call (fnV 202) [v0]) fun v1 =>
 bnd (unO .not v1) fun v2 =>
 ifB v2
 ((bnd (ldO (C m) 186 t2) fun v3 =>
 bnd (stO (C m) 186 t4 v3) fun _ =>
 retV (C m) [(some 186, t4)]))
 ((K175_2 m call t1 t2 t4))
theorem K175_1_eq (m : Nat) (call : CallF) : compF c175_1 (C m) call (Z175 m) nx (Z175 m) = (fun e => K175_1 m call (e 1) (e 2) (e 4)) := by
  refine Eq.trans (b := (compF (pS1 (pS1 c175_1)) (C m) call (fun e => ifB (e 9) ((compF (pS1 (pC1 (pS2 (pS1 c175_1)))) (C m) call (Z175 m) nx (Z175 m)) e) ((compF c175_2 (C m) call (Z175 m) nx (Z175 m)) e)) nx (Z175 m))) (by kernel_rfl) ?_
  rw [K175_2_eq m call ]
  first | done | (show _ = _; kernel_rfl)
noncomputable def K175_0 (m : Nat) (call : CallF) (t0 t1 : AV) : Kt :=
 bnd (boxO 186 t0) fun v0 =>
 bnd (newO (C m) 186) fun v1 =>
 K175_1 m call t1 v0 v1
theorem K175_0_eq (m : Nat) (call : CallF) : compF c175_0 (C m) call (Z175 m) nx (Z175 m) = (fun e => K175_0 m call (e 0) (e 1)) := by
  refine Eq.trans (b := (compF (pS1 c175_0) (C m) call (compF c175_1 (C m) call (Z175 m) nx (Z175 m)) nx (Z175 m))) (by kernel_rfl) ?_
  rw [K175_1_eq m call ]
  first | done | (show _ = _; kernel_rfl)
theorem F175_eq (m : Nat) (call : CallF) (t0 t1 : AV) : enterK (C m) call Tryz.f175 [t0, t1] = K175_0 m call t0 t1 := by
  refine Eq.trans (b := (compF c175_0 (C m) call (Z175 m) nx (Z175 m)) (argF [t0, t1])) (by kernel_rfl) ?_
  rw [K175_0_eq m call]
  first | done | rfl
/-! rillmeter/bitmap.Place -/
noncomputable def c233_0 : Code := (bodyOf Tryz.f233)
noncomputable def Z233 (m : Nat) := fun (e : Nat → AV) => retV (C m) (resE e Tryz.f233.results.toList)
noncomputable def K233_0 (m : Nat) (call : CallF) (t0 t1 : AV) : Kt :=
 bnd (boxO 186 t0) fun v0 =>
 bnd (ldO (C m) 186 v0) fun v1 =>
 bnd (calO (C m) call (fnV 202) [v1]) fun v2 =>
 bnd (unO .not v2) fun v3 =>
 ifB v3
 ((retV (C m) [(none, (I 0)), (none, (I 0))]))
 ((dIn fun sv4 =>
 dVal (fadO (C m) 186 v0 0) fun v5 =>
 dChk (ldO (C m) 27 v5) fun v6 =>
 dEff (calO (C m) call (fnV 60) [v6, (I 0)]) fun v7 sv7 =>
 dVal (fadO (C m) 186 v0 1) fun v8 =>
 dSam (some true) (ldO (C m) 184 v8) (fun v9 => (eqIn (ldO (C m) 184 v8) v9 sv7 && (eqIn (ldO (C m) 184 v8) v9 sv4 && true))) fun v10 =>
 dSam (some true) (bltO (C m) .len [184] [v10]) (fun v11 => (eqIn (bltO (C m) .len [184] [v10]) v11 sv7 && (eqIn (bltO (C m) .len [184] [v10]) v11 sv4 && true))) fun v12 =>
 dVal (binO (C m) .sub 3 v12 (I 1)) fun v13 =>
 dEff (calO (C m) call (fnV 172) [v7, t1, v13]) fun v14 sv14 =>
 dIn fun sv15 =>
 dVal (fadO (C m) 186 v0 0) fun v16 =>
 dChk (ldO (C m) 27 v16) fun v17 =>
 dEff (calO (C m) call (fnV 60) [v17, (I 1)]) fun v18 sv18 =>
 dVal (fadO (C m) 186 v0 1) fun v19 =>
 dSam (some true) (ldO (C m) 184 v19) (fun v20 => (eqIn (ldO (C m) 184 v19) v20 sv18 && (eqIn (ldO (C m) 184 v19) v20 sv15 && true))) fun v21 =>
 dVal (iadO (C m) 184 v21 v14) fun v22 =>
 dSam (some true) (ldO (C m) 63 v22) (fun v23 => (eqIn (ldO (C m) 63 v22) v23 sv18 && (eqIn (ldO (C m) 63 v22) v23 sv15 && true))) fun v24 =>
 dSam (some true) (bltO (C m) .len [63] [v24]) (fun v25 => (eqIn (bltO (C m) .len [63] [v24]) v25 sv18 && (eqIn (bltO (C m) .len [63] [v24]) v25 sv15 && true))) fun v26 =>
 dEff (calO (C m) call (fnV 214) [v18, t1, v26]) fun v27 sv27 =>
 retV (C m) [(none, v14), (none, v27)]))
theorem K233_0_eq (m : Nat) (call : CallF) : compF c233_0 (C m) call (Z233 m) nx (Z233 m) = (fun e => K233_0 m call (e 0) (e 1)) := by
  refine Eq.trans (b := (compF (pS1 c233_0) (C m) call (compF (pS1 (pS1 (pS2 c233_0))) (C m) call (fun e => ifB (e 9) ((compF (pS1 (pC1 (pS2 (pS1 (pS2 c233_0))))) (C m) call (Z233 m) nx (Z233 m)) e) ((compF (pS1 (pS2 (pS2 c233_0))) (C m) call (compF (pS1 (pS2 (pS2 (pS2 c233_0)))) (C m) call (Z233 m) nx (Z233 m)) nx (Z233 m)) e)) nx (Z233 m)) nx (Z233 m))) (by kernel_rfl) ?_
  kernel_rfl
theorem F233_eq (m : Nat) (call : CallF) (t0 t1 : AV) : enterK (C m) call Tryz.f233 [t0, t1] = K233_0 m call t0 t1 := by
  refine Eq.trans (b := (compF c233_0 (C m) call (Z233 m) nx (Z233 m)) (argF [t0, t1])) (by kernel_rfl) ?_
  rw [K233_0_eq m call]
  first | done | rfl
end Go.Proofs.YtnoieleoklpciaaGreatDoor
