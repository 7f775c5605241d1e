/- Functions of the program as plain functions over the interpreter's words, and the theorems that they are what the interpreter makes of the code. -/
import Derived.Test.YtggjhmhjjghncaaGreatCx
namespace Go.Proofs.YtggjhmhjjghncaaGreat
open Go.Run
set_option maxRecDepth 100000
open Go
/-! rillmeter/collect.Announce -/
noncomputable def c5_0 : Code := (bodyOf Tryz.f5)
noncomputable def K5_0 (m : Nat) (call : CallF) (t0 t1 : AV) : Kt :=
 bnd (calO (C m) call (fnV 9) []) fun v0 =>
 bnd (bslO (C m) 81 1 [(0, v0)]) fun v1 =>
 bnd (bldO (C m) 83 [(0, (I 2)), (1, v1)]) fun v2 =>
 bnd (bslO (C m) 84 1 [(0, v2)]) fun v3 =>
 bnd (bldO (C m) 86 [(0, t1), (2, t0), (3, v3)]) fun v4 =>
 bnd (calO (C m) call (fnV 19) [v4]) fun v5 =>
 bnd (extO v5 0) fun v6 =>
 bnd (extO v5 1) fun v7 =>
 retV (C m) [(none, v6), (none, v7)]
theorem K5_0_eq (m : Nat) (call : CallF) : compF c5_0 (C m) call (fun e => retV (C m) (resE e Tryz.f5.results.toList)) (fun _ _ => noK) (fun e => retV (C m) (resE e Tryz.f5.results.toList)) = (fun e => K5_0 m call (e 0) (e 1)) := by
  have u : compF c5_0 (C m) call (fun e => retV (C m) (resE e Tryz.f5.results.toList)) (fun _ _ => noK) (fun e => retV (C m) (resE e Tryz.f5.results.toList)) = (compF (pS1 c5_0) (C m) call (compF (pS1 (pS2 c5_0)) (C m) call (fun e => retV (C m) (resE e Tryz.f5.results.toList)) (fun _ _ => noK) (fun e => retV (C m) (resE e Tryz.f5.results.toList))) (fun _ _ => noK) (fun e => retV (C m) (resE e Tryz.f5.results.toList))) := by kernel_rfl
  rw [u]
  show _ = _
  kernel_rfl
theorem F5_eq (m : Nat) (call : CallF) (t0 t1 : AV) : enterK (C m) call Tryz.f5 [t0, t1] = K5_0 m call t0 t1 := by
  have u : enterK (C m) call Tryz.f5 [t0, t1] = (compF c5_0 (C m) call (fun e => retV (C m) (resE e Tryz.f5.results.toList)) (fun _ _ => noK) (fun e => retV (C m) (resE e Tryz.f5.results.toList))) (argF [t0, t1]) := by kernel_rfl
  rw [u, K5_0_eq m call]
  rfl
/-! rillmeter/collect.Message -/
noncomputable def c6_0 : Code := (bodyOf Tryz.f6)
noncomputable def K6_0 (m : Nat) (call : CallF) (t0 t1 : AV) : Kt :=
 bnd (boxO 23 t0) fun v0 =>
 bnd (fadO (C m) 23 v0 1) fun v1 =>
 bnd (ldO (C m) 3 v1) fun v2 =>
 bnd (calO (C m) call (fnV 20) [v2, (I 4)]) fun v3 =>
 bnd (extO v3 0) fun v4 =>
 bnd (extO v3 1) fun v5 =>
 bnd (fadO (C m) 23 v0 2) fun v6 =>
 bnd (ldO (C m) 3 v6) fun v7 =>
 bnd (calO (C m) call (fnV 20) [v7, (I 2)]) fun v8 =>
 bnd (extO v8 0) fun v9 =>
 bnd (extO v8 1) fun v10 =>
 bnd (fadO (C m) 23 v0 3) fun v11 =>
 bnd (ldO (C m) 3 v11) fun v12 =>
 bnd (calO (C m) call (fnV 20) [v12, (I 2)]) fun v13 =>
 bnd (extO v13 0) fun v14 =>
 bnd (extO v13 1) fun v15 =>
 atN 13 fun v16 =>
 dIn fun sv16 =>
 dEff (calO (C m) call (fnV 9) []) fun v17 sv17 =>
 dVal (fadO (C m) 23 v0 4) fun v18 =>
 dSam (some true) (ldO (C m) 9 v18) (fun v19 => (eqIn (ldO (C m) 9 v18) v19 sv17 && (eqIn (ldO (C m) 9 v18) v19 sv16 && true))) fun v20 =>
 dNew (bslO (C m) 88 4 [(0, v4), (1, v9), (2, v14), (3, v20)]) (Nat.add v16 6) fun v21 =>
 dEff (calO (C m) call (fnV 21) [v17, v21]) fun v22 sv22 =>
 dVal (extO v22 0) fun v23 =>
 dVal (extO v22 1) fun v24 =>
 bnd (bltO (C m) .max [25, 25, 25, 25] [v5, v10, v15, v24]) fun v25 =>
 bnd (binO (C m) .neq 25 v25 (I 0)) fun v26 =>
 ifB v26
 ((retV (C m) [(none, (S [])), (none, (I 1))]))
 ((bnd (fadO (C m) 23 v0 0) fun v27 =>
 bnd (ldO (C m) 3 v27) fun v28 =>
 bnd (bldO (C m) 83 [(0, (I 300)), (2, v23)]) fun v29 =>
 bnd (bslO (C m) 84 1 [(0, v29)]) fun v30 =>
 bnd (bldO (C m) 86 [(0, t1), (2, v28), (3, v30)]) fun v31 =>
 bnd (calO (C m) call (fnV 19) [v31]) fun v32 =>
 bnd (extO v32 0) fun v33 =>
 bnd (extO v32 1) fun v34 =>
 retV (C m) [(none, v33), (none, v34)]))
theorem K6_0_eq (m : Nat) (call : CallF) : compF c6_0 (C m) call (fun e => retV (C m) (resE e Tryz.f6.results.toList)) (fun _ _ => noK) (fun e => retV (C m) (resE e Tryz.f6.results.toList)) = (fun e => K6_0 m call (e 0) (e 1)) := by
  have u : compF c6_0 (C m) call (fun e => retV (C m) (resE e Tryz.f6.results.toList)) (fun _ _ => noK) (fun e => retV (C m) (resE e Tryz.f6.results.toList)) = (compF (pS1 c6_0) (C m) call (compF (pS1 (pS2 c6_0)) (C m) call (compF (pS1 (pS2 (pS2 c6_0))) (C m) call (compF (pS1 (pS2 (pS2 (pS2 c6_0)))) (C m) call (compF (pS1 (pS2 (pS2 (pS2 (pS2 c6_0))))) (C m) call (compF (pS1 (pS1 (pS2 (pS2 (pS2 (pS2 (pS2 c6_0))))))) (C m) call (fun e => ifB (e 48) ((compF (pS1 (pC1 (pS2 (pS1 (pS2 (pS2 (pS2 (pS2 (pS2 c6_0))))))))) (C m) call (fun e => retV (C m) (resE e Tryz.f6.results.toList)) (fun _ _ => noK) (fun e => retV (C m) (resE e Tryz.f6.results.toList))) e) ((compF (pS1 (pS2 (pS2 (pS2 (pS2 (pS2 (pS2 c6_0))))))) (C m) call (fun e => retV (C m) (resE e Tryz.f6.results.toList)) (fun _ _ => noK) (fun e => retV (C m) (resE e Tryz.f6.results.toList))) e)) (fun _ _ => noK) (fun e => retV (C m) (resE e Tryz.f6.results.toList))) (fun _ _ => noK) (fun e => retV (C m) (resE e Tryz.f6.results.toList))) (fun _ _ => noK) (fun e => retV (C m) (resE e Tryz.f6.results.toList))) (fun _ _ => noK) (fun e => retV (C m) (resE e Tryz.f6.results.toList))) (fun _ _ => noK) (fun e => retV (C m) (resE e Tryz.f6.results.toList))) (fun _ _ => noK) (fun e => retV (C m) (resE e Tryz.f6.results.toList))) := by kernel_rfl
  rw [u]
  show _ = _
  kernel_rfl
theorem F6_eq (m : Nat) (call : CallF) (t0 t1 : AV) : enterK (C m) call Tryz.f6 [t0, t1] = K6_0 m call t0 t1 := by
  have u : enterK (C m) call Tryz.f6 [t0, t1] = (compF c6_0 (C m) call (fun e => retV (C m) (resE e Tryz.f6.results.toList)) (fun _ _ => noK) (fun e => retV (C m) (resE e Tryz.f6.results.toList))) (argF [t0, t1]) := by kernel_rfl
  rw [u, K6_0_eq m call]
  rfl
/-! rillmeter/rillmeterref23.Announce -/
noncomputable def c7_0 : Code := (bodyOf Tryz.f7)
noncomputable def K7_0 (m : Nat) (call : CallF) (t0 t1 : AV) : Kt :=
 bnd (calO (C m) call (fnV 11) []) fun v0 =>
 bnd (bslO (C m) 89 1 [(0, v0)]) fun v1 =>
 bnd (bldO (C m) 91 [(0, (I 2)), (1, v1)]) fun v2 =>
 bnd (bslO (C m) 92 1 [(0, v2)]) fun v3 =>
 bnd (bldO (C m) 94 [(0, t1), (2, t0), (3, v3)]) fun v4 =>
 bnd (newO (C m) 94) fun v5 =>
 bnd (stO (C m) 94 v5 v4) fun _ =>
 bnd (ldO (C m) 94 v5) fun v6 =>
 bnd (calO (C m) call (fnV 22) [v6]) fun v7 =>
 bnd (extO v7 0) fun v8 =>
 bnd (extO v7 1) fun v9 =>
 bnd (ldO (C m) 94 v5) fun v10 =>
 bnd (calO (C m) call (fnV 23) [v10]) fun v11 =>
 retV (C m) [(none, v8), (none, v11)]
theorem K7_0_eq (m : Nat) (call : CallF) : compF c7_0 (C m) call (fun e => retV (C m) (resE e Tryz.f7.results.toList)) (fun _ _ => noK) (fun e => retV (C m) (resE e Tryz.f7.results.toList)) = (fun e => K7_0 m call (e 0) (e 1)) := by
  have u : compF c7_0 (C m) call (fun e => retV (C m) (resE e Tryz.f7.results.toList)) (fun _ _ => noK) (fun e => retV (C m) (resE e Tryz.f7.results.toList)) = (compF (pS1 c7_0) (C m) call (compF (pS1 (pS2 c7_0)) (C m) call (compF (pS1 (pS2 (pS2 c7_0))) (C m) call (compF (pS1 (pS2 (pS2 (pS2 c7_0)))) (C m) call (fun e => retV (C m) (resE e Tryz.f7.results.toList)) (fun _ _ => noK) (fun e => retV (C m) (resE e Tryz.f7.results.toList))) (fun _ _ => noK) (fun e => retV (C m) (resE e Tryz.f7.results.toList))) (fun _ _ => noK) (fun e => retV (C m) (resE e Tryz.f7.results.toList))) (fun _ _ => noK) (fun e => retV (C m) (resE e Tryz.f7.results.toList))) := by kernel_rfl
  rw [u]
  show _ = _
  kernel_rfl
theorem F7_eq (m : Nat) (call : CallF) (t0 t1 : AV) : enterK (C m) call Tryz.f7 [t0, t1] = K7_0 m call t0 t1 := by
  have u : enterK (C m) call Tryz.f7 [t0, t1] = (compF c7_0 (C m) call (fun e => retV (C m) (resE e Tryz.f7.results.toList)) (fun _ _ => noK) (fun e => retV (C m) (resE e Tryz.f7.results.toList))) (argF [t0, t1]) := by kernel_rfl
  rw [u, K7_0_eq m call]
  rfl
/-! rillmeter/rillmeterref23.Message -/
noncomputable def c8_0 : Code := (bodyOf Tryz.f8)
noncomputable def K8_0 (m : Nat) (call : CallF) (t0 t1 : AV) : Kt :=
 bnd (boxO 32 t0) fun v0 =>
 bnd (fadO (C m) 32 v0 1) fun v1 =>
 bnd (ldO (C m) 3 v1) fun v2 =>
 bnd (calO (C m) call (fnV 24) [v2, (I 4)]) fun v3 =>
 bnd (extO v3 0) fun v4 =>
 bnd (extO v3 1) fun v5 =>
 bnd (fadO (C m) 32 v0 2) fun v6 =>
 bnd (ldO (C m) 3 v6) fun v7 =>
 bnd (calO (C m) call (fnV 24) [v7, (I 2)]) fun v8 =>
 bnd (extO v8 0) fun v9 =>
 bnd (extO v8 1) fun v10 =>
 bnd (fadO (C m) 32 v0 3) fun v11 =>
 bnd (ldO (C m) 3 v11) fun v12 =>
 bnd (calO (C m) call (fnV 24) [v12, (I 2)]) fun v13 =>
 bnd (extO v13 0) fun v14 =>
 bnd (extO v13 1) fun v15 =>
 atN 13 fun v16 =>
 dIn fun sv16 =>
 dEff (calO (C m) call (fnV 11) []) fun v17 sv17 =>
 dVal (fadO (C m) 32 v0 4) fun v18 =>
 dSam (some true) (ldO (C m) 9 v18) (fun v19 => (eqIn (ldO (C m) 9 v18) v19 sv17 && (eqIn (ldO (C m) 9 v18) v19 sv16 && true))) fun v20 =>
 dNew (bslO (C m) 88 4 [(0, v4), (1, v9), (2, v14), (3, v20)]) (Nat.add v16 6) fun v21 =>
 dEff (calO (C m) call (fnV 25) [v17, v21]) fun v22 sv22 =>
 dVal (extO v22 0) fun v23 =>
 dVal (extO v22 1) fun v24 =>
 bnd (fadO (C m) 32 v0 0) fun v25 =>
 bnd (ldO (C m) 3 v25) fun v26 =>
 bnd (bldO (C m) 91 [(0, (I 300)), (2, v23)]) fun v27 =>
 bnd (bslO (C m) 92 1 [(0, v27)]) fun v28 =>
 bnd (bldO (C m) 94 [(0, t1), (2, v26), (3, v28)]) fun v29 =>
 bnd (newO (C m) 94) fun v30 =>
 bnd (stO (C m) 94 v30 v29) fun _ =>
 bnd (unO .not v5) fun v31 =>
 bnd (gdO (wantV v31 false) (fun _ => .val v10)) fun v32 =>
 bnd (gdO (wantV v31 false) (unO .not v32)) fun v33 =>
 bnd (pickO v31 (B true) v33) fun v34 =>
 bnd (gdO (wantV v34 false) (fun _ => .val v15)) fun v35 =>
 bnd (gdO (wantV v34 false) (unO .not v35)) fun v36 =>
 bnd (pickO v34 (B true) v36) fun v37 =>
 bnd (gdO (wantV v37 false) (fun _ => .val v24)) fun v38 =>
 bnd (gdO (wantV v37 false) (unO .not v38)) fun v39 =>
 bnd (pickO v37 (B true) v39) fun v40 =>
 bnd (gdO (wantV v40 false) (ldO (C m) 94 v30)) fun v41 =>
 bnd (gdO (wantV v40 false) (calO (C m) call (fnV 23) [v41])) fun v42 =>
 bnd (gdO (wantV v40 false) (unO .not v42)) fun v43 =>
 bnd (pickO v40 (B true) v43) fun v44 =>
 ifB v44
 ((retV (C m) [(none, (S [])), (none, (B false))]))
 ((bnd (ldO (C m) 94 v30) fun v45 =>
 bnd (calO (C m) call (fnV 22) [v45]) fun v46 =>
 bnd (extO v46 0) fun v47 =>
 bnd (extO v46 1) fun v48 =>
 retV (C m) [(none, v47), (none, v48)]))
theorem K8_0_eq (m : Nat) (call : CallF) : compF c8_0 (C m) call (fun e => retV (C m) (resE e Tryz.f8.results.toList)) (fun _ _ => noK) (fun e => retV (C m) (resE e Tryz.f8.results.toList)) = (fun e => K8_0 m call (e 0) (e 1)) := by
  have u : compF c8_0 (C m) call (fun e => retV (C m) (resE e Tryz.f8.results.toList)) (fun _ _ => noK) (fun e => retV (C m) (resE e Tryz.f8.results.toList)) = (compF (pS1 c8_0) (C m) call (compF (pS1 (pS2 c8_0)) (C m) call (compF (pS1 (pS2 (pS2 c8_0))) (C m) call (compF (pS1 (pS2 (pS2 (pS2 c8_0)))) (C m) call (compF (pS1 (pS2 (pS2 (pS2 (pS2 c8_0))))) (C m) call (compF (pS1 (pS2 (pS2 (pS2 (pS2 (pS2 c8_0)))))) (C m) call (compF (pS1 (pS1 (pS2 (pS2 (pS2 (pS2 (pS2 (pS2 c8_0)))))))) (C m) call (fun e => ifB (e 69) ((compF (pS1 (pC1 (pS2 (pS1 (pS2 (pS2 (pS2 (pS2 (pS2 (pS2 c8_0)))))))))) (C m) call (fun e => retV (C m) (resE e Tryz.f8.results.toList)) (fun _ _ => noK) (fun e => retV (C m) (resE e Tryz.f8.results.toList))) e) ((compF (pS1 (pS2 (pS2 (pS2 (pS2 (pS2 (pS2 (pS2 c8_0)))))))) (C m) call (fun e => retV (C m) (resE e Tryz.f8.results.toList)) (fun _ _ => noK) (fun e => retV (C m) (resE e Tryz.f8.results.toList))) e)) (fun _ _ => noK) (fun e => retV (C m) (resE e Tryz.f8.results.toList))) (fun _ _ => noK) (fun e => retV (C m) (resE e Tryz.f8.results.toList))) (fun _ _ => noK) (fun e => retV (C m) (resE e Tryz.f8.results.toList))) (fun _ _ => noK) (fun e => retV (C m) (resE e Tryz.f8.results.toList))) (fun _ _ => noK) (fun e => retV (C m) (resE e Tryz.f8.results.toList))) (fun _ _ => noK) (fun e => retV (C m) (resE e Tryz.f8.results.toList))) (fun _ _ => noK) (fun e => retV (C m) (resE e Tryz.f8.results.toList))) := by kernel_rfl
  rw [u]
  show _ = _
  kernel_rfl
theorem F8_eq (m : Nat) (call : CallF) (t0 t1 : AV) : enterK (C m) call Tryz.f8 [t0, t1] = K8_0 m call t0 t1 := by
  have u : enterK (C m) call Tryz.f8 [t0, t1] = (compF c8_0 (C m) call (fun e => retV (C m) (resE e Tryz.f8.results.toList)) (fun _ _ => noK) (fun e => retV (C m) (resE e Tryz.f8.results.toList))) (argF [t0, t1]) := by kernel_rfl
  rw [u, K8_0_eq m call]
  rfl
/-! rillmeter/ipfix.Put -/
noncomputable def c19_0 : Code := (bodyOf Tryz.f19)
noncomputable def c19_1 : Code := (pS2 c19_0)
noncomputable def c19_2 : Code := (pS2 c19_1)
noncomputable def c19_3 : Code := (pS2 c19_2)
noncomputable def c19_4 : Code := (pS2 c19_3)
noncomputable def c19_5 : Code := (pS2 (pS1 c19_3))
noncomputable def c19_6 : Code := (pL (pB c19_5))
noncomputable def c19_7 : Code := (pS2 c19_6)
noncomputable def c19_8 : Code := (pS2 c19_7)
noncomputable def c19_9 : Code := (pS2 c19_8)
noncomputable def K19_4 (m : Nat) (call : CallF) (t1 t4 : AV) : Kt :=
 bnd (calO (C m) call (fnV 42) [t4]) fun v0 =>
 bnd (binO (C m) .add 3 (I 16) v0) fun v1 =>
 bnd (calO (C m) call (fnV 20) [v1, (I 2)]) fun v2 =>
 bnd (extO v2 0) fun v3 =>
 bnd (extO v2 1) fun v4 =>
 bnd (binO (C m) .neq 25 v4 (I 0)) fun v5 =>
 ifB v5
 ((retV (C m) [(none, (S [])), (none, (I 4))]))
 ((dIn fun sv6 =>
 dEff (calO (C m) call (fnV 41) [(I 10), (I 2)]) fun v7 sv7 =>
 dVal (fadO (C m) 86 t1 0) fun v8 =>
 dSam (some true) (ldO (C m) 3 v8) (fun v9 => (eqIn (ldO (C m) 3 v8) v9 sv7 && (eqIn (ldO (C m) 3 v8) v9 sv6 && true))) fun v10 =>
 dEff (calO (C m) call (fnV 41) [v10, (I 4)]) fun v11 sv11 =>
 dVal (fadO (C m) 86 t1 1) fun v12 =>
 dSam (some true) (ldO (C m) 3 v12) (fun v13 => (eqIn (ldO (C m) 3 v12) v13 sv11 && (eqIn (ldO (C m) 3 v12) v13 sv7 && (eqIn (ldO (C m) 3 v12) v13 sv6 && true)))) fun v14 =>
 dEff (calO (C m) call (fnV 41) [v14, (I 4)]) fun v15 sv15 =>
 dVal (fadO (C m) 86 t1 2) fun v16 =>
 dSam (some true) (ldO (C m) 3 v16) (fun v17 => (eqIn (ldO (C m) 3 v16) v17 sv15 && (eqIn (ldO (C m) 3 v16) v17 sv11 && (eqIn (ldO (C m) 3 v16) v17 sv7 && (eqIn (ldO (C m) 3 v16) v17 sv6 && true))))) fun v18 =>
 dEff (calO (C m) call (fnV 41) [v18, (I 4)]) fun v19 sv19 =>
 dEff (calO (C m) call (fnV 43) [t4]) fun v20 sv20 =>
 dVal (binO (C m) .add 9 v7 v3) fun v21 =>
 dVal (binO (C m) .add 9 v21 v11) fun v22 =>
 dVal (binO (C m) .add 9 v22 v15) fun v23 =>
 dVal (binO (C m) .add 9 v23 v19) fun v24 =>
 dVal (binO (C m) .add 9 v24 v20) fun v25 =>
 retV (C m) [(none, v25), (none, (I 0))]))
theorem K19_4_eq (m : Nat) (call : CallF) : compF c19_4 (C m) call (fun e => retV (C m) (resE e Tryz.f19.results.toList)) (fun _ _ => noK) (fun e => retV (C m) (resE e Tryz.f19.results.toList)) = (fun e => K19_4 m call (e 1) (e 4)) := by
  have u : compF c19_4 (C m) call (fun e => retV (C m) (resE e Tryz.f19.results.toList)) (fun _ _ => noK) (fun e => retV (C m) (resE e Tryz.f19.results.toList)) = (compF (pS1 c19_4) (C m) call (compF (pS1 (pS1 (pS2 c19_4))) (C m) call (fun e => ifB (e 49) ((compF (pS1 (pC1 (pS2 (pS1 (pS2 c19_4))))) (C m) call (fun e => retV (C m) (resE e Tryz.f19.results.toList)) (fun _ _ => noK) (fun e => retV (C m) (resE e Tryz.f19.results.toList))) e) ((compF (pS1 (pS2 (pS2 c19_4))) (C m) call (fun e => retV (C m) (resE e Tryz.f19.results.toList)) (fun _ _ => noK) (fun e => retV (C m) (resE e Tryz.f19.results.toList))) e)) (fun _ _ => noK) (fun e => retV (C m) (resE e Tryz.f19.results.toList))) (fun _ _ => noK) (fun e => retV (C m) (resE e Tryz.f19.results.toList))) := by kernel_rfl
  rw [u]
  show _ = _
  kernel_rfl
noncomputable def K19_9 (m : Nat) (call : CallF) (h6 : AV → AV → AV → AV → AV → Kt) (t1 t4 t16 t17 t18 : AV) : Kt :=
 bnd (binO (C m) .add 3 t18 (I 1)) fun v0 =>
 h6 t1 t4 t16 t17 v0
theorem K19_9_eq (m : Nat) (call : CallF) (h6 : AV → AV → AV → AV → AV → Kt) : compF c19_9 (C m) call (fun e => h6 (e 1) (e 4) (e 16) (e 17) (e 18)) (exitF 0 (fun e => K19_4 m call (e 1) (e 4)) (fun _ _ => noK)) (fun e => retV (C m) (resE e Tryz.f19.results.toList)) = (fun e => K19_9 m call h6 (e 1) (e 4) (e 16) (e 17) (e 18)) := by
  have u : compF c19_9 (C m) call (fun e => h6 (e 1) (e 4) (e 16) (e 17) (e 18)) (exitF 0 (fun e => K19_4 m call (e 1) (e 4)) (fun _ _ => noK)) (fun e => retV (C m) (resE e Tryz.f19.results.toList)) = (compF c19_9 (C m) call (fun e => h6 (e 1) (e 4) (e 16) (e 17) (e 18)) (exitF 0 (fun e => K19_4 m call (e 1) (e 4)) (fun _ _ => noK)) (fun e => retV (C m) (resE e Tryz.f19.results.toList))) := by kernel_rfl
  rw [u]
  show _ = _
  kernel_rfl
noncomputable def K19_8 (m : Nat) (call : CallF) (h6 : AV → AV → AV → AV → AV → Kt) (t1 t4 t16 t17 t18 : AV) : Kt :=
 bnd (iadO (C m) 84 t16 t18) fun v0 =>
 bnd (ldO (C m) 83 v0) fun v1 =>
 bnd (newO (C m) 83) fun v2 =>
 bnd (stO (C m) 83 v2 v1) fun _ =>
 bnd (ldO (C m) 83 v2) fun v3 =>
 bnd (calO (C m) call (fnV 39) [v3]) fun v4 =>
 bnd (bltO (C m) .len [9] [v4]) fun v5 =>
 bnd (binO (C m) .add 3 v5 (I 4)) fun v6 =>
 bnd (calO (C m) call (fnV 20) [v6, (I 2)]) fun v7 =>
 bnd (extO v7 0) fun v8 =>
 bnd (extO v7 1) fun v9 =>
 bnd (binO (C m) .neq 25 v9 (I 0)) fun v10 =>
 ifB v10
 ((retV (C m) [(none, (S [])), (none, (I 4))]))
 ((bnd (fadO (C m) 83 v2 0) fun v11 =>
 bnd (ldO (C m) 3 v11) fun v12 =>
 bnd (calO (C m) call (fnV 41) [v12, (I 2)]) fun v13 =>
 bnd (binO (C m) .add 9 v13 v8) fun v14 =>
 bnd (binO (C m) .add 9 v14 v4) fun v15 =>
 bnd (calO (C m) call (fnV 40) [t4, v15]) fun v16 =>
 K19_9 m call h6 t1 t4 t16 t17 t18))
theorem K19_8_eq (m : Nat) (call : CallF) (h6 : AV → AV → AV → AV → AV → Kt) : compF c19_8 (C m) call (fun e => h6 (e 1) (e 4) (e 16) (e 17) (e 18)) (exitF 0 (fun e => K19_4 m call (e 1) (e 4)) (fun _ _ => noK)) (fun e => retV (C m) (resE e Tryz.f19.results.toList)) = (fun e => K19_8 m call h6 (e 1) (e 4) (e 16) (e 17) (e 18)) := by
  have u : compF c19_8 (C m) call (fun e => h6 (e 1) (e 4) (e 16) (e 17) (e 18)) (exitF 0 (fun e => K19_4 m call (e 1) (e 4)) (fun _ _ => noK)) (fun e => retV (C m) (resE e Tryz.f19.results.toList)) = (compF (pS1 (pB (pS1 c19_8))) (C m) call (compF (pS1 (pS2 (pB (pS1 c19_8)))) (C m) call (compF (pS1 (pS2 (pS2 (pB (pS1 c19_8))))) (C m) call (compF (pS1 (pS1 (pS2 (pS2 (pS2 (pB (pS1 c19_8))))))) (C m) call (fun e => ifB (e 32) ((compF (pS1 (pC1 (pS2 (pS1 (pS2 (pS2 (pS2 (pB (pS1 c19_8))))))))) (C m) call (fun e => retV (C m) (resE e Tryz.f19.results.toList)) (exitF 1 (compF c19_9 (C m) call (fun e => h6 (e 1) (e 4) (e 16) (e 17) (e 18)) (exitF 0 (fun e => K19_4 m call (e 1) (e 4)) (fun _ _ => noK)) (fun e => retV (C m) (resE e Tryz.f19.results.toList))) (exitF 0 (fun e => K19_4 m call (e 1) (e 4)) (fun _ _ => noK))) (fun e => retV (C m) (resE e Tryz.f19.results.toList))) e) ((compF (pS2 (pS2 (pS2 (pS2 (pB (pS1 c19_8)))))) (C m) call (compF c19_9 (C m) call (fun e => h6 (e 1) (e 4) (e 16) (e 17) (e 18)) (exitF 0 (fun e => K19_4 m call (e 1) (e 4)) (fun _ _ => noK)) (fun e => retV (C m) (resE e Tryz.f19.results.toList))) (exitF 1 (compF c19_9 (C m) call (fun e => h6 (e 1) (e 4) (e 16) (e 17) (e 18)) (exitF 0 (fun e => K19_4 m call (e 1) (e 4)) (fun _ _ => noK)) (fun e => retV (C m) (resE e Tryz.f19.results.toList))) (exitF 0 (fun e => K19_4 m call (e 1) (e 4)) (fun _ _ => noK))) (fun e => retV (C m) (resE e Tryz.f19.results.toList))) e)) (exitF 1 (compF c19_9 (C m) call (fun e => h6 (e 1) (e 4) (e 16) (e 17) (e 18)) (exitF 0 (fun e => K19_4 m call (e 1) (e 4)) (fun _ _ => noK)) (fun e => retV (C m) (resE e Tryz.f19.results.toList))) (exitF 0 (fun e => K19_4 m call (e 1) (e 4)) (fun _ _ => noK))) (fun e => retV (C m) (resE e Tryz.f19.results.toList))) (exitF 1 (compF c19_9 (C m) call (fun e => h6 (e 1) (e 4) (e 16) (e 17) (e 18)) (exitF 0 (fun e => K19_4 m call (e 1) (e 4)) (fun _ _ => noK)) (fun e => retV (C m) (resE e Tryz.f19.results.toList))) (exitF 0 (fun e => K19_4 m call (e 1) (e 4)) (fun _ _ => noK))) (fun e => retV (C m) (resE e Tryz.f19.results.toList))) (exitF 1 (compF c19_9 (C m) call (fun e => h6 (e 1) (e 4) (e 16) (e 17) (e 18)) (exitF 0 (fun e => K19_4 m call (e 1) (e 4)) (fun _ _ => noK)) (fun e => retV (C m) (resE e Tryz.f19.results.toList))) (exitF 0 (fun e => K19_4 m call (e 1) (e 4)) (fun _ _ => noK))) (fun e => retV (C m) (resE e Tryz.f19.results.toList))) (exitF 1 (compF c19_9 (C m) call (fun e => h6 (e 1) (e 4) (e 16) (e 17) (e 18)) (exitF 0 (fun e => K19_4 m call (e 1) (e 4)) (fun _ _ => noK)) (fun e => retV (C m) (resE e Tryz.f19.results.toList))) (exitF 0 (fun e => K19_4 m call (e 1) (e 4)) (fun _ _ => noK))) (fun e => retV (C m) (resE e Tryz.f19.results.toList))) := by kernel_rfl
  rw [u, K19_9_eq m call h6 ]
  show _ = _
  kernel_rfl
noncomputable def K19_7 (m : Nat) (call : CallF) (h6 : AV → AV → AV → AV → AV → Kt) (t1 t4 t16 t17 t18 t19 : AV) : Kt :=
 ifB t19
 ((K19_8 m call h6 t1 t4 t16 t17 t18))
 ((K19_4 m call t1 t4))
theorem K19_7_eq (m : Nat) (call : CallF) (h6 : AV → AV → AV → AV → AV → Kt) : compF c19_7 (C m) call (fun e => h6 (e 1) (e 4) (e 16) (e 17) (e 18)) (exitF 0 (fun e => K19_4 m call (e 1) (e 4)) (fun _ _ => noK)) (fun e => retV (C m) (resE e Tryz.f19.results.toList)) = (fun e => K19_7 m call h6 (e 1) (e 4) (e 16) (e 17) (e 18) (e 19)) := by
  have u : compF c19_7 (C m) call (fun e => h6 (e 1) (e 4) (e 16) (e 17) (e 18)) (exitF 0 (fun e => K19_4 m call (e 1) (e 4)) (fun _ _ => noK)) (fun e => retV (C m) (resE e Tryz.f19.results.toList)) = (fun e => ifB (e 19) ((compF c19_8 (C m) call (fun e => h6 (e 1) (e 4) (e 16) (e 17) (e 18)) (exitF 0 (fun e => K19_4 m call (e 1) (e 4)) (fun _ _ => noK)) (fun e => retV (C m) (resE e Tryz.f19.results.toList))) e) ((fun e => K19_4 m call (e 1) (e 4)) e)) := by kernel_rfl
  rw [u, K19_8_eq m call h6 ]
  show _ = _
  kernel_rfl
noncomputable def L19_6_b (m : Nat) (call : CallF) (h6 : AV → AV → AV → AV → AV → Kt) (t1 t4 t16 t17 t18 : AV) : Kt :=
 bnd (binO (C m) .lss 3 t18 t17) fun v0 =>
 K19_7 m call h6 t1 t4 t16 t17 t18 v0
noncomputable def L19_6 (m : Nat) (call : CallF) (n : Nat) : AV → AV → AV → AV → AV → Kt :=
 Nat.rec (motive := fun _ => AV → AV → AV → AV → AV → Kt) (fun t1 t4 t16 t17 t18 => noK) (fun _ ih => L19_6_b m call ih) n
theorem L19_6_b_eq (m : Nat) (call : CallF) (h6 : AV → AV → AV → AV → AV → Kt) : compF c19_6 (C m) call (fun e => h6 (e 1) (e 4) (e 16) (e 17) (e 18)) (exitF 0 (fun e => K19_4 m call (e 1) (e 4)) (fun _ _ => noK)) (fun e => retV (C m) (resE e Tryz.f19.results.toList)) = fun e => L19_6_b m call h6 (e 1) (e 4) (e 16) (e 17) (e 18) := by
  have u : compF c19_6 (C m) call (fun e => h6 (e 1) (e 4) (e 16) (e 17) (e 18)) (exitF 0 (fun e => K19_4 m call (e 1) (e 4)) (fun _ _ => noK)) (fun e => retV (C m) (resE e Tryz.f19.results.toList)) = (compF (pS1 c19_6) (C m) call (compF c19_7 (C m) call (fun e => h6 (e 1) (e 4) (e 16) (e 17) (e 18)) (exitF 0 (fun e => K19_4 m call (e 1) (e 4)) (fun _ _ => noK)) (fun e => retV (C m) (resE e Tryz.f19.results.toList))) (exitF 0 (fun e => K19_4 m call (e 1) (e 4)) (fun _ _ => noK)) (fun e => retV (C m) (resE e Tryz.f19.results.toList))) := by kernel_rfl
  rw [u, K19_7_eq m call h6 ]
  show _ = _
  kernel_rfl
theorem L19_6_eq (m : Nat) (call : CallF) (n : Nat) : (loopF (fun k => compF c19_6 (C m) call k (exitF 0 (fun e => K19_4 m call (e 1) (e 4)) (fun _ _ => noK)) (fun e => retV (C m) (resE e Tryz.f19.results.toList))) n) = (fun e => L19_6 m call n (e 1) (e 4) (e 16) (e 17) (e 18)) := by
  induction n with
  | zero => rfl
  | succ n ih =>
    show compF c19_6 (C m) call (loopF (fun k => compF c19_6 (C m) call k (exitF 0 (fun e => K19_4 m call (e 1) (e 4)) (fun _ _ => noK)) (fun e => retV (C m) (resE e Tryz.f19.results.toList))) n) (exitF 0 (fun e => K19_4 m call (e 1) (e 4)) (fun _ _ => noK)) (fun e => retV (C m) (resE e Tryz.f19.results.toList)) = _
    rw [ih, L19_6_b_eq m call (L19_6 m call n)]
    rfl
theorem L19_6_succ (m : Nat) (call : CallF) (n : Nat) : L19_6 m call (n + 1) = L19_6_b m call (L19_6 m call n) := rfl
noncomputable def K19_5 (m : Nat) (call : CallF) (t1 t4 t16 t17 t18 : AV) : Kt :=
 L19_6 m call m t1 t4 t16 t17 t18
theorem K19_5_eq (m : Nat) (call : CallF) : compF c19_5 (C m) call (fun e => K19_4 m call (e 1) (e 4)) (fun _ _ => noK) (fun e => retV (C m) (resE e Tryz.f19.results.toList)) = (fun e => K19_5 m call (e 1) (e 4) (e 16) (e 17) (e 18)) := by
  have u : compF c19_5 (C m) call (fun e => K19_4 m call (e 1) (e 4)) (fun _ _ => noK) (fun e => retV (C m) (resE e Tryz.f19.results.toList)) = (loopF (fun k => compF c19_6 (C m) call k (exitF 0 (fun e => K19_4 m call (e 1) (e 4)) (fun _ _ => noK)) (fun e => retV (C m) (resE e Tryz.f19.results.toList))) m) := by kernel_rfl
  rw [u, L19_6_eq m call m]
  show _ = _
  kernel_rfl
noncomputable def K19_3 (m : Nat) (call : CallF) (t1 t4 : AV) : Kt :=
 bnd (fadO (C m) 86 t1 3) fun v0 =>
 bnd (ldO (C m) 84 v0) fun v1 =>
 bnd (bltO (C m) .len [84] [v1]) fun v2 =>
 K19_5 m call t1 t4 v1 v2 (I 0)
theorem K19_3_eq (m : Nat) (call : CallF) : compF c19_3 (C m) call (fun e => retV (C m) (resE e Tryz.f19.results.toList)) (fun _ _ => noK) (fun e => retV (C m) (resE e Tryz.f19.results.toList)) = (fun e => K19_3 m call (e 1) (e 4)) := by
  have u : compF c19_3 (C m) call (fun e => retV (C m) (resE e Tryz.f19.results.toList)) (fun _ _ => noK) (fun e => retV (C m) (resE e Tryz.f19.results.toList)) = (compF (pS1 (pS1 c19_3)) (C m) call (compF c19_5 (C m) call (compF c19_4 (C m) call (fun e => retV (C m) (resE e Tryz.f19.results.toList)) (fun _ _ => noK) (fun e => retV (C m) (resE e Tryz.f19.results.toList))) (fun _ _ => noK) (fun e => retV (C m) (resE e Tryz.f19.results.toList))) (fun _ _ => noK) (fun e => retV (C m) (resE e Tryz.f19.results.toList))) := by kernel_rfl
  rw [u, K19_4_eq m call , K19_5_eq m call ]
  show _ = _
  kernel_rfl
noncomputable def K19_2 (m : Nat) (call : CallF) (t1 : AV) : Kt :=
 bnd (newO (C m) 128) fun v0 =>
 K19_3 m call t1 v0
theorem K19_2_eq (m : Nat) (call : CallF) : compF c19_2 (C m) call (fun e => retV (C m) (resE e Tryz.f19.results.toList)) (fun _ _ => noK) (fun e => retV (C m) (resE e Tryz.f19.results.toList)) = (fun e => K19_2 m call (e 1)) := by
  have u : compF c19_2 (C m) call (fun e => retV (C m) (resE e Tryz.f19.results.toList)) (fun _ _ => noK) (fun e => retV (C m) (resE e Tryz.f19.results.toList)) = (compF (pS1 c19_2) (C m) call (compF c19_3 (C m) call (fun e => retV (C m) (resE e Tryz.f19.results.toList)) (fun _ _ => noK) (fun e => retV (C m) (resE e Tryz.f19.results.toList))) (fun _ _ => noK) (fun e => retV (C m) (resE e Tryz.f19.results.toList))) := by kernel_rfl
  rw [u, K19_3_eq m call ]
  show _ = _
  kernel_rfl
noncomputable def K19_1 (m : Nat) (call : CallF) (t1 : AV) : Kt :=
 bnd (ldO (C m) 86 t1) fun v0 =>
 bnd (calO (C m) call (fnV 38) [v0]) fun v1 =>
 bnd (unO .not v1) fun v2 =>
 ifB v2
 ((retV (C m) [(none, (S [])), (none, (I 1))]))
 ((K19_2 m call t1))
theorem K19_1_eq (m : Nat) (call : CallF) : compF c19_1 (C m) call (fun e => retV (C m) (resE e Tryz.f19.results.toList)) (fun _ _ => noK) (fun e => retV (C m) (resE e Tryz.f19.results.toList)) = (fun e => K19_1 m call (e 1)) := by
  have u : compF c19_1 (C m) call (fun e => retV (C m) (resE e Tryz.f19.results.toList)) (fun _ _ => noK) (fun e => retV (C m) (resE e Tryz.f19.results.toList)) = (compF (pS1 (pS1 c19_1)) (C m) call (fun e => ifB (e 14) ((compF (pS1 (pC1 (pS2 (pS1 c19_1)))) (C m) call (fun e => retV (C m) (resE e Tryz.f19.results.toList)) (fun _ _ => noK) (fun e => retV (C m) (resE e Tryz.f19.results.toList))) e) ((compF c19_2 (C m) call (fun e => retV (C m) (resE e Tryz.f19.results.toList)) (fun _ _ => noK) (fun e => retV (C m) (resE e Tryz.f19.results.toList))) e)) (fun _ _ => noK) (fun e => retV (C m) (resE e Tryz.f19.results.toList))) := by kernel_rfl
  rw [u, K19_2_eq m call ]
  show _ = _
  kernel_rfl
noncomputable def K19_0 (m : Nat) (call : CallF) (t0 : AV) : Kt :=
 bnd (boxO 86 t0) fun v0 =>
 K19_1 m call v0
theorem K19_0_eq (m : Nat) (call : CallF) : compF c19_0 (C m) call (fun e => retV (C m) (resE e Tryz.f19.results.toList)) (fun _ _ => noK) (fun e => retV (C m) (resE e Tryz.f19.results.toList)) = (fun e => K19_0 m call (e 0)) := by
  have u : compF c19_0 (C m) call (fun e => retV (C m) (resE e Tryz.f19.results.toList)) (fun _ _ => noK) (fun e => retV (C m) (resE e Tryz.f19.results.toList)) = (compF (pS1 c19_0) (C m) call (compF c19_1 (C m) call (fun e => retV (C m) (resE e Tryz.f19.results.toList)) (fun _ _ => noK) (fun e => retV (C m) (resE e Tryz.f19.results.toList))) (fun _ _ => noK) (fun e => retV (C m) (resE e Tryz.f19.results.toList))) := by kernel_rfl
  rw [u, K19_1_eq m call ]
  show _ = _
  kernel_rfl
theorem F19_eq (m : Nat) (call : CallF) (t0 : AV) : enterK (C m) call Tryz.f19 [t0] = K19_0 m call t0 := by
  have u : enterK (C m) call Tryz.f19 [t0] = (compF c19_0 (C m) call (fun e => retV (C m) (resE e Tryz.f19.results.toList)) (fun _ _ => noK) (fun e => retV (C m) (resE e Tryz.f19.results.toList))) (argF [t0]) := by kernel_rfl
  rw [u, K19_0_eq m call]
  rfl
/-! rillmeter/octet.Put -/
noncomputable def c20_0 : Code := (bodyOf Tryz.f20)
noncomputable def c20_1 : Code := (pS2 c20_0)
noncomputable def c20_2 : Code := (pS2 c20_1)
noncomputable def c20_3 : Code := (pS2 c20_2)
noncomputable def c20_4 : Code := (pS2 c20_3)
noncomputable def c20_5 : Code := (pS2 (pS1 c20_3))
noncomputable def c20_6 : Code := (pL (pB c20_5))
noncomputable def c20_7 : Code := (pS2 c20_6)
noncomputable def c20_8 : Code := (pS2 c20_7)
noncomputable def c20_9 : Code := (pS2 c20_8)
noncomputable def K20_4 (m : Nat) (call : CallF) (t6 : AV) : Kt :=
 bnd (cvO (C m) 126 9 t6) fun v0 =>
 retV (C m) [(none, v0), (none, (I 0))]
theorem K20_4_eq (m : Nat) (call : CallF) : compF c20_4 (C m) call (fun e => retV (C m) (resE e Tryz.f20.results.toList)) (fun _ _ => noK) (fun e => retV (C m) (resE e Tryz.f20.results.toList)) = (fun e => K20_4 m call (e 6)) := by
  have u : compF c20_4 (C m) call (fun e => retV (C m) (resE e Tryz.f20.results.toList)) (fun _ _ => noK) (fun e => retV (C m) (resE e Tryz.f20.results.toList)) = (compF (pS1 c20_4) (C m) call (fun e => retV (C m) (resE e Tryz.f20.results.toList)) (fun _ _ => noK) (fun e => retV (C m) (resE e Tryz.f20.results.toList))) := by kernel_rfl
  rw [u]
  show _ = _
  kernel_rfl
noncomputable def K20_9 (m : Nat) (call : CallF) (h6 : AV → AV → AV → AV → AV → Kt) (t0 t1 t6 t28 t29 : AV) : Kt :=
 bnd (binO (C m) .add 3 t29 (I 1)) fun v0 =>
 h6 t0 t1 t6 t28 v0
theorem K20_9_eq (m : Nat) (call : CallF) (h6 : AV → AV → AV → AV → AV → Kt) : compF c20_9 (C m) call (fun e => h6 (e 0) (e 1) (e 6) (e 28) (e 29)) (exitF 0 (fun e => K20_4 m call (e 6)) (fun _ _ => noK)) (fun e => retV (C m) (resE e Tryz.f20.results.toList)) = (fun e => K20_9 m call h6 (e 0) (e 1) (e 6) (e 28) (e 29)) := by
  have u : compF c20_9 (C m) call (fun e => h6 (e 0) (e 1) (e 6) (e 28) (e 29)) (exitF 0 (fun e => K20_4 m call (e 6)) (fun _ _ => noK)) (fun e => retV (C m) (resE e Tryz.f20.results.toList)) = (compF c20_9 (C m) call (fun e => h6 (e 0) (e 1) (e 6) (e 28) (e 29)) (exitF 0 (fun e => K20_4 m call (e 6)) (fun _ _ => noK)) (fun e => retV (C m) (resE e Tryz.f20.results.toList))) := by kernel_rfl
  rw [u]
  show _ = _
  kernel_rfl
noncomputable def K20_8 (m : Nat) (call : CallF) (h6 : AV → AV → AV → AV → AV → Kt) (t0 t1 t6 t28 t29 : AV) : Kt :=
 bnd (binO (C m) .sub 3 t1 (I 1)) fun v0 =>
 bnd (binO (C m) .sub 3 v0 t29) fun v1 =>
 bnd (binO (C m) .mul 3 (I 8) v1) fun v2 =>
 bnd (binO (C m) .shr 3 t0 v2) fun v3 =>
 bnd (cvO (C m) 3 5 v3) fun v4 =>
 bnd (iadO (C m) 126 t6 t29) fun v5 =>
 bnd (stO (C m) 5 v5 v4) fun _ =>
 K20_9 m call h6 t0 t1 t6 t28 t29
theorem K20_8_eq (m : Nat) (call : CallF) (h6 : AV → AV → AV → AV → AV → Kt) : compF c20_8 (C m) call (fun e => h6 (e 0) (e 1) (e 6) (e 28) (e 29)) (exitF 0 (fun e => K20_4 m call (e 6)) (fun _ _ => noK)) (fun e => retV (C m) (resE e Tryz.f20.results.toList)) = (fun e => K20_8 m call h6 (e 0) (e 1) (e 6) (e 28) (e 29)) := by
  have u : compF c20_8 (C m) call (fun e => h6 (e 0) (e 1) (e 6) (e 28) (e 29)) (exitF 0 (fun e => K20_4 m call (e 6)) (fun _ _ => noK)) (fun e => retV (C m) (resE e Tryz.f20.results.toList)) = (compF (pS1 (pB (pS1 c20_8))) (C m) call (compF (pS2 (pB (pS1 c20_8))) (C m) call (compF c20_9 (C m) call (fun e => h6 (e 0) (e 1) (e 6) (e 28) (e 29)) (exitF 0 (fun e => K20_4 m call (e 6)) (fun _ _ => noK)) (fun e => retV (C m) (resE e Tryz.f20.results.toList))) (exitF 1 (compF c20_9 (C m) call (fun e => h6 (e 0) (e 1) (e 6) (e 28) (e 29)) (exitF 0 (fun e => K20_4 m call (e 6)) (fun _ _ => noK)) (fun e => retV (C m) (resE e Tryz.f20.results.toList))) (exitF 0 (fun e => K20_4 m call (e 6)) (fun _ _ => noK))) (fun e => retV (C m) (resE e Tryz.f20.results.toList))) (exitF 1 (compF c20_9 (C m) call (fun e => h6 (e 0) (e 1) (e 6) (e 28) (e 29)) (exitF 0 (fun e => K20_4 m call (e 6)) (fun _ _ => noK)) (fun e => retV (C m) (resE e Tryz.f20.results.toList))) (exitF 0 (fun e => K20_4 m call (e 6)) (fun _ _ => noK))) (fun e => retV (C m) (resE e Tryz.f20.results.toList))) := by kernel_rfl
  rw [u, K20_9_eq m call h6 ]
  show _ = _
  kernel_rfl
noncomputable def K20_7 (m : Nat) (call : CallF) (h6 : AV → AV → AV → AV → AV → Kt) (t0 t1 t6 t28 t29 t30 : AV) : Kt :=
 ifB t30
 ((K20_8 m call h6 t0 t1 t6 t28 t29))
 ((K20_4 m call t6))
theorem K20_7_eq (m : Nat) (call : CallF) (h6 : AV → AV → AV → AV → AV → Kt) : compF c20_7 (C m) call (fun e => h6 (e 0) (e 1) (e 6) (e 28) (e 29)) (exitF 0 (fun e => K20_4 m call (e 6)) (fun _ _ => noK)) (fun e => retV (C m) (resE e Tryz.f20.results.toList)) = (fun e => K20_7 m call h6 (e 0) (e 1) (e 6) (e 28) (e 29) (e 30)) := by
  have u : compF c20_7 (C m) call (fun e => h6 (e 0) (e 1) (e 6) (e 28) (e 29)) (exitF 0 (fun e => K20_4 m call (e 6)) (fun _ _ => noK)) (fun e => retV (C m) (resE e Tryz.f20.results.toList)) = (fun e => ifB (e 30) ((compF c20_8 (C m) call (fun e => h6 (e 0) (e 1) (e 6) (e 28) (e 29)) (exitF 0 (fun e => K20_4 m call (e 6)) (fun _ _ => noK)) (fun e => retV (C m) (resE e Tryz.f20.results.toList))) e) ((fun e => K20_4 m call (e 6)) e)) := by kernel_rfl
  rw [u, K20_8_eq m call h6 ]
  show _ = _
  kernel_rfl
noncomputable def L20_6_b (m : Nat) (call : CallF) (h6 : AV → AV → AV → AV → AV → Kt) (t0 t1 t6 t28 t29 : AV) : Kt :=
 bnd (binO (C m) .lss 3 t29 t28) fun v0 =>
 K20_7 m call h6 t0 t1 t6 t28 t29 v0
noncomputable def L20_6 (m : Nat) (call : CallF) (n : Nat) : AV → AV → AV → AV → AV → Kt :=
 Nat.rec (motive := fun _ => AV → AV → AV → AV → AV → Kt) (fun t0 t1 t6 t28 t29 => noK) (fun _ ih => L20_6_b m call ih) n
theorem L20_6_b_eq (m : Nat) (call : CallF) (h6 : AV → AV → AV → AV → AV → Kt) : compF c20_6 (C m) call (fun e => h6 (e 0) (e 1) (e 6) (e 28) (e 29)) (exitF 0 (fun e => K20_4 m call (e 6)) (fun _ _ => noK)) (fun e => retV (C m) (resE e Tryz.f20.results.toList)) = fun e => L20_6_b m call h6 (e 0) (e 1) (e 6) (e 28) (e 29) := by
  have u : compF c20_6 (C m) call (fun e => h6 (e 0) (e 1) (e 6) (e 28) (e 29)) (exitF 0 (fun e => K20_4 m call (e 6)) (fun _ _ => noK)) (fun e => retV (C m) (resE e Tryz.f20.results.toList)) = (compF (pS1 c20_6) (C m) call (compF c20_7 (C m) call (fun e => h6 (e 0) (e 1) (e 6) (e 28) (e 29)) (exitF 0 (fun e => K20_4 m call (e 6)) (fun _ _ => noK)) (fun e => retV (C m) (resE e Tryz.f20.results.toList))) (exitF 0 (fun e => K20_4 m call (e 6)) (fun _ _ => noK)) (fun e => retV (C m) (resE e Tryz.f20.results.toList))) := by kernel_rfl
  rw [u, K20_7_eq m call h6 ]
  show _ = _
  kernel_rfl
theorem L20_6_eq (m : Nat) (call : CallF) (n : Nat) : (loopF (fun k => compF c20_6 (C m) call k (exitF 0 (fun e => K20_4 m call (e 6)) (fun _ _ => noK)) (fun e => retV (C m) (resE e Tryz.f20.results.toList))) n) = (fun e => L20_6 m call n (e 0) (e 1) (e 6) (e 28) (e 29)) := by
  induction n with
  | zero => rfl
  | succ n ih =>
    show compF c20_6 (C m) call (loopF (fun k => compF c20_6 (C m) call k (exitF 0 (fun e => K20_4 m call (e 6)) (fun _ _ => noK)) (fun e => retV (C m) (resE e Tryz.f20.results.toList))) n) (exitF 0 (fun e => K20_4 m call (e 6)) (fun _ _ => noK)) (fun e => retV (C m) (resE e Tryz.f20.results.toList)) = _
    rw [ih, L20_6_b_eq m call (L20_6 m call n)]
    rfl
theorem L20_6_succ (m : Nat) (call : CallF) (n : Nat) : L20_6 m call (n + 1) = L20_6_b m call (L20_6 m call n) := rfl
noncomputable def K20_5 (m : Nat) (call : CallF) (t0 t1 t6 t28 t29 : AV) : Kt :=
 L20_6 m call m t0 t1 t6 t28 t29
theorem K20_5_eq (m : Nat) (call : CallF) : compF c20_5 (C m) call (fun e => K20_4 m call (e 6)) (fun _ _ => noK) (fun e => retV (C m) (resE e Tryz.f20.results.toList)) = (fun e => K20_5 m call (e 0) (e 1) (e 6) (e 28) (e 29)) := by
  have u : compF c20_5 (C m) call (fun e => K20_4 m call (e 6)) (fun _ _ => noK) (fun e => retV (C m) (resE e Tryz.f20.results.toList)) = (loopF (fun k => compF c20_6 (C m) call k (exitF 0 (fun e => K20_4 m call (e 6)) (fun _ _ => noK)) (fun e => retV (C m) (resE e Tryz.f20.results.toList))) m) := by kernel_rfl
  rw [u, L20_6_eq m call m]
  show _ = _
  kernel_rfl
noncomputable def K20_3 (m : Nat) (call : CallF) (t0 t1 t6 : AV) : Kt :=
 bnd (bltO (C m) .len [126] [t6]) fun v0 =>
 K20_5 m call t0 t1 t6 v0 (I 0)
theorem K20_3_eq (m : Nat) (call : CallF) : compF c20_3 (C m) call (fun e => retV (C m) (resE e Tryz.f20.results.toList)) (fun _ _ => noK) (fun e => retV (C m) (resE e Tryz.f20.results.toList)) = (fun e => K20_3 m call (e 0) (e 1) (e 6)) := by
  have u : compF c20_3 (C m) call (fun e => retV (C m) (resE e Tryz.f20.results.toList)) (fun _ _ => noK) (fun e => retV (C m) (resE e Tryz.f20.results.toList)) = (compF (pS1 (pS1 c20_3)) (C m) call (compF c20_5 (C m) call (compF c20_4 (C m) call (fun e => retV (C m) (resE e Tryz.f20.results.toList)) (fun _ _ => noK) (fun e => retV (C m) (resE e Tryz.f20.results.toList))) (fun _ _ => noK) (fun e => retV (C m) (resE e Tryz.f20.results.toList))) (fun _ _ => noK) (fun e => retV (C m) (resE e Tryz.f20.results.toList))) := by kernel_rfl
  rw [u, K20_4_eq m call , K20_5_eq m call ]
  show _ = _
  kernel_rfl
noncomputable def K20_2 (m : Nat) (call : CallF) (t0 t1 : AV) : Kt :=
 bnd (mksO (C m) 126 t1 t1) fun v0 =>
 K20_3 m call t0 t1 v0
theorem K20_2_eq (m : Nat) (call : CallF) : compF c20_2 (C m) call (fun e => retV (C m) (resE e Tryz.f20.results.toList)) (fun _ _ => noK) (fun e => retV (C m) (resE e Tryz.f20.results.toList)) = (fun e => K20_2 m call (e 0) (e 1)) := by
  have u : compF c20_2 (C m) call (fun e => retV (C m) (resE e Tryz.f20.results.toList)) (fun _ _ => noK) (fun e => retV (C m) (resE e Tryz.f20.results.toList)) = (compF (pS1 c20_2) (C m) call (compF c20_3 (C m) call (fun e => retV (C m) (resE e Tryz.f20.results.toList)) (fun _ _ => noK) (fun e => retV (C m) (resE e Tryz.f20.results.toList))) (fun _ _ => noK) (fun e => retV (C m) (resE e Tryz.f20.results.toList))) := by kernel_rfl
  rw [u, K20_3_eq m call ]
  show _ = _
  kernel_rfl
noncomputable def K20_1 (m : Nat) (call : CallF) (t0 t1 : AV) : Kt :=
 bnd (binO (C m) .lss 3 t1 (I 1)) fun v0 =>
 bnd (gdO (wantV v0 false) (fun _ => .val t1)) fun v1 =>
 bnd (gdO (wantV v0 false) (binO (C m) .gtr 3 v1 (I 7))) fun v2 =>
 bnd (pickO v0 (B true) v2) fun v3 =>
 bnd (gdO (wantV v3 false) (fun _ => .val t0)) fun v4 =>
 bnd (gdO (wantV v3 false) (binO (C m) .lss 3 v4 (I 0))) fun v5 =>
 bnd (pickO v3 (B true) v5) fun v6 =>
 bnd (gdO (wantV v6 false) (fun _ => .val t0)) fun v7 =>
 bnd (gdO (wantV v6 false) (fun _ => .val t1)) fun v8 =>
 bnd (gdO (wantV v6 false) (binO (C m) .mul 3 (I 8) v8)) fun v9 =>
 bnd (gdO (wantV v6 false) (binO (C m) .shr 3 v7 v9)) fun v10 =>
 bnd (gdO (wantV v6 false) (binO (C m) .neq 3 v10 (I 0))) fun v11 =>
 bnd (pickO v6 (B true) v11) fun v12 =>
 ifB v12
 ((retV (C m) [(none, (S [])), (none, (I 1))]))
 ((K20_2 m call t0 t1))
theorem K20_1_eq (m : Nat) (call : CallF) : compF c20_1 (C m) call (fun e => retV (C m) (resE e Tryz.f20.results.toList)) (fun _ _ => noK) (fun e => retV (C m) (resE e Tryz.f20.results.toList)) = (fun e => K20_1 m call (e 0) (e 1)) := by
  have u : compF c20_1 (C m) call (fun e => retV (C m) (resE e Tryz.f20.results.toList)) (fun _ _ => noK) (fun e => retV (C m) (resE e Tryz.f20.results.toList)) = (compF (pS1 (pS1 c20_1)) (C m) call (fun e => ifB (e 24) ((compF (pS1 (pC1 (pS2 (pS1 c20_1)))) (C m) call (fun e => retV (C m) (resE e Tryz.f20.results.toList)) (fun _ _ => noK) (fun e => retV (C m) (resE e Tryz.f20.results.toList))) e) ((compF c20_2 (C m) call (fun e => retV (C m) (resE e Tryz.f20.results.toList)) (fun _ _ => noK) (fun e => retV (C m) (resE e Tryz.f20.results.toList))) e)) (fun _ _ => noK) (fun e => retV (C m) (resE e Tryz.f20.results.toList))) := by kernel_rfl
  rw [u, K20_2_eq m call ]
  show _ = _
  kernel_rfl
noncomputable def K20_0 (m : Nat) (call : CallF) (t0 t1 : AV) : Kt :=
 K20_1 m call t0 t1
theorem K20_0_eq (m : Nat) (call : CallF) : compF c20_0 (C m) call (fun e => retV (C m) (resE e Tryz.f20.results.toList)) (fun _ _ => noK) (fun e => retV (C m) (resE e Tryz.f20.results.toList)) = (fun e => K20_0 m call (e 0) (e 1)) := by
  have u : compF c20_0 (C m) call (fun e => retV (C m) (resE e Tryz.f20.results.toList)) (fun _ _ => noK) (fun e => retV (C m) (resE e Tryz.f20.results.toList)) = (compF (pS1 c20_0) (C m) call (compF c20_1 (C m) call (fun e => retV (C m) (resE e Tryz.f20.results.toList)) (fun _ _ => noK) (fun e => retV (C m) (resE e Tryz.f20.results.toList))) (fun _ _ => noK) (fun e => retV (C m) (resE e Tryz.f20.results.toList))) := by kernel_rfl
  rw [u, K20_1_eq m call ]
  show _ = _
  kernel_rfl
theorem F20_eq (m : Nat) (call : CallF) (t0 t1 : AV) : enterK (C m) call Tryz.f20 [t0, t1] = K20_0 m call t0 t1 := by
  have u : enterK (C m) call Tryz.f20 [t0, t1] = (compF c20_0 (C m) call (fun e => retV (C m) (resE e Tryz.f20.results.toList)) (fun _ _ => noK) (fun e => retV (C m) (resE e Tryz.f20.results.toList))) (argF [t0, t1]) := by kernel_rfl
  rw [u, K20_0_eq m call]
  rfl
/-! rillmeter/ipfix.Record -/
noncomputable def c21_0 : Code := (bodyOf Tryz.f21)
noncomputable def c21_1 : Code := (pS2 c21_0)
noncomputable def c21_2 : Code := (pS2 c21_1)
noncomputable def c21_3 : Code := (pS2 c21_2)
noncomputable def c21_4 : Code := (pS2 c21_3)
noncomputable def c21_5 : Code := (pS2 (pS1 c21_3))
noncomputable def c21_6 : Code := (pL (pB c21_5))
noncomputable def c21_7 : Code := (pS2 c21_6)
noncomputable def c21_8 : Code := (pS2 c21_7)
noncomputable def c21_9 : Code := (pS2 c21_8)
noncomputable def c21_10 : Code := (pS2 (pB (pS1 c21_8)))
noncomputable def c21_11 : Code := (pS2 c21_10)
noncomputable def K21_4 (m : Nat) (call : CallF) (t6 : AV) : Kt :=
 bnd (calO (C m) call (fnV 43) [t6]) fun v0 =>
 retV (C m) [(none, v0), (none, (I 0))]
theorem K21_4_eq (m : Nat) (call : CallF) : compF c21_4 (C m) call (fun e => retV (C m) (resE e Tryz.f21.results.toList)) (fun _ _ => noK) (fun e => retV (C m) (resE e Tryz.f21.results.toList)) = (fun e => K21_4 m call (e 6)) := by
  have u : compF c21_4 (C m) call (fun e => retV (C m) (resE e Tryz.f21.results.toList)) (fun _ _ => noK) (fun e => retV (C m) (resE e Tryz.f21.results.toList)) = (compF (pS1 c21_4) (C m) call (fun e => retV (C m) (resE e Tryz.f21.results.toList)) (fun _ _ => noK) (fun e => retV (C m) (resE e Tryz.f21.results.toList))) := by kernel_rfl
  rw [u]
  show _ = _
  kernel_rfl
noncomputable def K21_9 (m : Nat) (call : CallF) (h6 : AV → AV → AV → AV → AV → Kt) (t2 t6 t21 t22 t23 : AV) : Kt :=
 bnd (binO (C m) .add 3 t23 (I 1)) fun v0 =>
 h6 t2 t6 t21 t22 v0
theorem K21_9_eq (m : Nat) (call : CallF) (h6 : AV → AV → AV → AV → AV → Kt) : compF c21_9 (C m) call (fun e => h6 (e 2) (e 6) (e 21) (e 22) (e 23)) (exitF 0 (fun e => K21_4 m call (e 6)) (fun _ _ => noK)) (fun e => retV (C m) (resE e Tryz.f21.results.toList)) = (fun e => K21_9 m call h6 (e 2) (e 6) (e 21) (e 22) (e 23)) := by
  have u : compF c21_9 (C m) call (fun e => h6 (e 2) (e 6) (e 21) (e 22) (e 23)) (exitF 0 (fun e => K21_4 m call (e 6)) (fun _ _ => noK)) (fun e => retV (C m) (resE e Tryz.f21.results.toList)) = (compF c21_9 (C m) call (fun e => h6 (e 2) (e 6) (e 21) (e 22) (e 23)) (exitF 0 (fun e => K21_4 m call (e 6)) (fun _ _ => noK)) (fun e => retV (C m) (resE e Tryz.f21.results.toList))) := by kernel_rfl
  rw [u]
  show _ = _
  kernel_rfl
noncomputable def K21_11 (m : Nat) (call : CallF) (h6 : AV → AV → AV → AV → AV → Kt) (t2 t6 t8 t21 t22 t23 : AV) : Kt :=
 bnd (calO (C m) call (fnV 40) [t6, t8]) fun v0 =>
 K21_9 m call h6 t2 t6 t21 t22 t23
theorem K21_11_eq (m : Nat) (call : CallF) (h6 : AV → AV → AV → AV → AV → Kt) : compF c21_11 (C m) call (fun e => K21_9 m call h6 (e 2) (e 6) (e 21) (e 22) (e 23)) (exitF 1 (fun e => K21_9 m call h6 (e 2) (e 6) (e 21) (e 22) (e 23)) (exitF 0 (fun e => K21_4 m call (e 6)) (fun _ _ => noK))) (fun e => retV (C m) (resE e Tryz.f21.results.toList)) = (fun e => K21_11 m call h6 (e 2) (e 6) (e 8) (e 21) (e 22) (e 23)) := by
  have u : compF c21_11 (C m) call (fun e => K21_9 m call h6 (e 2) (e 6) (e 21) (e 22) (e 23)) (exitF 1 (fun e => K21_9 m call h6 (e 2) (e 6) (e 21) (e 22) (e 23)) (exitF 0 (fun e => K21_4 m call (e 6)) (fun _ _ => noK))) (fun e => retV (C m) (resE e Tryz.f21.results.toList)) = (compF c21_11 (C m) call (fun e => K21_9 m call h6 (e 2) (e 6) (e 21) (e 22) (e 23)) (exitF 1 (fun e => K21_9 m call h6 (e 2) (e 6) (e 21) (e 22) (e 23)) (exitF 0 (fun e => K21_4 m call (e 6)) (fun _ _ => noK))) (fun e => retV (C m) (resE e Tryz.f21.results.toList))) := by kernel_rfl
  rw [u]
  show _ = _
  kernel_rfl
noncomputable def K21_10 (m : Nat) (call : CallF) (h6 : AV → AV → AV → AV → AV → Kt) (t2 t6 t7 t8 t21 t22 t23 : AV) : Kt :=
 bnd (fadO (C m) 35 t2 1) fun v0 =>
 bnd (ldO (C m) 33 v0) fun v1 =>
 bnd (iadO (C m) 33 v1 t7) fun v2 =>
 bnd (fadO (C m) 41 v2 1) fun v3 =>
 bnd (ldO (C m) 3 v3) fun v4 =>
 bnd (binO (C m) .neq 3 v4 (I 65535)) fun v5 =>
 bnd (gdO (wantV v5 true) (fun _ => .val t8)) fun v6 =>
 bnd (gdO (wantV v5 true) (bltO (C m) .len [9] [v6])) fun v7 =>
 bnd (gdO (wantV v5 true) (fun _ => .val v4)) fun v8 =>
 bnd (gdO (wantV v5 true) (binO (C m) .neq 3 v7 v8)) fun v9 =>
 bnd (pickO v5 v9 (B false)) fun v10 =>
 bnd (gdO (wantV v10 false) (fun _ => .val t8)) fun v11 =>
 bnd (gdO (wantV v10 false) (bltO (C m) .len [9] [v11])) fun v12 =>
 bnd (gdO (wantV v10 false) (binO (C m) .gtr 3 v12 (I 65535))) fun v13 =>
 bnd (pickO v10 (B true) v13) fun v14 =>
 ifB v14
 ((retV (C m) [(none, (S [])), (none, (I 1))]))
 ((bnd (binO (C m) .eql 3 v4 (I 65535)) fun v15 =>
 bnd (gdO (wantV v15 true) (fun _ => .val t8)) fun v16 =>
 bnd (gdO (wantV v15 true) (bltO (C m) .len [9] [v16])) fun v17 =>
 bnd (gdO (wantV v15 true) (binO (C m) .lss 3 v17 (I 255))) fun v18 =>
 bnd (pickO v15 v18 (B false)) fun v19 =>
 ifB v19
 ((bnd (bltO (C m) .len [9] [t8]) fun v20 =>
 bnd (calO (C m) call (fnV 41) [v20, (I 1)]) fun v21 =>
 bnd (calO (C m) call (fnV 40) [t6, v21]) fun v22 =>
 K21_11 m call h6 t2 t6 t8 t21 t22 t23))
 ((bnd (binO (C m) .eql 3 v4 (I 65535)) fun v23 =>
 ifB v23
 ((bnd (calO (C m) call (fnV 41) [(I 255), (I 1)]) fun v24 =>
 bnd (bltO (C m) .len [9] [t8]) fun v25 =>
 bnd (calO (C m) call (fnV 41) [v25, (I 2)]) fun v26 =>
 bnd (binO (C m) .add 9 v24 v26) fun v27 =>
 bnd (calO (C m) call (fnV 40) [t6, v27]) fun v28 =>
 K21_11 m call h6 t2 t6 t8 t21 t22 t23))
 ((K21_11 m call h6 t2 t6 t8 t21 t22 t23))))))
theorem K21_10_eq (m : Nat) (call : CallF) (h6 : AV → AV → AV → AV → AV → Kt) : compF c21_10 (C m) call (fun e => K21_9 m call h6 (e 2) (e 6) (e 21) (e 22) (e 23)) (exitF 1 (fun e => K21_9 m call h6 (e 2) (e 6) (e 21) (e 22) (e 23)) (exitF 0 (fun e => K21_4 m call (e 6)) (fun _ _ => noK))) (fun e => retV (C m) (resE e Tryz.f21.results.toList)) = (fun e => K21_10 m call h6 (e 2) (e 6) (e 7) (e 8) (e 21) (e 22) (e 23)) := by
  have u : compF c21_10 (C m) call (fun e => K21_9 m call h6 (e 2) (e 6) (e 21) (e 22) (e 23)) (exitF 1 (fun e => K21_9 m call h6 (e 2) (e 6) (e 21) (e 22) (e 23)) (exitF 0 (fun e => K21_4 m call (e 6)) (fun _ _ => noK))) (fun e => retV (C m) (resE e Tryz.f21.results.toList)) = (compF (pS1 (pS1 c21_10)) (C m) call (compF (pS1 (pB (pS2 (pS1 c21_10)))) (C m) call (fun e => ifB (e 34) ((compF (pS1 (pC1 (pS2 (pB (pS2 (pS1 c21_10)))))) (C m) call (fun e => retV (C m) (resE e Tryz.f21.results.toList)) (exitF 2 (compF c21_11 (C m) call (fun e => K21_9 m call h6 (e 2) (e 6) (e 21) (e 22) (e 23)) (exitF 1 (fun e => K21_9 m call h6 (e 2) (e 6) (e 21) (e 22) (e 23)) (exitF 0 (fun e => K21_4 m call (e 6)) (fun _ _ => noK))) (fun e => retV (C m) (resE e Tryz.f21.results.toList))) (exitF 1 (fun e => K21_9 m call h6 (e 2) (e 6) (e 21) (e 22) (e 23)) (exitF 0 (fun e => K21_4 m call (e 6)) (fun _ _ => noK)))) (fun e => retV (C m) (resE e Tryz.f21.results.toList))) e) ((compF (pS1 (pC2 (pS2 (pB (pS2 (pS1 c21_10)))))) (C m) call (fun e => ifB (e 48) ((compF (pC1 (pS2 (pC2 (pS2 (pB (pS2 (pS1 c21_10))))))) (C m) call (compF c21_11 (C m) call (fun e => K21_9 m call h6 (e 2) (e 6) (e 21) (e 22) (e 23)) (exitF 1 (fun e => K21_9 m call h6 (e 2) (e 6) (e 21) (e 22) (e 23)) (exitF 0 (fun e => K21_4 m call (e 6)) (fun _ _ => noK))) (fun e => retV (C m) (resE e Tryz.f21.results.toList))) (exitF 2 (compF c21_11 (C m) call (fun e => K21_9 m call h6 (e 2) (e 6) (e 21) (e 22) (e 23)) (exitF 1 (fun e => K21_9 m call h6 (e 2) (e 6) (e 21) (e 22) (e 23)) (exitF 0 (fun e => K21_4 m call (e 6)) (fun _ _ => noK))) (fun e => retV (C m) (resE e Tryz.f21.results.toList))) (exitF 1 (fun e => K21_9 m call h6 (e 2) (e 6) (e 21) (e 22) (e 23)) (exitF 0 (fun e => K21_4 m call (e 6)) (fun _ _ => noK)))) (fun e => retV (C m) (resE e Tryz.f21.results.toList))) e) ((compF (pS1 (pC2 (pS2 (pC2 (pS2 (pB (pS2 (pS1 c21_10)))))))) (C m) call (fun e => ifB (e 60) ((compF (pC1 (pS2 (pC2 (pS2 (pC2 (pS2 (pB (pS2 (pS1 c21_10))))))))) (C m) call (compF c21_11 (C m) call (fun e => K21_9 m call h6 (e 2) (e 6) (e 21) (e 22) (e 23)) (exitF 1 (fun e => K21_9 m call h6 (e 2) (e 6) (e 21) (e 22) (e 23)) (exitF 0 (fun e => K21_4 m call (e 6)) (fun _ _ => noK))) (fun e => retV (C m) (resE e Tryz.f21.results.toList))) (exitF 2 (compF c21_11 (C m) call (fun e => K21_9 m call h6 (e 2) (e 6) (e 21) (e 22) (e 23)) (exitF 1 (fun e => K21_9 m call h6 (e 2) (e 6) (e 21) (e 22) (e 23)) (exitF 0 (fun e => K21_4 m call (e 6)) (fun _ _ => noK))) (fun e => retV (C m) (resE e Tryz.f21.results.toList))) (exitF 1 (fun e => K21_9 m call h6 (e 2) (e 6) (e 21) (e 22) (e 23)) (exitF 0 (fun e => K21_4 m call (e 6)) (fun _ _ => noK)))) (fun e => retV (C m) (resE e Tryz.f21.results.toList))) e) ((compF c21_11 (C m) call (fun e => K21_9 m call h6 (e 2) (e 6) (e 21) (e 22) (e 23)) (exitF 1 (fun e => K21_9 m call h6 (e 2) (e 6) (e 21) (e 22) (e 23)) (exitF 0 (fun e => K21_4 m call (e 6)) (fun _ _ => noK))) (fun e => retV (C m) (resE e Tryz.f21.results.toList))) e)) (exitF 2 (compF c21_11 (C m) call (fun e => K21_9 m call h6 (e 2) (e 6) (e 21) (e 22) (e 23)) (exitF 1 (fun e => K21_9 m call h6 (e 2) (e 6) (e 21) (e 22) (e 23)) (exitF 0 (fun e => K21_4 m call (e 6)) (fun _ _ => noK))) (fun e => retV (C m) (resE e Tryz.f21.results.toList))) (exitF 1 (fun e => K21_9 m call h6 (e 2) (e 6) (e 21) (e 22) (e 23)) (exitF 0 (fun e => K21_4 m call (e 6)) (fun _ _ => noK)))) (fun e => retV (C m) (resE e Tryz.f21.results.toList))) e)) (exitF 2 (compF c21_11 (C m) call (fun e => K21_9 m call h6 (e 2) (e 6) (e 21) (e 22) (e 23)) (exitF 1 (fun e => K21_9 m call h6 (e 2) (e 6) (e 21) (e 22) (e 23)) (exitF 0 (fun e => K21_4 m call (e 6)) (fun _ _ => noK))) (fun e => retV (C m) (resE e Tryz.f21.results.toList))) (exitF 1 (fun e => K21_9 m call h6 (e 2) (e 6) (e 21) (e 22) (e 23)) (exitF 0 (fun e => K21_4 m call (e 6)) (fun _ _ => noK)))) (fun e => retV (C m) (resE e Tryz.f21.results.toList))) e)) (exitF 2 (compF c21_11 (C m) call (fun e => K21_9 m call h6 (e 2) (e 6) (e 21) (e 22) (e 23)) (exitF 1 (fun e => K21_9 m call h6 (e 2) (e 6) (e 21) (e 22) (e 23)) (exitF 0 (fun e => K21_4 m call (e 6)) (fun _ _ => noK))) (fun e => retV (C m) (resE e Tryz.f21.results.toList))) (exitF 1 (fun e => K21_9 m call h6 (e 2) (e 6) (e 21) (e 22) (e 23)) (exitF 0 (fun e => K21_4 m call (e 6)) (fun _ _ => noK)))) (fun e => retV (C m) (resE e Tryz.f21.results.toList))) (exitF 1 (fun e => K21_9 m call h6 (e 2) (e 6) (e 21) (e 22) (e 23)) (exitF 0 (fun e => K21_4 m call (e 6)) (fun _ _ => noK))) (fun e => retV (C m) (resE e Tryz.f21.results.toList))) := by kernel_rfl
  rw [u, K21_11_eq m call h6 ]
  show _ = _
  kernel_rfl
noncomputable def K21_8 (m : Nat) (call : CallF) (h6 : AV → AV → AV → AV → AV → Kt) (t2 t6 t21 t22 t23 : AV) : Kt :=
 bnd (iadO (C m) 88 t21 t23) fun v0 =>
 bnd (ldO (C m) 9 v0) fun v1 =>
 K21_10 m call h6 t2 t6 t23 v1 t21 t22 t23
theorem K21_8_eq (m : Nat) (call : CallF) (h6 : AV → AV → AV → AV → AV → Kt) : compF c21_8 (C m) call (fun e => h6 (e 2) (e 6) (e 21) (e 22) (e 23)) (exitF 0 (fun e => K21_4 m call (e 6)) (fun _ _ => noK)) (fun e => retV (C m) (resE e Tryz.f21.results.toList)) = (fun e => K21_8 m call h6 (e 2) (e 6) (e 21) (e 22) (e 23)) := by
  have u : compF c21_8 (C m) call (fun e => h6 (e 2) (e 6) (e 21) (e 22) (e 23)) (exitF 0 (fun e => K21_4 m call (e 6)) (fun _ _ => noK)) (fun e => retV (C m) (resE e Tryz.f21.results.toList)) = (compF (pS1 (pB (pS1 c21_8))) (C m) call (compF c21_10 (C m) call (compF c21_9 (C m) call (fun e => h6 (e 2) (e 6) (e 21) (e 22) (e 23)) (exitF 0 (fun e => K21_4 m call (e 6)) (fun _ _ => noK)) (fun e => retV (C m) (resE e Tryz.f21.results.toList))) (exitF 1 (compF c21_9 (C m) call (fun e => h6 (e 2) (e 6) (e 21) (e 22) (e 23)) (exitF 0 (fun e => K21_4 m call (e 6)) (fun _ _ => noK)) (fun e => retV (C m) (resE e Tryz.f21.results.toList))) (exitF 0 (fun e => K21_4 m call (e 6)) (fun _ _ => noK))) (fun e => retV (C m) (resE e Tryz.f21.results.toList))) (exitF 1 (compF c21_9 (C m) call (fun e => h6 (e 2) (e 6) (e 21) (e 22) (e 23)) (exitF 0 (fun e => K21_4 m call (e 6)) (fun _ _ => noK)) (fun e => retV (C m) (resE e Tryz.f21.results.toList))) (exitF 0 (fun e => K21_4 m call (e 6)) (fun _ _ => noK))) (fun e => retV (C m) (resE e Tryz.f21.results.toList))) := by kernel_rfl
  rw [u, K21_9_eq m call h6 , K21_10_eq m call h6 ]
  show _ = _
  kernel_rfl
noncomputable def K21_7 (m : Nat) (call : CallF) (h6 : AV → AV → AV → AV → AV → Kt) (t2 t6 t21 t22 t23 t24 : AV) : Kt :=
 ifB t24
 ((K21_8 m call h6 t2 t6 t21 t22 t23))
 ((K21_4 m call t6))
theorem K21_7_eq (m : Nat) (call : CallF) (h6 : AV → AV → AV → AV → AV → Kt) : compF c21_7 (C m) call (fun e => h6 (e 2) (e 6) (e 21) (e 22) (e 23)) (exitF 0 (fun e => K21_4 m call (e 6)) (fun _ _ => noK)) (fun e => retV (C m) (resE e Tryz.f21.results.toList)) = (fun e => K21_7 m call h6 (e 2) (e 6) (e 21) (e 22) (e 23) (e 24)) := by
  have u : compF c21_7 (C m) call (fun e => h6 (e 2) (e 6) (e 21) (e 22) (e 23)) (exitF 0 (fun e => K21_4 m call (e 6)) (fun _ _ => noK)) (fun e => retV (C m) (resE e Tryz.f21.results.toList)) = (fun e => ifB (e 24) ((compF c21_8 (C m) call (fun e => h6 (e 2) (e 6) (e 21) (e 22) (e 23)) (exitF 0 (fun e => K21_4 m call (e 6)) (fun _ _ => noK)) (fun e => retV (C m) (resE e Tryz.f21.results.toList))) e) ((fun e => K21_4 m call (e 6)) e)) := by kernel_rfl
  rw [u, K21_8_eq m call h6 ]
  show _ = _
  kernel_rfl
noncomputable def L21_6_b (m : Nat) (call : CallF) (h6 : AV → AV → AV → AV → AV → Kt) (t2 t6 t21 t22 t23 : AV) : Kt :=
 bnd (binO (C m) .lss 3 t23 t22) fun v0 =>
 K21_7 m call h6 t2 t6 t21 t22 t23 v0
noncomputable def L21_6 (m : Nat) (call : CallF) (n : Nat) : AV → AV → AV → AV → AV → Kt :=
 Nat.rec (motive := fun _ => AV → AV → AV → AV → AV → Kt) (fun t2 t6 t21 t22 t23 => noK) (fun _ ih => L21_6_b m call ih) n
theorem L21_6_b_eq (m : Nat) (call : CallF) (h6 : AV → AV → AV → AV → AV → Kt) : compF c21_6 (C m) call (fun e => h6 (e 2) (e 6) (e 21) (e 22) (e 23)) (exitF 0 (fun e => K21_4 m call (e 6)) (fun _ _ => noK)) (fun e => retV (C m) (resE e Tryz.f21.results.toList)) = fun e => L21_6_b m call h6 (e 2) (e 6) (e 21) (e 22) (e 23) := by
  have u : compF c21_6 (C m) call (fun e => h6 (e 2) (e 6) (e 21) (e 22) (e 23)) (exitF 0 (fun e => K21_4 m call (e 6)) (fun _ _ => noK)) (fun e => retV (C m) (resE e Tryz.f21.results.toList)) = (compF (pS1 c21_6) (C m) call (compF c21_7 (C m) call (fun e => h6 (e 2) (e 6) (e 21) (e 22) (e 23)) (exitF 0 (fun e => K21_4 m call (e 6)) (fun _ _ => noK)) (fun e => retV (C m) (resE e Tryz.f21.results.toList))) (exitF 0 (fun e => K21_4 m call (e 6)) (fun _ _ => noK)) (fun e => retV (C m) (resE e Tryz.f21.results.toList))) := by kernel_rfl
  rw [u, K21_7_eq m call h6 ]
  show _ = _
  kernel_rfl
theorem L21_6_eq (m : Nat) (call : CallF) (n : Nat) : (loopF (fun k => compF c21_6 (C m) call k (exitF 0 (fun e => K21_4 m call (e 6)) (fun _ _ => noK)) (fun e => retV (C m) (resE e Tryz.f21.results.toList))) n) = (fun e => L21_6 m call n (e 2) (e 6) (e 21) (e 22) (e 23)) := by
  induction n with
  | zero => rfl
  | succ n ih =>
    show compF c21_6 (C m) call (loopF (fun k => compF c21_6 (C m) call k (exitF 0 (fun e => K21_4 m call (e 6)) (fun _ _ => noK)) (fun e => retV (C m) (resE e Tryz.f21.results.toList))) n) (exitF 0 (fun e => K21_4 m call (e 6)) (fun _ _ => noK)) (fun e => retV (C m) (resE e Tryz.f21.results.toList)) = _
    rw [ih, L21_6_b_eq m call (L21_6 m call n)]
    rfl
theorem L21_6_succ (m : Nat) (call : CallF) (n : Nat) : L21_6 m call (n + 1) = L21_6_b m call (L21_6 m call n) := rfl
noncomputable def K21_5 (m : Nat) (call : CallF) (t2 t6 t21 t22 t23 : AV) : Kt :=
 L21_6 m call m t2 t6 t21 t22 t23
theorem K21_5_eq (m : Nat) (call : CallF) : compF c21_5 (C m) call (fun e => K21_4 m call (e 6)) (fun _ _ => noK) (fun e => retV (C m) (resE e Tryz.f21.results.toList)) = (fun e => K21_5 m call (e 2) (e 6) (e 21) (e 22) (e 23)) := by
  have u : compF c21_5 (C m) call (fun e => K21_4 m call (e 6)) (fun _ _ => noK) (fun e => retV (C m) (resE e Tryz.f21.results.toList)) = (loopF (fun k => compF c21_6 (C m) call k (exitF 0 (fun e => K21_4 m call (e 6)) (fun _ _ => noK)) (fun e => retV (C m) (resE e Tryz.f21.results.toList))) m) := by kernel_rfl
  rw [u, L21_6_eq m call m]
  show _ = _
  kernel_rfl
noncomputable def K21_3 (m : Nat) (call : CallF) (t1 t2 t6 : AV) : Kt :=
 bnd (bltO (C m) .len [88] [t1]) fun v0 =>
 K21_5 m call t2 t6 t1 v0 (I 0)
theorem K21_3_eq (m : Nat) (call : CallF) : compF c21_3 (C m) call (fun e => retV (C m) (resE e Tryz.f21.results.toList)) (fun _ _ => noK) (fun e => retV (C m) (resE e Tryz.f21.results.toList)) = (fun e => K21_3 m call (e 1) (e 2) (e 6)) := by
  have u : compF c21_3 (C m) call (fun e => retV (C m) (resE e Tryz.f21.results.toList)) (fun _ _ => noK) (fun e => retV (C m) (resE e Tryz.f21.results.toList)) = (compF (pS1 (pS1 c21_3)) (C m) call (compF c21_5 (C m) call (compF c21_4 (C m) call (fun e => retV (C m) (resE e Tryz.f21.results.toList)) (fun _ _ => noK) (fun e => retV (C m) (resE e Tryz.f21.results.toList))) (fun _ _ => noK) (fun e => retV (C m) (resE e Tryz.f21.results.toList))) (fun _ _ => noK) (fun e => retV (C m) (resE e Tryz.f21.results.toList))) := by kernel_rfl
  rw [u, K21_4_eq m call , K21_5_eq m call ]
  show _ = _
  kernel_rfl
noncomputable def K21_2 (m : Nat) (call : CallF) (t1 t2 : AV) : Kt :=
 bnd (newO (C m) 128) fun v0 =>
 K21_3 m call t1 t2 v0
theorem K21_2_eq (m : Nat) (call : CallF) : compF c21_2 (C m) call (fun e => retV (C m) (resE e Tryz.f21.results.toList)) (fun _ _ => noK) (fun e => retV (C m) (resE e Tryz.f21.results.toList)) = (fun e => K21_2 m call (e 1) (e 2)) := by
  have u : compF c21_2 (C m) call (fun e => retV (C m) (resE e Tryz.f21.results.toList)) (fun _ _ => noK) (fun e => retV (C m) (resE e Tryz.f21.results.toList)) = (compF (pS1 c21_2) (C m) call (compF c21_3 (C m) call (fun e => retV (C m) (resE e Tryz.f21.results.toList)) (fun _ _ => noK) (fun e => retV (C m) (resE e Tryz.f21.results.toList))) (fun _ _ => noK) (fun e => retV (C m) (resE e Tryz.f21.results.toList))) := by kernel_rfl
  rw [u, K21_3_eq m call ]
  show _ = _
  kernel_rfl
noncomputable def K21_1 (m : Nat) (call : CallF) (t1 t2 : AV) : Kt :=
 bnd (ldO (C m) 35 t2) fun v0 =>
 bnd (calO (C m) call (fnV 44) [v0]) fun v1 =>
 bnd (unO .not v1) fun v2 =>
 bnd (gdO (wantV v2 false) (fun _ => .val t1)) fun v3 =>
 bnd (gdO (wantV v2 false) (bltO (C m) .len [88] [v3])) fun v4 =>
 bnd (gdO (wantV v2 false) (fadO (C m) 35 t2 1)) fun v5 =>
 bnd (gdO (wantV v2 false) (ldO (C m) 33 v5)) fun v6 =>
 bnd (gdO (wantV v2 false) (bltO (C m) .len [33] [v6])) fun v7 =>
 bnd (gdO (wantV v2 false) (binO (C m) .neq 3 v4 v7)) fun v8 =>
 bnd (pickO v2 (B true) v8) fun v9 =>
 ifB v9
 ((retV (C m) [(none, (S [])), (none, (I 1))]))
 ((K21_2 m call t1 t2))
theorem K21_1_eq (m : Nat) (call : CallF) : compF c21_1 (C m) call (fun e => retV (C m) (resE e Tryz.f21.results.toList)) (fun _ _ => noK) (fun e => retV (C m) (resE e Tryz.f21.results.toList)) = (fun e => K21_1 m call (e 1) (e 2)) := by
  have u : compF c21_1 (C m) call (fun e => retV (C m) (resE e Tryz.f21.results.toList)) (fun _ _ => noK) (fun e => retV (C m) (resE e Tryz.f21.results.toList)) = (compF (pS1 (pS1 c21_1)) (C m) call (fun e => ifB (e 20) ((compF (pS1 (pC1 (pS2 (pS1 c21_1)))) (C m) call (fun e => retV (C m) (resE e Tryz.f21.results.toList)) (fun _ _ => noK) (fun e => retV (C m) (resE e Tryz.f21.results.toList))) e) ((compF c21_2 (C m) call (fun e => retV (C m) (resE e Tryz.f21.results.toList)) (fun _ _ => noK) (fun e => retV (C m) (resE e Tryz.f21.results.toList))) e)) (fun _ _ => noK) (fun e => retV (C m) (resE e Tryz.f21.results.toList))) := by kernel_rfl
  rw [u, K21_2_eq m call ]
  show _ = _
  kernel_rfl
noncomputable def K21_0 (m : Nat) (call : CallF) (t0 t1 : AV) : Kt :=
 bnd (boxO 35 t0) fun v0 =>
 K21_1 m call t1 v0
theorem K21_0_eq (m : Nat) (call : CallF) : compF c21_0 (C m) call (fun e => retV (C m) (resE e Tryz.f21.results.toList)) (fun _ _ => noK) (fun e => retV (C m) (resE e Tryz.f21.results.toList)) = (fun e => K21_0 m call (e 0) (e 1)) := by
  have u : compF c21_0 (C m) call (fun e => retV (C m) (resE e Tryz.f21.results.toList)) (fun _ _ => noK) (fun e => retV (C m) (resE e Tryz.f21.results.toList)) = (compF (pS1 c21_0) (C m) call (compF c21_1 (C m) call (fun e => retV (C m) (resE e Tryz.f21.results.toList)) (fun _ _ => noK) (fun e => retV (C m) (resE e Tryz.f21.results.toList))) (fun _ _ => noK) (fun e => retV (C m) (resE e Tryz.f21.results.toList))) := by kernel_rfl
  rw [u, K21_1_eq m call ]
  show _ = _
  kernel_rfl
theorem F21_eq (m : Nat) (call : CallF) (t0 t1 : AV) : enterK (C m) call Tryz.f21 [t0, t1] = K21_0 m call t0 t1 := by
  have u : enterK (C m) call Tryz.f21 [t0, t1] = (compF c21_0 (C m) call (fun e => retV (C m) (resE e Tryz.f21.results.toList)) (fun _ _ => noK) (fun e => retV (C m) (resE e Tryz.f21.results.toList))) (argF [t0, t1]) := by kernel_rfl
  rw [u, K21_0_eq m call]
  rfl
/-! rillmeter/rillmeterref22.Right -/
noncomputable def c23_0 : Code := (bodyOf Tryz.f23)
noncomputable def c23_1 : Code := (pS2 c23_0)
noncomputable def c23_2 : Code := (pS2 c23_1)
noncomputable def c23_3 : Code := (pS2 (pS1 c23_1))
noncomputable def c23_4 : Code := (pL (pB c23_3))
noncomputable def c23_5 : Code := (pS2 c23_4)
noncomputable def c23_6 : Code := (pS2 c23_5)
noncomputable def c23_7 : Code := (pS2 (pB (pS1 c23_5)))
noncomputable def c23_8 : Code := (pS2 c23_7)
noncomputable def c23_9 : Code := (pS2 c23_8)
noncomputable def c23_10 : Code := (pL (pB c23_9))
noncomputable def c23_11 : Code := (pS2 c23_10)
noncomputable def c23_12 : Code := (pS2 c23_11)
noncomputable def K23_2 (m : Nat) (call : CallF) (t1 : AV) : Kt :=
 bnd (fadO (C m) 94 t1 0) fun v0 =>
 bnd (ldO (C m) 3 v0) fun v1 =>
 bnd (calO (C m) call (fnV 46) [v1, (I 0), (I 4294967295)]) fun v2 =>
 bnd (gdO (wantV v2 true) (fadO (C m) 94 t1 1)) fun v3 =>
 bnd (gdO (wantV v2 true) (ldO (C m) 3 v3)) fun v4 =>
 bnd (gdO (wantV v2 true) (calO (C m) call (fnV 46) [v4, (I 0), (I 4294967295)])) fun v5 =>
 bnd (pickO v2 v5 (B false)) fun v6 =>
 bnd (gdO (wantV v6 true) (fadO (C m) 94 t1 2)) fun v7 =>
 bnd (gdO (wantV v6 true) (ldO (C m) 3 v7)) fun v8 =>
 bnd (gdO (wantV v6 true) (calO (C m) call (fnV 46) [v8, (I 0), (I 4294967295)])) fun v9 =>
 bnd (pickO v6 v9 (B false)) fun v10 =>
 retV (C m) [(none, v10)]
theorem K23_2_eq (m : Nat) (call : CallF) : compF c23_2 (C m) call (fun e => retV (C m) (resE e Tryz.f23.results.toList)) (fun _ _ => noK) (fun e => retV (C m) (resE e Tryz.f23.results.toList)) = (fun e => K23_2 m call (e 1)) := by
  have u : compF c23_2 (C m) call (fun e => retV (C m) (resE e Tryz.f23.results.toList)) (fun _ _ => noK) (fun e => retV (C m) (resE e Tryz.f23.results.toList)) = (compF (pS1 c23_2) (C m) call (fun e => retV (C m) (resE e Tryz.f23.results.toList)) (fun _ _ => noK) (fun e => retV (C m) (resE e Tryz.f23.results.toList))) := by kernel_rfl
  rw [u]
  show _ = _
  kernel_rfl
noncomputable def K23_6 (m : Nat) (call : CallF) (h4 : AV → AV → Kt) (t1 t3 : AV) : Kt :=
 bnd (binO (C m) .add 3 t3 (I 1)) fun v0 =>
 h4 t1 v0
theorem K23_6_eq (m : Nat) (call : CallF) (h4 : AV → AV → Kt) : compF c23_6 (C m) call (fun e => h4 (e 1) (e 3)) (exitF 0 (fun e => K23_2 m call (e 1)) (fun _ _ => noK)) (fun e => retV (C m) (resE e Tryz.f23.results.toList)) = (fun e => K23_6 m call h4 (e 1) (e 3)) := by
  have u : compF c23_6 (C m) call (fun e => h4 (e 1) (e 3)) (exitF 0 (fun e => K23_2 m call (e 1)) (fun _ _ => noK)) (fun e => retV (C m) (resE e Tryz.f23.results.toList)) = (compF c23_6 (C m) call (fun e => h4 (e 1) (e 3)) (exitF 0 (fun e => K23_2 m call (e 1)) (fun _ _ => noK)) (fun e => retV (C m) (resE e Tryz.f23.results.toList))) := by kernel_rfl
  rw [u]
  show _ = _
  kernel_rfl
noncomputable def K23_12 (m : Nat) (call : CallF) (h4 : AV → AV → Kt) (h10 : AV → AV → AV → AV → Kt) (t1 t3 t4 t5 : AV) : Kt :=
 bnd (binO (C m) .add 3 t5 (I 1)) fun v0 =>
 h10 t1 t3 t4 v0
theorem K23_12_eq (m : Nat) (call : CallF) (h4 : AV → AV → Kt) (h10 : AV → AV → AV → AV → Kt) : compF c23_12 (C m) call (fun e => h10 (e 1) (e 3) (e 4) (e 5)) (exitF 2 (fun e => K23_6 m call h4 (e 1) (e 3)) (exitF 1 (fun e => K23_6 m call h4 (e 1) (e 3)) (exitF 0 (fun e => K23_2 m call (e 1)) (fun _ _ => noK)))) (fun e => retV (C m) (resE e Tryz.f23.results.toList)) = (fun e => K23_12 m call h4 h10 (e 1) (e 3) (e 4) (e 5)) := by
  have u : compF c23_12 (C m) call (fun e => h10 (e 1) (e 3) (e 4) (e 5)) (exitF 2 (fun e => K23_6 m call h4 (e 1) (e 3)) (exitF 1 (fun e => K23_6 m call h4 (e 1) (e 3)) (exitF 0 (fun e => K23_2 m call (e 1)) (fun _ _ => noK)))) (fun e => retV (C m) (resE e Tryz.f23.results.toList)) = (compF c23_12 (C m) call (fun e => h10 (e 1) (e 3) (e 4) (e 5)) (exitF 2 (fun e => K23_6 m call h4 (e 1) (e 3)) (exitF 1 (fun e => K23_6 m call h4 (e 1) (e 3)) (exitF 0 (fun e => K23_2 m call (e 1)) (fun _ _ => noK)))) (fun e => retV (C m) (resE e Tryz.f23.results.toList))) := by kernel_rfl
  rw [u]
  show _ = _
  kernel_rfl
noncomputable def K23_11 (m : Nat) (call : CallF) (h4 : AV → AV → Kt) (h10 : AV → AV → AV → AV → Kt) (t1 t3 t4 t5 : AV) : Kt :=
 bnd (fadO (C m) 91 t4 1) fun v0 =>
 bnd (ldO (C m) 89 v0) fun v1 =>
 bnd (iadO (C m) 89 v1 t5) fun v2 =>
 bnd (ldO (C m) 39 v2) fun v3 =>
 bnd (calO (C m) call (fnV 47) [v3]) fun v4 =>
 bnd (unO .not v4) fun v5 =>
 ifB v5
 ((retV (C m) [(none, (B false))]))
 ((K23_12 m call h4 h10 t1 t3 t4 t5))
theorem K23_11_eq (m : Nat) (call : CallF) (h4 : AV → AV → Kt) (h10 : AV → AV → AV → AV → Kt) : compF c23_11 (C m) call (fun e => h10 (e 1) (e 3) (e 4) (e 5)) (exitF 2 (fun e => K23_6 m call h4 (e 1) (e 3)) (exitF 1 (fun e => K23_6 m call h4 (e 1) (e 3)) (exitF 0 (fun e => K23_2 m call (e 1)) (fun _ _ => noK)))) (fun e => retV (C m) (resE e Tryz.f23.results.toList)) = (fun e => K23_11 m call h4 h10 (e 1) (e 3) (e 4) (e 5)) := by
  have u : compF c23_11 (C m) call (fun e => h10 (e 1) (e 3) (e 4) (e 5)) (exitF 2 (fun e => K23_6 m call h4 (e 1) (e 3)) (exitF 1 (fun e => K23_6 m call h4 (e 1) (e 3)) (exitF 0 (fun e => K23_2 m call (e 1)) (fun _ _ => noK)))) (fun e => retV (C m) (resE e Tryz.f23.results.toList)) = (compF (pS1 (pB (pS1 c23_11))) (C m) call (fun e => ifB (e 54) ((compF (pS1 (pC1 (pS2 (pB (pS1 c23_11))))) (C m) call (fun e => retV (C m) (resE e Tryz.f23.results.toList)) (exitF 3 (compF c23_12 (C m) call (fun e => h10 (e 1) (e 3) (e 4) (e 5)) (exitF 2 (fun e => K23_6 m call h4 (e 1) (e 3)) (exitF 1 (fun e => K23_6 m call h4 (e 1) (e 3)) (exitF 0 (fun e => K23_2 m call (e 1)) (fun _ _ => noK)))) (fun e => retV (C m) (resE e Tryz.f23.results.toList))) (exitF 2 (fun e => K23_6 m call h4 (e 1) (e 3)) (exitF 1 (fun e => K23_6 m call h4 (e 1) (e 3)) (exitF 0 (fun e => K23_2 m call (e 1)) (fun _ _ => noK))))) (fun e => retV (C m) (resE e Tryz.f23.results.toList))) e) ((compF c23_12 (C m) call (fun e => h10 (e 1) (e 3) (e 4) (e 5)) (exitF 2 (fun e => K23_6 m call h4 (e 1) (e 3)) (exitF 1 (fun e => K23_6 m call h4 (e 1) (e 3)) (exitF 0 (fun e => K23_2 m call (e 1)) (fun _ _ => noK)))) (fun e => retV (C m) (resE e Tryz.f23.results.toList))) e)) (exitF 3 (compF c23_12 (C m) call (fun e => h10 (e 1) (e 3) (e 4) (e 5)) (exitF 2 (fun e => K23_6 m call h4 (e 1) (e 3)) (exitF 1 (fun e => K23_6 m call h4 (e 1) (e 3)) (exitF 0 (fun e => K23_2 m call (e 1)) (fun _ _ => noK)))) (fun e => retV (C m) (resE e Tryz.f23.results.toList))) (exitF 2 (fun e => K23_6 m call h4 (e 1) (e 3)) (exitF 1 (fun e => K23_6 m call h4 (e 1) (e 3)) (exitF 0 (fun e => K23_2 m call (e 1)) (fun _ _ => noK))))) (fun e => retV (C m) (resE e Tryz.f23.results.toList))) := by kernel_rfl
  rw [u, K23_12_eq m call h4 h10 ]
  show _ = _
  kernel_rfl
noncomputable def L23_10_b (m : Nat) (call : CallF) (h4 : AV → AV → Kt) (h10 : AV → AV → AV → AV → Kt) (t1 t3 t4 t5 : AV) : Kt :=
 bnd (fadO (C m) 91 t4 1) fun v0 =>
 bnd (ldO (C m) 89 v0) fun v1 =>
 bnd (bltO (C m) .len [89] [v1]) fun v2 =>
 bnd (binO (C m) .lss 3 t5 v2) fun v3 =>
 ifB v3
 ((K23_11 m call h4 h10 t1 t3 t4 t5))
 ((K23_6 m call h4 t1 t3))
noncomputable def L23_10 (m : Nat) (call : CallF) (h4 : AV → AV → Kt) (n : Nat) : AV → AV → AV → AV → Kt :=
 Nat.rec (motive := fun _ => AV → AV → AV → AV → Kt) (fun t1 t3 t4 t5 => noK) (fun _ ih => L23_10_b m call h4 ih) n
theorem L23_10_b_eq (m : Nat) (call : CallF) (h4 : AV → AV → Kt) (h10 : AV → AV → AV → AV → Kt) : compF c23_10 (C m) call (fun e => h10 (e 1) (e 3) (e 4) (e 5)) (exitF 2 (fun e => K23_6 m call h4 (e 1) (e 3)) (exitF 1 (fun e => K23_6 m call h4 (e 1) (e 3)) (exitF 0 (fun e => K23_2 m call (e 1)) (fun _ _ => noK)))) (fun e => retV (C m) (resE e Tryz.f23.results.toList)) = fun e => L23_10_b m call h4 h10 (e 1) (e 3) (e 4) (e 5) := by
  have u : compF c23_10 (C m) call (fun e => h10 (e 1) (e 3) (e 4) (e 5)) (exitF 2 (fun e => K23_6 m call h4 (e 1) (e 3)) (exitF 1 (fun e => K23_6 m call h4 (e 1) (e 3)) (exitF 0 (fun e => K23_2 m call (e 1)) (fun _ _ => noK)))) (fun e => retV (C m) (resE e Tryz.f23.results.toList)) = (compF (pS1 (pS1 c23_10)) (C m) call (fun e => ifB (e 45) ((compF c23_11 (C m) call (fun e => h10 (e 1) (e 3) (e 4) (e 5)) (exitF 2 (fun e => K23_6 m call h4 (e 1) (e 3)) (exitF 1 (fun e => K23_6 m call h4 (e 1) (e 3)) (exitF 0 (fun e => K23_2 m call (e 1)) (fun _ _ => noK)))) (fun e => retV (C m) (resE e Tryz.f23.results.toList))) e) ((fun e => K23_6 m call h4 (e 1) (e 3)) e)) (exitF 2 (fun e => K23_6 m call h4 (e 1) (e 3)) (exitF 1 (fun e => K23_6 m call h4 (e 1) (e 3)) (exitF 0 (fun e => K23_2 m call (e 1)) (fun _ _ => noK)))) (fun e => retV (C m) (resE e Tryz.f23.results.toList))) := by kernel_rfl
  rw [u, K23_11_eq m call h4 h10 ]
  show _ = _
  kernel_rfl
theorem L23_10_eq (m : Nat) (call : CallF) (h4 : AV → AV → Kt) (n : Nat) : (loopF (fun k => compF c23_10 (C m) call k (exitF 2 (fun e => K23_6 m call h4 (e 1) (e 3)) (exitF 1 (fun e => K23_6 m call h4 (e 1) (e 3)) (exitF 0 (fun e => K23_2 m call (e 1)) (fun _ _ => noK)))) (fun e => retV (C m) (resE e Tryz.f23.results.toList))) n) = (fun e => L23_10 m call h4 n (e 1) (e 3) (e 4) (e 5)) := by
  induction n with
  | zero => rfl
  | succ n ih =>
    show compF c23_10 (C m) call (loopF (fun k => compF c23_10 (C m) call k (exitF 2 (fun e => K23_6 m call h4 (e 1) (e 3)) (exitF 1 (fun e => K23_6 m call h4 (e 1) (e 3)) (exitF 0 (fun e => K23_2 m call (e 1)) (fun _ _ => noK)))) (fun e => retV (C m) (resE e Tryz.f23.results.toList))) n) (exitF 2 (fun e => K23_6 m call h4 (e 1) (e 3)) (exitF 1 (fun e => K23_6 m call h4 (e 1) (e 3)) (exitF 0 (fun e => K23_2 m call (e 1)) (fun _ _ => noK)))) (fun e => retV (C m) (resE e Tryz.f23.results.toList)) = _
    rw [ih, L23_10_b_eq m call h4 (L23_10 m call h4 n)]
    rfl
theorem L23_10_succ (m : Nat) (call : CallF) (h4 : AV → AV → Kt) (n : Nat) : L23_10 m call h4 (n + 1) = L23_10_b m call h4 (L23_10 m call h4 n) := rfl
noncomputable def K23_9 (m : Nat) (call : CallF) (h4 : AV → AV → Kt) (t1 t3 t4 t5 : AV) : Kt :=
 L23_10 m call h4 m t1 t3 t4 t5
theorem K23_9_eq (m : Nat) (call : CallF) (h4 : AV → AV → Kt) : compF c23_9 (C m) call (fun e => K23_6 m call h4 (e 1) (e 3)) (exitF 1 (fun e => K23_6 m call h4 (e 1) (e 3)) (exitF 0 (fun e => K23_2 m call (e 1)) (fun _ _ => noK))) (fun e => retV (C m) (resE e Tryz.f23.results.toList)) = (fun e => K23_9 m call h4 (e 1) (e 3) (e 4) (e 5)) := by
  have u : compF c23_9 (C m) call (fun e => K23_6 m call h4 (e 1) (e 3)) (exitF 1 (fun e => K23_6 m call h4 (e 1) (e 3)) (exitF 0 (fun e => K23_2 m call (e 1)) (fun _ _ => noK))) (fun e => retV (C m) (resE e Tryz.f23.results.toList)) = (loopF (fun k => compF c23_10 (C m) call k (exitF 2 (fun e => K23_6 m call h4 (e 1) (e 3)) (exitF 1 (fun e => K23_6 m call h4 (e 1) (e 3)) (exitF 0 (fun e => K23_2 m call (e 1)) (fun _ _ => noK)))) (fun e => retV (C m) (resE e Tryz.f23.results.toList))) m) := by kernel_rfl
  rw [u, L23_10_eq m call h4 m]
  show _ = _
  kernel_rfl
noncomputable def K23_8 (m : Nat) (call : CallF) (h4 : AV → AV → Kt) (t1 t3 t4 : AV) : Kt :=
 K23_9 m call h4 t1 t3 t4 (I 0)
theorem K23_8_eq (m : Nat) (call : CallF) (h4 : AV → AV → Kt) : compF c23_8 (C m) call (fun e => K23_6 m call h4 (e 1) (e 3)) (exitF 1 (fun e => K23_6 m call h4 (e 1) (e 3)) (exitF 0 (fun e => K23_2 m call (e 1)) (fun _ _ => noK))) (fun e => retV (C m) (resE e Tryz.f23.results.toList)) = (fun e => K23_8 m call h4 (e 1) (e 3) (e 4)) := by
  have u : compF c23_8 (C m) call (fun e => K23_6 m call h4 (e 1) (e 3)) (exitF 1 (fun e => K23_6 m call h4 (e 1) (e 3)) (exitF 0 (fun e => K23_2 m call (e 1)) (fun _ _ => noK))) (fun e => retV (C m) (resE e Tryz.f23.results.toList)) = (compF (pS1 c23_8) (C m) call (compF c23_9 (C m) call (fun e => K23_6 m call h4 (e 1) (e 3)) (exitF 1 (fun e => K23_6 m call h4 (e 1) (e 3)) (exitF 0 (fun e => K23_2 m call (e 1)) (fun _ _ => noK))) (fun e => retV (C m) (resE e Tryz.f23.results.toList))) (exitF 1 (fun e => K23_6 m call h4 (e 1) (e 3)) (exitF 0 (fun e => K23_2 m call (e 1)) (fun _ _ => noK))) (fun e => retV (C m) (resE e Tryz.f23.results.toList))) := by kernel_rfl
  rw [u, K23_9_eq m call h4 ]
  show _ = _
  kernel_rfl
noncomputable def K23_7 (m : Nat) (call : CallF) (h4 : AV → AV → Kt) (t1 t3 t4 : AV) : Kt :=
 bnd (fadO (C m) 91 t4 0) fun v0 =>
 bnd (ldO (C m) 3 v0) fun v1 =>
 bnd (binO (C m) .eql 3 v1 (I 2)) fun v2 =>
 ifB v2
 ((bnd (fadO (C m) 91 t4 2) fun v3 =>
 bnd (ldO (C m) 9 v3) fun v4 =>
 bnd (bltO (C m) .len [9] [v4]) fun v5 =>
 bnd (binO (C m) .gtr 3 v5 (I 0)) fun v6 =>
 bnd (gdO (wantV v6 false) (fadO (C m) 91 t4 1)) fun v7 =>
 bnd (gdO (wantV v6 false) (ldO (C m) 89 v7)) fun v8 =>
 bnd (gdO (wantV v6 false) (bltO (C m) .len [89] [v8])) fun v9 =>
 bnd (gdO (wantV v6 false) (binO (C m) .eql 3 v9 (I 0))) fun v10 =>
 bnd (pickO v6 (B true) v10) fun v11 =>
 ifB v11
 ((retV (C m) [(none, (B false))]))
 ((K23_8 m call h4 t1 t3 t4))))
 ((bnd (fadO (C m) 91 t4 0) fun v12 =>
 bnd (ldO (C m) 3 v12) fun v13 =>
 bnd (calO (C m) call (fnV 46) [v13, (I 256), (I 65535)]) fun v14 =>
 bnd (unO .not v14) fun v15 =>
 bnd (gdO (wantV v15 false) (fadO (C m) 91 t4 1)) fun v16 =>
 bnd (gdO (wantV v15 false) (ldO (C m) 89 v16)) fun v17 =>
 bnd (gdO (wantV v15 false) (bltO (C m) .len [89] [v17])) fun v18 =>
 bnd (gdO (wantV v15 false) (binO (C m) .gtr 3 v18 (I 0))) fun v19 =>
 bnd (pickO v15 (B true) v19) fun v20 =>
 ifB v20
 ((retV (C m) [(none, (B false))]))
 ((K23_8 m call h4 t1 t3 t4))))
theorem K23_7_eq (m : Nat) (call : CallF) (h4 : AV → AV → Kt) : compF c23_7 (C m) call (fun e => K23_6 m call h4 (e 1) (e 3)) (exitF 1 (fun e => K23_6 m call h4 (e 1) (e 3)) (exitF 0 (fun e => K23_2 m call (e 1)) (fun _ _ => noK))) (fun e => retV (C m) (resE e Tryz.f23.results.toList)) = (fun e => K23_7 m call h4 (e 1) (e 3) (e 4)) := by
  have u : compF c23_7 (C m) call (fun e => K23_6 m call h4 (e 1) (e 3)) (exitF 1 (fun e => K23_6 m call h4 (e 1) (e 3)) (exitF 0 (fun e => K23_2 m call (e 1)) (fun _ _ => noK))) (fun e => retV (C m) (resE e Tryz.f23.results.toList)) = (compF (pS1 (pS1 c23_7)) (C m) call (fun e => ifB (e 20) ((compF (pS1 (pC1 (pS2 (pS1 c23_7)))) (C m) call (fun e => ifB (e 30) ((compF (pS1 (pC1 (pS2 (pC1 (pS2 (pS1 c23_7)))))) (C m) call (fun e => retV (C m) (resE e Tryz.f23.results.toList)) (exitF 1 (fun e => K23_6 m call h4 (e 1) (e 3)) (exitF 0 (fun e => K23_2 m call (e 1)) (fun _ _ => noK))) (fun e => retV (C m) (resE e Tryz.f23.results.toList))) e) ((compF c23_8 (C m) call (fun e => K23_6 m call h4 (e 1) (e 3)) (exitF 1 (fun e => K23_6 m call h4 (e 1) (e 3)) (exitF 0 (fun e => K23_2 m call (e 1)) (fun _ _ => noK))) (fun e => retV (C m) (resE e Tryz.f23.results.toList))) e)) (exitF 1 (fun e => K23_6 m call h4 (e 1) (e 3)) (exitF 0 (fun e => K23_2 m call (e 1)) (fun _ _ => noK))) (fun e => retV (C m) (resE e Tryz.f23.results.toList))) e) ((compF (pS1 (pC2 (pS2 (pS1 c23_7)))) (C m) call (fun e => ifB (e 40) ((compF (pS1 (pC1 (pS2 (pC2 (pS2 (pS1 c23_7)))))) (C m) call (fun e => retV (C m) (resE e Tryz.f23.results.toList)) (exitF 1 (fun e => K23_6 m call h4 (e 1) (e 3)) (exitF 0 (fun e => K23_2 m call (e 1)) (fun _ _ => noK))) (fun e => retV (C m) (resE e Tryz.f23.results.toList))) e) ((compF c23_8 (C m) call (fun e => K23_6 m call h4 (e 1) (e 3)) (exitF 1 (fun e => K23_6 m call h4 (e 1) (e 3)) (exitF 0 (fun e => K23_2 m call (e 1)) (fun _ _ => noK))) (fun e => retV (C m) (resE e Tryz.f23.results.toList))) e)) (exitF 1 (fun e => K23_6 m call h4 (e 1) (e 3)) (exitF 0 (fun e => K23_2 m call (e 1)) (fun _ _ => noK))) (fun e => retV (C m) (resE e Tryz.f23.results.toList))) e)) (exitF 1 (fun e => K23_6 m call h4 (e 1) (e 3)) (exitF 0 (fun e => K23_2 m call (e 1)) (fun _ _ => noK))) (fun e => retV (C m) (resE e Tryz.f23.results.toList))) := by kernel_rfl
  rw [u, K23_8_eq m call h4 ]
  show _ = _
  kernel_rfl
noncomputable def K23_5 (m : Nat) (call : CallF) (h4 : AV → AV → Kt) (t1 t3 : AV) : Kt :=
 bnd (fadO (C m) 94 t1 3) fun v0 =>
 bnd (ldO (C m) 92 v0) fun v1 =>
 bnd (iadO (C m) 92 v1 t3) fun v2 =>
 bnd (ldO (C m) 91 v2) fun v3 =>
 bnd (newO (C m) 91) fun v4 =>
 bnd (stO (C m) 91 v4 v3) fun _ =>
 K23_7 m call h4 t1 t3 v4
theorem K23_5_eq (m : Nat) (call : CallF) (h4 : AV → AV → Kt) : compF c23_5 (C m) call (fun e => h4 (e 1) (e 3)) (exitF 0 (fun e => K23_2 m call (e 1)) (fun _ _ => noK)) (fun e => retV (C m) (resE e Tryz.f23.results.toList)) = (fun e => K23_5 m call h4 (e 1) (e 3)) := by
  have u : compF c23_5 (C m) call (fun e => h4 (e 1) (e 3)) (exitF 0 (fun e => K23_2 m call (e 1)) (fun _ _ => noK)) (fun e => retV (C m) (resE e Tryz.f23.results.toList)) = (compF (pS1 (pB (pS1 c23_5))) (C m) call (compF c23_7 (C m) call (compF c23_6 (C m) call (fun e => h4 (e 1) (e 3)) (exitF 0 (fun e => K23_2 m call (e 1)) (fun _ _ => noK)) (fun e => retV (C m) (resE e Tryz.f23.results.toList))) (exitF 1 (compF c23_6 (C m) call (fun e => h4 (e 1) (e 3)) (exitF 0 (fun e => K23_2 m call (e 1)) (fun _ _ => noK)) (fun e => retV (C m) (resE e Tryz.f23.results.toList))) (exitF 0 (fun e => K23_2 m call (e 1)) (fun _ _ => noK))) (fun e => retV (C m) (resE e Tryz.f23.results.toList))) (exitF 1 (compF c23_6 (C m) call (fun e => h4 (e 1) (e 3)) (exitF 0 (fun e => K23_2 m call (e 1)) (fun _ _ => noK)) (fun e => retV (C m) (resE e Tryz.f23.results.toList))) (exitF 0 (fun e => K23_2 m call (e 1)) (fun _ _ => noK))) (fun e => retV (C m) (resE e Tryz.f23.results.toList))) := by kernel_rfl
  rw [u, K23_6_eq m call h4 , K23_7_eq m call h4 ]
  show _ = _
  kernel_rfl
noncomputable def L23_4_b (m : Nat) (call : CallF) (h4 : AV → AV → Kt) (t1 t3 : AV) : Kt :=
 bnd (fadO (C m) 94 t1 3) fun v0 =>
 bnd (ldO (C m) 92 v0) fun v1 =>
 bnd (bltO (C m) .len [92] [v1]) fun v2 =>
 bnd (binO (C m) .lss 3 t3 v2) fun v3 =>
 ifB v3
 ((K23_5 m call h4 t1 t3))
 ((K23_2 m call t1))
noncomputable def L23_4 (m : Nat) (call : CallF) (n : Nat) : AV → AV → Kt :=
 Nat.rec (motive := fun _ => AV → AV → Kt) (fun t1 t3 => noK) (fun _ ih => L23_4_b m call ih) n
theorem L23_4_b_eq (m : Nat) (call : CallF) (h4 : AV → AV → Kt) : compF c23_4 (C m) call (fun e => h4 (e 1) (e 3)) (exitF 0 (fun e => K23_2 m call (e 1)) (fun _ _ => noK)) (fun e => retV (C m) (resE e Tryz.f23.results.toList)) = fun e => L23_4_b m call h4 (e 1) (e 3) := by
  have u : compF c23_4 (C m) call (fun e => h4 (e 1) (e 3)) (exitF 0 (fun e => K23_2 m call (e 1)) (fun _ _ => noK)) (fun e => retV (C m) (resE e Tryz.f23.results.toList)) = (compF (pS1 (pS1 c23_4)) (C m) call (fun e => ifB (e 10) ((compF c23_5 (C m) call (fun e => h4 (e 1) (e 3)) (exitF 0 (fun e => K23_2 m call (e 1)) (fun _ _ => noK)) (fun e => retV (C m) (resE e Tryz.f23.results.toList))) e) ((fun e => K23_2 m call (e 1)) e)) (exitF 0 (fun e => K23_2 m call (e 1)) (fun _ _ => noK)) (fun e => retV (C m) (resE e Tryz.f23.results.toList))) := by kernel_rfl
  rw [u, K23_5_eq m call h4 ]
  show _ = _
  kernel_rfl
theorem L23_4_eq (m : Nat) (call : CallF) (n : Nat) : (loopF (fun k => compF c23_4 (C m) call k (exitF 0 (fun e => K23_2 m call (e 1)) (fun _ _ => noK)) (fun e => retV (C m) (resE e Tryz.f23.results.toList))) n) = (fun e => L23_4 m call n (e 1) (e 3)) := by
  induction n with
  | zero => rfl
  | succ n ih =>
    show compF c23_4 (C m) call (loopF (fun k => compF c23_4 (C m) call k (exitF 0 (fun e => K23_2 m call (e 1)) (fun _ _ => noK)) (fun e => retV (C m) (resE e Tryz.f23.results.toList))) n) (exitF 0 (fun e => K23_2 m call (e 1)) (fun _ _ => noK)) (fun e => retV (C m) (resE e Tryz.f23.results.toList)) = _
    rw [ih, L23_4_b_eq m call (L23_4 m call n)]
    rfl
theorem L23_4_succ (m : Nat) (call : CallF) (n : Nat) : L23_4 m call (n + 1) = L23_4_b m call (L23_4 m call n) := rfl
noncomputable def K23_3 (m : Nat) (call : CallF) (t1 t3 : AV) : Kt :=
 L23_4 m call m t1 t3
theorem K23_3_eq (m : Nat) (call : CallF) : compF c23_3 (C m) call (fun e => K23_2 m call (e 1)) (fun _ _ => noK) (fun e => retV (C m) (resE e Tryz.f23.results.toList)) = (fun e => K23_3 m call (e 1) (e 3)) := by
  have u : compF c23_3 (C m) call (fun e => K23_2 m call (e 1)) (fun _ _ => noK) (fun e => retV (C m) (resE e Tryz.f23.results.toList)) = (loopF (fun k => compF c23_4 (C m) call k (exitF 0 (fun e => K23_2 m call (e 1)) (fun _ _ => noK)) (fun e => retV (C m) (resE e Tryz.f23.results.toList))) m) := by kernel_rfl
  rw [u, L23_4_eq m call m]
  show _ = _
  kernel_rfl
noncomputable def K23_1 (m : Nat) (call : CallF) (t1 : AV) : Kt :=
 K23_3 m call t1 (I 0)
theorem K23_1_eq (m : Nat) (call : CallF) : compF c23_1 (C m) call (fun e => retV (C m) (resE e Tryz.f23.results.toList)) (fun _ _ => noK) (fun e => retV (C m) (resE e Tryz.f23.results.toList)) = (fun e => K23_1 m call (e 1)) := by
  have u : compF c23_1 (C m) call (fun e => retV (C m) (resE e Tryz.f23.results.toList)) (fun _ _ => noK) (fun e => retV (C m) (resE e Tryz.f23.results.toList)) = (compF (pS1 (pS1 c23_1)) (C m) call (compF c23_3 (C m) call (compF c23_2 (C m) call (fun e => retV (C m) (resE e Tryz.f23.results.toList)) (fun _ _ => noK) (fun e => retV (C m) (resE e Tryz.f23.results.toList))) (fun _ _ => noK) (fun e => retV (C m) (resE e Tryz.f23.results.toList))) (fun _ _ => noK) (fun e => retV (C m) (resE e Tryz.f23.results.toList))) := by kernel_rfl
  rw [u, K23_2_eq m call , K23_3_eq m call ]
  show _ = _
  kernel_rfl
noncomputable def K23_0 (m : Nat) (call : CallF) (t0 : AV) : Kt :=
 bnd (boxO 94 t0) fun v0 =>
 K23_1 m call v0
theorem K23_0_eq (m : Nat) (call : CallF) : compF c23_0 (C m) call (fun e => retV (C m) (resE e Tryz.f23.results.toList)) (fun _ _ => noK) (fun e => retV (C m) (resE e Tryz.f23.results.toList)) = (fun e => K23_0 m call (e 0)) := by
  have u : compF c23_0 (C m) call (fun e => retV (C m) (resE e Tryz.f23.results.toList)) (fun _ _ => noK) (fun e => retV (C m) (resE e Tryz.f23.results.toList)) = (compF (pS1 c23_0) (C m) call (compF c23_1 (C m) call (fun e => retV (C m) (resE e Tryz.f23.results.toList)) (fun _ _ => noK) (fun e => retV (C m) (resE e Tryz.f23.results.toList))) (fun _ _ => noK) (fun e => retV (C m) (resE e Tryz.f23.results.toList))) := by kernel_rfl
  rw [u, K23_1_eq m call ]
  show _ = _
  kernel_rfl
theorem F23_eq (m : Nat) (call : CallF) (t0 : AV) : enterK (C m) call Tryz.f23 [t0] = K23_0 m call t0 := by
  have u : enterK (C m) call Tryz.f23 [t0] = (compF c23_0 (C m) call (fun e => retV (C m) (resE e Tryz.f23.results.toList)) (fun _ _ => noK) (fun e => retV (C m) (resE e Tryz.f23.results.toList))) (argF [t0]) := by kernel_rfl
  rw [u, K23_0_eq m call]
  rfl
/-! rillmeter/rillmeterref04.Put -/
noncomputable def c24_0 : Code := (bodyOf Tryz.f24)
noncomputable def c24_1 : Code := (pS2 c24_0)
noncomputable def c24_2 : Code := (pS2 c24_1)
noncomputable def c24_3 : Code := (pS2 c24_2)
noncomputable def c24_4 : Code := (pS2 c24_3)
noncomputable def c24_5 : Code := (pS2 (pS1 c24_3))
noncomputable def c24_6 : Code := (pL (pB c24_5))
noncomputable def c24_7 : Code := (pS2 c24_6)
noncomputable def c24_8 : Code := (pS2 c24_7)
noncomputable def K24_4 (m : Nat) (call : CallF) (t6 : AV) : Kt :=
 retV (C m) [(none, t6), (none, (B true))]
theorem K24_4_eq (m : Nat) (call : CallF) : compF c24_4 (C m) call (fun e => retV (C m) (resE e Tryz.f24.results.toList)) (fun _ _ => noK) (fun e => retV (C m) (resE e Tryz.f24.results.toList)) = (fun e => K24_4 m call (e 6)) := by
  have u : compF c24_4 (C m) call (fun e => retV (C m) (resE e Tryz.f24.results.toList)) (fun _ _ => noK) (fun e => retV (C m) (resE e Tryz.f24.results.toList)) = (compF (pS1 c24_4) (C m) call (fun e => retV (C m) (resE e Tryz.f24.results.toList)) (fun _ _ => noK) (fun e => retV (C m) (resE e Tryz.f24.results.toList))) := by kernel_rfl
  rw [u]
  show _ = _
  kernel_rfl
noncomputable def K24_8 (m : Nat) (call : CallF) (h6 : AV → AV → AV → AV → Kt) (t0 t1 t6 t7 : AV) : Kt :=
 bnd (binO (C m) .add 3 t7 (I 1)) fun v0 =>
 h6 t0 t1 t6 v0
theorem K24_8_eq (m : Nat) (call : CallF) (h6 : AV → AV → AV → AV → Kt) : compF c24_8 (C m) call (fun e => h6 (e 0) (e 1) (e 6) (e 7)) (exitF 0 (fun e => K24_4 m call (e 6)) (fun _ _ => noK)) (fun e => retV (C m) (resE e Tryz.f24.results.toList)) = (fun e => K24_8 m call h6 (e 0) (e 1) (e 6) (e 7)) := by
  have u : compF c24_8 (C m) call (fun e => h6 (e 0) (e 1) (e 6) (e 7)) (exitF 0 (fun e => K24_4 m call (e 6)) (fun _ _ => noK)) (fun e => retV (C m) (resE e Tryz.f24.results.toList)) = (compF c24_8 (C m) call (fun e => h6 (e 0) (e 1) (e 6) (e 7)) (exitF 0 (fun e => K24_4 m call (e 6)) (fun _ _ => noK)) (fun e => retV (C m) (resE e Tryz.f24.results.toList))) := by kernel_rfl
  rw [u]
  show _ = _
  kernel_rfl
noncomputable def K24_7 (m : Nat) (call : CallF) (h6 : AV → AV → AV → AV → Kt) (t0 t1 t6 t7 : AV) : Kt :=
 bnd (binO (C m) .rem 3 t0 (I 256)) fun v0 =>
 bnd (cvO (C m) 3 5 v0) fun v1 =>
 bnd (bslO (C m) 126 1 [(0, v1)]) fun v2 =>
 bnd (cvO (C m) 126 9 v2) fun v3 =>
 bnd (binO (C m) .add 9 v3 t6) fun v4 =>
 bnd (binO (C m) .quo 3 t0 (I 256)) fun v5 =>
 K24_8 m call h6 v5 t1 v4 t7
theorem K24_7_eq (m : Nat) (call : CallF) (h6 : AV → AV → AV → AV → Kt) : compF c24_7 (C m) call (fun e => h6 (e 0) (e 1) (e 6) (e 7)) (exitF 0 (fun e => K24_4 m call (e 6)) (fun _ _ => noK)) (fun e => retV (C m) (resE e Tryz.f24.results.toList)) = (fun e => K24_7 m call h6 (e 0) (e 1) (e 6) (e 7)) := by
  have u : compF c24_7 (C m) call (fun e => h6 (e 0) (e 1) (e 6) (e 7)) (exitF 0 (fun e => K24_4 m call (e 6)) (fun _ _ => noK)) (fun e => retV (C m) (resE e Tryz.f24.results.toList)) = (compF (pS1 (pB (pS1 c24_7))) (C m) call (compF (pS2 (pB (pS1 c24_7))) (C m) call (compF c24_8 (C m) call (fun e => h6 (e 0) (e 1) (e 6) (e 7)) (exitF 0 (fun e => K24_4 m call (e 6)) (fun _ _ => noK)) (fun e => retV (C m) (resE e Tryz.f24.results.toList))) (exitF 1 (compF c24_8 (C m) call (fun e => h6 (e 0) (e 1) (e 6) (e 7)) (exitF 0 (fun e => K24_4 m call (e 6)) (fun _ _ => noK)) (fun e => retV (C m) (resE e Tryz.f24.results.toList))) (exitF 0 (fun e => K24_4 m call (e 6)) (fun _ _ => noK))) (fun e => retV (C m) (resE e Tryz.f24.results.toList))) (exitF 1 (compF c24_8 (C m) call (fun e => h6 (e 0) (e 1) (e 6) (e 7)) (exitF 0 (fun e => K24_4 m call (e 6)) (fun _ _ => noK)) (fun e => retV (C m) (resE e Tryz.f24.results.toList))) (exitF 0 (fun e => K24_4 m call (e 6)) (fun _ _ => noK))) (fun e => retV (C m) (resE e Tryz.f24.results.toList))) := by kernel_rfl
  rw [u, K24_8_eq m call h6 ]
  show _ = _
  kernel_rfl
noncomputable def L24_6_b (m : Nat) (call : CallF) (h6 : AV → AV → AV → AV → Kt) (t0 t1 t6 t7 : AV) : Kt :=
 bnd (binO (C m) .lss 3 t7 t1) fun v0 =>
 ifB v0
 ((K24_7 m call h6 t0 t1 t6 t7))
 ((K24_4 m call t6))
noncomputable def L24_6 (m : Nat) (call : CallF) (n : Nat) : AV → AV → AV → AV → Kt :=
 Nat.rec (motive := fun _ => AV → AV → AV → AV → Kt) (fun t0 t1 t6 t7 => noK) (fun _ ih => L24_6_b m call ih) n
theorem L24_6_b_eq (m : Nat) (call : CallF) (h6 : AV → AV → AV → AV → Kt) : compF c24_6 (C m) call (fun e => h6 (e 0) (e 1) (e 6) (e 7)) (exitF 0 (fun e => K24_4 m call (e 6)) (fun _ _ => noK)) (fun e => retV (C m) (resE e Tryz.f24.results.toList)) = fun e => L24_6_b m call h6 (e 0) (e 1) (e 6) (e 7) := by
  have u : compF c24_6 (C m) call (fun e => h6 (e 0) (e 1) (e 6) (e 7)) (exitF 0 (fun e => K24_4 m call (e 6)) (fun _ _ => noK)) (fun e => retV (C m) (resE e Tryz.f24.results.toList)) = (compF (pS1 (pS1 c24_6)) (C m) call (fun e => ifB (e 26) ((compF c24_7 (C m) call (fun e => h6 (e 0) (e 1) (e 6) (e 7)) (exitF 0 (fun e => K24_4 m call (e 6)) (fun _ _ => noK)) (fun e => retV (C m) (resE e Tryz.f24.results.toList))) e) ((fun e => K24_4 m call (e 6)) e)) (exitF 0 (fun e => K24_4 m call (e 6)) (fun _ _ => noK)) (fun e => retV (C m) (resE e Tryz.f24.results.toList))) := by kernel_rfl
  rw [u, K24_7_eq m call h6 ]
  show _ = _
  kernel_rfl
theorem L24_6_eq (m : Nat) (call : CallF) (n : Nat) : (loopF (fun k => compF c24_6 (C m) call k (exitF 0 (fun e => K24_4 m call (e 6)) (fun _ _ => noK)) (fun e => retV (C m) (resE e Tryz.f24.results.toList))) n) = (fun e => L24_6 m call n (e 0) (e 1) (e 6) (e 7)) := by
  induction n with
  | zero => rfl
  | succ n ih =>
    show compF c24_6 (C m) call (loopF (fun k => compF c24_6 (C m) call k (exitF 0 (fun e => K24_4 m call (e 6)) (fun _ _ => noK)) (fun e => retV (C m) (resE e Tryz.f24.results.toList))) n) (exitF 0 (fun e => K24_4 m call (e 6)) (fun _ _ => noK)) (fun e => retV (C m) (resE e Tryz.f24.results.toList)) = _
    rw [ih, L24_6_b_eq m call (L24_6 m call n)]
    rfl
theorem L24_6_succ (m : Nat) (call : CallF) (n : Nat) : L24_6 m call (n + 1) = L24_6_b m call (L24_6 m call n) := rfl
noncomputable def K24_5 (m : Nat) (call : CallF) (t0 t1 t6 t7 : AV) : Kt :=
 L24_6 m call m t0 t1 t6 t7
theorem K24_5_eq (m : Nat) (call : CallF) : compF c24_5 (C m) call (fun e => K24_4 m call (e 6)) (fun _ _ => noK) (fun e => retV (C m) (resE e Tryz.f24.results.toList)) = (fun e => K24_5 m call (e 0) (e 1) (e 6) (e 7)) := by
  have u : compF c24_5 (C m) call (fun e => K24_4 m call (e 6)) (fun _ _ => noK) (fun e => retV (C m) (resE e Tryz.f24.results.toList)) = (loopF (fun k => compF c24_6 (C m) call k (exitF 0 (fun e => K24_4 m call (e 6)) (fun _ _ => noK)) (fun e => retV (C m) (resE e Tryz.f24.results.toList))) m) := by kernel_rfl
  rw [u, L24_6_eq m call m]
  show _ = _
  kernel_rfl
noncomputable def K24_3 (m : Nat) (call : CallF) (t0 t1 t6 : AV) : Kt :=
 K24_5 m call t0 t1 t6 (I 0)
theorem K24_3_eq (m : Nat) (call : CallF) : compF c24_3 (C m) call (fun e => retV (C m) (resE e Tryz.f24.results.toList)) (fun _ _ => noK) (fun e => retV (C m) (resE e Tryz.f24.results.toList)) = (fun e => K24_3 m call (e 0) (e 1) (e 6)) := by
  have u : compF c24_3 (C m) call (fun e => retV (C m) (resE e Tryz.f24.results.toList)) (fun _ _ => noK) (fun e => retV (C m) (resE e Tryz.f24.results.toList)) = (compF (pS1 (pS1 c24_3)) (C m) call (compF c24_5 (C m) call (compF c24_4 (C m) call (fun e => retV (C m) (resE e Tryz.f24.results.toList)) (fun _ _ => noK) (fun e => retV (C m) (resE e Tryz.f24.results.toList))) (fun _ _ => noK) (fun e => retV (C m) (resE e Tryz.f24.results.toList))) (fun _ _ => noK) (fun e => retV (C m) (resE e Tryz.f24.results.toList))) := by kernel_rfl
  rw [u, K24_4_eq m call , K24_5_eq m call ]
  show _ = _
  kernel_rfl
noncomputable def K24_2 (m : Nat) (call : CallF) (t0 t1 : AV) : Kt :=
 K24_3 m call t0 t1 (S [])
theorem K24_2_eq (m : Nat) (call : CallF) : compF c24_2 (C m) call (fun e => retV (C m) (resE e Tryz.f24.results.toList)) (fun _ _ => noK) (fun e => retV (C m) (resE e Tryz.f24.results.toList)) = (fun e => K24_2 m call (e 0) (e 1)) := by
  have u : compF c24_2 (C m) call (fun e => retV (C m) (resE e Tryz.f24.results.toList)) (fun _ _ => noK) (fun e => retV (C m) (resE e Tryz.f24.results.toList)) = (compF (pS1 c24_2) (C m) call (compF c24_3 (C m) call (fun e => retV (C m) (resE e Tryz.f24.results.toList)) (fun _ _ => noK) (fun e => retV (C m) (resE e Tryz.f24.results.toList))) (fun _ _ => noK) (fun e => retV (C m) (resE e Tryz.f24.results.toList))) := by kernel_rfl
  rw [u, K24_3_eq m call ]
  show _ = _
  kernel_rfl
noncomputable def K24_1 (m : Nat) (call : CallF) (t0 t1 : AV) : Kt :=
 bnd (binO (C m) .lss 3 t1 (I 1)) fun v0 =>
 bnd (gdO (wantV v0 false) (fun _ => .val t1)) fun v1 =>
 bnd (gdO (wantV v0 false) (binO (C m) .gtr 3 v1 (I 7))) fun v2 =>
 bnd (pickO v0 (B true) v2) fun v3 =>
 bnd (gdO (wantV v3 false) (fun _ => .val t0)) fun v4 =>
 bnd (gdO (wantV v3 false) (binO (C m) .lss 3 v4 (I 0))) fun v5 =>
 bnd (pickO v3 (B true) v5) fun v6 =>
 bnd (gdO (wantV v6 false) (fun _ => .val t0)) fun v7 =>
 bnd (gdO (wantV v6 false) (fun _ => .val t1)) fun v8 =>
 bnd (gdO (wantV v6 false) (calO (C m) call (fnV 48) [v8])) fun v9 =>
 bnd (gdO (wantV v6 false) (binO (C m) .geq 3 v7 v9)) fun v10 =>
 bnd (pickO v6 (B true) v10) fun v11 =>
 ifB v11
 ((retV (C m) [(none, (S [])), (none, (B false))]))
 ((K24_2 m call t0 t1))
theorem K24_1_eq (m : Nat) (call : CallF) : compF c24_1 (C m) call (fun e => retV (C m) (resE e Tryz.f24.results.toList)) (fun _ _ => noK) (fun e => retV (C m) (resE e Tryz.f24.results.toList)) = (fun e => K24_1 m call (e 0) (e 1)) := by
  have u : compF c24_1 (C m) call (fun e => retV (C m) (resE e Tryz.f24.results.toList)) (fun _ _ => noK) (fun e => retV (C m) (resE e Tryz.f24.results.toList)) = (compF (pS1 (pS1 c24_1)) (C m) call (fun e => ifB (e 23) ((compF (pS1 (pC1 (pS2 (pS1 c24_1)))) (C m) call (fun e => retV (C m) (resE e Tryz.f24.results.toList)) (fun _ _ => noK) (fun e => retV (C m) (resE e Tryz.f24.results.toList))) e) ((compF c24_2 (C m) call (fun e => retV (C m) (resE e Tryz.f24.results.toList)) (fun _ _ => noK) (fun e => retV (C m) (resE e Tryz.f24.results.toList))) e)) (fun _ _ => noK) (fun e => retV (C m) (resE e Tryz.f24.results.toList))) := by kernel_rfl
  rw [u, K24_2_eq m call ]
  show _ = _
  kernel_rfl
noncomputable def K24_0 (m : Nat) (call : CallF) (t0 t1 : AV) : Kt :=
 K24_1 m call t0 t1
theorem K24_0_eq (m : Nat) (call : CallF) : compF c24_0 (C m) call (fun e => retV (C m) (resE e Tryz.f24.results.toList)) (fun _ _ => noK) (fun e => retV (C m) (resE e Tryz.f24.results.toList)) = (fun e => K24_0 m call (e 0) (e 1)) := by
  have u : compF c24_0 (C m) call (fun e => retV (C m) (resE e Tryz.f24.results.toList)) (fun _ _ => noK) (fun e => retV (C m) (resE e Tryz.f24.results.toList)) = (compF (pS1 c24_0) (C m) call (compF c24_1 (C m) call (fun e => retV (C m) (resE e Tryz.f24.results.toList)) (fun _ _ => noK) (fun e => retV (C m) (resE e Tryz.f24.results.toList))) (fun _ _ => noK) (fun e => retV (C m) (resE e Tryz.f24.results.toList))) := by kernel_rfl
  rw [u, K24_1_eq m call ]
  show _ = _
  kernel_rfl
theorem F24_eq (m : Nat) (call : CallF) (t0 t1 : AV) : enterK (C m) call Tryz.f24 [t0, t1] = K24_0 m call t0 t1 := by
  have u : enterK (C m) call Tryz.f24 [t0, t1] = (compF c24_0 (C m) call (fun e => retV (C m) (resE e Tryz.f24.results.toList)) (fun _ _ => noK) (fun e => retV (C m) (resE e Tryz.f24.results.toList))) (argF [t0, t1]) := by kernel_rfl
  rw [u, K24_0_eq m call]
  rfl
/-! rillmeter/rillmeterref22.Record -/
noncomputable def c25_0 : Code := (bodyOf Tryz.f25)
noncomputable def c25_1 : Code := (pS2 c25_0)
noncomputable def c25_2 : Code := (pS2 c25_1)
noncomputable def c25_3 : Code := (pS2 c25_2)
noncomputable def c25_4 : Code := (pS2 c25_3)
noncomputable def c25_5 : Code := (pS2 (pS1 c25_3))
noncomputable def c25_6 : Code := (pL (pB c25_5))
noncomputable def c25_7 : Code := (pS2 c25_6)
noncomputable def c25_8 : Code := (pS2 c25_7)
noncomputable def c25_9 : Code := (pS2 (pB (pS1 c25_7)))
noncomputable def c25_10 : Code := (pS2 c25_9)
noncomputable def c25_11 : Code := (pS2 c25_10)
noncomputable def K25_4 (m : Nat) (call : CallF) (t6 : AV) : Kt :=
 retV (C m) [(none, t6), (none, (B true))]
theorem K25_4_eq (m : Nat) (call : CallF) : compF c25_4 (C m) call (fun e => retV (C m) (resE e Tryz.f25.results.toList)) (fun _ _ => noK) (fun e => retV (C m) (resE e Tryz.f25.results.toList)) = (fun e => K25_4 m call (e 6)) := by
  have u : compF c25_4 (C m) call (fun e => retV (C m) (resE e Tryz.f25.results.toList)) (fun _ _ => noK) (fun e => retV (C m) (resE e Tryz.f25.results.toList)) = (compF (pS1 c25_4) (C m) call (fun e => retV (C m) (resE e Tryz.f25.results.toList)) (fun _ _ => noK) (fun e => retV (C m) (resE e Tryz.f25.results.toList))) := by kernel_rfl
  rw [u]
  show _ = _
  kernel_rfl
noncomputable def K25_8 (m : Nat) (call : CallF) (h6 : AV → AV → AV → AV → Kt) (t1 t2 t6 t7 : AV) : Kt :=
 bnd (binO (C m) .add 3 t7 (I 1)) fun v0 =>
 h6 t1 t2 t6 v0
theorem K25_8_eq (m : Nat) (call : CallF) (h6 : AV → AV → AV → AV → Kt) : compF c25_8 (C m) call (fun e => h6 (e 1) (e 2) (e 6) (e 7)) (exitF 0 (fun e => K25_4 m call (e 6)) (fun _ _ => noK)) (fun e => retV (C m) (resE e Tryz.f25.results.toList)) = (fun e => K25_8 m call h6 (e 1) (e 2) (e 6) (e 7)) := by
  have u : compF c25_8 (C m) call (fun e => h6 (e 1) (e 2) (e 6) (e 7)) (exitF 0 (fun e => K25_4 m call (e 6)) (fun _ _ => noK)) (fun e => retV (C m) (resE e Tryz.f25.results.toList)) = (compF c25_8 (C m) call (fun e => h6 (e 1) (e 2) (e 6) (e 7)) (exitF 0 (fun e => K25_4 m call (e 6)) (fun _ _ => noK)) (fun e => retV (C m) (resE e Tryz.f25.results.toList))) := by kernel_rfl
  rw [u]
  show _ = _
  kernel_rfl
noncomputable def K25_11 (m : Nat) (call : CallF) (h6 : AV → AV → AV → AV → Kt) (t1 t2 t6 t7 : AV) : Kt :=
 bnd (iadO (C m) 88 t1 t7) fun v0 =>
 bnd (ldO (C m) 9 v0) fun v1 =>
 bnd (binO (C m) .add 9 t6 v1) fun v2 =>
 K25_8 m call h6 t1 t2 v2 t7
theorem K25_11_eq (m : Nat) (call : CallF) (h6 : AV → AV → AV → AV → Kt) : compF c25_11 (C m) call (fun e => K25_8 m call h6 (e 1) (e 2) (e 6) (e 7)) (exitF 1 (fun e => K25_8 m call h6 (e 1) (e 2) (e 6) (e 7)) (exitF 0 (fun e => K25_4 m call (e 6)) (fun _ _ => noK))) (fun e => retV (C m) (resE e Tryz.f25.results.toList)) = (fun e => K25_11 m call h6 (e 1) (e 2) (e 6) (e 7)) := by
  have u : compF c25_11 (C m) call (fun e => K25_8 m call h6 (e 1) (e 2) (e 6) (e 7)) (exitF 1 (fun e => K25_8 m call h6 (e 1) (e 2) (e 6) (e 7)) (exitF 0 (fun e => K25_4 m call (e 6)) (fun _ _ => noK))) (fun e => retV (C m) (resE e Tryz.f25.results.toList)) = (compF c25_11 (C m) call (fun e => K25_8 m call h6 (e 1) (e 2) (e 6) (e 7)) (exitF 1 (fun e => K25_8 m call h6 (e 1) (e 2) (e 6) (e 7)) (exitF 0 (fun e => K25_4 m call (e 6)) (fun _ _ => noK))) (fun e => retV (C m) (resE e Tryz.f25.results.toList))) := by kernel_rfl
  rw [u]
  show _ = _
  kernel_rfl
noncomputable def K25_10 (m : Nat) (call : CallF) (h6 : AV → AV → AV → AV → Kt) (t1 t2 t6 t7 t8 : AV) : Kt :=
 bnd (fadO (C m) 39 t2 1) fun v0 =>
 bnd (ldO (C m) 37 v0) fun v1 =>
 bnd (iadO (C m) 37 v1 t7) fun v2 =>
 bnd (fadO (C m) 42 v2 1) fun v3 =>
 bnd (ldO (C m) 3 v3) fun v4 =>
 bnd (binO (C m) .eql 3 v4 (I 65535)) fun v5 =>
 bnd (gdO (wantV v5 true) (fun _ => .val t8)) fun v6 =>
 bnd (gdO (wantV v5 true) (binO (C m) .lss 3 v6 (I 255))) fun v7 =>
 bnd (pickO v5 v7 (B false)) fun v8 =>
 ifB v8
 ((bnd (calO (C m) call (fnV 45) [t8, (I 1)]) fun v9 =>
 bnd (binO (C m) .add 9 t6 v9) fun v10 =>
 K25_11 m call h6 t1 t2 v10 t7))
 ((bnd (fadO (C m) 39 t2 1) fun v11 =>
 bnd (ldO (C m) 37 v11) fun v12 =>
 bnd (iadO (C m) 37 v12 t7) fun v13 =>
 bnd (fadO (C m) 42 v13 1) fun v14 =>
 bnd (ldO (C m) 3 v14) fun v15 =>
 bnd (binO (C m) .eql 3 v15 (I 65535)) fun v16 =>
 ifB v16
 ((bnd (calO (C m) call (fnV 45) [(I 255), (I 1)]) fun v17 =>
 bnd (binO (C m) .add 9 t6 v17) fun v18 =>
 bnd (calO (C m) call (fnV 45) [t8, (I 2)]) fun v19 =>
 bnd (binO (C m) .add 9 v18 v19) fun v20 =>
 K25_11 m call h6 t1 t2 v20 t7))
 ((K25_11 m call h6 t1 t2 t6 t7))))
theorem K25_10_eq (m : Nat) (call : CallF) (h6 : AV → AV → AV → AV → Kt) : compF c25_10 (C m) call (fun e => K25_8 m call h6 (e 1) (e 2) (e 6) (e 7)) (exitF 1 (fun e => K25_8 m call h6 (e 1) (e 2) (e 6) (e 7)) (exitF 0 (fun e => K25_4 m call (e 6)) (fun _ _ => noK))) (fun e => retV (C m) (resE e Tryz.f25.results.toList)) = (fun e => K25_10 m call h6 (e 1) (e 2) (e 6) (e 7) (e 8)) := by
  have u : compF c25_10 (C m) call (fun e => K25_8 m call h6 (e 1) (e 2) (e 6) (e 7)) (exitF 1 (fun e => K25_8 m call h6 (e 1) (e 2) (e 6) (e 7)) (exitF 0 (fun e => K25_4 m call (e 6)) (fun _ _ => noK))) (fun e => retV (C m) (resE e Tryz.f25.results.toList)) = (compF (pS1 (pS1 c25_10)) (C m) call (fun e => ifB (e 57) ((compF (pC1 (pS2 (pS1 c25_10))) (C m) call (compF c25_11 (C m) call (fun e => K25_8 m call h6 (e 1) (e 2) (e 6) (e 7)) (exitF 1 (fun e => K25_8 m call h6 (e 1) (e 2) (e 6) (e 7)) (exitF 0 (fun e => K25_4 m call (e 6)) (fun _ _ => noK))) (fun e => retV (C m) (resE e Tryz.f25.results.toList))) (exitF 1 (fun e => K25_8 m call h6 (e 1) (e 2) (e 6) (e 7)) (exitF 0 (fun e => K25_4 m call (e 6)) (fun _ _ => noK))) (fun e => retV (C m) (resE e Tryz.f25.results.toList))) e) ((compF (pS1 (pC2 (pS2 (pS1 c25_10)))) (C m) call (fun e => ifB (e 68) ((compF (pC1 (pS2 (pC2 (pS2 (pS1 c25_10))))) (C m) call (compF c25_11 (C m) call (fun e => K25_8 m call h6 (e 1) (e 2) (e 6) (e 7)) (exitF 1 (fun e => K25_8 m call h6 (e 1) (e 2) (e 6) (e 7)) (exitF 0 (fun e => K25_4 m call (e 6)) (fun _ _ => noK))) (fun e => retV (C m) (resE e Tryz.f25.results.toList))) (exitF 1 (fun e => K25_8 m call h6 (e 1) (e 2) (e 6) (e 7)) (exitF 0 (fun e => K25_4 m call (e 6)) (fun _ _ => noK))) (fun e => retV (C m) (resE e Tryz.f25.results.toList))) e) ((compF c25_11 (C m) call (fun e => K25_8 m call h6 (e 1) (e 2) (e 6) (e 7)) (exitF 1 (fun e => K25_8 m call h6 (e 1) (e 2) (e 6) (e 7)) (exitF 0 (fun e => K25_4 m call (e 6)) (fun _ _ => noK))) (fun e => retV (C m) (resE e Tryz.f25.results.toList))) e)) (exitF 1 (fun e => K25_8 m call h6 (e 1) (e 2) (e 6) (e 7)) (exitF 0 (fun e => K25_4 m call (e 6)) (fun _ _ => noK))) (fun e => retV (C m) (resE e Tryz.f25.results.toList))) e)) (exitF 1 (fun e => K25_8 m call h6 (e 1) (e 2) (e 6) (e 7)) (exitF 0 (fun e => K25_4 m call (e 6)) (fun _ _ => noK))) (fun e => retV (C m) (resE e Tryz.f25.results.toList))) := by kernel_rfl
  rw [u, K25_11_eq m call h6 ]
  show _ = _
  kernel_rfl
noncomputable def K25_9 (m : Nat) (call : CallF) (h6 : AV → AV → AV → AV → Kt) (t1 t2 t6 t7 t8 : AV) : Kt :=
 bnd (binO (C m) .gtr 3 t8 (I 65535)) fun v0 =>
 bnd (gdO (wantV v0 false) (fadO (C m) 39 t2 1)) fun v1 =>
 bnd (gdO (wantV v0 false) (ldO (C m) 37 v1)) fun v2 =>
 bnd (gdO (wantV v0 false) (fun _ => .val t7)) fun v3 =>
 bnd (gdO (wantV v0 false) (iadO (C m) 37 v2 v3)) fun v4 =>
 bnd (gdO (wantV v0 false) (fadO (C m) 42 v4 1)) fun v5 =>
 bnd (gdO (wantV v0 false) (ldO (C m) 3 v5)) fun v6 =>
 bnd (gdO (wantV v0 false) (binO (C m) .neq 3 v6 (I 65535))) fun v7 =>
 bnd (gdO (wantV v0 false) (fun _ => .val v7)) fun v8 =>
 bnd (gdO (wantV v8 true) (fadO (C m) 39 t2 1)) fun v9 =>
 bnd (gdO (wantV v8 true) (ldO (C m) 37 v9)) fun v10 =>
 bnd (gdO (wantV v8 true) (fun _ => .val t7)) fun v11 =>
 bnd (gdO (wantV v8 true) (iadO (C m) 37 v10 v11)) fun v12 =>
 bnd (gdO (wantV v8 true) (fadO (C m) 42 v12 1)) fun v13 =>
 bnd (gdO (wantV v8 true) (ldO (C m) 3 v13)) fun v14 =>
 bnd (gdO (wantV v8 true) (fun _ => .val t8)) fun v15 =>
 bnd (gdO (wantV v8 true) (binO (C m) .neq 3 v14 v15)) fun v16 =>
 bnd (gdO (wantV v0 false) (pickO v8 v16 (B false))) fun v17 =>
 bnd (pickO v0 (B true) v17) fun v18 =>
 ifB v18
 ((retV (C m) [(none, (S [])), (none, (B false))]))
 ((K25_10 m call h6 t1 t2 t6 t7 t8))
theorem K25_9_eq (m : Nat) (call : CallF) (h6 : AV → AV → AV → AV → Kt) : compF c25_9 (C m) call (fun e => K25_8 m call h6 (e 1) (e 2) (e 6) (e 7)) (exitF 1 (fun e => K25_8 m call h6 (e 1) (e 2) (e 6) (e 7)) (exitF 0 (fun e => K25_4 m call (e 6)) (fun _ _ => noK))) (fun e => retV (C m) (resE e Tryz.f25.results.toList)) = (fun e => K25_9 m call h6 (e 1) (e 2) (e 6) (e 7) (e 8)) := by
  have u : compF c25_9 (C m) call (fun e => K25_8 m call h6 (e 1) (e 2) (e 6) (e 7)) (exitF 1 (fun e => K25_8 m call h6 (e 1) (e 2) (e 6) (e 7)) (exitF 0 (fun e => K25_4 m call (e 6)) (fun _ _ => noK))) (fun e => retV (C m) (resE e Tryz.f25.results.toList)) = (compF (pS1 (pS1 c25_9)) (C m) call (fun e => ifB (e 46) ((compF (pS1 (pC1 (pS2 (pS1 c25_9)))) (C m) call (fun e => retV (C m) (resE e Tryz.f25.results.toList)) (exitF 1 (fun e => K25_8 m call h6 (e 1) (e 2) (e 6) (e 7)) (exitF 0 (fun e => K25_4 m call (e 6)) (fun _ _ => noK))) (fun e => retV (C m) (resE e Tryz.f25.results.toList))) e) ((compF c25_10 (C m) call (fun e => K25_8 m call h6 (e 1) (e 2) (e 6) (e 7)) (exitF 1 (fun e => K25_8 m call h6 (e 1) (e 2) (e 6) (e 7)) (exitF 0 (fun e => K25_4 m call (e 6)) (fun _ _ => noK))) (fun e => retV (C m) (resE e Tryz.f25.results.toList))) e)) (exitF 1 (fun e => K25_8 m call h6 (e 1) (e 2) (e 6) (e 7)) (exitF 0 (fun e => K25_4 m call (e 6)) (fun _ _ => noK))) (fun e => retV (C m) (resE e Tryz.f25.results.toList))) := by kernel_rfl
  rw [u, K25_10_eq m call h6 ]
  show _ = _
  kernel_rfl
noncomputable def K25_7 (m : Nat) (call : CallF) (h6 : AV → AV → AV → AV → Kt) (t1 t2 t6 t7 : AV) : Kt :=
 bnd (iadO (C m) 88 t1 t7) fun v0 =>
 bnd (ldO (C m) 9 v0) fun v1 =>
 bnd (bltO (C m) .len [9] [v1]) fun v2 =>
 K25_9 m call h6 t1 t2 t6 t7 v2
theorem K25_7_eq (m : Nat) (call : CallF) (h6 : AV → AV → AV → AV → Kt) : compF c25_7 (C m) call (fun e => h6 (e 1) (e 2) (e 6) (e 7)) (exitF 0 (fun e => K25_4 m call (e 6)) (fun _ _ => noK)) (fun e => retV (C m) (resE e Tryz.f25.results.toList)) = (fun e => K25_7 m call h6 (e 1) (e 2) (e 6) (e 7)) := by
  have u : compF c25_7 (C m) call (fun e => h6 (e 1) (e 2) (e 6) (e 7)) (exitF 0 (fun e => K25_4 m call (e 6)) (fun _ _ => noK)) (fun e => retV (C m) (resE e Tryz.f25.results.toList)) = (compF (pS1 (pB (pS1 c25_7))) (C m) call (compF c25_9 (C m) call (compF c25_8 (C m) call (fun e => h6 (e 1) (e 2) (e 6) (e 7)) (exitF 0 (fun e => K25_4 m call (e 6)) (fun _ _ => noK)) (fun e => retV (C m) (resE e Tryz.f25.results.toList))) (exitF 1 (compF c25_8 (C m) call (fun e => h6 (e 1) (e 2) (e 6) (e 7)) (exitF 0 (fun e => K25_4 m call (e 6)) (fun _ _ => noK)) (fun e => retV (C m) (resE e Tryz.f25.results.toList))) (exitF 0 (fun e => K25_4 m call (e 6)) (fun _ _ => noK))) (fun e => retV (C m) (resE e Tryz.f25.results.toList))) (exitF 1 (compF c25_8 (C m) call (fun e => h6 (e 1) (e 2) (e 6) (e 7)) (exitF 0 (fun e => K25_4 m call (e 6)) (fun _ _ => noK)) (fun e => retV (C m) (resE e Tryz.f25.results.toList))) (exitF 0 (fun e => K25_4 m call (e 6)) (fun _ _ => noK))) (fun e => retV (C m) (resE e Tryz.f25.results.toList))) := by kernel_rfl
  rw [u, K25_8_eq m call h6 , K25_9_eq m call h6 ]
  show _ = _
  kernel_rfl
noncomputable def L25_6_b (m : Nat) (call : CallF) (h6 : AV → AV → AV → AV → Kt) (t1 t2 t6 t7 : AV) : Kt :=
 bnd (bltO (C m) .len [88] [t1]) fun v0 =>
 bnd (binO (C m) .lss 3 t7 v0) fun v1 =>
 ifB v1
 ((K25_7 m call h6 t1 t2 t6 t7))
 ((K25_4 m call t6))
noncomputable def L25_6 (m : Nat) (call : CallF) (n : Nat) : AV → AV → AV → AV → Kt :=
 Nat.rec (motive := fun _ => AV → AV → AV → AV → Kt) (fun t1 t2 t6 t7 => noK) (fun _ ih => L25_6_b m call ih) n
theorem L25_6_b_eq (m : Nat) (call : CallF) (h6 : AV → AV → AV → AV → Kt) : compF c25_6 (C m) call (fun e => h6 (e 1) (e 2) (e 6) (e 7)) (exitF 0 (fun e => K25_4 m call (e 6)) (fun _ _ => noK)) (fun e => retV (C m) (resE e Tryz.f25.results.toList)) = fun e => L25_6_b m call h6 (e 1) (e 2) (e 6) (e 7) := by
  have u : compF c25_6 (C m) call (fun e => h6 (e 1) (e 2) (e 6) (e 7)) (exitF 0 (fun e => K25_4 m call (e 6)) (fun _ _ => noK)) (fun e => retV (C m) (resE e Tryz.f25.results.toList)) = (compF (pS1 (pS1 c25_6)) (C m) call (fun e => ifB (e 18) ((compF c25_7 (C m) call (fun e => h6 (e 1) (e 2) (e 6) (e 7)) (exitF 0 (fun e => K25_4 m call (e 6)) (fun _ _ => noK)) (fun e => retV (C m) (resE e Tryz.f25.results.toList))) e) ((fun e => K25_4 m call (e 6)) e)) (exitF 0 (fun e => K25_4 m call (e 6)) (fun _ _ => noK)) (fun e => retV (C m) (resE e Tryz.f25.results.toList))) := by kernel_rfl
  rw [u, K25_7_eq m call h6 ]
  show _ = _
  kernel_rfl
theorem L25_6_eq (m : Nat) (call : CallF) (n : Nat) : (loopF (fun k => compF c25_6 (C m) call k (exitF 0 (fun e => K25_4 m call (e 6)) (fun _ _ => noK)) (fun e => retV (C m) (resE e Tryz.f25.results.toList))) n) = (fun e => L25_6 m call n (e 1) (e 2) (e 6) (e 7)) := by
  induction n with
  | zero => rfl
  | succ n ih =>
    show compF c25_6 (C m) call (loopF (fun k => compF c25_6 (C m) call k (exitF 0 (fun e => K25_4 m call (e 6)) (fun _ _ => noK)) (fun e => retV (C m) (resE e Tryz.f25.results.toList))) n) (exitF 0 (fun e => K25_4 m call (e 6)) (fun _ _ => noK)) (fun e => retV (C m) (resE e Tryz.f25.results.toList)) = _
    rw [ih, L25_6_b_eq m call (L25_6 m call n)]
    rfl
theorem L25_6_succ (m : Nat) (call : CallF) (n : Nat) : L25_6 m call (n + 1) = L25_6_b m call (L25_6 m call n) := rfl
noncomputable def K25_5 (m : Nat) (call : CallF) (t1 t2 t6 t7 : AV) : Kt :=
 L25_6 m call m t1 t2 t6 t7
theorem K25_5_eq (m : Nat) (call : CallF) : compF c25_5 (C m) call (fun e => K25_4 m call (e 6)) (fun _ _ => noK) (fun e => retV (C m) (resE e Tryz.f25.results.toList)) = (fun e => K25_5 m call (e 1) (e 2) (e 6) (e 7)) := by
  have u : compF c25_5 (C m) call (fun e => K25_4 m call (e 6)) (fun _ _ => noK) (fun e => retV (C m) (resE e Tryz.f25.results.toList)) = (loopF (fun k => compF c25_6 (C m) call k (exitF 0 (fun e => K25_4 m call (e 6)) (fun _ _ => noK)) (fun e => retV (C m) (resE e Tryz.f25.results.toList))) m) := by kernel_rfl
  rw [u, L25_6_eq m call m]
  show _ = _
  kernel_rfl
noncomputable def K25_3 (m : Nat) (call : CallF) (t1 t2 t6 : AV) : Kt :=
 K25_5 m call t1 t2 t6 (I 0)
theorem K25_3_eq (m : Nat) (call : CallF) : compF c25_3 (C m) call (fun e => retV (C m) (resE e Tryz.f25.results.toList)) (fun _ _ => noK) (fun e => retV (C m) (resE e Tryz.f25.results.toList)) = (fun e => K25_3 m call (e 1) (e 2) (e 6)) := by
  have u : compF c25_3 (C m) call (fun e => retV (C m) (resE e Tryz.f25.results.toList)) (fun _ _ => noK) (fun e => retV (C m) (resE e Tryz.f25.results.toList)) = (compF (pS1 (pS1 c25_3)) (C m) call (compF c25_5 (C m) call (compF c25_4 (C m) call (fun e => retV (C m) (resE e Tryz.f25.results.toList)) (fun _ _ => noK) (fun e => retV (C m) (resE e Tryz.f25.results.toList))) (fun _ _ => noK) (fun e => retV (C m) (resE e Tryz.f25.results.toList))) (fun _ _ => noK) (fun e => retV (C m) (resE e Tryz.f25.results.toList))) := by kernel_rfl
  rw [u, K25_4_eq m call , K25_5_eq m call ]
  show _ = _
  kernel_rfl
noncomputable def K25_2 (m : Nat) (call : CallF) (t1 t2 : AV) : Kt :=
 K25_3 m call t1 t2 (S [])
theorem K25_2_eq (m : Nat) (call : CallF) : compF c25_2 (C m) call (fun e => retV (C m) (resE e Tryz.f25.results.toList)) (fun _ _ => noK) (fun e => retV (C m) (resE e Tryz.f25.results.toList)) = (fun e => K25_2 m call (e 1) (e 2)) := by
  have u : compF c25_2 (C m) call (fun e => retV (C m) (resE e Tryz.f25.results.toList)) (fun _ _ => noK) (fun e => retV (C m) (resE e Tryz.f25.results.toList)) = (compF (pS1 c25_2) (C m) call (compF c25_3 (C m) call (fun e => retV (C m) (resE e Tryz.f25.results.toList)) (fun _ _ => noK) (fun e => retV (C m) (resE e Tryz.f25.results.toList))) (fun _ _ => noK) (fun e => retV (C m) (resE e Tryz.f25.results.toList))) := by kernel_rfl
  rw [u, K25_3_eq m call ]
  show _ = _
  kernel_rfl
noncomputable def K25_1 (m : Nat) (call : CallF) (t1 t2 : AV) : Kt :=
 bnd (bltO (C m) .len [88] [t1]) fun v0 =>
 bnd (fadO (C m) 39 t2 1) fun v1 =>
 bnd (ldO (C m) 37 v1) fun v2 =>
 bnd (bltO (C m) .len [37] [v2]) fun v3 =>
 bnd (binO (C m) .neq 3 v0 v3) fun v4 =>
 ifB v4
 ((retV (C m) [(none, (S [])), (none, (B false))]))
 ((K25_2 m call t1 t2))
theorem K25_1_eq (m : Nat) (call : CallF) : compF c25_1 (C m) call (fun e => retV (C m) (resE e Tryz.f25.results.toList)) (fun _ _ => noK) (fun e => retV (C m) (resE e Tryz.f25.results.toList)) = (fun e => K25_1 m call (e 1) (e 2)) := by
  have u : compF c25_1 (C m) call (fun e => retV (C m) (resE e Tryz.f25.results.toList)) (fun _ _ => noK) (fun e => retV (C m) (resE e Tryz.f25.results.toList)) = (compF (pS1 (pS1 c25_1)) (C m) call (fun e => ifB (e 14) ((compF (pS1 (pC1 (pS2 (pS1 c25_1)))) (C m) call (fun e => retV (C m) (resE e Tryz.f25.results.toList)) (fun _ _ => noK) (fun e => retV (C m) (resE e Tryz.f25.results.toList))) e) ((compF c25_2 (C m) call (fun e => retV (C m) (resE e Tryz.f25.results.toList)) (fun _ _ => noK) (fun e => retV (C m) (resE e Tryz.f25.results.toList))) e)) (fun _ _ => noK) (fun e => retV (C m) (resE e Tryz.f25.results.toList))) := by kernel_rfl
  rw [u, K25_2_eq m call ]
  show _ = _
  kernel_rfl
noncomputable def K25_0 (m : Nat) (call : CallF) (t0 t1 : AV) : Kt :=
 bnd (boxO 39 t0) fun v0 =>
 K25_1 m call t1 v0
theorem K25_0_eq (m : Nat) (call : CallF) : compF c25_0 (C m) call (fun e => retV (C m) (resE e Tryz.f25.results.toList)) (fun _ _ => noK) (fun e => retV (C m) (resE e Tryz.f25.results.toList)) = (fun e => K25_0 m call (e 0) (e 1)) := by
  have u : compF c25_0 (C m) call (fun e => retV (C m) (resE e Tryz.f25.results.toList)) (fun _ _ => noK) (fun e => retV (C m) (resE e Tryz.f25.results.toList)) = (compF (pS1 c25_0) (C m) call (compF c25_1 (C m) call (fun e => retV (C m) (resE e Tryz.f25.results.toList)) (fun _ _ => noK) (fun e => retV (C m) (resE e Tryz.f25.results.toList))) (fun _ _ => noK) (fun e => retV (C m) (resE e Tryz.f25.results.toList))) := by kernel_rfl
  rw [u, K25_1_eq m call ]
  show _ = _
  kernel_rfl
theorem F25_eq (m : Nat) (call : CallF) (t0 t1 : AV) : enterK (C m) call Tryz.f25 [t0, t1] = K25_0 m call t0 t1 := by
  have u : enterK (C m) call Tryz.f25 [t0, t1] = (compF c25_0 (C m) call (fun e => retV (C m) (resE e Tryz.f25.results.toList)) (fun _ _ => noK) (fun e => retV (C m) (resE e Tryz.f25.results.toList))) (argF [t0, t1]) := by kernel_rfl
  rw [u, K25_0_eq m call]
  rfl
/-! rillmeter/ipfix.Right -/
noncomputable def c38_0 : Code := (bodyOf Tryz.f38)
noncomputable def K38_0 (m : Nat) (call : CallF) (t0 : AV) : Kt :=
 bnd (boxO 86 t0) fun v0 =>
 bnd (fadO (C m) 86 v0 0) fun v1 =>
 bnd (ldO (C m) 3 v1) fun v2 =>
 bnd (calO (C m) call (fnV 68) [v2, (I 0), (I 4294967296)]) fun v3 =>
 bnd (gdO (wantV v3 true) (fadO (C m) 86 v0 1)) fun v4 =>
 bnd (gdO (wantV v3 true) (ldO (C m) 3 v4)) fun v5 =>
 bnd (gdO (wantV v3 true) (calO (C m) call (fnV 68) [v5, (I 0), (I 4294967296)])) fun v6 =>
 bnd (pickO v3 v6 (B false)) fun v7 =>
 bnd (gdO (wantV v7 true) (fadO (C m) 86 v0 2)) fun v8 =>
 bnd (gdO (wantV v7 true) (ldO (C m) 3 v8)) fun v9 =>
 bnd (gdO (wantV v7 true) (calO (C m) call (fnV 68) [v9, (I 0), (I 4294967296)])) fun v10 =>
 bnd (pickO v7 v10 (B false)) fun v11 =>
 bnd (gdO (wantV v11 true) (fadO (C m) 86 v0 3)) fun v12 =>
 bnd (gdO (wantV v11 true) (ldO (C m) 84 v12)) fun v13 =>
 bnd (gdO (wantV v11 true) (calO (C m) call (fnV 69) [v13, (fnV 70)])) fun v14 =>
 bnd (gdO (wantV v11 true) (unO .not v14)) fun v15 =>
 bnd (pickO v11 v15 (B false)) fun v16 =>
 retV (C m) [(none, v16)]
theorem K38_0_eq (m : Nat) (call : CallF) : compF c38_0 (C m) call (fun e => retV (C m) (resE e Tryz.f38.results.toList)) (fun _ _ => noK) (fun e => retV (C m) (resE e Tryz.f38.results.toList)) = (fun e => K38_0 m call (e 0)) := by
  have u : compF c38_0 (C m) call (fun e => retV (C m) (resE e Tryz.f38.results.toList)) (fun _ _ => noK) (fun e => retV (C m) (resE e Tryz.f38.results.toList)) = (compF (pS1 c38_0) (C m) call (compF (pS1 (pS2 c38_0)) (C m) call (fun e => retV (C m) (resE e Tryz.f38.results.toList)) (fun _ _ => noK) (fun e => retV (C m) (resE e Tryz.f38.results.toList))) (fun _ _ => noK) (fun e => retV (C m) (resE e Tryz.f38.results.toList))) := by kernel_rfl
  rw [u]
  show _ = _
  kernel_rfl
theorem F38_eq (m : Nat) (call : CallF) (t0 : AV) : enterK (C m) call Tryz.f38 [t0] = K38_0 m call t0 := by
  have u : enterK (C m) call Tryz.f38 [t0] = (compF c38_0 (C m) call (fun e => retV (C m) (resE e Tryz.f38.results.toList)) (fun _ _ => noK) (fun e => retV (C m) (resE e Tryz.f38.results.toList))) (argF [t0]) := by kernel_rfl
  rw [u, K38_0_eq m call]
  rfl
/-! (rillmeter/ipfix.Set).body -/
noncomputable def c39_0 : Code := (bodyOf Tryz.f39)
noncomputable def c39_1 : Code := (pS2 c39_0)
noncomputable def c39_2 : Code := (pS2 c39_1)
noncomputable def c39_3 : Code := (pS2 c39_2)
noncomputable def c39_4 : Code := (pS2 c39_3)
noncomputable def c39_5 : Code := (pS2 (pS1 c39_3))
noncomputable def c39_6 : Code := (pL (pB c39_5))
noncomputable def c39_7 : Code := (pS2 c39_6)
noncomputable def c39_8 : Code := (pS2 c39_7)
noncomputable def c39_9 : Code := (pS2 c39_8)
noncomputable def c39_10 : Code := (pS2 (pB (pS1 c39_8)))
noncomputable def c39_11 : Code := (pS2 c39_10)
noncomputable def c39_12 : Code := (pS2 c39_11)
noncomputable def c39_13 : Code := (pL (pB c39_12))
noncomputable def c39_14 : Code := (pS2 c39_13)
noncomputable def c39_15 : Code := (pS2 c39_14)
noncomputable def c39_16 : Code := (pS2 c39_15)
noncomputable def K39_4 (m : Nat) (call : CallF) (t3 : AV) : Kt :=
 bnd (calO (C m) call (fnV 43) [t3]) fun v0 =>
 retV (C m) [(none, v0)]
theorem K39_4_eq (m : Nat) (call : CallF) : compF c39_4 (C m) call (fun e => retV (C m) (resE e Tryz.f39.results.toList)) (fun _ _ => noK) (fun e => retV (C m) (resE e Tryz.f39.results.toList)) = (fun e => K39_4 m call (e 3)) := by
  have u : compF c39_4 (C m) call (fun e => retV (C m) (resE e Tryz.f39.results.toList)) (fun _ _ => noK) (fun e => retV (C m) (resE e Tryz.f39.results.toList)) = (compF (pS1 c39_4) (C m) call (fun e => retV (C m) (resE e Tryz.f39.results.toList)) (fun _ _ => noK) (fun e => retV (C m) (resE e Tryz.f39.results.toList))) := by kernel_rfl
  rw [u]
  show _ = _
  kernel_rfl
noncomputable def K39_9 (m : Nat) (call : CallF) (h6 : AV → AV → AV → AV → Kt) (t3 t12 t13 t14 : AV) : Kt :=
 bnd (binO (C m) .add 3 t14 (I 1)) fun v0 =>
 h6 t3 t12 t13 v0
theorem K39_9_eq (m : Nat) (call : CallF) (h6 : AV → AV → AV → AV → Kt) : compF c39_9 (C m) call (fun e => h6 (e 3) (e 12) (e 13) (e 14)) (exitF 0 (fun e => K39_4 m call (e 3)) (fun _ _ => noK)) (fun e => retV (C m) (resE e Tryz.f39.results.toList)) = (fun e => K39_9 m call h6 (e 3) (e 12) (e 13) (e 14)) := by
  have u : compF c39_9 (C m) call (fun e => h6 (e 3) (e 12) (e 13) (e 14)) (exitF 0 (fun e => K39_4 m call (e 3)) (fun _ _ => noK)) (fun e => retV (C m) (resE e Tryz.f39.results.toList)) = (compF c39_9 (C m) call (fun e => h6 (e 3) (e 12) (e 13) (e 14)) (exitF 0 (fun e => K39_4 m call (e 3)) (fun _ _ => noK)) (fun e => retV (C m) (resE e Tryz.f39.results.toList))) := by kernel_rfl
  rw [u]
  show _ = _
  kernel_rfl
noncomputable def K39_16 (m : Nat) (call : CallF) (h6 : AV → AV → AV → AV → Kt) (h13 : AV → AV → AV → AV → AV → AV → AV → Kt) (t3 t12 t13 t14 t28 t29 t30 : AV) : Kt :=
 bnd (binO (C m) .add 3 t30 (I 1)) fun v0 =>
 h13 t3 t12 t13 t14 t28 t29 v0
theorem K39_16_eq (m : Nat) (call : CallF) (h6 : AV → AV → AV → AV → Kt) (h13 : AV → AV → AV → AV → AV → AV → AV → Kt) : compF c39_16 (C m) call (fun e => h13 (e 3) (e 12) (e 13) (e 14) (e 28) (e 29) (e 30)) (exitF 2 (fun e => K39_9 m call h6 (e 3) (e 12) (e 13) (e 14)) (exitF 1 (fun e => K39_9 m call h6 (e 3) (e 12) (e 13) (e 14)) (exitF 0 (fun e => K39_4 m call (e 3)) (fun _ _ => noK)))) (fun e => retV (C m) (resE e Tryz.f39.results.toList)) = (fun e => K39_16 m call h6 h13 (e 3) (e 12) (e 13) (e 14) (e 28) (e 29) (e 30)) := by
  have u : compF c39_16 (C m) call (fun e => h13 (e 3) (e 12) (e 13) (e 14) (e 28) (e 29) (e 30)) (exitF 2 (fun e => K39_9 m call h6 (e 3) (e 12) (e 13) (e 14)) (exitF 1 (fun e => K39_9 m call h6 (e 3) (e 12) (e 13) (e 14)) (exitF 0 (fun e => K39_4 m call (e 3)) (fun _ _ => noK)))) (fun e => retV (C m) (resE e Tryz.f39.results.toList)) = (compF c39_16 (C m) call (fun e => h13 (e 3) (e 12) (e 13) (e 14) (e 28) (e 29) (e 30)) (exitF 2 (fun e => K39_9 m call h6 (e 3) (e 12) (e 13) (e 14)) (exitF 1 (fun e => K39_9 m call h6 (e 3) (e 12) (e 13) (e 14)) (exitF 0 (fun e => K39_4 m call (e 3)) (fun _ _ => noK)))) (fun e => retV (C m) (resE e Tryz.f39.results.toList))) := by kernel_rfl
  rw [u]
  show _ = _
  kernel_rfl
noncomputable def K39_15 (m : Nat) (call : CallF) (h6 : AV → AV → AV → AV → Kt) (h13 : AV → AV → AV → AV → AV → AV → AV → Kt) (t3 t12 t13 t14 t28 t29 t30 : AV) : Kt :=
 bnd (iadO (C m) 33 t28 t30) fun v0 =>
 bnd (ldO (C m) 41 v0) fun v1 =>
 bnd (newO (C m) 41) fun v2 =>
 bnd (stO (C m) 41 v2 v1) fun _ =>
 bnd (fadO (C m) 41 v2 2) fun v3 =>
 bnd (ldO (C m) 3 v3) fun v4 =>
 bnd (binO (C m) .neq 3 v4 (I 0)) fun v5 =>
 ifB v5
 ((dIn fun sv6 =>
 dVal (fadO (C m) 41 v2 0) fun v7 =>
 dChk (ldO (C m) 3 v7) fun v8 =>
 dVal (binO (C m) .add 3 v8 (I 32768)) fun v9 =>
 dEff (calO (C m) call (fnV 41) [v9, (I 2)]) fun v10 sv10 =>
 dVal (fadO (C m) 41 v2 1) fun v11 =>
 dSam (some true) (ldO (C m) 3 v11) (fun v12 => (eqIn (ldO (C m) 3 v11) v12 sv10 && (eqIn (ldO (C m) 3 v11) v12 sv6 && true))) fun v13 =>
 dEff (calO (C m) call (fnV 41) [v13, (I 2)]) fun v14 sv14 =>
 dVal (fadO (C m) 41 v2 2) fun v15 =>
 dSam (some true) (ldO (C m) 3 v15) (fun v16 => (eqIn (ldO (C m) 3 v15) v16 sv14 && (eqIn (ldO (C m) 3 v15) v16 sv10 && (eqIn (ldO (C m) 3 v15) v16 sv6 && true)))) fun v17 =>
 dEff (calO (C m) call (fnV 41) [v17, (I 4)]) fun v18 sv18 =>
 dVal (binO (C m) .add 9 v10 v14) fun v19 =>
 dVal (binO (C m) .add 9 v19 v18) fun v20 =>
 dEff (calO (C m) call (fnV 40) [t3, v20]) fun v21 sv21 =>
 K39_16 m call h6 h13 t3 t12 t13 t14 t28 t29 t30))
 ((dIn fun sv22 =>
 dVal (fadO (C m) 41 v2 0) fun v23 =>
 dChk (ldO (C m) 3 v23) fun v24 =>
 dEff (calO (C m) call (fnV 41) [v24, (I 2)]) fun v25 sv25 =>
 dVal (fadO (C m) 41 v2 1) fun v26 =>
 dSam (some true) (ldO (C m) 3 v26) (fun v27 => (eqIn (ldO (C m) 3 v26) v27 sv25 && (eqIn (ldO (C m) 3 v26) v27 sv22 && true))) fun v28 =>
 dEff (calO (C m) call (fnV 41) [v28, (I 2)]) fun v29 sv29 =>
 dVal (binO (C m) .add 9 v25 v29) fun v30 =>
 dEff (calO (C m) call (fnV 40) [t3, v30]) fun v31 sv31 =>
 K39_16 m call h6 h13 t3 t12 t13 t14 t28 t29 t30))
theorem K39_15_eq (m : Nat) (call : CallF) (h6 : AV → AV → AV → AV → Kt) (h13 : AV → AV → AV → AV → AV → AV → AV → Kt) : compF c39_15 (C m) call (fun e => h13 (e 3) (e 12) (e 13) (e 14) (e 28) (e 29) (e 30)) (exitF 2 (fun e => K39_9 m call h6 (e 3) (e 12) (e 13) (e 14)) (exitF 1 (fun e => K39_9 m call h6 (e 3) (e 12) (e 13) (e 14)) (exitF 0 (fun e => K39_4 m call (e 3)) (fun _ _ => noK)))) (fun e => retV (C m) (resE e Tryz.f39.results.toList)) = (fun e => K39_15 m call h6 h13 (e 3) (e 12) (e 13) (e 14) (e 28) (e 29) (e 30)) := by
  have u : compF c39_15 (C m) call (fun e => h13 (e 3) (e 12) (e 13) (e 14) (e 28) (e 29) (e 30)) (exitF 2 (fun e => K39_9 m call h6 (e 3) (e 12) (e 13) (e 14)) (exitF 1 (fun e => K39_9 m call h6 (e 3) (e 12) (e 13) (e 14)) (exitF 0 (fun e => K39_4 m call (e 3)) (fun _ _ => noK)))) (fun e => retV (C m) (resE e Tryz.f39.results.toList)) = (compF (pS1 (pB (pS1 c39_15))) (C m) call (compF (pS1 (pS2 (pB (pS1 c39_15)))) (C m) call (fun e => ifB (e 36) ((compF (pC1 (pS2 (pS2 (pB (pS1 c39_15))))) (C m) call (compF c39_16 (C m) call (fun e => h13 (e 3) (e 12) (e 13) (e 14) (e 28) (e 29) (e 30)) (exitF 2 (fun e => K39_9 m call h6 (e 3) (e 12) (e 13) (e 14)) (exitF 1 (fun e => K39_9 m call h6 (e 3) (e 12) (e 13) (e 14)) (exitF 0 (fun e => K39_4 m call (e 3)) (fun _ _ => noK)))) (fun e => retV (C m) (resE e Tryz.f39.results.toList))) (exitF 3 (compF c39_16 (C m) call (fun e => h13 (e 3) (e 12) (e 13) (e 14) (e 28) (e 29) (e 30)) (exitF 2 (fun e => K39_9 m call h6 (e 3) (e 12) (e 13) (e 14)) (exitF 1 (fun e => K39_9 m call h6 (e 3) (e 12) (e 13) (e 14)) (exitF 0 (fun e => K39_4 m call (e 3)) (fun _ _ => noK)))) (fun e => retV (C m) (resE e Tryz.f39.results.toList))) (exitF 2 (fun e => K39_9 m call h6 (e 3) (e 12) (e 13) (e 14)) (exitF 1 (fun e => K39_9 m call h6 (e 3) (e 12) (e 13) (e 14)) (exitF 0 (fun e => K39_4 m call (e 3)) (fun _ _ => noK))))) (fun e => retV (C m) (resE e Tryz.f39.results.toList))) e) ((compF (pC2 (pS2 (pS2 (pB (pS1 c39_15))))) (C m) call (compF c39_16 (C m) call (fun e => h13 (e 3) (e 12) (e 13) (e 14) (e 28) (e 29) (e 30)) (exitF 2 (fun e => K39_9 m call h6 (e 3) (e 12) (e 13) (e 14)) (exitF 1 (fun e => K39_9 m call h6 (e 3) (e 12) (e 13) (e 14)) (exitF 0 (fun e => K39_4 m call (e 3)) (fun _ _ => noK)))) (fun e => retV (C m) (resE e Tryz.f39.results.toList))) (exitF 3 (compF c39_16 (C m) call (fun e => h13 (e 3) (e 12) (e 13) (e 14) (e 28) (e 29) (e 30)) (exitF 2 (fun e => K39_9 m call h6 (e 3) (e 12) (e 13) (e 14)) (exitF 1 (fun e => K39_9 m call h6 (e 3) (e 12) (e 13) (e 14)) (exitF 0 (fun e => K39_4 m call (e 3)) (fun _ _ => noK)))) (fun e => retV (C m) (resE e Tryz.f39.results.toList))) (exitF 2 (fun e => K39_9 m call h6 (e 3) (e 12) (e 13) (e 14)) (exitF 1 (fun e => K39_9 m call h6 (e 3) (e 12) (e 13) (e 14)) (exitF 0 (fun e => K39_4 m call (e 3)) (fun _ _ => noK))))) (fun e => retV (C m) (resE e Tryz.f39.results.toList))) e)) (exitF 3 (compF c39_16 (C m) call (fun e => h13 (e 3) (e 12) (e 13) (e 14) (e 28) (e 29) (e 30)) (exitF 2 (fun e => K39_9 m call h6 (e 3) (e 12) (e 13) (e 14)) (exitF 1 (fun e => K39_9 m call h6 (e 3) (e 12) (e 13) (e 14)) (exitF 0 (fun e => K39_4 m call (e 3)) (fun _ _ => noK)))) (fun e => retV (C m) (resE e Tryz.f39.results.toList))) (exitF 2 (fun e => K39_9 m call h6 (e 3) (e 12) (e 13) (e 14)) (exitF 1 (fun e => K39_9 m call h6 (e 3) (e 12) (e 13) (e 14)) (exitF 0 (fun e => K39_4 m call (e 3)) (fun _ _ => noK))))) (fun e => retV (C m) (resE e Tryz.f39.results.toList))) (exitF 3 (compF c39_16 (C m) call (fun e => h13 (e 3) (e 12) (e 13) (e 14) (e 28) (e 29) (e 30)) (exitF 2 (fun e => K39_9 m call h6 (e 3) (e 12) (e 13) (e 14)) (exitF 1 (fun e => K39_9 m call h6 (e 3) (e 12) (e 13) (e 14)) (exitF 0 (fun e => K39_4 m call (e 3)) (fun _ _ => noK)))) (fun e => retV (C m) (resE e Tryz.f39.results.toList))) (exitF 2 (fun e => K39_9 m call h6 (e 3) (e 12) (e 13) (e 14)) (exitF 1 (fun e => K39_9 m call h6 (e 3) (e 12) (e 13) (e 14)) (exitF 0 (fun e => K39_4 m call (e 3)) (fun _ _ => noK))))) (fun e => retV (C m) (resE e Tryz.f39.results.toList))) := by kernel_rfl
  rw [u, K39_16_eq m call h6 h13 ]
  show _ = _
  kernel_rfl
noncomputable def K39_14 (m : Nat) (call : CallF) (h6 : AV → AV → AV → AV → Kt) (h13 : AV → AV → AV → AV → AV → AV → AV → Kt) (t3 t12 t13 t14 t28 t29 t30 t31 : AV) : Kt :=
 ifB t31
 ((K39_15 m call h6 h13 t3 t12 t13 t14 t28 t29 t30))
 ((K39_9 m call h6 t3 t12 t13 t14))
theorem K39_14_eq (m : Nat) (call : CallF) (h6 : AV → AV → AV → AV → Kt) (h13 : AV → AV → AV → AV → AV → AV → AV → Kt) : compF c39_14 (C m) call (fun e => h13 (e 3) (e 12) (e 13) (e 14) (e 28) (e 29) (e 30)) (exitF 2 (fun e => K39_9 m call h6 (e 3) (e 12) (e 13) (e 14)) (exitF 1 (fun e => K39_9 m call h6 (e 3) (e 12) (e 13) (e 14)) (exitF 0 (fun e => K39_4 m call (e 3)) (fun _ _ => noK)))) (fun e => retV (C m) (resE e Tryz.f39.results.toList)) = (fun e => K39_14 m call h6 h13 (e 3) (e 12) (e 13) (e 14) (e 28) (e 29) (e 30) (e 31)) := by
  have u : compF c39_14 (C m) call (fun e => h13 (e 3) (e 12) (e 13) (e 14) (e 28) (e 29) (e 30)) (exitF 2 (fun e => K39_9 m call h6 (e 3) (e 12) (e 13) (e 14)) (exitF 1 (fun e => K39_9 m call h6 (e 3) (e 12) (e 13) (e 14)) (exitF 0 (fun e => K39_4 m call (e 3)) (fun _ _ => noK)))) (fun e => retV (C m) (resE e Tryz.f39.results.toList)) = (fun e => ifB (e 31) ((compF c39_15 (C m) call (fun e => h13 (e 3) (e 12) (e 13) (e 14) (e 28) (e 29) (e 30)) (exitF 2 (fun e => K39_9 m call h6 (e 3) (e 12) (e 13) (e 14)) (exitF 1 (fun e => K39_9 m call h6 (e 3) (e 12) (e 13) (e 14)) (exitF 0 (fun e => K39_4 m call (e 3)) (fun _ _ => noK)))) (fun e => retV (C m) (resE e Tryz.f39.results.toList))) e) ((fun e => K39_9 m call h6 (e 3) (e 12) (e 13) (e 14)) e)) := by kernel_rfl
  rw [u, K39_15_eq m call h6 h13 ]
  show _ = _
  kernel_rfl
noncomputable def L39_13_b (m : Nat) (call : CallF) (h6 : AV → AV → AV → AV → Kt) (h13 : AV → AV → AV → AV → AV → AV → AV → Kt) (t3 t12 t13 t14 t28 t29 t30 : AV) : Kt :=
 bnd (binO (C m) .lss 3 t30 t29) fun v0 =>
 K39_14 m call h6 h13 t3 t12 t13 t14 t28 t29 t30 v0
noncomputable def L39_13 (m : Nat) (call : CallF) (h6 : AV → AV → AV → AV → Kt) (n : Nat) : AV → AV → AV → AV → AV → AV → AV → Kt :=
 Nat.rec (motive := fun _ => AV → AV → AV → AV → AV → AV → AV → Kt) (fun t3 t12 t13 t14 t28 t29 t30 => noK) (fun _ ih => L39_13_b m call h6 ih) n
theorem L39_13_b_eq (m : Nat) (call : CallF) (h6 : AV → AV → AV → AV → Kt) (h13 : AV → AV → AV → AV → AV → AV → AV → Kt) : compF c39_13 (C m) call (fun e => h13 (e 3) (e 12) (e 13) (e 14) (e 28) (e 29) (e 30)) (exitF 2 (fun e => K39_9 m call h6 (e 3) (e 12) (e 13) (e 14)) (exitF 1 (fun e => K39_9 m call h6 (e 3) (e 12) (e 13) (e 14)) (exitF 0 (fun e => K39_4 m call (e 3)) (fun _ _ => noK)))) (fun e => retV (C m) (resE e Tryz.f39.results.toList)) = fun e => L39_13_b m call h6 h13 (e 3) (e 12) (e 13) (e 14) (e 28) (e 29) (e 30) := by
  have u : compF c39_13 (C m) call (fun e => h13 (e 3) (e 12) (e 13) (e 14) (e 28) (e 29) (e 30)) (exitF 2 (fun e => K39_9 m call h6 (e 3) (e 12) (e 13) (e 14)) (exitF 1 (fun e => K39_9 m call h6 (e 3) (e 12) (e 13) (e 14)) (exitF 0 (fun e => K39_4 m call (e 3)) (fun _ _ => noK)))) (fun e => retV (C m) (resE e Tryz.f39.results.toList)) = (compF (pS1 c39_13) (C m) call (compF c39_14 (C m) call (fun e => h13 (e 3) (e 12) (e 13) (e 14) (e 28) (e 29) (e 30)) (exitF 2 (fun e => K39_9 m call h6 (e 3) (e 12) (e 13) (e 14)) (exitF 1 (fun e => K39_9 m call h6 (e 3) (e 12) (e 13) (e 14)) (exitF 0 (fun e => K39_4 m call (e 3)) (fun _ _ => noK)))) (fun e => retV (C m) (resE e Tryz.f39.results.toList))) (exitF 2 (fun e => K39_9 m call h6 (e 3) (e 12) (e 13) (e 14)) (exitF 1 (fun e => K39_9 m call h6 (e 3) (e 12) (e 13) (e 14)) (exitF 0 (fun e => K39_4 m call (e 3)) (fun _ _ => noK)))) (fun e => retV (C m) (resE e Tryz.f39.results.toList))) := by kernel_rfl
  rw [u, K39_14_eq m call h6 h13 ]
  show _ = _
  kernel_rfl
theorem L39_13_eq (m : Nat) (call : CallF) (h6 : AV → AV → AV → AV → Kt) (n : Nat) : (loopF (fun k => compF c39_13 (C m) call k (exitF 2 (fun e => K39_9 m call h6 (e 3) (e 12) (e 13) (e 14)) (exitF 1 (fun e => K39_9 m call h6 (e 3) (e 12) (e 13) (e 14)) (exitF 0 (fun e => K39_4 m call (e 3)) (fun _ _ => noK)))) (fun e => retV (C m) (resE e Tryz.f39.results.toList))) n) = (fun e => L39_13 m call h6 n (e 3) (e 12) (e 13) (e 14) (e 28) (e 29) (e 30)) := by
  induction n with
  | zero => rfl
  | succ n ih =>
    show compF c39_13 (C m) call (loopF (fun k => compF c39_13 (C m) call k (exitF 2 (fun e => K39_9 m call h6 (e 3) (e 12) (e 13) (e 14)) (exitF 1 (fun e => K39_9 m call h6 (e 3) (e 12) (e 13) (e 14)) (exitF 0 (fun e => K39_4 m call (e 3)) (fun _ _ => noK)))) (fun e => retV (C m) (resE e Tryz.f39.results.toList))) n) (exitF 2 (fun e => K39_9 m call h6 (e 3) (e 12) (e 13) (e 14)) (exitF 1 (fun e => K39_9 m call h6 (e 3) (e 12) (e 13) (e 14)) (exitF 0 (fun e => K39_4 m call (e 3)) (fun _ _ => noK)))) (fun e => retV (C m) (resE e Tryz.f39.results.toList)) = _
    rw [ih, L39_13_b_eq m call h6 (L39_13 m call h6 n)]
    rfl
theorem L39_13_succ (m : Nat) (call : CallF) (h6 : AV → AV → AV → AV → Kt) (n : Nat) : L39_13 m call h6 (n + 1) = L39_13_b m call h6 (L39_13 m call h6 n) := rfl
noncomputable def K39_12 (m : Nat) (call : CallF) (h6 : AV → AV → AV → AV → Kt) (t3 t12 t13 t14 t28 t29 t30 : AV) : Kt :=
 L39_13 m call h6 m t3 t12 t13 t14 t28 t29 t30
theorem K39_12_eq (m : Nat) (call : CallF) (h6 : AV → AV → AV → AV → Kt) : compF c39_12 (C m) call (fun e => K39_9 m call h6 (e 3) (e 12) (e 13) (e 14)) (exitF 1 (fun e => K39_9 m call h6 (e 3) (e 12) (e 13) (e 14)) (exitF 0 (fun e => K39_4 m call (e 3)) (fun _ _ => noK))) (fun e => retV (C m) (resE e Tryz.f39.results.toList)) = (fun e => K39_12 m call h6 (e 3) (e 12) (e 13) (e 14) (e 28) (e 29) (e 30)) := by
  have u : compF c39_12 (C m) call (fun e => K39_9 m call h6 (e 3) (e 12) (e 13) (e 14)) (exitF 1 (fun e => K39_9 m call h6 (e 3) (e 12) (e 13) (e 14)) (exitF 0 (fun e => K39_4 m call (e 3)) (fun _ _ => noK))) (fun e => retV (C m) (resE e Tryz.f39.results.toList)) = (loopF (fun k => compF c39_13 (C m) call k (exitF 2 (fun e => K39_9 m call h6 (e 3) (e 12) (e 13) (e 14)) (exitF 1 (fun e => K39_9 m call h6 (e 3) (e 12) (e 13) (e 14)) (exitF 0 (fun e => K39_4 m call (e 3)) (fun _ _ => noK)))) (fun e => retV (C m) (resE e Tryz.f39.results.toList))) m) := by kernel_rfl
  rw [u, L39_13_eq m call h6 m]
  show _ = _
  kernel_rfl
noncomputable def K39_11 (m : Nat) (call : CallF) (h6 : AV → AV → AV → AV → Kt) (t3 t5 t12 t13 t14 : AV) : Kt :=
 bnd (fadO (C m) 35 t5 1) fun v0 =>
 bnd (ldO (C m) 33 v0) fun v1 =>
 bnd (bltO (C m) .len [33] [v1]) fun v2 =>
 K39_12 m call h6 t3 t12 t13 t14 v1 v2 (I 0)
theorem K39_11_eq (m : Nat) (call : CallF) (h6 : AV → AV → AV → AV → Kt) : compF c39_11 (C m) call (fun e => K39_9 m call h6 (e 3) (e 12) (e 13) (e 14)) (exitF 1 (fun e => K39_9 m call h6 (e 3) (e 12) (e 13) (e 14)) (exitF 0 (fun e => K39_4 m call (e 3)) (fun _ _ => noK))) (fun e => retV (C m) (resE e Tryz.f39.results.toList)) = (fun e => K39_11 m call h6 (e 3) (e 5) (e 12) (e 13) (e 14)) := by
  have u : compF c39_11 (C m) call (fun e => K39_9 m call h6 (e 3) (e 12) (e 13) (e 14)) (exitF 1 (fun e => K39_9 m call h6 (e 3) (e 12) (e 13) (e 14)) (exitF 0 (fun e => K39_4 m call (e 3)) (fun _ _ => noK))) (fun e => retV (C m) (resE e Tryz.f39.results.toList)) = (compF (pS1 c39_11) (C m) call (compF c39_12 (C m) call (fun e => K39_9 m call h6 (e 3) (e 12) (e 13) (e 14)) (exitF 1 (fun e => K39_9 m call h6 (e 3) (e 12) (e 13) (e 14)) (exitF 0 (fun e => K39_4 m call (e 3)) (fun _ _ => noK))) (fun e => retV (C m) (resE e Tryz.f39.results.toList))) (exitF 1 (fun e => K39_9 m call h6 (e 3) (e 12) (e 13) (e 14)) (exitF 0 (fun e => K39_4 m call (e 3)) (fun _ _ => noK))) (fun e => retV (C m) (resE e Tryz.f39.results.toList))) := by kernel_rfl
  rw [u, K39_12_eq m call h6 ]
  show _ = _
  kernel_rfl
noncomputable def K39_10 (m : Nat) (call : CallF) (h6 : AV → AV → AV → AV → Kt) (t3 t5 t12 t13 t14 : AV) : Kt :=
 dIn fun sv0 =>
 dVal (fadO (C m) 35 t5 0) fun v1 =>
 dChk (ldO (C m) 3 v1) fun v2 =>
 dEff (calO (C m) call (fnV 41) [v2, (I 2)]) fun v3 sv3 =>
 dVal (fadO (C m) 35 t5 1) fun v4 =>
 dSam (some true) (ldO (C m) 33 v4) (fun v5 => (eqIn (ldO (C m) 33 v4) v5 sv3 && (eqIn (ldO (C m) 33 v4) v5 sv0 && true))) fun v6 =>
 dSam (some true) (bltO (C m) .len [33] [v6]) (fun v7 => (eqIn (bltO (C m) .len [33] [v6]) v7 sv3 && (eqIn (bltO (C m) .len [33] [v6]) v7 sv0 && true))) fun v8 =>
 dEff (calO (C m) call (fnV 41) [v8, (I 2)]) fun v9 sv9 =>
 dVal (binO (C m) .add 9 v3 v9) fun v10 =>
 dEff (calO (C m) call (fnV 40) [t3, v10]) fun v11 sv11 =>
 K39_11 m call h6 t3 t5 t12 t13 t14
theorem K39_10_eq (m : Nat) (call : CallF) (h6 : AV → AV → AV → AV → Kt) : compF c39_10 (C m) call (fun e => K39_9 m call h6 (e 3) (e 12) (e 13) (e 14)) (exitF 1 (fun e => K39_9 m call h6 (e 3) (e 12) (e 13) (e 14)) (exitF 0 (fun e => K39_4 m call (e 3)) (fun _ _ => noK))) (fun e => retV (C m) (resE e Tryz.f39.results.toList)) = (fun e => K39_10 m call h6 (e 3) (e 5) (e 12) (e 13) (e 14)) := by
  have u : compF c39_10 (C m) call (fun e => K39_9 m call h6 (e 3) (e 12) (e 13) (e 14)) (exitF 1 (fun e => K39_9 m call h6 (e 3) (e 12) (e 13) (e 14)) (exitF 0 (fun e => K39_4 m call (e 3)) (fun _ _ => noK))) (fun e => retV (C m) (resE e Tryz.f39.results.toList)) = (compF (pS1 c39_10) (C m) call (compF c39_11 (C m) call (fun e => K39_9 m call h6 (e 3) (e 12) (e 13) (e 14)) (exitF 1 (fun e => K39_9 m call h6 (e 3) (e 12) (e 13) (e 14)) (exitF 0 (fun e => K39_4 m call (e 3)) (fun _ _ => noK))) (fun e => retV (C m) (resE e Tryz.f39.results.toList))) (exitF 1 (fun e => K39_9 m call h6 (e 3) (e 12) (e 13) (e 14)) (exitF 0 (fun e => K39_4 m call (e 3)) (fun _ _ => noK))) (fun e => retV (C m) (resE e Tryz.f39.results.toList))) := by kernel_rfl
  rw [u, K39_11_eq m call h6 ]
  show _ = _
  kernel_rfl
noncomputable def K39_8 (m : Nat) (call : CallF) (h6 : AV → AV → AV → AV → Kt) (t3 t12 t13 t14 : AV) : Kt :=
 bnd (iadO (C m) 81 t12 t14) fun v0 =>
 bnd (ldO (C m) 35 v0) fun v1 =>
 bnd (newO (C m) 35) fun v2 =>
 bnd (stO (C m) 35 v2 v1) fun _ =>
 K39_10 m call h6 t3 v2 t12 t13 t14
theorem K39_8_eq (m : Nat) (call : CallF) (h6 : AV → AV → AV → AV → Kt) : compF c39_8 (C m) call (fun e => h6 (e 3) (e 12) (e 13) (e 14)) (exitF 0 (fun e => K39_4 m call (e 3)) (fun _ _ => noK)) (fun e => retV (C m) (resE e Tryz.f39.results.toList)) = (fun e => K39_8 m call h6 (e 3) (e 12) (e 13) (e 14)) := by
  have u : compF c39_8 (C m) call (fun e => h6 (e 3) (e 12) (e 13) (e 14)) (exitF 0 (fun e => K39_4 m call (e 3)) (fun _ _ => noK)) (fun e => retV (C m) (resE e Tryz.f39.results.toList)) = (compF (pS1 (pB (pS1 c39_8))) (C m) call (compF c39_10 (C m) call (compF c39_9 (C m) call (fun e => h6 (e 3) (e 12) (e 13) (e 14)) (exitF 0 (fun e => K39_4 m call (e 3)) (fun _ _ => noK)) (fun e => retV (C m) (resE e Tryz.f39.results.toList))) (exitF 1 (compF c39_9 (C m) call (fun e => h6 (e 3) (e 12) (e 13) (e 14)) (exitF 0 (fun e => K39_4 m call (e 3)) (fun _ _ => noK)) (fun e => retV (C m) (resE e Tryz.f39.results.toList))) (exitF 0 (fun e => K39_4 m call (e 3)) (fun _ _ => noK))) (fun e => retV (C m) (resE e Tryz.f39.results.toList))) (exitF 1 (compF c39_9 (C m) call (fun e => h6 (e 3) (e 12) (e 13) (e 14)) (exitF 0 (fun e => K39_4 m call (e 3)) (fun _ _ => noK)) (fun e => retV (C m) (resE e Tryz.f39.results.toList))) (exitF 0 (fun e => K39_4 m call (e 3)) (fun _ _ => noK))) (fun e => retV (C m) (resE e Tryz.f39.results.toList))) := by kernel_rfl
  rw [u, K39_9_eq m call h6 , K39_10_eq m call h6 ]
  show _ = _
  kernel_rfl
noncomputable def K39_7 (m : Nat) (call : CallF) (h6 : AV → AV → AV → AV → Kt) (t3 t12 t13 t14 t15 : AV) : Kt :=
 ifB t15
 ((K39_8 m call h6 t3 t12 t13 t14))
 ((K39_4 m call t3))
theorem K39_7_eq (m : Nat) (call : CallF) (h6 : AV → AV → AV → AV → Kt) : compF c39_7 (C m) call (fun e => h6 (e 3) (e 12) (e 13) (e 14)) (exitF 0 (fun e => K39_4 m call (e 3)) (fun _ _ => noK)) (fun e => retV (C m) (resE e Tryz.f39.results.toList)) = (fun e => K39_7 m call h6 (e 3) (e 12) (e 13) (e 14) (e 15)) := by
  have u : compF c39_7 (C m) call (fun e => h6 (e 3) (e 12) (e 13) (e 14)) (exitF 0 (fun e => K39_4 m call (e 3)) (fun _ _ => noK)) (fun e => retV (C m) (resE e Tryz.f39.results.toList)) = (fun e => ifB (e 15) ((compF c39_8 (C m) call (fun e => h6 (e 3) (e 12) (e 13) (e 14)) (exitF 0 (fun e => K39_4 m call (e 3)) (fun _ _ => noK)) (fun e => retV (C m) (resE e Tryz.f39.results.toList))) e) ((fun e => K39_4 m call (e 3)) e)) := by kernel_rfl
  rw [u, K39_8_eq m call h6 ]
  show _ = _
  kernel_rfl
noncomputable def L39_6_b (m : Nat) (call : CallF) (h6 : AV → AV → AV → AV → Kt) (t3 t12 t13 t14 : AV) : Kt :=
 bnd (binO (C m) .lss 3 t14 t13) fun v0 =>
 K39_7 m call h6 t3 t12 t13 t14 v0
noncomputable def L39_6 (m : Nat) (call : CallF) (n : Nat) : AV → AV → AV → AV → Kt :=
 Nat.rec (motive := fun _ => AV → AV → AV → AV → Kt) (fun t3 t12 t13 t14 => noK) (fun _ ih => L39_6_b m call ih) n
theorem L39_6_b_eq (m : Nat) (call : CallF) (h6 : AV → AV → AV → AV → Kt) : compF c39_6 (C m) call (fun e => h6 (e 3) (e 12) (e 13) (e 14)) (exitF 0 (fun e => K39_4 m call (e 3)) (fun _ _ => noK)) (fun e => retV (C m) (resE e Tryz.f39.results.toList)) = fun e => L39_6_b m call h6 (e 3) (e 12) (e 13) (e 14) := by
  have u : compF c39_6 (C m) call (fun e => h6 (e 3) (e 12) (e 13) (e 14)) (exitF 0 (fun e => K39_4 m call (e 3)) (fun _ _ => noK)) (fun e => retV (C m) (resE e Tryz.f39.results.toList)) = (compF (pS1 c39_6) (C m) call (compF c39_7 (C m) call (fun e => h6 (e 3) (e 12) (e 13) (e 14)) (exitF 0 (fun e => K39_4 m call (e 3)) (fun _ _ => noK)) (fun e => retV (C m) (resE e Tryz.f39.results.toList))) (exitF 0 (fun e => K39_4 m call (e 3)) (fun _ _ => noK)) (fun e => retV (C m) (resE e Tryz.f39.results.toList))) := by kernel_rfl
  rw [u, K39_7_eq m call h6 ]
  show _ = _
  kernel_rfl
theorem L39_6_eq (m : Nat) (call : CallF) (n : Nat) : (loopF (fun k => compF c39_6 (C m) call k (exitF 0 (fun e => K39_4 m call (e 3)) (fun _ _ => noK)) (fun e => retV (C m) (resE e Tryz.f39.results.toList))) n) = (fun e => L39_6 m call n (e 3) (e 12) (e 13) (e 14)) := by
  induction n with
  | zero => rfl
  | succ n ih =>
    show compF c39_6 (C m) call (loopF (fun k => compF c39_6 (C m) call k (exitF 0 (fun e => K39_4 m call (e 3)) (fun _ _ => noK)) (fun e => retV (C m) (resE e Tryz.f39.results.toList))) n) (exitF 0 (fun e => K39_4 m call (e 3)) (fun _ _ => noK)) (fun e => retV (C m) (resE e Tryz.f39.results.toList)) = _
    rw [ih, L39_6_b_eq m call (L39_6 m call n)]
    rfl
theorem L39_6_succ (m : Nat) (call : CallF) (n : Nat) : L39_6 m call (n + 1) = L39_6_b m call (L39_6 m call n) := rfl
noncomputable def K39_5 (m : Nat) (call : CallF) (t3 t12 t13 t14 : AV) : Kt :=
 L39_6 m call m t3 t12 t13 t14
theorem K39_5_eq (m : Nat) (call : CallF) : compF c39_5 (C m) call (fun e => K39_4 m call (e 3)) (fun _ _ => noK) (fun e => retV (C m) (resE e Tryz.f39.results.toList)) = (fun e => K39_5 m call (e 3) (e 12) (e 13) (e 14)) := by
  have u : compF c39_5 (C m) call (fun e => K39_4 m call (e 3)) (fun _ _ => noK) (fun e => retV (C m) (resE e Tryz.f39.results.toList)) = (loopF (fun k => compF c39_6 (C m) call k (exitF 0 (fun e => K39_4 m call (e 3)) (fun _ _ => noK)) (fun e => retV (C m) (resE e Tryz.f39.results.toList))) m) := by kernel_rfl
  rw [u, L39_6_eq m call m]
  show _ = _
  kernel_rfl
noncomputable def K39_3 (m : Nat) (call : CallF) (t1 t3 : AV) : Kt :=
 bnd (fadO (C m) 83 t1 1) fun v0 =>
 bnd (ldO (C m) 81 v0) fun v1 =>
 bnd (bltO (C m) .len [81] [v1]) fun v2 =>
 K39_5 m call t3 v1 v2 (I 0)
theorem K39_3_eq (m : Nat) (call : CallF) : compF c39_3 (C m) call (fun e => retV (C m) (resE e Tryz.f39.results.toList)) (fun _ _ => noK) (fun e => retV (C m) (resE e Tryz.f39.results.toList)) = (fun e => K39_3 m call (e 1) (e 3)) := by
  have u : compF c39_3 (C m) call (fun e => retV (C m) (resE e Tryz.f39.results.toList)) (fun _ _ => noK) (fun e => retV (C m) (resE e Tryz.f39.results.toList)) = (compF (pS1 (pS1 c39_3)) (C m) call (compF c39_5 (C m) call (compF c39_4 (C m) call (fun e => retV (C m) (resE e Tryz.f39.results.toList)) (fun _ _ => noK) (fun e => retV (C m) (resE e Tryz.f39.results.toList))) (fun _ _ => noK) (fun e => retV (C m) (resE e Tryz.f39.results.toList))) (fun _ _ => noK) (fun e => retV (C m) (resE e Tryz.f39.results.toList))) := by kernel_rfl
  rw [u, K39_4_eq m call , K39_5_eq m call ]
  show _ = _
  kernel_rfl
noncomputable def K39_2 (m : Nat) (call : CallF) (t1 t3 : AV) : Kt :=
 bnd (fadO (C m) 83 t1 2) fun v0 =>
 bnd (ldO (C m) 9 v0) fun v1 =>
 bnd (calO (C m) call (fnV 40) [t3, v1]) fun v2 =>
 K39_3 m call t1 t3
theorem K39_2_eq (m : Nat) (call : CallF) : compF c39_2 (C m) call (fun e => retV (C m) (resE e Tryz.f39.results.toList)) (fun _ _ => noK) (fun e => retV (C m) (resE e Tryz.f39.results.toList)) = (fun e => K39_2 m call (e 1) (e 3)) := by
  have u : compF c39_2 (C m) call (fun e => retV (C m) (resE e Tryz.f39.results.toList)) (fun _ _ => noK) (fun e => retV (C m) (resE e Tryz.f39.results.toList)) = (compF (pS1 c39_2) (C m) call (compF c39_3 (C m) call (fun e => retV (C m) (resE e Tryz.f39.results.toList)) (fun _ _ => noK) (fun e => retV (C m) (resE e Tryz.f39.results.toList))) (fun _ _ => noK) (fun e => retV (C m) (resE e Tryz.f39.results.toList))) := by kernel_rfl
  rw [u, K39_3_eq m call ]
  show _ = _
  kernel_rfl
noncomputable def K39_1 (m : Nat) (call : CallF) (t1 : AV) : Kt :=
 bnd (newO (C m) 128) fun v0 =>
 K39_2 m call t1 v0
theorem K39_1_eq (m : Nat) (call : CallF) : compF c39_1 (C m) call (fun e => retV (C m) (resE e Tryz.f39.results.toList)) (fun _ _ => noK) (fun e => retV (C m) (resE e Tryz.f39.results.toList)) = (fun e => K39_1 m call (e 1)) := by
  have u : compF c39_1 (C m) call (fun e => retV (C m) (resE e Tryz.f39.results.toList)) (fun _ _ => noK) (fun e => retV (C m) (resE e Tryz.f39.results.toList)) = (compF (pS1 c39_1) (C m) call (compF c39_2 (C m) call (fun e => retV (C m) (resE e Tryz.f39.results.toList)) (fun _ _ => noK) (fun e => retV (C m) (resE e Tryz.f39.results.toList))) (fun _ _ => noK) (fun e => retV (C m) (resE e Tryz.f39.results.toList))) := by kernel_rfl
  rw [u, K39_2_eq m call ]
  show _ = _
  kernel_rfl
noncomputable def K39_0 (m : Nat) (call : CallF) (t0 : AV) : Kt :=
 bnd (boxO 83 t0) fun v0 =>
 K39_1 m call v0
theorem K39_0_eq (m : Nat) (call : CallF) : compF c39_0 (C m) call (fun e => retV (C m) (resE e Tryz.f39.results.toList)) (fun _ _ => noK) (fun e => retV (C m) (resE e Tryz.f39.results.toList)) = (fun e => K39_0 m call (e 0)) := by
  have u : compF c39_0 (C m) call (fun e => retV (C m) (resE e Tryz.f39.results.toList)) (fun _ _ => noK) (fun e => retV (C m) (resE e Tryz.f39.results.toList)) = (compF (pS1 c39_0) (C m) call (compF c39_1 (C m) call (fun e => retV (C m) (resE e Tryz.f39.results.toList)) (fun _ _ => noK) (fun e => retV (C m) (resE e Tryz.f39.results.toList))) (fun _ _ => noK) (fun e => retV (C m) (resE e Tryz.f39.results.toList))) := by kernel_rfl
  rw [u, K39_1_eq m call ]
  show _ = _
  kernel_rfl
theorem F39_eq (m : Nat) (call : CallF) (t0 : AV) : enterK (C m) call Tryz.f39 [t0] = K39_0 m call t0 := by
  have u : enterK (C m) call Tryz.f39 [t0] = (compF c39_0 (C m) call (fun e => retV (C m) (resE e Tryz.f39.results.toList)) (fun _ _ => noK) (fun e => retV (C m) (resE e Tryz.f39.results.toList))) (argF [t0]) := by kernel_rfl
  rw [u, K39_0_eq m call]
  rfl
/-! (*strings.Builder).WriteString -/
noncomputable def c40_0 : Code := (bodyOf Tryz.f40)
noncomputable def K40_0 (m : Nat) (call : CallF) (t0 t1 : AV) : Kt :=
 bnd (calO (C m) call (fnV 72) [t0]) fun v0 =>
 bnd (nilO t0) fun v1 =>
 bnd (fadO (C m) 128 v1 1) fun v2 =>
 bnd (ldO (C m) 126 v2) fun v3 =>
 bnd (bltO (C m) .append [126, 9] [v3, t1]) fun v4 =>
 bnd (nilO t0) fun v5 =>
 bnd (fadO (C m) 128 v5 1) fun v6 =>
 bnd (stO (C m) 126 v6 v4) fun _ =>
 bnd (bltO (C m) .len [9] [t1]) fun v7 =>
 retV (C m) [(none, v7), (none, (.one (.nilI)))]
theorem K40_0_eq (m : Nat) (call : CallF) : compF c40_0 (C m) call (fun e => retV (C m) (resE e Tryz.f40.results.toList)) (fun _ _ => noK) (fun e => retV (C m) (resE e Tryz.f40.results.toList)) = (fun e => K40_0 m call (e 0) (e 1)) := by
  have u : compF c40_0 (C m) call (fun e => retV (C m) (resE e Tryz.f40.results.toList)) (fun _ _ => noK) (fun e => retV (C m) (resE e Tryz.f40.results.toList)) = (compF (pS1 c40_0) (C m) call (compF (pS1 (pS2 c40_0)) (C m) call (compF (pS1 (pS2 (pS2 c40_0))) (C m) call (compF (pS1 (pS2 (pS2 (pS2 c40_0)))) (C m) call (fun e => retV (C m) (resE e Tryz.f40.results.toList)) (fun _ _ => noK) (fun e => retV (C m) (resE e Tryz.f40.results.toList))) (fun _ _ => noK) (fun e => retV (C m) (resE e Tryz.f40.results.toList))) (fun _ _ => noK) (fun e => retV (C m) (resE e Tryz.f40.results.toList))) (fun _ _ => noK) (fun e => retV (C m) (resE e Tryz.f40.results.toList))) := by kernel_rfl
  rw [u]
  show _ = _
  kernel_rfl
theorem F40_eq (m : Nat) (call : CallF) (t0 t1 : AV) : enterK (C m) call Tryz.f40 [t0, t1] = K40_0 m call t0 t1 := by
  have u : enterK (C m) call Tryz.f40 [t0, t1] = (compF c40_0 (C m) call (fun e => retV (C m) (resE e Tryz.f40.results.toList)) (fun _ _ => noK) (fun e => retV (C m) (resE e Tryz.f40.results.toList))) (argF [t0, t1]) := by kernel_rfl
  rw [u, K40_0_eq m call]
  rfl
/-! rillmeter/ipfix.put -/
noncomputable def c41_0 : Code := (bodyOf Tryz.f41)
noncomputable def K41_0 (m : Nat) (call : CallF) (t0 t1 : AV) : Kt :=
 bnd (calO (C m) call (fnV 20) [t0, t1]) fun v0 =>
 bnd (extO v0 0) fun v1 =>
 bnd (extO v0 1) fun v2 =>
 retV (C m) [(none, v1)]
theorem K41_0_eq (m : Nat) (call : CallF) : compF c41_0 (C m) call (fun e => retV (C m) (resE e Tryz.f41.results.toList)) (fun _ _ => noK) (fun e => retV (C m) (resE e Tryz.f41.results.toList)) = (fun e => K41_0 m call (e 0) (e 1)) := by
  have u : compF c41_0 (C m) call (fun e => retV (C m) (resE e Tryz.f41.results.toList)) (fun _ _ => noK) (fun e => retV (C m) (resE e Tryz.f41.results.toList)) = (compF (pS1 c41_0) (C m) call (compF (pS1 (pS2 c41_0)) (C m) call (compF (pS1 (pS2 (pS2 c41_0))) (C m) call (fun e => retV (C m) (resE e Tryz.f41.results.toList)) (fun _ _ => noK) (fun e => retV (C m) (resE e Tryz.f41.results.toList))) (fun _ _ => noK) (fun e => retV (C m) (resE e Tryz.f41.results.toList))) (fun _ _ => noK) (fun e => retV (C m) (resE e Tryz.f41.results.toList))) := by kernel_rfl
  rw [u]
  show _ = _
  kernel_rfl
theorem F41_eq (m : Nat) (call : CallF) (t0 t1 : AV) : enterK (C m) call Tryz.f41 [t0, t1] = K41_0 m call t0 t1 := by
  have u : enterK (C m) call Tryz.f41 [t0, t1] = (compF c41_0 (C m) call (fun e => retV (C m) (resE e Tryz.f41.results.toList)) (fun _ _ => noK) (fun e => retV (C m) (resE e Tryz.f41.results.toList))) (argF [t0, t1]) := by kernel_rfl
  rw [u, K41_0_eq m call]
  rfl
end Go.Proofs.YtggjhmhjjghncaaGreat
