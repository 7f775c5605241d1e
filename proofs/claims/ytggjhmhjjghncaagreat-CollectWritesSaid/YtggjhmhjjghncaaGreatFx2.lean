/- Functions of the program as plain functions over the interpreter's words, and the theorems that they are what the interpreter makes of the code. -/
import Derived.Test.YtggjhmhjjghncaaGreatCx
namespace Go.Proofs.YtggjhmhjjghncaaGreat
open Go.Run
set_option maxRecDepth 100000
open Go
/-! rillmeter/rillmeterlaw23.CollectWrites -/
noncomputable def c3_0 : Code := (bodyOf Tryz.f3)
noncomputable def c3_1 : Code := (pS2 c3_0)
noncomputable def c3_2 : Code := (pS2 c3_1)
noncomputable def c3_3 : Code := (pS2 c3_2)
noncomputable def c3_4 : Code := (pS2 c3_3)
noncomputable def c3_5 : Code := (pS2 c3_4)
noncomputable def c3_6 : Code := (pS2 c3_5)
noncomputable def c3_7 : Code := (pS2 c3_6)
noncomputable def c3_8 : Code := (pS2 c3_7)
noncomputable def c3_9 : Code := (pS2 c3_8)
noncomputable def c3_10 : Code := (pS2 (pS1 c3_8))
noncomputable def c3_11 : Code := (pL (pB c3_10))
noncomputable def c3_12 : Code := (pS2 c3_11)
noncomputable def c3_13 : Code := (pS2 c3_12)
noncomputable def c3_14 : Code := (pS2 c3_13)
noncomputable def K3_9 (m : Nat) (call : CallF) (t7 t8 t9 t10 t11 t12 t13 t14 t16 : AV) : Kt :=
 dIn fun sv0 =>
 dEff (calO (C m) call (fnV 11) []) fun v1 sv1 =>
 dSam (some true) (ldO (C m) 39 t16) (fun v2 => (eqIn (ldO (C m) 39 t16) v2 sv1 && (eqIn (ldO (C m) 39 t16) v2 sv0 && true))) fun v3 =>
 dEff (calO (C m) call (fnV 10) [v3, v1]) fun v4 sv4 =>
 dVal (unO .not v4) fun v5 =>
 dVal (gdO (wantV v5 false) (fun _ => .val t8)) fun v6 =>
 dVal (gdO (wantV v5 false) (binO (C m) .eql 25 v6 (I 0))) fun v7 =>
 dVal (gdO (wantV v5 false) (fun _ => .val t12)) fun v8 =>
 dVal (gdO (wantV v5 false) (binO (C m) .neq 4 v7 v8)) fun v9 =>
 dVal (pickO v5 (B true) v9) fun v10 =>
 dVal (gdO (wantV v10 false) (fun _ => .val t10)) fun v11 =>
 dVal (gdO (wantV v10 false) (binO (C m) .eql 25 v11 (I 0))) fun v12 =>
 dVal (gdO (wantV v10 false) (fun _ => .val t14)) fun v13 =>
 dVal (gdO (wantV v10 false) (binO (C m) .neq 4 v12 v13)) fun v14 =>
 dVal (pickO v10 (B true) v14) fun v15 =>
 dVal (gdO (wantV v15 false) (fun _ => .val t12)) fun v16 =>
 dVal (gdO (wantV v15 false) (unO .not v16)) fun v17 =>
 dVal (gdO (wantV v15 false) (fun _ => .val v17)) fun v18 =>
 dVal (gdO (wantV v18 true) (fun _ => .val t7)) fun v19 =>
 dVal (gdO (wantV v18 true) (binO (C m) .neq 9 v19 (S []))) fun v20 =>
 dVal (gdO (wantV v18 true) (fun _ => .val v20)) fun v21 =>
 dVal (gdO (wantV v21 false) (fun _ => .val t8)) fun v22 =>
 dVal (gdO (wantV v21 false) (binO (C m) .neq 25 v22 (I 1))) fun v23 =>
 dVal (gdO (wantV v18 true) (pickO v21 (B true) v23)) fun v24 =>
 dVal (gdO (wantV v15 false) (pickO v18 v24 (B false))) fun v25 =>
 dVal (pickO v15 (B true) v25) fun v26 =>
 dVal (gdO (wantV v26 false) (fun _ => .val t14)) fun v27 =>
 dVal (gdO (wantV v26 false) (unO .not v27)) fun v28 =>
 dVal (gdO (wantV v26 false) (fun _ => .val v28)) fun v29 =>
 dVal (gdO (wantV v29 true) (fun _ => .val t9)) fun v30 =>
 dVal (gdO (wantV v29 true) (binO (C m) .neq 9 v30 (S []))) fun v31 =>
 dVal (gdO (wantV v29 true) (fun _ => .val v31)) fun v32 =>
 dVal (gdO (wantV v32 false) (fun _ => .val t10)) fun v33 =>
 dVal (gdO (wantV v32 false) (binO (C m) .neq 25 v33 (I 1))) fun v34 =>
 dVal (gdO (wantV v29 true) (pickO v32 (B true) v34)) fun v35 =>
 dVal (gdO (wantV v26 false) (pickO v29 v35 (B false))) fun v36 =>
 dVal (pickO v26 (B true) v36) fun v37 =>
 ifB v37
 ((retV (C m) [(none, (B false))]))
 ((bnd (unO .not t12) fun v38 =>
 bnd (gdO (wantV v38 false) (fun _ => .val t7)) fun v39 =>
 bnd (gdO (wantV v38 false) (fun _ => .val t11)) fun v40 =>
 bnd (gdO (wantV v38 false) (binO (C m) .eql 9 v39 v40)) fun v41 =>
 bnd (pickO v38 (B true) v41) fun v42 =>
 bnd (gdO (wantV v42 true) (fun _ => .val t14)) fun v43 =>
 bnd (gdO (wantV v42 true) (unO .not v43)) fun v44 =>
 bnd (gdO (wantV v42 true) (fun _ => .val v44)) fun v45 =>
 bnd (gdO (wantV v45 false) (fun _ => .val t9)) fun v46 =>
 bnd (gdO (wantV v45 false) (fun _ => .val t13)) fun v47 =>
 bnd (gdO (wantV v45 false) (binO (C m) .eql 9 v46 v47)) fun v48 =>
 bnd (gdO (wantV v42 true) (pickO v45 (B true) v48)) fun v49 =>
 bnd (pickO v42 v49 (B false)) fun v50 =>
 bnd (gdO (wantV v50 true) (calO (C m) call (fnV 4) [])) fun v51 =>
 bnd (pickO v50 v51 (B false)) fun v52 =>
 retV (C m) [(none, v52)]))
theorem K3_9_eq (m : Nat) (call : CallF) : compF c3_9 (C m) call (fun e => retV (C m) (resE e Tryz.f3.results.toList)) (fun _ _ => noK) (fun e => retV (C m) (resE e Tryz.f3.results.toList)) = (fun e => K3_9 m call (e 7) (e 8) (e 9) (e 10) (e 11) (e 12) (e 13) (e 14) (e 16)) := by
  have u : compF c3_9 (C m) call (fun e => retV (C m) (resE e Tryz.f3.results.toList)) (fun _ _ => noK) (fun e => retV (C m) (resE e Tryz.f3.results.toList)) = (compF (pS1 (pS1 c3_9)) (C m) call (fun e => ifB (e 105) ((compF (pS1 (pC1 (pS2 (pS1 c3_9)))) (C m) call (fun e => retV (C m) (resE e Tryz.f3.results.toList)) (fun _ _ => noK) (fun e => retV (C m) (resE e Tryz.f3.results.toList))) e) ((compF (pS1 (pS2 c3_9)) (C m) call (fun e => retV (C m) (resE e Tryz.f3.results.toList)) (fun _ _ => noK) (fun e => retV (C m) (resE e Tryz.f3.results.toList))) e)) (fun _ _ => noK) (fun e => retV (C m) (resE e Tryz.f3.results.toList))) := by kernel_rfl
  rw [u]
  show _ = _
  kernel_rfl
noncomputable def K3_14 (m : Nat) (call : CallF) (h11 : AV → AV → AV → AV → AV → AV → AV → AV → AV → AV → AV → AV → Kt) (t7 t8 t9 t10 t11 t12 t13 t14 t16 t53 t54 t55 : AV) : Kt :=
 bnd (binO (C m) .add 3 t55 (I 1)) fun v0 =>
 h11 t7 t8 t9 t10 t11 t12 t13 t14 t16 t53 t54 v0
theorem K3_14_eq (m : Nat) (call : CallF) (h11 : AV → AV → AV → AV → AV → AV → AV → AV → AV → AV → AV → AV → Kt) : compF c3_14 (C m) call (fun e => h11 (e 7) (e 8) (e 9) (e 10) (e 11) (e 12) (e 13) (e 14) (e 16) (e 53) (e 54) (e 55)) (exitF 0 (fun e => K3_9 m call (e 7) (e 8) (e 9) (e 10) (e 11) (e 12) (e 13) (e 14) (e 16)) (fun _ _ => noK)) (fun e => retV (C m) (resE e Tryz.f3.results.toList)) = (fun e => K3_14 m call h11 (e 7) (e 8) (e 9) (e 10) (e 11) (e 12) (e 13) (e 14) (e 16) (e 53) (e 54) (e 55)) := by
  have u : compF c3_14 (C m) call (fun e => h11 (e 7) (e 8) (e 9) (e 10) (e 11) (e 12) (e 13) (e 14) (e 16) (e 53) (e 54) (e 55)) (exitF 0 (fun e => K3_9 m call (e 7) (e 8) (e 9) (e 10) (e 11) (e 12) (e 13) (e 14) (e 16)) (fun _ _ => noK)) (fun e => retV (C m) (resE e Tryz.f3.results.toList)) = (compF c3_14 (C m) call (fun e => h11 (e 7) (e 8) (e 9) (e 10) (e 11) (e 12) (e 13) (e 14) (e 16) (e 53) (e 54) (e 55)) (exitF 0 (fun e => K3_9 m call (e 7) (e 8) (e 9) (e 10) (e 11) (e 12) (e 13) (e 14) (e 16)) (fun _ _ => noK)) (fun e => retV (C m) (resE e Tryz.f3.results.toList))) := by kernel_rfl
  rw [u]
  show _ = _
  kernel_rfl
noncomputable def K3_13 (m : Nat) (call : CallF) (h11 : AV → AV → AV → AV → AV → AV → AV → AV → AV → AV → AV → AV → Kt) (t7 t8 t9 t10 t11 t12 t13 t14 t16 t53 t54 t55 : AV) : Kt :=
 bnd (iadO (C m) 33 t53 t55) fun v0 =>
 bnd (ldO (C m) 41 v0) fun v1 =>
 bnd (newO (C m) 41) fun v2 =>
 bnd (stO (C m) 41 v2 v1) fun _ =>
 bnd (fadO (C m) 39 t16 1) fun v3 =>
 bnd (ldO (C m) 37 v3) fun v4 =>
 bnd (ldO (C m) 41 v2) fun v5 =>
 bnd (bslO (C m) 37 1 [(0, v5)]) fun v6 =>
 bnd (bltO (C m) .append [37, 37] [v4, v6]) fun v7 =>
 bnd (fadO (C m) 39 t16 1) fun v8 =>
 bnd (stO (C m) 37 v8 v7) fun _ =>
 K3_14 m call h11 t7 t8 t9 t10 t11 t12 t13 t14 t16 t53 t54 t55
theorem K3_13_eq (m : Nat) (call : CallF) (h11 : AV → AV → AV → AV → AV → AV → AV → AV → AV → AV → AV → AV → Kt) : compF c3_13 (C m) call (fun e => h11 (e 7) (e 8) (e 9) (e 10) (e 11) (e 12) (e 13) (e 14) (e 16) (e 53) (e 54) (e 55)) (exitF 0 (fun e => K3_9 m call (e 7) (e 8) (e 9) (e 10) (e 11) (e 12) (e 13) (e 14) (e 16)) (fun _ _ => noK)) (fun e => retV (C m) (resE e Tryz.f3.results.toList)) = (fun e => K3_13 m call h11 (e 7) (e 8) (e 9) (e 10) (e 11) (e 12) (e 13) (e 14) (e 16) (e 53) (e 54) (e 55)) := by
  have u : compF c3_13 (C m) call (fun e => h11 (e 7) (e 8) (e 9) (e 10) (e 11) (e 12) (e 13) (e 14) (e 16) (e 53) (e 54) (e 55)) (exitF 0 (fun e => K3_9 m call (e 7) (e 8) (e 9) (e 10) (e 11) (e 12) (e 13) (e 14) (e 16)) (fun _ _ => noK)) (fun e => retV (C m) (resE e Tryz.f3.results.toList)) = (compF (pS1 (pB (pS1 c3_13))) (C m) call (compF (pS2 (pB (pS1 c3_13))) (C m) call (compF c3_14 (C m) call (fun e => h11 (e 7) (e 8) (e 9) (e 10) (e 11) (e 12) (e 13) (e 14) (e 16) (e 53) (e 54) (e 55)) (exitF 0 (fun e => K3_9 m call (e 7) (e 8) (e 9) (e 10) (e 11) (e 12) (e 13) (e 14) (e 16)) (fun _ _ => noK)) (fun e => retV (C m) (resE e Tryz.f3.results.toList))) (exitF 1 (compF c3_14 (C m) call (fun e => h11 (e 7) (e 8) (e 9) (e 10) (e 11) (e 12) (e 13) (e 14) (e 16) (e 53) (e 54) (e 55)) (exitF 0 (fun e => K3_9 m call (e 7) (e 8) (e 9) (e 10) (e 11) (e 12) (e 13) (e 14) (e 16)) (fun _ _ => noK)) (fun e => retV (C m) (resE e Tryz.f3.results.toList))) (exitF 0 (fun e => K3_9 m call (e 7) (e 8) (e 9) (e 10) (e 11) (e 12) (e 13) (e 14) (e 16)) (fun _ _ => noK))) (fun e => retV (C m) (resE e Tryz.f3.results.toList))) (exitF 1 (compF c3_14 (C m) call (fun e => h11 (e 7) (e 8) (e 9) (e 10) (e 11) (e 12) (e 13) (e 14) (e 16) (e 53) (e 54) (e 55)) (exitF 0 (fun e => K3_9 m call (e 7) (e 8) (e 9) (e 10) (e 11) (e 12) (e 13) (e 14) (e 16)) (fun _ _ => noK)) (fun e => retV (C m) (resE e Tryz.f3.results.toList))) (exitF 0 (fun e => K3_9 m call (e 7) (e 8) (e 9) (e 10) (e 11) (e 12) (e 13) (e 14) (e 16)) (fun _ _ => noK))) (fun e => retV (C m) (resE e Tryz.f3.results.toList))) := by kernel_rfl
  rw [u, K3_14_eq m call h11 ]
  show _ = _
  kernel_rfl
noncomputable def K3_12 (m : Nat) (call : CallF) (h11 : AV → AV → AV → AV → AV → AV → AV → AV → AV → AV → AV → AV → Kt) (t7 t8 t9 t10 t11 t12 t13 t14 t16 t53 t54 t55 t56 : AV) : Kt :=
 ifB t56
 ((K3_13 m call h11 t7 t8 t9 t10 t11 t12 t13 t14 t16 t53 t54 t55))
 ((K3_9 m call t7 t8 t9 t10 t11 t12 t13 t14 t16))
theorem K3_12_eq (m : Nat) (call : CallF) (h11 : AV → AV → AV → AV → AV → AV → AV → AV → AV → AV → AV → AV → Kt) : compF c3_12 (C m) call (fun e => h11 (e 7) (e 8) (e 9) (e 10) (e 11) (e 12) (e 13) (e 14) (e 16) (e 53) (e 54) (e 55)) (exitF 0 (fun e => K3_9 m call (e 7) (e 8) (e 9) (e 10) (e 11) (e 12) (e 13) (e 14) (e 16)) (fun _ _ => noK)) (fun e => retV (C m) (resE e Tryz.f3.results.toList)) = (fun e => K3_12 m call h11 (e 7) (e 8) (e 9) (e 10) (e 11) (e 12) (e 13) (e 14) (e 16) (e 53) (e 54) (e 55) (e 56)) := by
  have u : compF c3_12 (C m) call (fun e => h11 (e 7) (e 8) (e 9) (e 10) (e 11) (e 12) (e 13) (e 14) (e 16) (e 53) (e 54) (e 55)) (exitF 0 (fun e => K3_9 m call (e 7) (e 8) (e 9) (e 10) (e 11) (e 12) (e 13) (e 14) (e 16)) (fun _ _ => noK)) (fun e => retV (C m) (resE e Tryz.f3.results.toList)) = (fun e => ifB (e 56) ((compF c3_13 (C m) call (fun e => h11 (e 7) (e 8) (e 9) (e 10) (e 11) (e 12) (e 13) (e 14) (e 16) (e 53) (e 54) (e 55)) (exitF 0 (fun e => K3_9 m call (e 7) (e 8) (e 9) (e 10) (e 11) (e 12) (e 13) (e 14) (e 16)) (fun _ _ => noK)) (fun e => retV (C m) (resE e Tryz.f3.results.toList))) e) ((fun e => K3_9 m call (e 7) (e 8) (e 9) (e 10) (e 11) (e 12) (e 13) (e 14) (e 16)) e)) := by kernel_rfl
  rw [u, K3_13_eq m call h11 ]
  show _ = _
  kernel_rfl
noncomputable def L3_11_b (m : Nat) (call : CallF) (h11 : AV → AV → AV → AV → AV → AV → AV → AV → AV → AV → AV → AV → Kt) (t7 t8 t9 t10 t11 t12 t13 t14 t16 t53 t54 t55 : AV) : Kt :=
 bnd (binO (C m) .lss 3 t55 t54) fun v0 =>
 K3_12 m call h11 t7 t8 t9 t10 t11 t12 t13 t14 t16 t53 t54 t55 v0
noncomputable def L3_11 (m : Nat) (call : CallF) (n : Nat) : AV → AV → AV → AV → AV → AV → AV → AV → AV → AV → AV → AV → Kt :=
 Nat.rec (motive := fun _ => AV → AV → AV → AV → AV → AV → AV → AV → AV → AV → AV → AV → Kt) (fun t7 t8 t9 t10 t11 t12 t13 t14 t16 t53 t54 t55 => noK) (fun _ ih => L3_11_b m call ih) n
theorem L3_11_b_eq (m : Nat) (call : CallF) (h11 : AV → AV → AV → AV → AV → AV → AV → AV → AV → AV → AV → AV → Kt) : compF c3_11 (C m) call (fun e => h11 (e 7) (e 8) (e 9) (e 10) (e 11) (e 12) (e 13) (e 14) (e 16) (e 53) (e 54) (e 55)) (exitF 0 (fun e => K3_9 m call (e 7) (e 8) (e 9) (e 10) (e 11) (e 12) (e 13) (e 14) (e 16)) (fun _ _ => noK)) (fun e => retV (C m) (resE e Tryz.f3.results.toList)) = fun e => L3_11_b m call h11 (e 7) (e 8) (e 9) (e 10) (e 11) (e 12) (e 13) (e 14) (e 16) (e 53) (e 54) (e 55) := by
  have u : compF c3_11 (C m) call (fun e => h11 (e 7) (e 8) (e 9) (e 10) (e 11) (e 12) (e 13) (e 14) (e 16) (e 53) (e 54) (e 55)) (exitF 0 (fun e => K3_9 m call (e 7) (e 8) (e 9) (e 10) (e 11) (e 12) (e 13) (e 14) (e 16)) (fun _ _ => noK)) (fun e => retV (C m) (resE e Tryz.f3.results.toList)) = (compF (pS1 c3_11) (C m) call (compF c3_12 (C m) call (fun e => h11 (e 7) (e 8) (e 9) (e 10) (e 11) (e 12) (e 13) (e 14) (e 16) (e 53) (e 54) (e 55)) (exitF 0 (fun e => K3_9 m call (e 7) (e 8) (e 9) (e 10) (e 11) (e 12) (e 13) (e 14) (e 16)) (fun _ _ => noK)) (fun e => retV (C m) (resE e Tryz.f3.results.toList))) (exitF 0 (fun e => K3_9 m call (e 7) (e 8) (e 9) (e 10) (e 11) (e 12) (e 13) (e 14) (e 16)) (fun _ _ => noK)) (fun e => retV (C m) (resE e Tryz.f3.results.toList))) := by kernel_rfl
  rw [u, K3_12_eq m call h11 ]
  show _ = _
  kernel_rfl
theorem L3_11_eq (m : Nat) (call : CallF) (n : Nat) : (loopF (fun k => compF c3_11 (C m) call k (exitF 0 (fun e => K3_9 m call (e 7) (e 8) (e 9) (e 10) (e 11) (e 12) (e 13) (e 14) (e 16)) (fun _ _ => noK)) (fun e => retV (C m) (resE e Tryz.f3.results.toList))) n) = (fun e => L3_11 m call n (e 7) (e 8) (e 9) (e 10) (e 11) (e 12) (e 13) (e 14) (e 16) (e 53) (e 54) (e 55)) := by
  induction n with
  | zero => rfl
  | succ n ih =>
    show compF c3_11 (C m) call (loopF (fun k => compF c3_11 (C m) call k (exitF 0 (fun e => K3_9 m call (e 7) (e 8) (e 9) (e 10) (e 11) (e 12) (e 13) (e 14) (e 16)) (fun _ _ => noK)) (fun e => retV (C m) (resE e Tryz.f3.results.toList))) n) (exitF 0 (fun e => K3_9 m call (e 7) (e 8) (e 9) (e 10) (e 11) (e 12) (e 13) (e 14) (e 16)) (fun _ _ => noK)) (fun e => retV (C m) (resE e Tryz.f3.results.toList)) = _
    rw [ih, L3_11_b_eq m call (L3_11 m call n)]
    rfl
theorem L3_11_succ (m : Nat) (call : CallF) (n : Nat) : L3_11 m call (n + 1) = L3_11_b m call (L3_11 m call n) := rfl
noncomputable def K3_10 (m : Nat) (call : CallF) (t7 t8 t9 t10 t11 t12 t13 t14 t16 t53 t54 t55 : AV) : Kt :=
 L3_11 m call m t7 t8 t9 t10 t11 t12 t13 t14 t16 t53 t54 t55
theorem K3_10_eq (m : Nat) (call : CallF) : compF c3_10 (C m) call (fun e => K3_9 m call (e 7) (e 8) (e 9) (e 10) (e 11) (e 12) (e 13) (e 14) (e 16)) (fun _ _ => noK) (fun e => retV (C m) (resE e Tryz.f3.results.toList)) = (fun e => K3_10 m call (e 7) (e 8) (e 9) (e 10) (e 11) (e 12) (e 13) (e 14) (e 16) (e 53) (e 54) (e 55)) := by
  have u : compF c3_10 (C m) call (fun e => K3_9 m call (e 7) (e 8) (e 9) (e 10) (e 11) (e 12) (e 13) (e 14) (e 16)) (fun _ _ => noK) (fun e => retV (C m) (resE e Tryz.f3.results.toList)) = (loopF (fun k => compF c3_11 (C m) call k (exitF 0 (fun e => K3_9 m call (e 7) (e 8) (e 9) (e 10) (e 11) (e 12) (e 13) (e 14) (e 16)) (fun _ _ => noK)) (fun e => retV (C m) (resE e Tryz.f3.results.toList))) m) := by kernel_rfl
  rw [u, L3_11_eq m call m]
  show _ = _
  kernel_rfl
noncomputable def K3_8 (m : Nat) (call : CallF) (t7 t8 t9 t10 t11 t12 t13 t14 t15 t16 : AV) : Kt :=
 bnd (fadO (C m) 35 t15 1) fun v0 =>
 bnd (ldO (C m) 33 v0) fun v1 =>
 bnd (bltO (C m) .len [33] [v1]) fun v2 =>
 K3_10 m call t7 t8 t9 t10 t11 t12 t13 t14 t16 v1 v2 (I 0)
theorem K3_8_eq (m : Nat) (call : CallF) : compF c3_8 (C m) call (fun e => retV (C m) (resE e Tryz.f3.results.toList)) (fun _ _ => noK) (fun e => retV (C m) (resE e Tryz.f3.results.toList)) = (fun e => K3_8 m call (e 7) (e 8) (e 9) (e 10) (e 11) (e 12) (e 13) (e 14) (e 15) (e 16)) := by
  have u : compF c3_8 (C m) call (fun e => retV (C m) (resE e Tryz.f3.results.toList)) (fun _ _ => noK) (fun e => retV (C m) (resE e Tryz.f3.results.toList)) = (compF (pS1 (pS1 c3_8)) (C m) call (compF c3_10 (C m) call (compF c3_9 (C m) call (fun e => retV (C m) (resE e Tryz.f3.results.toList)) (fun _ _ => noK) (fun e => retV (C m) (resE e Tryz.f3.results.toList))) (fun _ _ => noK) (fun e => retV (C m) (resE e Tryz.f3.results.toList))) (fun _ _ => noK) (fun e => retV (C m) (resE e Tryz.f3.results.toList))) := by kernel_rfl
  rw [u, K3_9_eq m call , K3_10_eq m call ]
  show _ = _
  kernel_rfl
noncomputable def K3_7 (m : Nat) (call : CallF) (t7 t8 t9 t10 t11 t12 t13 t14 t15 : AV) : Kt :=
 bnd (fadO (C m) 35 t15 0) fun v0 =>
 bnd (ldO (C m) 3 v0) fun v1 =>
 bnd (bldO (C m) 39 [(0, v1)]) fun v2 =>
 bnd (newO (C m) 39) fun v3 =>
 bnd (stO (C m) 39 v3 v2) fun _ =>
 K3_8 m call t7 t8 t9 t10 t11 t12 t13 t14 t15 v3
theorem K3_7_eq (m : Nat) (call : CallF) : compF c3_7 (C m) call (fun e => retV (C m) (resE e Tryz.f3.results.toList)) (fun _ _ => noK) (fun e => retV (C m) (resE e Tryz.f3.results.toList)) = (fun e => K3_7 m call (e 7) (e 8) (e 9) (e 10) (e 11) (e 12) (e 13) (e 14) (e 15)) := by
  have u : compF c3_7 (C m) call (fun e => retV (C m) (resE e Tryz.f3.results.toList)) (fun _ _ => noK) (fun e => retV (C m) (resE e Tryz.f3.results.toList)) = (compF (pS1 c3_7) (C m) call (compF c3_8 (C m) call (fun e => retV (C m) (resE e Tryz.f3.results.toList)) (fun _ _ => noK) (fun e => retV (C m) (resE e Tryz.f3.results.toList))) (fun _ _ => noK) (fun e => retV (C m) (resE e Tryz.f3.results.toList))) := by kernel_rfl
  rw [u, K3_8_eq m call ]
  show _ = _
  kernel_rfl
noncomputable def K3_6 (m : Nat) (call : CallF) (t7 t8 t9 t10 t11 t12 t13 t14 : AV) : Kt :=
 bnd (calO (C m) call (fnV 9) []) fun v0 =>
 bnd (newO (C m) 35) fun v1 =>
 bnd (stO (C m) 35 v1 v0) fun _ =>
 K3_7 m call t7 t8 t9 t10 t11 t12 t13 t14 v1
theorem K3_6_eq (m : Nat) (call : CallF) : compF c3_6 (C m) call (fun e => retV (C m) (resE e Tryz.f3.results.toList)) (fun _ _ => noK) (fun e => retV (C m) (resE e Tryz.f3.results.toList)) = (fun e => K3_6 m call (e 7) (e 8) (e 9) (e 10) (e 11) (e 12) (e 13) (e 14)) := by
  have u : compF c3_6 (C m) call (fun e => retV (C m) (resE e Tryz.f3.results.toList)) (fun _ _ => noK) (fun e => retV (C m) (resE e Tryz.f3.results.toList)) = (compF (pS1 c3_6) (C m) call (compF c3_7 (C m) call (fun e => retV (C m) (resE e Tryz.f3.results.toList)) (fun _ _ => noK) (fun e => retV (C m) (resE e Tryz.f3.results.toList))) (fun _ _ => noK) (fun e => retV (C m) (resE e Tryz.f3.results.toList))) := by kernel_rfl
  rw [u, K3_7_eq m call ]
  show _ = _
  kernel_rfl
noncomputable def K3_5 (m : Nat) (call : CallF) (t2 t3 t7 t8 t9 t10 t11 t12 : AV) : Kt :=
 bnd (ldO (C m) 23 t3) fun v0 =>
 bnd (calO (C m) call (fnV 8) [v0, t2]) fun v1 =>
 bnd (extO v1 0) fun v2 =>
 bnd (extO v1 1) fun v3 =>
 K3_6 m call t7 t8 t9 t10 t11 t12 v2 v3
theorem K3_5_eq (m : Nat) (call : CallF) : compF c3_5 (C m) call (fun e => retV (C m) (resE e Tryz.f3.results.toList)) (fun _ _ => noK) (fun e => retV (C m) (resE e Tryz.f3.results.toList)) = (fun e => K3_5 m call (e 2) (e 3) (e 7) (e 8) (e 9) (e 10) (e 11) (e 12)) := by
  have u : compF c3_5 (C m) call (fun e => retV (C m) (resE e Tryz.f3.results.toList)) (fun _ _ => noK) (fun e => retV (C m) (resE e Tryz.f3.results.toList)) = (compF (pS1 c3_5) (C m) call (compF c3_6 (C m) call (fun e => retV (C m) (resE e Tryz.f3.results.toList)) (fun _ _ => noK) (fun e => retV (C m) (resE e Tryz.f3.results.toList))) (fun _ _ => noK) (fun e => retV (C m) (resE e Tryz.f3.results.toList))) := by kernel_rfl
  rw [u, K3_6_eq m call ]
  show _ = _
  kernel_rfl
noncomputable def K3_4 (m : Nat) (call : CallF) (t1 t2 t3 t7 t8 t9 t10 : AV) : Kt :=
 bnd (calO (C m) call (fnV 7) [t1, t2]) fun v0 =>
 bnd (extO v0 0) fun v1 =>
 bnd (extO v0 1) fun v2 =>
 K3_5 m call t2 t3 t7 t8 t9 t10 v1 v2
theorem K3_4_eq (m : Nat) (call : CallF) : compF c3_4 (C m) call (fun e => retV (C m) (resE e Tryz.f3.results.toList)) (fun _ _ => noK) (fun e => retV (C m) (resE e Tryz.f3.results.toList)) = (fun e => K3_4 m call (e 1) (e 2) (e 3) (e 7) (e 8) (e 9) (e 10)) := by
  have u : compF c3_4 (C m) call (fun e => retV (C m) (resE e Tryz.f3.results.toList)) (fun _ _ => noK) (fun e => retV (C m) (resE e Tryz.f3.results.toList)) = (compF (pS1 c3_4) (C m) call (compF c3_5 (C m) call (fun e => retV (C m) (resE e Tryz.f3.results.toList)) (fun _ _ => noK) (fun e => retV (C m) (resE e Tryz.f3.results.toList))) (fun _ _ => noK) (fun e => retV (C m) (resE e Tryz.f3.results.toList))) := by kernel_rfl
  rw [u, K3_5_eq m call ]
  show _ = _
  kernel_rfl
noncomputable def K3_3 (m : Nat) (call : CallF) (t1 t2 t3 t7 t8 : AV) : Kt :=
 bnd (ldO (C m) 23 t3) fun v0 =>
 bnd (calO (C m) call (fnV 6) [v0, t2]) fun v1 =>
 bnd (extO v1 0) fun v2 =>
 bnd (extO v1 1) fun v3 =>
 K3_4 m call t1 t2 t3 t7 t8 v2 v3
theorem K3_3_eq (m : Nat) (call : CallF) : compF c3_3 (C m) call (fun e => retV (C m) (resE e Tryz.f3.results.toList)) (fun _ _ => noK) (fun e => retV (C m) (resE e Tryz.f3.results.toList)) = (fun e => K3_3 m call (e 1) (e 2) (e 3) (e 7) (e 8)) := by
  have u : compF c3_3 (C m) call (fun e => retV (C m) (resE e Tryz.f3.results.toList)) (fun _ _ => noK) (fun e => retV (C m) (resE e Tryz.f3.results.toList)) = (compF (pS1 c3_3) (C m) call (compF c3_4 (C m) call (fun e => retV (C m) (resE e Tryz.f3.results.toList)) (fun _ _ => noK) (fun e => retV (C m) (resE e Tryz.f3.results.toList))) (fun _ _ => noK) (fun e => retV (C m) (resE e Tryz.f3.results.toList))) := by kernel_rfl
  rw [u, K3_4_eq m call ]
  show _ = _
  kernel_rfl
noncomputable def K3_2 (m : Nat) (call : CallF) (t1 t2 t3 : AV) : Kt :=
 bnd (calO (C m) call (fnV 5) [t1, t2]) fun v0 =>
 bnd (extO v0 0) fun v1 =>
 bnd (extO v0 1) fun v2 =>
 K3_3 m call t1 t2 t3 v1 v2
theorem K3_2_eq (m : Nat) (call : CallF) : compF c3_2 (C m) call (fun e => retV (C m) (resE e Tryz.f3.results.toList)) (fun _ _ => noK) (fun e => retV (C m) (resE e Tryz.f3.results.toList)) = (fun e => K3_2 m call (e 1) (e 2) (e 3)) := by
  have u : compF c3_2 (C m) call (fun e => retV (C m) (resE e Tryz.f3.results.toList)) (fun _ _ => noK) (fun e => retV (C m) (resE e Tryz.f3.results.toList)) = (compF (pS1 c3_2) (C m) call (compF c3_3 (C m) call (fun e => retV (C m) (resE e Tryz.f3.results.toList)) (fun _ _ => noK) (fun e => retV (C m) (resE e Tryz.f3.results.toList))) (fun _ _ => noK) (fun e => retV (C m) (resE e Tryz.f3.results.toList))) := by kernel_rfl
  rw [u, K3_3_eq m call ]
  show _ = _
  kernel_rfl
noncomputable def K3_1 (m : Nat) (call : CallF) (t1 t2 t3 : AV) : Kt :=
 bnd (fadO (C m) 23 t3 4) fun v0 =>
 bnd (ldO (C m) 9 v0) fun v1 =>
 bnd (bltO (C m) .len [9] [v1]) fun v2 =>
 bnd (binO (C m) .gtr 3 v2 (I 4096)) fun v3 =>
 ifB v3
 ((bnd (calO (C m) call (fnV 4) []) fun v4 =>
 retV (C m) [(none, v4)]))
 ((K3_2 m call t1 t2 t3))
theorem K3_1_eq (m : Nat) (call : CallF) : compF c3_1 (C m) call (fun e => retV (C m) (resE e Tryz.f3.results.toList)) (fun _ _ => noK) (fun e => retV (C m) (resE e Tryz.f3.results.toList)) = (fun e => K3_1 m call (e 1) (e 2) (e 3)) := by
  have u : compF c3_1 (C m) call (fun e => retV (C m) (resE e Tryz.f3.results.toList)) (fun _ _ => noK) (fun e => retV (C m) (resE e Tryz.f3.results.toList)) = (compF (pS1 (pS1 c3_1)) (C m) call (fun e => ifB (e 22) ((compF (pS1 (pC1 (pS2 (pS1 c3_1)))) (C m) call (fun e => retV (C m) (resE e Tryz.f3.results.toList)) (fun _ _ => noK) (fun e => retV (C m) (resE e Tryz.f3.results.toList))) e) ((compF c3_2 (C m) call (fun e => retV (C m) (resE e Tryz.f3.results.toList)) (fun _ _ => noK) (fun e => retV (C m) (resE e Tryz.f3.results.toList))) e)) (fun _ _ => noK) (fun e => retV (C m) (resE e Tryz.f3.results.toList))) := by kernel_rfl
  rw [u, K3_2_eq m call ]
  show _ = _
  kernel_rfl
noncomputable def K3_0 (m : Nat) (call : CallF) (t0 t1 t2 : AV) : Kt :=
 bnd (boxO 23 t0) fun v0 =>
 K3_1 m call t1 t2 v0
theorem K3_0_eq (m : Nat) (call : CallF) : compF c3_0 (C m) call (fun e => retV (C m) (resE e Tryz.f3.results.toList)) (fun _ _ => noK) (fun e => retV (C m) (resE e Tryz.f3.results.toList)) = (fun e => K3_0 m call (e 0) (e 1) (e 2)) := by
  have u : compF c3_0 (C m) call (fun e => retV (C m) (resE e Tryz.f3.results.toList)) (fun _ _ => noK) (fun e => retV (C m) (resE e Tryz.f3.results.toList)) = (compF (pS1 c3_0) (C m) call (compF c3_1 (C m) call (fun e => retV (C m) (resE e Tryz.f3.results.toList)) (fun _ _ => noK) (fun e => retV (C m) (resE e Tryz.f3.results.toList))) (fun _ _ => noK) (fun e => retV (C m) (resE e Tryz.f3.results.toList))) := by kernel_rfl
  rw [u, K3_1_eq m call ]
  show _ = _
  kernel_rfl
theorem F3_eq (m : Nat) (call : CallF) (t0 t1 t2 : AV) : enterK (C m) call Tryz.f3 [t0, t1, t2] = K3_0 m call t0 t1 t2 := by
  have u : enterK (C m) call Tryz.f3 [t0, t1, t2] = (compF c3_0 (C m) call (fun e => retV (C m) (resE e Tryz.f3.results.toList)) (fun _ _ => noK) (fun e => retV (C m) (resE e Tryz.f3.results.toList))) (argF [t0, t1, t2]) := by kernel_rfl
  rw [u, K3_0_eq m call]
  rfl
/-! rillmeter/rillmeterref22.Put -/
noncomputable def c22_0 : Code := (bodyOf Tryz.f22)
noncomputable def c22_1 : Code := (pS2 c22_0)
noncomputable def c22_2 : Code := (pS2 c22_1)
noncomputable def c22_3 : Code := (pS2 c22_2)
noncomputable def c22_4 : Code := (pS2 (pS1 c22_2))
noncomputable def c22_5 : Code := (pL (pB c22_4))
noncomputable def c22_6 : Code := (pS2 c22_5)
noncomputable def c22_7 : Code := (pS2 c22_6)
noncomputable def c22_8 : Code := (pS2 c22_7)
noncomputable def c22_9 : Code := (pS2 (pB (pS1 c22_7)))
noncomputable def c22_10 : Code := (pS2 c22_9)
noncomputable def c22_11 : Code := (pS2 c22_10)
noncomputable def c22_12 : Code := (pS2 (pS1 c22_10))
noncomputable def c22_13 : Code := (pL (pB c22_12))
noncomputable def c22_14 : Code := (pS2 c22_13)
noncomputable def c22_15 : Code := (pS2 c22_14)
noncomputable def c22_16 : Code := (pS2 c22_15)
noncomputable def c22_17 : Code := (pS2 (pB (pS1 c22_15)))
noncomputable def c22_18 : Code := (pS2 c22_17)
noncomputable def c22_19 : Code := (pS2 c22_18)
noncomputable def c22_20 : Code := (pL (pB c22_19))
noncomputable def c22_21 : Code := (pS2 c22_20)
noncomputable def c22_22 : Code := (pS2 c22_21)
noncomputable def c22_23 : Code := (pS2 c22_22)
noncomputable def K22_3 (m : Nat) (call : CallF) (t4 : AV) : Kt :=
 bnd (bltO (C m) .len [9] [t4]) fun v0 =>
 bnd (binO (C m) .gtr 3 v0 (I 65531)) fun v1 =>
 ifB v1
 ((retV (C m) [(none, (S [])), (none, (B false))]))
 ((bnd (calO (C m) call (fnV 45) [(I 10), (I 2)]) fun v2 =>
 bnd (bltO (C m) .len [9] [t4]) fun v3 =>
 bnd (binO (C m) .add 3 (I 4) v3) fun v4 =>
 bnd (calO (C m) call (fnV 45) [v4, (I 2)]) fun v5 =>
 bnd (binO (C m) .add 9 v2 v5) fun v6 =>
 bnd (binO (C m) .add 9 v6 t4) fun v7 =>
 retV (C m) [(none, v7), (none, (B true))]))
theorem K22_3_eq (m : Nat) (call : CallF) : compF c22_3 (C m) call (fun e => retV (C m) (resE e Tryz.f22.results.toList)) (fun _ _ => noK) (fun e => retV (C m) (resE e Tryz.f22.results.toList)) = (fun e => K22_3 m call (e 4)) := by
  have u : compF c22_3 (C m) call (fun e => retV (C m) (resE e Tryz.f22.results.toList)) (fun _ _ => noK) (fun e => retV (C m) (resE e Tryz.f22.results.toList)) = (compF (pS1 (pS1 c22_3)) (C m) call (fun e => ifB (e 102) ((compF (pS1 (pC1 (pS2 (pS1 c22_3)))) (C m) call (fun e => retV (C m) (resE e Tryz.f22.results.toList)) (fun _ _ => noK) (fun e => retV (C m) (resE e Tryz.f22.results.toList))) e) ((compF (pS1 (pS2 c22_3)) (C m) call (fun e => retV (C m) (resE e Tryz.f22.results.toList)) (fun _ _ => noK) (fun e => retV (C m) (resE e Tryz.f22.results.toList))) e)) (fun _ _ => noK) (fun e => retV (C m) (resE e Tryz.f22.results.toList))) := by kernel_rfl
  rw [u]
  show _ = _
  kernel_rfl
noncomputable def K22_8 (m : Nat) (call : CallF) (h5 : AV → AV → AV → AV → Kt) (t4 t24 t25 t26 : AV) : Kt :=
 bnd (binO (C m) .add 3 t26 (I 1)) fun v0 =>
 h5 t4 t24 t25 v0
theorem K22_8_eq (m : Nat) (call : CallF) (h5 : AV → AV → AV → AV → Kt) : compF c22_8 (C m) call (fun e => h5 (e 4) (e 24) (e 25) (e 26)) (exitF 0 (fun e => K22_3 m call (e 4)) (fun _ _ => noK)) (fun e => retV (C m) (resE e Tryz.f22.results.toList)) = (fun e => K22_8 m call h5 (e 4) (e 24) (e 25) (e 26)) := by
  have u : compF c22_8 (C m) call (fun e => h5 (e 4) (e 24) (e 25) (e 26)) (exitF 0 (fun e => K22_3 m call (e 4)) (fun _ _ => noK)) (fun e => retV (C m) (resE e Tryz.f22.results.toList)) = (compF c22_8 (C m) call (fun e => h5 (e 4) (e 24) (e 25) (e 26)) (exitF 0 (fun e => K22_3 m call (e 4)) (fun _ _ => noK)) (fun e => retV (C m) (resE e Tryz.f22.results.toList))) := by kernel_rfl
  rw [u]
  show _ = _
  kernel_rfl
noncomputable def K22_11 (m : Nat) (call : CallF) (h5 : AV → AV → AV → AV → Kt) (t4 t6 t7 t24 t25 t26 : AV) : Kt :=
 bnd (bltO (C m) .len [9] [t7]) fun v0 =>
 bnd (binO (C m) .gtr 3 v0 (I 65531)) fun v1 =>
 ifB v1
 ((retV (C m) [(none, (S [])), (none, (B false))]))
 ((bnd (fadO (C m) 91 t6 0) fun v2 =>
 bnd (ldO (C m) 3 v2) fun v3 =>
 bnd (calO (C m) call (fnV 45) [v3, (I 2)]) fun v4 =>
 bnd (binO (C m) .add 9 t4 v4) fun v5 =>
 bnd (bltO (C m) .len [9] [t7]) fun v6 =>
 bnd (binO (C m) .add 3 (I 4) v6) fun v7 =>
 bnd (calO (C m) call (fnV 45) [v7, (I 2)]) fun v8 =>
 bnd (binO (C m) .add 9 v5 v8) fun v9 =>
 bnd (binO (C m) .add 9 v9 t7) fun v10 =>
 K22_8 m call h5 v10 t24 t25 t26))
theorem K22_11_eq (m : Nat) (call : CallF) (h5 : AV → AV → AV → AV → Kt) : compF c22_11 (C m) call (fun e => K22_8 m call h5 (e 4) (e 24) (e 25) (e 26)) (exitF 1 (fun e => K22_8 m call h5 (e 4) (e 24) (e 25) (e 26)) (exitF 0 (fun e => K22_3 m call (e 4)) (fun _ _ => noK))) (fun e => retV (C m) (resE e Tryz.f22.results.toList)) = (fun e => K22_11 m call h5 (e 4) (e 6) (e 7) (e 24) (e 25) (e 26)) := by
  have u : compF c22_11 (C m) call (fun e => K22_8 m call h5 (e 4) (e 24) (e 25) (e 26)) (exitF 1 (fun e => K22_8 m call h5 (e 4) (e 24) (e 25) (e 26)) (exitF 0 (fun e => K22_3 m call (e 4)) (fun _ _ => noK))) (fun e => retV (C m) (resE e Tryz.f22.results.toList)) = (compF (pS1 (pS1 c22_11)) (C m) call (fun e => ifB (e 86) ((compF (pS1 (pC1 (pS2 (pS1 c22_11)))) (C m) call (fun e => retV (C m) (resE e Tryz.f22.results.toList)) (exitF 1 (fun e => K22_8 m call h5 (e 4) (e 24) (e 25) (e 26)) (exitF 0 (fun e => K22_3 m call (e 4)) (fun _ _ => noK))) (fun e => retV (C m) (resE e Tryz.f22.results.toList))) e) ((compF (pS2 c22_11) (C m) call (fun e => K22_8 m call h5 (e 4) (e 24) (e 25) (e 26)) (exitF 1 (fun e => K22_8 m call h5 (e 4) (e 24) (e 25) (e 26)) (exitF 0 (fun e => K22_3 m call (e 4)) (fun _ _ => noK))) (fun e => retV (C m) (resE e Tryz.f22.results.toList))) e)) (exitF 1 (fun e => K22_8 m call h5 (e 4) (e 24) (e 25) (e 26)) (exitF 0 (fun e => K22_3 m call (e 4)) (fun _ _ => noK))) (fun e => retV (C m) (resE e Tryz.f22.results.toList))) := by kernel_rfl
  rw [u]
  show _ = _
  kernel_rfl
noncomputable def K22_16 (m : Nat) (call : CallF) (h5 : AV → AV → AV → AV → Kt) (h13 : AV → AV → AV → AV → AV → AV → AV → AV → AV → Kt) (t4 t6 t7 t24 t25 t26 t33 t34 t35 : AV) : Kt :=
 bnd (binO (C m) .add 3 t35 (I 1)) fun v0 =>
 h13 t4 t6 t7 t24 t25 t26 t33 t34 v0
theorem K22_16_eq (m : Nat) (call : CallF) (h5 : AV → AV → AV → AV → Kt) (h13 : AV → AV → AV → AV → AV → AV → AV → AV → AV → Kt) : compF c22_16 (C m) call (fun e => h13 (e 4) (e 6) (e 7) (e 24) (e 25) (e 26) (e 33) (e 34) (e 35)) (exitF 2 (fun e => K22_11 m call h5 (e 4) (e 6) (e 7) (e 24) (e 25) (e 26)) (exitF 1 (fun e => K22_8 m call h5 (e 4) (e 24) (e 25) (e 26)) (exitF 0 (fun e => K22_3 m call (e 4)) (fun _ _ => noK)))) (fun e => retV (C m) (resE e Tryz.f22.results.toList)) = (fun e => K22_16 m call h5 h13 (e 4) (e 6) (e 7) (e 24) (e 25) (e 26) (e 33) (e 34) (e 35)) := by
  have u : compF c22_16 (C m) call (fun e => h13 (e 4) (e 6) (e 7) (e 24) (e 25) (e 26) (e 33) (e 34) (e 35)) (exitF 2 (fun e => K22_11 m call h5 (e 4) (e 6) (e 7) (e 24) (e 25) (e 26)) (exitF 1 (fun e => K22_8 m call h5 (e 4) (e 24) (e 25) (e 26)) (exitF 0 (fun e => K22_3 m call (e 4)) (fun _ _ => noK)))) (fun e => retV (C m) (resE e Tryz.f22.results.toList)) = (compF c22_16 (C m) call (fun e => h13 (e 4) (e 6) (e 7) (e 24) (e 25) (e 26) (e 33) (e 34) (e 35)) (exitF 2 (fun e => K22_11 m call h5 (e 4) (e 6) (e 7) (e 24) (e 25) (e 26)) (exitF 1 (fun e => K22_8 m call h5 (e 4) (e 24) (e 25) (e 26)) (exitF 0 (fun e => K22_3 m call (e 4)) (fun _ _ => noK)))) (fun e => retV (C m) (resE e Tryz.f22.results.toList))) := by kernel_rfl
  rw [u]
  show _ = _
  kernel_rfl
noncomputable def K22_23 (m : Nat) (call : CallF) (h5 : AV → AV → AV → AV → Kt) (h13 : AV → AV → AV → AV → AV → AV → AV → AV → AV → Kt) (h20 : AV → AV → AV → AV → AV → AV → AV → AV → AV → AV → AV → AV → Kt) (t4 t6 t7 t24 t25 t26 t33 t34 t35 t50 t51 t52 : AV) : Kt :=
 bnd (binO (C m) .add 3 t52 (I 1)) fun v0 =>
 h20 t4 t6 t7 t24 t25 t26 t33 t34 t35 t50 t51 v0
theorem K22_23_eq (m : Nat) (call : CallF) (h5 : AV → AV → AV → AV → Kt) (h13 : AV → AV → AV → AV → AV → AV → AV → AV → AV → Kt) (h20 : AV → AV → AV → AV → AV → AV → AV → AV → AV → AV → AV → AV → Kt) : compF c22_23 (C m) call (fun e => h20 (e 4) (e 6) (e 7) (e 24) (e 25) (e 26) (e 33) (e 34) (e 35) (e 50) (e 51) (e 52)) (exitF 4 (fun e => K22_16 m call h5 h13 (e 4) (e 6) (e 7) (e 24) (e 25) (e 26) (e 33) (e 34) (e 35)) (exitF 3 (fun e => K22_16 m call h5 h13 (e 4) (e 6) (e 7) (e 24) (e 25) (e 26) (e 33) (e 34) (e 35)) (exitF 2 (fun e => K22_11 m call h5 (e 4) (e 6) (e 7) (e 24) (e 25) (e 26)) (exitF 1 (fun e => K22_8 m call h5 (e 4) (e 24) (e 25) (e 26)) (exitF 0 (fun e => K22_3 m call (e 4)) (fun _ _ => noK)))))) (fun e => retV (C m) (resE e Tryz.f22.results.toList)) = (fun e => K22_23 m call h5 h13 h20 (e 4) (e 6) (e 7) (e 24) (e 25) (e 26) (e 33) (e 34) (e 35) (e 50) (e 51) (e 52)) := by
  have u : compF c22_23 (C m) call (fun e => h20 (e 4) (e 6) (e 7) (e 24) (e 25) (e 26) (e 33) (e 34) (e 35) (e 50) (e 51) (e 52)) (exitF 4 (fun e => K22_16 m call h5 h13 (e 4) (e 6) (e 7) (e 24) (e 25) (e 26) (e 33) (e 34) (e 35)) (exitF 3 (fun e => K22_16 m call h5 h13 (e 4) (e 6) (e 7) (e 24) (e 25) (e 26) (e 33) (e 34) (e 35)) (exitF 2 (fun e => K22_11 m call h5 (e 4) (e 6) (e 7) (e 24) (e 25) (e 26)) (exitF 1 (fun e => K22_8 m call h5 (e 4) (e 24) (e 25) (e 26)) (exitF 0 (fun e => K22_3 m call (e 4)) (fun _ _ => noK)))))) (fun e => retV (C m) (resE e Tryz.f22.results.toList)) = (compF c22_23 (C m) call (fun e => h20 (e 4) (e 6) (e 7) (e 24) (e 25) (e 26) (e 33) (e 34) (e 35) (e 50) (e 51) (e 52)) (exitF 4 (fun e => K22_16 m call h5 h13 (e 4) (e 6) (e 7) (e 24) (e 25) (e 26) (e 33) (e 34) (e 35)) (exitF 3 (fun e => K22_16 m call h5 h13 (e 4) (e 6) (e 7) (e 24) (e 25) (e 26) (e 33) (e 34) (e 35)) (exitF 2 (fun e => K22_11 m call h5 (e 4) (e 6) (e 7) (e 24) (e 25) (e 26)) (exitF 1 (fun e => K22_8 m call h5 (e 4) (e 24) (e 25) (e 26)) (exitF 0 (fun e => K22_3 m call (e 4)) (fun _ _ => noK)))))) (fun e => retV (C m) (resE e Tryz.f22.results.toList))) := by kernel_rfl
  rw [u]
  show _ = _
  kernel_rfl
noncomputable def K22_22 (m : Nat) (call : CallF) (h5 : AV → AV → AV → AV → Kt) (h13 : AV → AV → AV → AV → AV → AV → AV → AV → AV → Kt) (h20 : AV → AV → AV → AV → AV → AV → AV → AV → AV → AV → AV → AV → Kt) (t4 t6 t7 t24 t25 t26 t33 t34 t35 t50 t51 t52 : AV) : Kt :=
 bnd (iadO (C m) 37 t50 t52) fun v0 =>
 bnd (ldO (C m) 42 v0) fun v1 =>
 bnd (newO (C m) 42) fun v2 =>
 bnd (stO (C m) 42 v2 v1) fun _ =>
 bnd (fadO (C m) 42 v2 2) fun v3 =>
 bnd (ldO (C m) 3 v3) fun v4 =>
 bnd (binO (C m) .eql 3 v4 (I 0)) fun v5 =>
 ifB v5
 ((dIn fun sv6 =>
 dVal (fadO (C m) 42 v2 0) fun v7 =>
 dChk (ldO (C m) 3 v7) fun v8 =>
 dEff (calO (C m) call (fnV 45) [v8, (I 2)]) fun v9 sv9 =>
 dVal (fadO (C m) 42 v2 1) fun v10 =>
 dSam (some true) (ldO (C m) 3 v10) (fun v11 => (eqIn (ldO (C m) 3 v10) v11 sv9 && (eqIn (ldO (C m) 3 v10) v11 sv6 && true))) fun v12 =>
 dEff (calO (C m) call (fnV 45) [v12, (I 2)]) fun v13 sv13 =>
 dVal (binO (C m) .add 9 t7 v9) fun v14 =>
 dVal (binO (C m) .add 9 v14 v13) fun v15 =>
 K22_23 m call h5 h13 h20 t4 t6 v15 t24 t25 t26 t33 t34 t35 t50 t51 t52))
 ((dIn fun sv16 =>
 dVal (fadO (C m) 42 v2 0) fun v17 =>
 dChk (ldO (C m) 3 v17) fun v18 =>
 dVal (binO (C m) .add 3 v18 (I 32768)) fun v19 =>
 dEff (calO (C m) call (fnV 45) [v19, (I 2)]) fun v20 sv20 =>
 dVal (fadO (C m) 42 v2 1) fun v21 =>
 dSam (some true) (ldO (C m) 3 v21) (fun v22 => (eqIn (ldO (C m) 3 v21) v22 sv20 && (eqIn (ldO (C m) 3 v21) v22 sv16 && true))) fun v23 =>
 dEff (calO (C m) call (fnV 45) [v23, (I 2)]) fun v24 sv24 =>
 dVal (fadO (C m) 42 v2 2) fun v25 =>
 dSam (some true) (ldO (C m) 3 v25) (fun v26 => (eqIn (ldO (C m) 3 v25) v26 sv24 && (eqIn (ldO (C m) 3 v25) v26 sv20 && (eqIn (ldO (C m) 3 v25) v26 sv16 && true)))) fun v27 =>
 dEff (calO (C m) call (fnV 45) [v27, (I 4)]) fun v28 sv28 =>
 dVal (binO (C m) .add 9 t7 v20) fun v29 =>
 dVal (binO (C m) .add 9 v29 v24) fun v30 =>
 dVal (binO (C m) .add 9 v30 v28) fun v31 =>
 K22_23 m call h5 h13 h20 t4 t6 v31 t24 t25 t26 t33 t34 t35 t50 t51 t52))
theorem K22_22_eq (m : Nat) (call : CallF) (h5 : AV → AV → AV → AV → Kt) (h13 : AV → AV → AV → AV → AV → AV → AV → AV → AV → Kt) (h20 : AV → AV → AV → AV → AV → AV → AV → AV → AV → AV → AV → AV → Kt) : compF c22_22 (C m) call (fun e => h20 (e 4) (e 6) (e 7) (e 24) (e 25) (e 26) (e 33) (e 34) (e 35) (e 50) (e 51) (e 52)) (exitF 4 (fun e => K22_16 m call h5 h13 (e 4) (e 6) (e 7) (e 24) (e 25) (e 26) (e 33) (e 34) (e 35)) (exitF 3 (fun e => K22_16 m call h5 h13 (e 4) (e 6) (e 7) (e 24) (e 25) (e 26) (e 33) (e 34) (e 35)) (exitF 2 (fun e => K22_11 m call h5 (e 4) (e 6) (e 7) (e 24) (e 25) (e 26)) (exitF 1 (fun e => K22_8 m call h5 (e 4) (e 24) (e 25) (e 26)) (exitF 0 (fun e => K22_3 m call (e 4)) (fun _ _ => noK)))))) (fun e => retV (C m) (resE e Tryz.f22.results.toList)) = (fun e => K22_22 m call h5 h13 h20 (e 4) (e 6) (e 7) (e 24) (e 25) (e 26) (e 33) (e 34) (e 35) (e 50) (e 51) (e 52)) := by
  have u : compF c22_22 (C m) call (fun e => h20 (e 4) (e 6) (e 7) (e 24) (e 25) (e 26) (e 33) (e 34) (e 35) (e 50) (e 51) (e 52)) (exitF 4 (fun e => K22_16 m call h5 h13 (e 4) (e 6) (e 7) (e 24) (e 25) (e 26) (e 33) (e 34) (e 35)) (exitF 3 (fun e => K22_16 m call h5 h13 (e 4) (e 6) (e 7) (e 24) (e 25) (e 26) (e 33) (e 34) (e 35)) (exitF 2 (fun e => K22_11 m call h5 (e 4) (e 6) (e 7) (e 24) (e 25) (e 26)) (exitF 1 (fun e => K22_8 m call h5 (e 4) (e 24) (e 25) (e 26)) (exitF 0 (fun e => K22_3 m call (e 4)) (fun _ _ => noK)))))) (fun e => retV (C m) (resE e Tryz.f22.results.toList)) = (compF (pS1 (pB (pS1 c22_22))) (C m) call (compF (pS1 (pS2 (pB (pS1 c22_22)))) (C m) call (fun e => ifB (e 58) ((compF (pC1 (pS2 (pS2 (pB (pS1 c22_22))))) (C m) call (compF c22_23 (C m) call (fun e => h20 (e 4) (e 6) (e 7) (e 24) (e 25) (e 26) (e 33) (e 34) (e 35) (e 50) (e 51) (e 52)) (exitF 4 (fun e => K22_16 m call h5 h13 (e 4) (e 6) (e 7) (e 24) (e 25) (e 26) (e 33) (e 34) (e 35)) (exitF 3 (fun e => K22_16 m call h5 h13 (e 4) (e 6) (e 7) (e 24) (e 25) (e 26) (e 33) (e 34) (e 35)) (exitF 2 (fun e => K22_11 m call h5 (e 4) (e 6) (e 7) (e 24) (e 25) (e 26)) (exitF 1 (fun e => K22_8 m call h5 (e 4) (e 24) (e 25) (e 26)) (exitF 0 (fun e => K22_3 m call (e 4)) (fun _ _ => noK)))))) (fun e => retV (C m) (resE e Tryz.f22.results.toList))) (exitF 5 (compF c22_23 (C m) call (fun e => h20 (e 4) (e 6) (e 7) (e 24) (e 25) (e 26) (e 33) (e 34) (e 35) (e 50) (e 51) (e 52)) (exitF 4 (fun e => K22_16 m call h5 h13 (e 4) (e 6) (e 7) (e 24) (e 25) (e 26) (e 33) (e 34) (e 35)) (exitF 3 (fun e => K22_16 m call h5 h13 (e 4) (e 6) (e 7) (e 24) (e 25) (e 26) (e 33) (e 34) (e 35)) (exitF 2 (fun e => K22_11 m call h5 (e 4) (e 6) (e 7) (e 24) (e 25) (e 26)) (exitF 1 (fun e => K22_8 m call h5 (e 4) (e 24) (e 25) (e 26)) (exitF 0 (fun e => K22_3 m call (e 4)) (fun _ _ => noK)))))) (fun e => retV (C m) (resE e Tryz.f22.results.toList))) (exitF 4 (fun e => K22_16 m call h5 h13 (e 4) (e 6) (e 7) (e 24) (e 25) (e 26) (e 33) (e 34) (e 35)) (exitF 3 (fun e => K22_16 m call h5 h13 (e 4) (e 6) (e 7) (e 24) (e 25) (e 26) (e 33) (e 34) (e 35)) (exitF 2 (fun e => K22_11 m call h5 (e 4) (e 6) (e 7) (e 24) (e 25) (e 26)) (exitF 1 (fun e => K22_8 m call h5 (e 4) (e 24) (e 25) (e 26)) (exitF 0 (fun e => K22_3 m call (e 4)) (fun _ _ => noK))))))) (fun e => retV (C m) (resE e Tryz.f22.results.toList))) e) ((compF (pC2 (pS2 (pS2 (pB (pS1 c22_22))))) (C m) call (compF c22_23 (C m) call (fun e => h20 (e 4) (e 6) (e 7) (e 24) (e 25) (e 26) (e 33) (e 34) (e 35) (e 50) (e 51) (e 52)) (exitF 4 (fun e => K22_16 m call h5 h13 (e 4) (e 6) (e 7) (e 24) (e 25) (e 26) (e 33) (e 34) (e 35)) (exitF 3 (fun e => K22_16 m call h5 h13 (e 4) (e 6) (e 7) (e 24) (e 25) (e 26) (e 33) (e 34) (e 35)) (exitF 2 (fun e => K22_11 m call h5 (e 4) (e 6) (e 7) (e 24) (e 25) (e 26)) (exitF 1 (fun e => K22_8 m call h5 (e 4) (e 24) (e 25) (e 26)) (exitF 0 (fun e => K22_3 m call (e 4)) (fun _ _ => noK)))))) (fun e => retV (C m) (resE e Tryz.f22.results.toList))) (exitF 5 (compF c22_23 (C m) call (fun e => h20 (e 4) (e 6) (e 7) (e 24) (e 25) (e 26) (e 33) (e 34) (e 35) (e 50) (e 51) (e 52)) (exitF 4 (fun e => K22_16 m call h5 h13 (e 4) (e 6) (e 7) (e 24) (e 25) (e 26) (e 33) (e 34) (e 35)) (exitF 3 (fun e => K22_16 m call h5 h13 (e 4) (e 6) (e 7) (e 24) (e 25) (e 26) (e 33) (e 34) (e 35)) (exitF 2 (fun e => K22_11 m call h5 (e 4) (e 6) (e 7) (e 24) (e 25) (e 26)) (exitF 1 (fun e => K22_8 m call h5 (e 4) (e 24) (e 25) (e 26)) (exitF 0 (fun e => K22_3 m call (e 4)) (fun _ _ => noK)))))) (fun e => retV (C m) (resE e Tryz.f22.results.toList))) (exitF 4 (fun e => K22_16 m call h5 h13 (e 4) (e 6) (e 7) (e 24) (e 25) (e 26) (e 33) (e 34) (e 35)) (exitF 3 (fun e => K22_16 m call h5 h13 (e 4) (e 6) (e 7) (e 24) (e 25) (e 26) (e 33) (e 34) (e 35)) (exitF 2 (fun e => K22_11 m call h5 (e 4) (e 6) (e 7) (e 24) (e 25) (e 26)) (exitF 1 (fun e => K22_8 m call h5 (e 4) (e 24) (e 25) (e 26)) (exitF 0 (fun e => K22_3 m call (e 4)) (fun _ _ => noK))))))) (fun e => retV (C m) (resE e Tryz.f22.results.toList))) e)) (exitF 5 (compF c22_23 (C m) call (fun e => h20 (e 4) (e 6) (e 7) (e 24) (e 25) (e 26) (e 33) (e 34) (e 35) (e 50) (e 51) (e 52)) (exitF 4 (fun e => K22_16 m call h5 h13 (e 4) (e 6) (e 7) (e 24) (e 25) (e 26) (e 33) (e 34) (e 35)) (exitF 3 (fun e => K22_16 m call h5 h13 (e 4) (e 6) (e 7) (e 24) (e 25) (e 26) (e 33) (e 34) (e 35)) (exitF 2 (fun e => K22_11 m call h5 (e 4) (e 6) (e 7) (e 24) (e 25) (e 26)) (exitF 1 (fun e => K22_8 m call h5 (e 4) (e 24) (e 25) (e 26)) (exitF 0 (fun e => K22_3 m call (e 4)) (fun _ _ => noK)))))) (fun e => retV (C m) (resE e Tryz.f22.results.toList))) (exitF 4 (fun e => K22_16 m call h5 h13 (e 4) (e 6) (e 7) (e 24) (e 25) (e 26) (e 33) (e 34) (e 35)) (exitF 3 (fun e => K22_16 m call h5 h13 (e 4) (e 6) (e 7) (e 24) (e 25) (e 26) (e 33) (e 34) (e 35)) (exitF 2 (fun e => K22_11 m call h5 (e 4) (e 6) (e 7) (e 24) (e 25) (e 26)) (exitF 1 (fun e => K22_8 m call h5 (e 4) (e 24) (e 25) (e 26)) (exitF 0 (fun e => K22_3 m call (e 4)) (fun _ _ => noK))))))) (fun e => retV (C m) (resE e Tryz.f22.results.toList))) (exitF 5 (compF c22_23 (C m) call (fun e => h20 (e 4) (e 6) (e 7) (e 24) (e 25) (e 26) (e 33) (e 34) (e 35) (e 50) (e 51) (e 52)) (exitF 4 (fun e => K22_16 m call h5 h13 (e 4) (e 6) (e 7) (e 24) (e 25) (e 26) (e 33) (e 34) (e 35)) (exitF 3 (fun e => K22_16 m call h5 h13 (e 4) (e 6) (e 7) (e 24) (e 25) (e 26) (e 33) (e 34) (e 35)) (exitF 2 (fun e => K22_11 m call h5 (e 4) (e 6) (e 7) (e 24) (e 25) (e 26)) (exitF 1 (fun e => K22_8 m call h5 (e 4) (e 24) (e 25) (e 26)) (exitF 0 (fun e => K22_3 m call (e 4)) (fun _ _ => noK)))))) (fun e => retV (C m) (resE e Tryz.f22.results.toList))) (exitF 4 (fun e => K22_16 m call h5 h13 (e 4) (e 6) (e 7) (e 24) (e 25) (e 26) (e 33) (e 34) (e 35)) (exitF 3 (fun e => K22_16 m call h5 h13 (e 4) (e 6) (e 7) (e 24) (e 25) (e 26) (e 33) (e 34) (e 35)) (exitF 2 (fun e => K22_11 m call h5 (e 4) (e 6) (e 7) (e 24) (e 25) (e 26)) (exitF 1 (fun e => K22_8 m call h5 (e 4) (e 24) (e 25) (e 26)) (exitF 0 (fun e => K22_3 m call (e 4)) (fun _ _ => noK))))))) (fun e => retV (C m) (resE e Tryz.f22.results.toList))) := by kernel_rfl
  rw [u, K22_23_eq m call h5 h13 h20 ]
  show _ = _
  kernel_rfl
noncomputable def K22_21 (m : Nat) (call : CallF) (h5 : AV → AV → AV → AV → Kt) (h13 : AV → AV → AV → AV → AV → AV → AV → AV → AV → Kt) (h20 : AV → AV → AV → AV → AV → AV → AV → AV → AV → AV → AV → AV → Kt) (t4 t6 t7 t24 t25 t26 t33 t34 t35 t50 t51 t52 t53 : AV) : Kt :=
 ifB t53
 ((K22_22 m call h5 h13 h20 t4 t6 t7 t24 t25 t26 t33 t34 t35 t50 t51 t52))
 ((K22_16 m call h5 h13 t4 t6 t7 t24 t25 t26 t33 t34 t35))
theorem K22_21_eq (m : Nat) (call : CallF) (h5 : AV → AV → AV → AV → Kt) (h13 : AV → AV → AV → AV → AV → AV → AV → AV → AV → Kt) (h20 : AV → AV → AV → AV → AV → AV → AV → AV → AV → AV → AV → AV → Kt) : compF c22_21 (C m) call (fun e => h20 (e 4) (e 6) (e 7) (e 24) (e 25) (e 26) (e 33) (e 34) (e 35) (e 50) (e 51) (e 52)) (exitF 4 (fun e => K22_16 m call h5 h13 (e 4) (e 6) (e 7) (e 24) (e 25) (e 26) (e 33) (e 34) (e 35)) (exitF 3 (fun e => K22_16 m call h5 h13 (e 4) (e 6) (e 7) (e 24) (e 25) (e 26) (e 33) (e 34) (e 35)) (exitF 2 (fun e => K22_11 m call h5 (e 4) (e 6) (e 7) (e 24) (e 25) (e 26)) (exitF 1 (fun e => K22_8 m call h5 (e 4) (e 24) (e 25) (e 26)) (exitF 0 (fun e => K22_3 m call (e 4)) (fun _ _ => noK)))))) (fun e => retV (C m) (resE e Tryz.f22.results.toList)) = (fun e => K22_21 m call h5 h13 h20 (e 4) (e 6) (e 7) (e 24) (e 25) (e 26) (e 33) (e 34) (e 35) (e 50) (e 51) (e 52) (e 53)) := by
  have u : compF c22_21 (C m) call (fun e => h20 (e 4) (e 6) (e 7) (e 24) (e 25) (e 26) (e 33) (e 34) (e 35) (e 50) (e 51) (e 52)) (exitF 4 (fun e => K22_16 m call h5 h13 (e 4) (e 6) (e 7) (e 24) (e 25) (e 26) (e 33) (e 34) (e 35)) (exitF 3 (fun e => K22_16 m call h5 h13 (e 4) (e 6) (e 7) (e 24) (e 25) (e 26) (e 33) (e 34) (e 35)) (exitF 2 (fun e => K22_11 m call h5 (e 4) (e 6) (e 7) (e 24) (e 25) (e 26)) (exitF 1 (fun e => K22_8 m call h5 (e 4) (e 24) (e 25) (e 26)) (exitF 0 (fun e => K22_3 m call (e 4)) (fun _ _ => noK)))))) (fun e => retV (C m) (resE e Tryz.f22.results.toList)) = (fun e => ifB (e 53) ((compF c22_22 (C m) call (fun e => h20 (e 4) (e 6) (e 7) (e 24) (e 25) (e 26) (e 33) (e 34) (e 35) (e 50) (e 51) (e 52)) (exitF 4 (fun e => K22_16 m call h5 h13 (e 4) (e 6) (e 7) (e 24) (e 25) (e 26) (e 33) (e 34) (e 35)) (exitF 3 (fun e => K22_16 m call h5 h13 (e 4) (e 6) (e 7) (e 24) (e 25) (e 26) (e 33) (e 34) (e 35)) (exitF 2 (fun e => K22_11 m call h5 (e 4) (e 6) (e 7) (e 24) (e 25) (e 26)) (exitF 1 (fun e => K22_8 m call h5 (e 4) (e 24) (e 25) (e 26)) (exitF 0 (fun e => K22_3 m call (e 4)) (fun _ _ => noK)))))) (fun e => retV (C m) (resE e Tryz.f22.results.toList))) e) ((fun e => K22_16 m call h5 h13 (e 4) (e 6) (e 7) (e 24) (e 25) (e 26) (e 33) (e 34) (e 35)) e)) := by kernel_rfl
  rw [u, K22_22_eq m call h5 h13 h20 ]
  show _ = _
  kernel_rfl
noncomputable def L22_20_b (m : Nat) (call : CallF) (h5 : AV → AV → AV → AV → Kt) (h13 : AV → AV → AV → AV → AV → AV → AV → AV → AV → Kt) (h20 : AV → AV → AV → AV → AV → AV → AV → AV → AV → AV → AV → AV → Kt) (t4 t6 t7 t24 t25 t26 t33 t34 t35 t50 t51 t52 : AV) : Kt :=
 bnd (binO (C m) .lss 3 t52 t51) fun v0 =>
 K22_21 m call h5 h13 h20 t4 t6 t7 t24 t25 t26 t33 t34 t35 t50 t51 t52 v0
noncomputable def L22_20 (m : Nat) (call : CallF) (h5 : AV → AV → AV → AV → Kt) (h13 : AV → AV → AV → AV → AV → AV → AV → AV → AV → Kt) (n : Nat) : AV → AV → AV → AV → AV → AV → AV → AV → AV → AV → AV → AV → Kt :=
 Nat.rec (motive := fun _ => AV → AV → AV → AV → AV → AV → AV → AV → AV → AV → AV → AV → Kt) (fun t4 t6 t7 t24 t25 t26 t33 t34 t35 t50 t51 t52 => noK) (fun _ ih => L22_20_b m call h5 h13 ih) n
theorem L22_20_b_eq (m : Nat) (call : CallF) (h5 : AV → AV → AV → AV → Kt) (h13 : AV → AV → AV → AV → AV → AV → AV → AV → AV → Kt) (h20 : AV → AV → AV → AV → AV → AV → AV → AV → AV → AV → AV → AV → Kt) : compF c22_20 (C m) call (fun e => h20 (e 4) (e 6) (e 7) (e 24) (e 25) (e 26) (e 33) (e 34) (e 35) (e 50) (e 51) (e 52)) (exitF 4 (fun e => K22_16 m call h5 h13 (e 4) (e 6) (e 7) (e 24) (e 25) (e 26) (e 33) (e 34) (e 35)) (exitF 3 (fun e => K22_16 m call h5 h13 (e 4) (e 6) (e 7) (e 24) (e 25) (e 26) (e 33) (e 34) (e 35)) (exitF 2 (fun e => K22_11 m call h5 (e 4) (e 6) (e 7) (e 24) (e 25) (e 26)) (exitF 1 (fun e => K22_8 m call h5 (e 4) (e 24) (e 25) (e 26)) (exitF 0 (fun e => K22_3 m call (e 4)) (fun _ _ => noK)))))) (fun e => retV (C m) (resE e Tryz.f22.results.toList)) = fun e => L22_20_b m call h5 h13 h20 (e 4) (e 6) (e 7) (e 24) (e 25) (e 26) (e 33) (e 34) (e 35) (e 50) (e 51) (e 52) := by
  have u : compF c22_20 (C m) call (fun e => h20 (e 4) (e 6) (e 7) (e 24) (e 25) (e 26) (e 33) (e 34) (e 35) (e 50) (e 51) (e 52)) (exitF 4 (fun e => K22_16 m call h5 h13 (e 4) (e 6) (e 7) (e 24) (e 25) (e 26) (e 33) (e 34) (e 35)) (exitF 3 (fun e => K22_16 m call h5 h13 (e 4) (e 6) (e 7) (e 24) (e 25) (e 26) (e 33) (e 34) (e 35)) (exitF 2 (fun e => K22_11 m call h5 (e 4) (e 6) (e 7) (e 24) (e 25) (e 26)) (exitF 1 (fun e => K22_8 m call h5 (e 4) (e 24) (e 25) (e 26)) (exitF 0 (fun e => K22_3 m call (e 4)) (fun _ _ => noK)))))) (fun e => retV (C m) (resE e Tryz.f22.results.toList)) = (compF (pS1 c22_20) (C m) call (compF c22_21 (C m) call (fun e => h20 (e 4) (e 6) (e 7) (e 24) (e 25) (e 26) (e 33) (e 34) (e 35) (e 50) (e 51) (e 52)) (exitF 4 (fun e => K22_16 m call h5 h13 (e 4) (e 6) (e 7) (e 24) (e 25) (e 26) (e 33) (e 34) (e 35)) (exitF 3 (fun e => K22_16 m call h5 h13 (e 4) (e 6) (e 7) (e 24) (e 25) (e 26) (e 33) (e 34) (e 35)) (exitF 2 (fun e => K22_11 m call h5 (e 4) (e 6) (e 7) (e 24) (e 25) (e 26)) (exitF 1 (fun e => K22_8 m call h5 (e 4) (e 24) (e 25) (e 26)) (exitF 0 (fun e => K22_3 m call (e 4)) (fun _ _ => noK)))))) (fun e => retV (C m) (resE e Tryz.f22.results.toList))) (exitF 4 (fun e => K22_16 m call h5 h13 (e 4) (e 6) (e 7) (e 24) (e 25) (e 26) (e 33) (e 34) (e 35)) (exitF 3 (fun e => K22_16 m call h5 h13 (e 4) (e 6) (e 7) (e 24) (e 25) (e 26) (e 33) (e 34) (e 35)) (exitF 2 (fun e => K22_11 m call h5 (e 4) (e 6) (e 7) (e 24) (e 25) (e 26)) (exitF 1 (fun e => K22_8 m call h5 (e 4) (e 24) (e 25) (e 26)) (exitF 0 (fun e => K22_3 m call (e 4)) (fun _ _ => noK)))))) (fun e => retV (C m) (resE e Tryz.f22.results.toList))) := by kernel_rfl
  rw [u, K22_21_eq m call h5 h13 h20 ]
  show _ = _
  kernel_rfl
theorem L22_20_eq (m : Nat) (call : CallF) (h5 : AV → AV → AV → AV → Kt) (h13 : AV → AV → AV → AV → AV → AV → AV → AV → AV → Kt) (n : Nat) : (loopF (fun k => compF c22_20 (C m) call k (exitF 4 (fun e => K22_16 m call h5 h13 (e 4) (e 6) (e 7) (e 24) (e 25) (e 26) (e 33) (e 34) (e 35)) (exitF 3 (fun e => K22_16 m call h5 h13 (e 4) (e 6) (e 7) (e 24) (e 25) (e 26) (e 33) (e 34) (e 35)) (exitF 2 (fun e => K22_11 m call h5 (e 4) (e 6) (e 7) (e 24) (e 25) (e 26)) (exitF 1 (fun e => K22_8 m call h5 (e 4) (e 24) (e 25) (e 26)) (exitF 0 (fun e => K22_3 m call (e 4)) (fun _ _ => noK)))))) (fun e => retV (C m) (resE e Tryz.f22.results.toList))) n) = (fun e => L22_20 m call h5 h13 n (e 4) (e 6) (e 7) (e 24) (e 25) (e 26) (e 33) (e 34) (e 35) (e 50) (e 51) (e 52)) := by
  induction n with
  | zero => rfl
  | succ n ih =>
    show compF c22_20 (C m) call (loopF (fun k => compF c22_20 (C m) call k (exitF 4 (fun e => K22_16 m call h5 h13 (e 4) (e 6) (e 7) (e 24) (e 25) (e 26) (e 33) (e 34) (e 35)) (exitF 3 (fun e => K22_16 m call h5 h13 (e 4) (e 6) (e 7) (e 24) (e 25) (e 26) (e 33) (e 34) (e 35)) (exitF 2 (fun e => K22_11 m call h5 (e 4) (e 6) (e 7) (e 24) (e 25) (e 26)) (exitF 1 (fun e => K22_8 m call h5 (e 4) (e 24) (e 25) (e 26)) (exitF 0 (fun e => K22_3 m call (e 4)) (fun _ _ => noK)))))) (fun e => retV (C m) (resE e Tryz.f22.results.toList))) n) (exitF 4 (fun e => K22_16 m call h5 h13 (e 4) (e 6) (e 7) (e 24) (e 25) (e 26) (e 33) (e 34) (e 35)) (exitF 3 (fun e => K22_16 m call h5 h13 (e 4) (e 6) (e 7) (e 24) (e 25) (e 26) (e 33) (e 34) (e 35)) (exitF 2 (fun e => K22_11 m call h5 (e 4) (e 6) (e 7) (e 24) (e 25) (e 26)) (exitF 1 (fun e => K22_8 m call h5 (e 4) (e 24) (e 25) (e 26)) (exitF 0 (fun e => K22_3 m call (e 4)) (fun _ _ => noK)))))) (fun e => retV (C m) (resE e Tryz.f22.results.toList)) = _
    rw [ih, L22_20_b_eq m call h5 h13 (L22_20 m call h5 h13 n)]
    rfl
theorem L22_20_succ (m : Nat) (call : CallF) (h5 : AV → AV → AV → AV → Kt) (h13 : AV → AV → AV → AV → AV → AV → AV → AV → AV → Kt) (n : Nat) : L22_20 m call h5 h13 (n + 1) = L22_20_b m call h5 h13 (L22_20 m call h5 h13 n) := rfl
noncomputable def K22_19 (m : Nat) (call : CallF) (h5 : AV → AV → AV → AV → Kt) (h13 : AV → AV → AV → AV → AV → AV → AV → AV → AV → Kt) (t4 t6 t7 t24 t25 t26 t33 t34 t35 t50 t51 t52 : AV) : Kt :=
 L22_20 m call h5 h13 m t4 t6 t7 t24 t25 t26 t33 t34 t35 t50 t51 t52
theorem K22_19_eq (m : Nat) (call : CallF) (h5 : AV → AV → AV → AV → Kt) (h13 : AV → AV → AV → AV → AV → AV → AV → AV → AV → Kt) : compF c22_19 (C m) call (fun e => K22_16 m call h5 h13 (e 4) (e 6) (e 7) (e 24) (e 25) (e 26) (e 33) (e 34) (e 35)) (exitF 3 (fun e => K22_16 m call h5 h13 (e 4) (e 6) (e 7) (e 24) (e 25) (e 26) (e 33) (e 34) (e 35)) (exitF 2 (fun e => K22_11 m call h5 (e 4) (e 6) (e 7) (e 24) (e 25) (e 26)) (exitF 1 (fun e => K22_8 m call h5 (e 4) (e 24) (e 25) (e 26)) (exitF 0 (fun e => K22_3 m call (e 4)) (fun _ _ => noK))))) (fun e => retV (C m) (resE e Tryz.f22.results.toList)) = (fun e => K22_19 m call h5 h13 (e 4) (e 6) (e 7) (e 24) (e 25) (e 26) (e 33) (e 34) (e 35) (e 50) (e 51) (e 52)) := by
  have u : compF c22_19 (C m) call (fun e => K22_16 m call h5 h13 (e 4) (e 6) (e 7) (e 24) (e 25) (e 26) (e 33) (e 34) (e 35)) (exitF 3 (fun e => K22_16 m call h5 h13 (e 4) (e 6) (e 7) (e 24) (e 25) (e 26) (e 33) (e 34) (e 35)) (exitF 2 (fun e => K22_11 m call h5 (e 4) (e 6) (e 7) (e 24) (e 25) (e 26)) (exitF 1 (fun e => K22_8 m call h5 (e 4) (e 24) (e 25) (e 26)) (exitF 0 (fun e => K22_3 m call (e 4)) (fun _ _ => noK))))) (fun e => retV (C m) (resE e Tryz.f22.results.toList)) = (loopF (fun k => compF c22_20 (C m) call k (exitF 4 (fun e => K22_16 m call h5 h13 (e 4) (e 6) (e 7) (e 24) (e 25) (e 26) (e 33) (e 34) (e 35)) (exitF 3 (fun e => K22_16 m call h5 h13 (e 4) (e 6) (e 7) (e 24) (e 25) (e 26) (e 33) (e 34) (e 35)) (exitF 2 (fun e => K22_11 m call h5 (e 4) (e 6) (e 7) (e 24) (e 25) (e 26)) (exitF 1 (fun e => K22_8 m call h5 (e 4) (e 24) (e 25) (e 26)) (exitF 0 (fun e => K22_3 m call (e 4)) (fun _ _ => noK)))))) (fun e => retV (C m) (resE e Tryz.f22.results.toList))) m) := by kernel_rfl
  rw [u, L22_20_eq m call h5 h13 m]
  show _ = _
  kernel_rfl
noncomputable def K22_18 (m : Nat) (call : CallF) (h5 : AV → AV → AV → AV → Kt) (h13 : AV → AV → AV → AV → AV → AV → AV → AV → AV → Kt) (t4 t6 t7 t9 t24 t25 t26 t33 t34 t35 : AV) : Kt :=
 bnd (fadO (C m) 39 t9 1) fun v0 =>
 bnd (ldO (C m) 37 v0) fun v1 =>
 bnd (bltO (C m) .len [37] [v1]) fun v2 =>
 K22_19 m call h5 h13 t4 t6 t7 t24 t25 t26 t33 t34 t35 v1 v2 (I 0)
theorem K22_18_eq (m : Nat) (call : CallF) (h5 : AV → AV → AV → AV → Kt) (h13 : AV → AV → AV → AV → AV → AV → AV → AV → AV → Kt) : compF c22_18 (C m) call (fun e => K22_16 m call h5 h13 (e 4) (e 6) (e 7) (e 24) (e 25) (e 26) (e 33) (e 34) (e 35)) (exitF 3 (fun e => K22_16 m call h5 h13 (e 4) (e 6) (e 7) (e 24) (e 25) (e 26) (e 33) (e 34) (e 35)) (exitF 2 (fun e => K22_11 m call h5 (e 4) (e 6) (e 7) (e 24) (e 25) (e 26)) (exitF 1 (fun e => K22_8 m call h5 (e 4) (e 24) (e 25) (e 26)) (exitF 0 (fun e => K22_3 m call (e 4)) (fun _ _ => noK))))) (fun e => retV (C m) (resE e Tryz.f22.results.toList)) = (fun e => K22_18 m call h5 h13 (e 4) (e 6) (e 7) (e 9) (e 24) (e 25) (e 26) (e 33) (e 34) (e 35)) := by
  have u : compF c22_18 (C m) call (fun e => K22_16 m call h5 h13 (e 4) (e 6) (e 7) (e 24) (e 25) (e 26) (e 33) (e 34) (e 35)) (exitF 3 (fun e => K22_16 m call h5 h13 (e 4) (e 6) (e 7) (e 24) (e 25) (e 26) (e 33) (e 34) (e 35)) (exitF 2 (fun e => K22_11 m call h5 (e 4) (e 6) (e 7) (e 24) (e 25) (e 26)) (exitF 1 (fun e => K22_8 m call h5 (e 4) (e 24) (e 25) (e 26)) (exitF 0 (fun e => K22_3 m call (e 4)) (fun _ _ => noK))))) (fun e => retV (C m) (resE e Tryz.f22.results.toList)) = (compF (pS1 c22_18) (C m) call (compF c22_19 (C m) call (fun e => K22_16 m call h5 h13 (e 4) (e 6) (e 7) (e 24) (e 25) (e 26) (e 33) (e 34) (e 35)) (exitF 3 (fun e => K22_16 m call h5 h13 (e 4) (e 6) (e 7) (e 24) (e 25) (e 26) (e 33) (e 34) (e 35)) (exitF 2 (fun e => K22_11 m call h5 (e 4) (e 6) (e 7) (e 24) (e 25) (e 26)) (exitF 1 (fun e => K22_8 m call h5 (e 4) (e 24) (e 25) (e 26)) (exitF 0 (fun e => K22_3 m call (e 4)) (fun _ _ => noK))))) (fun e => retV (C m) (resE e Tryz.f22.results.toList))) (exitF 3 (fun e => K22_16 m call h5 h13 (e 4) (e 6) (e 7) (e 24) (e 25) (e 26) (e 33) (e 34) (e 35)) (exitF 2 (fun e => K22_11 m call h5 (e 4) (e 6) (e 7) (e 24) (e 25) (e 26)) (exitF 1 (fun e => K22_8 m call h5 (e 4) (e 24) (e 25) (e 26)) (exitF 0 (fun e => K22_3 m call (e 4)) (fun _ _ => noK))))) (fun e => retV (C m) (resE e Tryz.f22.results.toList))) := by kernel_rfl
  rw [u, K22_19_eq m call h5 h13 ]
  show _ = _
  kernel_rfl
noncomputable def K22_17 (m : Nat) (call : CallF) (h5 : AV → AV → AV → AV → Kt) (h13 : AV → AV → AV → AV → AV → AV → AV → AV → AV → Kt) (t4 t6 t7 t9 t24 t25 t26 t33 t34 t35 : AV) : Kt :=
 dIn fun sv0 =>
 dVal (fadO (C m) 39 t9 0) fun v1 =>
 dChk (ldO (C m) 3 v1) fun v2 =>
 dEff (calO (C m) call (fnV 45) [v2, (I 2)]) fun v3 sv3 =>
 dVal (fadO (C m) 39 t9 1) fun v4 =>
 dSam (some true) (ldO (C m) 37 v4) (fun v5 => (eqIn (ldO (C m) 37 v4) v5 sv3 && (eqIn (ldO (C m) 37 v4) v5 sv0 && true))) fun v6 =>
 dSam (some true) (bltO (C m) .len [37] [v6]) (fun v7 => (eqIn (bltO (C m) .len [37] [v6]) v7 sv3 && (eqIn (bltO (C m) .len [37] [v6]) v7 sv0 && true))) fun v8 =>
 dEff (calO (C m) call (fnV 45) [v8, (I 2)]) fun v9 sv9 =>
 dVal (binO (C m) .add 9 t7 v3) fun v10 =>
 dVal (binO (C m) .add 9 v10 v9) fun v11 =>
 K22_18 m call h5 h13 t4 t6 v11 t9 t24 t25 t26 t33 t34 t35
theorem K22_17_eq (m : Nat) (call : CallF) (h5 : AV → AV → AV → AV → Kt) (h13 : AV → AV → AV → AV → AV → AV → AV → AV → AV → Kt) : compF c22_17 (C m) call (fun e => K22_16 m call h5 h13 (e 4) (e 6) (e 7) (e 24) (e 25) (e 26) (e 33) (e 34) (e 35)) (exitF 3 (fun e => K22_16 m call h5 h13 (e 4) (e 6) (e 7) (e 24) (e 25) (e 26) (e 33) (e 34) (e 35)) (exitF 2 (fun e => K22_11 m call h5 (e 4) (e 6) (e 7) (e 24) (e 25) (e 26)) (exitF 1 (fun e => K22_8 m call h5 (e 4) (e 24) (e 25) (e 26)) (exitF 0 (fun e => K22_3 m call (e 4)) (fun _ _ => noK))))) (fun e => retV (C m) (resE e Tryz.f22.results.toList)) = (fun e => K22_17 m call h5 h13 (e 4) (e 6) (e 7) (e 9) (e 24) (e 25) (e 26) (e 33) (e 34) (e 35)) := by
  have u : compF c22_17 (C m) call (fun e => K22_16 m call h5 h13 (e 4) (e 6) (e 7) (e 24) (e 25) (e 26) (e 33) (e 34) (e 35)) (exitF 3 (fun e => K22_16 m call h5 h13 (e 4) (e 6) (e 7) (e 24) (e 25) (e 26) (e 33) (e 34) (e 35)) (exitF 2 (fun e => K22_11 m call h5 (e 4) (e 6) (e 7) (e 24) (e 25) (e 26)) (exitF 1 (fun e => K22_8 m call h5 (e 4) (e 24) (e 25) (e 26)) (exitF 0 (fun e => K22_3 m call (e 4)) (fun _ _ => noK))))) (fun e => retV (C m) (resE e Tryz.f22.results.toList)) = (compF (pS1 c22_17) (C m) call (compF c22_18 (C m) call (fun e => K22_16 m call h5 h13 (e 4) (e 6) (e 7) (e 24) (e 25) (e 26) (e 33) (e 34) (e 35)) (exitF 3 (fun e => K22_16 m call h5 h13 (e 4) (e 6) (e 7) (e 24) (e 25) (e 26) (e 33) (e 34) (e 35)) (exitF 2 (fun e => K22_11 m call h5 (e 4) (e 6) (e 7) (e 24) (e 25) (e 26)) (exitF 1 (fun e => K22_8 m call h5 (e 4) (e 24) (e 25) (e 26)) (exitF 0 (fun e => K22_3 m call (e 4)) (fun _ _ => noK))))) (fun e => retV (C m) (resE e Tryz.f22.results.toList))) (exitF 3 (fun e => K22_16 m call h5 h13 (e 4) (e 6) (e 7) (e 24) (e 25) (e 26) (e 33) (e 34) (e 35)) (exitF 2 (fun e => K22_11 m call h5 (e 4) (e 6) (e 7) (e 24) (e 25) (e 26)) (exitF 1 (fun e => K22_8 m call h5 (e 4) (e 24) (e 25) (e 26)) (exitF 0 (fun e => K22_3 m call (e 4)) (fun _ _ => noK))))) (fun e => retV (C m) (resE e Tryz.f22.results.toList))) := by kernel_rfl
  rw [u, K22_18_eq m call h5 h13 ]
  show _ = _
  kernel_rfl
noncomputable def K22_15 (m : Nat) (call : CallF) (h5 : AV → AV → AV → AV → Kt) (h13 : AV → AV → AV → AV → AV → AV → AV → AV → AV → Kt) (t4 t6 t7 t24 t25 t26 t33 t34 t35 : AV) : Kt :=
 bnd (iadO (C m) 89 t33 t35) fun v0 =>
 bnd (ldO (C m) 39 v0) fun v1 =>
 bnd (newO (C m) 39) fun v2 =>
 bnd (stO (C m) 39 v2 v1) fun _ =>
 K22_17 m call h5 h13 t4 t6 t7 v2 t24 t25 t26 t33 t34 t35
theorem K22_15_eq (m : Nat) (call : CallF) (h5 : AV → AV → AV → AV → Kt) (h13 : AV → AV → AV → AV → AV → AV → AV → AV → AV → Kt) : compF c22_15 (C m) call (fun e => h13 (e 4) (e 6) (e 7) (e 24) (e 25) (e 26) (e 33) (e 34) (e 35)) (exitF 2 (fun e => K22_11 m call h5 (e 4) (e 6) (e 7) (e 24) (e 25) (e 26)) (exitF 1 (fun e => K22_8 m call h5 (e 4) (e 24) (e 25) (e 26)) (exitF 0 (fun e => K22_3 m call (e 4)) (fun _ _ => noK)))) (fun e => retV (C m) (resE e Tryz.f22.results.toList)) = (fun e => K22_15 m call h5 h13 (e 4) (e 6) (e 7) (e 24) (e 25) (e 26) (e 33) (e 34) (e 35)) := by
  have u : compF c22_15 (C m) call (fun e => h13 (e 4) (e 6) (e 7) (e 24) (e 25) (e 26) (e 33) (e 34) (e 35)) (exitF 2 (fun e => K22_11 m call h5 (e 4) (e 6) (e 7) (e 24) (e 25) (e 26)) (exitF 1 (fun e => K22_8 m call h5 (e 4) (e 24) (e 25) (e 26)) (exitF 0 (fun e => K22_3 m call (e 4)) (fun _ _ => noK)))) (fun e => retV (C m) (resE e Tryz.f22.results.toList)) = (compF (pS1 (pB (pS1 c22_15))) (C m) call (compF c22_17 (C m) call (compF c22_16 (C m) call (fun e => h13 (e 4) (e 6) (e 7) (e 24) (e 25) (e 26) (e 33) (e 34) (e 35)) (exitF 2 (fun e => K22_11 m call h5 (e 4) (e 6) (e 7) (e 24) (e 25) (e 26)) (exitF 1 (fun e => K22_8 m call h5 (e 4) (e 24) (e 25) (e 26)) (exitF 0 (fun e => K22_3 m call (e 4)) (fun _ _ => noK)))) (fun e => retV (C m) (resE e Tryz.f22.results.toList))) (exitF 3 (compF c22_16 (C m) call (fun e => h13 (e 4) (e 6) (e 7) (e 24) (e 25) (e 26) (e 33) (e 34) (e 35)) (exitF 2 (fun e => K22_11 m call h5 (e 4) (e 6) (e 7) (e 24) (e 25) (e 26)) (exitF 1 (fun e => K22_8 m call h5 (e 4) (e 24) (e 25) (e 26)) (exitF 0 (fun e => K22_3 m call (e 4)) (fun _ _ => noK)))) (fun e => retV (C m) (resE e Tryz.f22.results.toList))) (exitF 2 (fun e => K22_11 m call h5 (e 4) (e 6) (e 7) (e 24) (e 25) (e 26)) (exitF 1 (fun e => K22_8 m call h5 (e 4) (e 24) (e 25) (e 26)) (exitF 0 (fun e => K22_3 m call (e 4)) (fun _ _ => noK))))) (fun e => retV (C m) (resE e Tryz.f22.results.toList))) (exitF 3 (compF c22_16 (C m) call (fun e => h13 (e 4) (e 6) (e 7) (e 24) (e 25) (e 26) (e 33) (e 34) (e 35)) (exitF 2 (fun e => K22_11 m call h5 (e 4) (e 6) (e 7) (e 24) (e 25) (e 26)) (exitF 1 (fun e => K22_8 m call h5 (e 4) (e 24) (e 25) (e 26)) (exitF 0 (fun e => K22_3 m call (e 4)) (fun _ _ => noK)))) (fun e => retV (C m) (resE e Tryz.f22.results.toList))) (exitF 2 (fun e => K22_11 m call h5 (e 4) (e 6) (e 7) (e 24) (e 25) (e 26)) (exitF 1 (fun e => K22_8 m call h5 (e 4) (e 24) (e 25) (e 26)) (exitF 0 (fun e => K22_3 m call (e 4)) (fun _ _ => noK))))) (fun e => retV (C m) (resE e Tryz.f22.results.toList))) := by kernel_rfl
  rw [u, K22_16_eq m call h5 h13 , K22_17_eq m call h5 h13 ]
  show _ = _
  kernel_rfl
noncomputable def K22_14 (m : Nat) (call : CallF) (h5 : AV → AV → AV → AV → Kt) (h13 : AV → AV → AV → AV → AV → AV → AV → AV → AV → Kt) (t4 t6 t7 t24 t25 t26 t33 t34 t35 t36 : AV) : Kt :=
 ifB t36
 ((K22_15 m call h5 h13 t4 t6 t7 t24 t25 t26 t33 t34 t35))
 ((K22_11 m call h5 t4 t6 t7 t24 t25 t26))
theorem K22_14_eq (m : Nat) (call : CallF) (h5 : AV → AV → AV → AV → Kt) (h13 : AV → AV → AV → AV → AV → AV → AV → AV → AV → Kt) : compF c22_14 (C m) call (fun e => h13 (e 4) (e 6) (e 7) (e 24) (e 25) (e 26) (e 33) (e 34) (e 35)) (exitF 2 (fun e => K22_11 m call h5 (e 4) (e 6) (e 7) (e 24) (e 25) (e 26)) (exitF 1 (fun e => K22_8 m call h5 (e 4) (e 24) (e 25) (e 26)) (exitF 0 (fun e => K22_3 m call (e 4)) (fun _ _ => noK)))) (fun e => retV (C m) (resE e Tryz.f22.results.toList)) = (fun e => K22_14 m call h5 h13 (e 4) (e 6) (e 7) (e 24) (e 25) (e 26) (e 33) (e 34) (e 35) (e 36)) := by
  have u : compF c22_14 (C m) call (fun e => h13 (e 4) (e 6) (e 7) (e 24) (e 25) (e 26) (e 33) (e 34) (e 35)) (exitF 2 (fun e => K22_11 m call h5 (e 4) (e 6) (e 7) (e 24) (e 25) (e 26)) (exitF 1 (fun e => K22_8 m call h5 (e 4) (e 24) (e 25) (e 26)) (exitF 0 (fun e => K22_3 m call (e 4)) (fun _ _ => noK)))) (fun e => retV (C m) (resE e Tryz.f22.results.toList)) = (fun e => ifB (e 36) ((compF c22_15 (C m) call (fun e => h13 (e 4) (e 6) (e 7) (e 24) (e 25) (e 26) (e 33) (e 34) (e 35)) (exitF 2 (fun e => K22_11 m call h5 (e 4) (e 6) (e 7) (e 24) (e 25) (e 26)) (exitF 1 (fun e => K22_8 m call h5 (e 4) (e 24) (e 25) (e 26)) (exitF 0 (fun e => K22_3 m call (e 4)) (fun _ _ => noK)))) (fun e => retV (C m) (resE e Tryz.f22.results.toList))) e) ((fun e => K22_11 m call h5 (e 4) (e 6) (e 7) (e 24) (e 25) (e 26)) e)) := by kernel_rfl
  rw [u, K22_15_eq m call h5 h13 ]
  show _ = _
  kernel_rfl
noncomputable def L22_13_b (m : Nat) (call : CallF) (h5 : AV → AV → AV → AV → Kt) (h13 : AV → AV → AV → AV → AV → AV → AV → AV → AV → Kt) (t4 t6 t7 t24 t25 t26 t33 t34 t35 : AV) : Kt :=
 bnd (binO (C m) .lss 3 t35 t34) fun v0 =>
 K22_14 m call h5 h13 t4 t6 t7 t24 t25 t26 t33 t34 t35 v0
noncomputable def L22_13 (m : Nat) (call : CallF) (h5 : AV → AV → AV → AV → Kt) (n : Nat) : AV → AV → AV → AV → AV → AV → AV → AV → AV → Kt :=
 Nat.rec (motive := fun _ => AV → AV → AV → AV → AV → AV → AV → AV → AV → Kt) (fun t4 t6 t7 t24 t25 t26 t33 t34 t35 => noK) (fun _ ih => L22_13_b m call h5 ih) n
theorem L22_13_b_eq (m : Nat) (call : CallF) (h5 : AV → AV → AV → AV → Kt) (h13 : AV → AV → AV → AV → AV → AV → AV → AV → AV → Kt) : compF c22_13 (C m) call (fun e => h13 (e 4) (e 6) (e 7) (e 24) (e 25) (e 26) (e 33) (e 34) (e 35)) (exitF 2 (fun e => K22_11 m call h5 (e 4) (e 6) (e 7) (e 24) (e 25) (e 26)) (exitF 1 (fun e => K22_8 m call h5 (e 4) (e 24) (e 25) (e 26)) (exitF 0 (fun e => K22_3 m call (e 4)) (fun _ _ => noK)))) (fun e => retV (C m) (resE e Tryz.f22.results.toList)) = fun e => L22_13_b m call h5 h13 (e 4) (e 6) (e 7) (e 24) (e 25) (e 26) (e 33) (e 34) (e 35) := by
  have u : compF c22_13 (C m) call (fun e => h13 (e 4) (e 6) (e 7) (e 24) (e 25) (e 26) (e 33) (e 34) (e 35)) (exitF 2 (fun e => K22_11 m call h5 (e 4) (e 6) (e 7) (e 24) (e 25) (e 26)) (exitF 1 (fun e => K22_8 m call h5 (e 4) (e 24) (e 25) (e 26)) (exitF 0 (fun e => K22_3 m call (e 4)) (fun _ _ => noK)))) (fun e => retV (C m) (resE e Tryz.f22.results.toList)) = (compF (pS1 c22_13) (C m) call (compF c22_14 (C m) call (fun e => h13 (e 4) (e 6) (e 7) (e 24) (e 25) (e 26) (e 33) (e 34) (e 35)) (exitF 2 (fun e => K22_11 m call h5 (e 4) (e 6) (e 7) (e 24) (e 25) (e 26)) (exitF 1 (fun e => K22_8 m call h5 (e 4) (e 24) (e 25) (e 26)) (exitF 0 (fun e => K22_3 m call (e 4)) (fun _ _ => noK)))) (fun e => retV (C m) (resE e Tryz.f22.results.toList))) (exitF 2 (fun e => K22_11 m call h5 (e 4) (e 6) (e 7) (e 24) (e 25) (e 26)) (exitF 1 (fun e => K22_8 m call h5 (e 4) (e 24) (e 25) (e 26)) (exitF 0 (fun e => K22_3 m call (e 4)) (fun _ _ => noK)))) (fun e => retV (C m) (resE e Tryz.f22.results.toList))) := by kernel_rfl
  rw [u, K22_14_eq m call h5 h13 ]
  show _ = _
  kernel_rfl
theorem L22_13_eq (m : Nat) (call : CallF) (h5 : AV → AV → AV → AV → Kt) (n : Nat) : (loopF (fun k => compF c22_13 (C m) call k (exitF 2 (fun e => K22_11 m call h5 (e 4) (e 6) (e 7) (e 24) (e 25) (e 26)) (exitF 1 (fun e => K22_8 m call h5 (e 4) (e 24) (e 25) (e 26)) (exitF 0 (fun e => K22_3 m call (e 4)) (fun _ _ => noK)))) (fun e => retV (C m) (resE e Tryz.f22.results.toList))) n) = (fun e => L22_13 m call h5 n (e 4) (e 6) (e 7) (e 24) (e 25) (e 26) (e 33) (e 34) (e 35)) := by
  induction n with
  | zero => rfl
  | succ n ih =>
    show compF c22_13 (C m) call (loopF (fun k => compF c22_13 (C m) call k (exitF 2 (fun e => K22_11 m call h5 (e 4) (e 6) (e 7) (e 24) (e 25) (e 26)) (exitF 1 (fun e => K22_8 m call h5 (e 4) (e 24) (e 25) (e 26)) (exitF 0 (fun e => K22_3 m call (e 4)) (fun _ _ => noK)))) (fun e => retV (C m) (resE e Tryz.f22.results.toList))) n) (exitF 2 (fun e => K22_11 m call h5 (e 4) (e 6) (e 7) (e 24) (e 25) (e 26)) (exitF 1 (fun e => K22_8 m call h5 (e 4) (e 24) (e 25) (e 26)) (exitF 0 (fun e => K22_3 m call (e 4)) (fun _ _ => noK)))) (fun e => retV (C m) (resE e Tryz.f22.results.toList)) = _
    rw [ih, L22_13_b_eq m call h5 (L22_13 m call h5 n)]
    rfl
theorem L22_13_succ (m : Nat) (call : CallF) (h5 : AV → AV → AV → AV → Kt) (n : Nat) : L22_13 m call h5 (n + 1) = L22_13_b m call h5 (L22_13 m call h5 n) := rfl
noncomputable def K22_12 (m : Nat) (call : CallF) (h5 : AV → AV → AV → AV → Kt) (t4 t6 t7 t24 t25 t26 t33 t34 t35 : AV) : Kt :=
 L22_13 m call h5 m t4 t6 t7 t24 t25 t26 t33 t34 t35
theorem K22_12_eq (m : Nat) (call : CallF) (h5 : AV → AV → AV → AV → Kt) : compF c22_12 (C m) call (fun e => K22_11 m call h5 (e 4) (e 6) (e 7) (e 24) (e 25) (e 26)) (exitF 1 (fun e => K22_8 m call h5 (e 4) (e 24) (e 25) (e 26)) (exitF 0 (fun e => K22_3 m call (e 4)) (fun _ _ => noK))) (fun e => retV (C m) (resE e Tryz.f22.results.toList)) = (fun e => K22_12 m call h5 (e 4) (e 6) (e 7) (e 24) (e 25) (e 26) (e 33) (e 34) (e 35)) := by
  have u : compF c22_12 (C m) call (fun e => K22_11 m call h5 (e 4) (e 6) (e 7) (e 24) (e 25) (e 26)) (exitF 1 (fun e => K22_8 m call h5 (e 4) (e 24) (e 25) (e 26)) (exitF 0 (fun e => K22_3 m call (e 4)) (fun _ _ => noK))) (fun e => retV (C m) (resE e Tryz.f22.results.toList)) = (loopF (fun k => compF c22_13 (C m) call k (exitF 2 (fun e => K22_11 m call h5 (e 4) (e 6) (e 7) (e 24) (e 25) (e 26)) (exitF 1 (fun e => K22_8 m call h5 (e 4) (e 24) (e 25) (e 26)) (exitF 0 (fun e => K22_3 m call (e 4)) (fun _ _ => noK)))) (fun e => retV (C m) (resE e Tryz.f22.results.toList))) m) := by kernel_rfl
  rw [u, L22_13_eq m call h5 m]
  show _ = _
  kernel_rfl
noncomputable def K22_10 (m : Nat) (call : CallF) (h5 : AV → AV → AV → AV → Kt) (t4 t6 t7 t24 t25 t26 : AV) : Kt :=
 bnd (fadO (C m) 91 t6 1) fun v0 =>
 bnd (ldO (C m) 89 v0) fun v1 =>
 bnd (bltO (C m) .len [89] [v1]) fun v2 =>
 K22_12 m call h5 t4 t6 t7 t24 t25 t26 v1 v2 (I 0)
theorem K22_10_eq (m : Nat) (call : CallF) (h5 : AV → AV → AV → AV → Kt) : compF c22_10 (C m) call (fun e => K22_8 m call h5 (e 4) (e 24) (e 25) (e 26)) (exitF 1 (fun e => K22_8 m call h5 (e 4) (e 24) (e 25) (e 26)) (exitF 0 (fun e => K22_3 m call (e 4)) (fun _ _ => noK))) (fun e => retV (C m) (resE e Tryz.f22.results.toList)) = (fun e => K22_10 m call h5 (e 4) (e 6) (e 7) (e 24) (e 25) (e 26)) := by
  have u : compF c22_10 (C m) call (fun e => K22_8 m call h5 (e 4) (e 24) (e 25) (e 26)) (exitF 1 (fun e => K22_8 m call h5 (e 4) (e 24) (e 25) (e 26)) (exitF 0 (fun e => K22_3 m call (e 4)) (fun _ _ => noK))) (fun e => retV (C m) (resE e Tryz.f22.results.toList)) = (compF (pS1 (pS1 c22_10)) (C m) call (compF c22_12 (C m) call (compF c22_11 (C m) call (fun e => K22_8 m call h5 (e 4) (e 24) (e 25) (e 26)) (exitF 1 (fun e => K22_8 m call h5 (e 4) (e 24) (e 25) (e 26)) (exitF 0 (fun e => K22_3 m call (e 4)) (fun _ _ => noK))) (fun e => retV (C m) (resE e Tryz.f22.results.toList))) (exitF 1 (fun e => K22_8 m call h5 (e 4) (e 24) (e 25) (e 26)) (exitF 0 (fun e => K22_3 m call (e 4)) (fun _ _ => noK))) (fun e => retV (C m) (resE e Tryz.f22.results.toList))) (exitF 1 (fun e => K22_8 m call h5 (e 4) (e 24) (e 25) (e 26)) (exitF 0 (fun e => K22_3 m call (e 4)) (fun _ _ => noK))) (fun e => retV (C m) (resE e Tryz.f22.results.toList))) := by kernel_rfl
  rw [u, K22_11_eq m call h5 , K22_12_eq m call h5 ]
  show _ = _
  kernel_rfl
noncomputable def K22_9 (m : Nat) (call : CallF) (h5 : AV → AV → AV → AV → Kt) (t4 t6 t24 t25 t26 : AV) : Kt :=
 bnd (fadO (C m) 91 t6 2) fun v0 =>
 bnd (ldO (C m) 9 v0) fun v1 =>
 K22_10 m call h5 t4 t6 v1 t24 t25 t26
theorem K22_9_eq (m : Nat) (call : CallF) (h5 : AV → AV → AV → AV → Kt) : compF c22_9 (C m) call (fun e => K22_8 m call h5 (e 4) (e 24) (e 25) (e 26)) (exitF 1 (fun e => K22_8 m call h5 (e 4) (e 24) (e 25) (e 26)) (exitF 0 (fun e => K22_3 m call (e 4)) (fun _ _ => noK))) (fun e => retV (C m) (resE e Tryz.f22.results.toList)) = (fun e => K22_9 m call h5 (e 4) (e 6) (e 24) (e 25) (e 26)) := by
  have u : compF c22_9 (C m) call (fun e => K22_8 m call h5 (e 4) (e 24) (e 25) (e 26)) (exitF 1 (fun e => K22_8 m call h5 (e 4) (e 24) (e 25) (e 26)) (exitF 0 (fun e => K22_3 m call (e 4)) (fun _ _ => noK))) (fun e => retV (C m) (resE e Tryz.f22.results.toList)) = (compF (pS1 c22_9) (C m) call (compF c22_10 (C m) call (fun e => K22_8 m call h5 (e 4) (e 24) (e 25) (e 26)) (exitF 1 (fun e => K22_8 m call h5 (e 4) (e 24) (e 25) (e 26)) (exitF 0 (fun e => K22_3 m call (e 4)) (fun _ _ => noK))) (fun e => retV (C m) (resE e Tryz.f22.results.toList))) (exitF 1 (fun e => K22_8 m call h5 (e 4) (e 24) (e 25) (e 26)) (exitF 0 (fun e => K22_3 m call (e 4)) (fun _ _ => noK))) (fun e => retV (C m) (resE e Tryz.f22.results.toList))) := by kernel_rfl
  rw [u, K22_10_eq m call h5 ]
  show _ = _
  kernel_rfl
noncomputable def K22_7 (m : Nat) (call : CallF) (h5 : AV → AV → AV → AV → Kt) (t4 t24 t25 t26 : AV) : Kt :=
 bnd (iadO (C m) 92 t24 t26) fun v0 =>
 bnd (ldO (C m) 91 v0) fun v1 =>
 bnd (newO (C m) 91) fun v2 =>
 bnd (stO (C m) 91 v2 v1) fun _ =>
 K22_9 m call h5 t4 v2 t24 t25 t26
theorem K22_7_eq (m : Nat) (call : CallF) (h5 : AV → AV → AV → AV → Kt) : compF c22_7 (C m) call (fun e => h5 (e 4) (e 24) (e 25) (e 26)) (exitF 0 (fun e => K22_3 m call (e 4)) (fun _ _ => noK)) (fun e => retV (C m) (resE e Tryz.f22.results.toList)) = (fun e => K22_7 m call h5 (e 4) (e 24) (e 25) (e 26)) := by
  have u : compF c22_7 (C m) call (fun e => h5 (e 4) (e 24) (e 25) (e 26)) (exitF 0 (fun e => K22_3 m call (e 4)) (fun _ _ => noK)) (fun e => retV (C m) (resE e Tryz.f22.results.toList)) = (compF (pS1 (pB (pS1 c22_7))) (C m) call (compF c22_9 (C m) call (compF c22_8 (C m) call (fun e => h5 (e 4) (e 24) (e 25) (e 26)) (exitF 0 (fun e => K22_3 m call (e 4)) (fun _ _ => noK)) (fun e => retV (C m) (resE e Tryz.f22.results.toList))) (exitF 1 (compF c22_8 (C m) call (fun e => h5 (e 4) (e 24) (e 25) (e 26)) (exitF 0 (fun e => K22_3 m call (e 4)) (fun _ _ => noK)) (fun e => retV (C m) (resE e Tryz.f22.results.toList))) (exitF 0 (fun e => K22_3 m call (e 4)) (fun _ _ => noK))) (fun e => retV (C m) (resE e Tryz.f22.results.toList))) (exitF 1 (compF c22_8 (C m) call (fun e => h5 (e 4) (e 24) (e 25) (e 26)) (exitF 0 (fun e => K22_3 m call (e 4)) (fun _ _ => noK)) (fun e => retV (C m) (resE e Tryz.f22.results.toList))) (exitF 0 (fun e => K22_3 m call (e 4)) (fun _ _ => noK))) (fun e => retV (C m) (resE e Tryz.f22.results.toList))) := by kernel_rfl
  rw [u, K22_8_eq m call h5 , K22_9_eq m call h5 ]
  show _ = _
  kernel_rfl
noncomputable def K22_6 (m : Nat) (call : CallF) (h5 : AV → AV → AV → AV → Kt) (t4 t24 t25 t26 t27 : AV) : Kt :=
 ifB t27
 ((K22_7 m call h5 t4 t24 t25 t26))
 ((K22_3 m call t4))
theorem K22_6_eq (m : Nat) (call : CallF) (h5 : AV → AV → AV → AV → Kt) : compF c22_6 (C m) call (fun e => h5 (e 4) (e 24) (e 25) (e 26)) (exitF 0 (fun e => K22_3 m call (e 4)) (fun _ _ => noK)) (fun e => retV (C m) (resE e Tryz.f22.results.toList)) = (fun e => K22_6 m call h5 (e 4) (e 24) (e 25) (e 26) (e 27)) := by
  have u : compF c22_6 (C m) call (fun e => h5 (e 4) (e 24) (e 25) (e 26)) (exitF 0 (fun e => K22_3 m call (e 4)) (fun _ _ => noK)) (fun e => retV (C m) (resE e Tryz.f22.results.toList)) = (fun e => ifB (e 27) ((compF c22_7 (C m) call (fun e => h5 (e 4) (e 24) (e 25) (e 26)) (exitF 0 (fun e => K22_3 m call (e 4)) (fun _ _ => noK)) (fun e => retV (C m) (resE e Tryz.f22.results.toList))) e) ((fun e => K22_3 m call (e 4)) e)) := by kernel_rfl
  rw [u, K22_7_eq m call h5 ]
  show _ = _
  kernel_rfl
noncomputable def L22_5_b (m : Nat) (call : CallF) (h5 : AV → AV → AV → AV → Kt) (t4 t24 t25 t26 : AV) : Kt :=
 bnd (binO (C m) .lss 3 t26 t25) fun v0 =>
 K22_6 m call h5 t4 t24 t25 t26 v0
noncomputable def L22_5 (m : Nat) (call : CallF) (n : Nat) : AV → AV → AV → AV → Kt :=
 Nat.rec (motive := fun _ => AV → AV → AV → AV → Kt) (fun t4 t24 t25 t26 => noK) (fun _ ih => L22_5_b m call ih) n
theorem L22_5_b_eq (m : Nat) (call : CallF) (h5 : AV → AV → AV → AV → Kt) : compF c22_5 (C m) call (fun e => h5 (e 4) (e 24) (e 25) (e 26)) (exitF 0 (fun e => K22_3 m call (e 4)) (fun _ _ => noK)) (fun e => retV (C m) (resE e Tryz.f22.results.toList)) = fun e => L22_5_b m call h5 (e 4) (e 24) (e 25) (e 26) := by
  have u : compF c22_5 (C m) call (fun e => h5 (e 4) (e 24) (e 25) (e 26)) (exitF 0 (fun e => K22_3 m call (e 4)) (fun _ _ => noK)) (fun e => retV (C m) (resE e Tryz.f22.results.toList)) = (compF (pS1 c22_5) (C m) call (compF c22_6 (C m) call (fun e => h5 (e 4) (e 24) (e 25) (e 26)) (exitF 0 (fun e => K22_3 m call (e 4)) (fun _ _ => noK)) (fun e => retV (C m) (resE e Tryz.f22.results.toList))) (exitF 0 (fun e => K22_3 m call (e 4)) (fun _ _ => noK)) (fun e => retV (C m) (resE e Tryz.f22.results.toList))) := by kernel_rfl
  rw [u, K22_6_eq m call h5 ]
  show _ = _
  kernel_rfl
theorem L22_5_eq (m : Nat) (call : CallF) (n : Nat) : (loopF (fun k => compF c22_5 (C m) call k (exitF 0 (fun e => K22_3 m call (e 4)) (fun _ _ => noK)) (fun e => retV (C m) (resE e Tryz.f22.results.toList))) n) = (fun e => L22_5 m call n (e 4) (e 24) (e 25) (e 26)) := by
  induction n with
  | zero => rfl
  | succ n ih =>
    show compF c22_5 (C m) call (loopF (fun k => compF c22_5 (C m) call k (exitF 0 (fun e => K22_3 m call (e 4)) (fun _ _ => noK)) (fun e => retV (C m) (resE e Tryz.f22.results.toList))) n) (exitF 0 (fun e => K22_3 m call (e 4)) (fun _ _ => noK)) (fun e => retV (C m) (resE e Tryz.f22.results.toList)) = _
    rw [ih, L22_5_b_eq m call (L22_5 m call n)]
    rfl
theorem L22_5_succ (m : Nat) (call : CallF) (n : Nat) : L22_5 m call (n + 1) = L22_5_b m call (L22_5 m call n) := rfl
noncomputable def K22_4 (m : Nat) (call : CallF) (t4 t24 t25 t26 : AV) : Kt :=
 L22_5 m call m t4 t24 t25 t26
theorem K22_4_eq (m : Nat) (call : CallF) : compF c22_4 (C m) call (fun e => K22_3 m call (e 4)) (fun _ _ => noK) (fun e => retV (C m) (resE e Tryz.f22.results.toList)) = (fun e => K22_4 m call (e 4) (e 24) (e 25) (e 26)) := by
  have u : compF c22_4 (C m) call (fun e => K22_3 m call (e 4)) (fun _ _ => noK) (fun e => retV (C m) (resE e Tryz.f22.results.toList)) = (loopF (fun k => compF c22_5 (C m) call k (exitF 0 (fun e => K22_3 m call (e 4)) (fun _ _ => noK)) (fun e => retV (C m) (resE e Tryz.f22.results.toList))) m) := by kernel_rfl
  rw [u, L22_5_eq m call m]
  show _ = _
  kernel_rfl
noncomputable def K22_2 (m : Nat) (call : CallF) (t1 t4 : AV) : Kt :=
 bnd (fadO (C m) 94 t1 3) fun v0 =>
 bnd (ldO (C m) 92 v0) fun v1 =>
 bnd (bltO (C m) .len [92] [v1]) fun v2 =>
 K22_4 m call t4 v1 v2 (I 0)
theorem K22_2_eq (m : Nat) (call : CallF) : compF c22_2 (C m) call (fun e => retV (C m) (resE e Tryz.f22.results.toList)) (fun _ _ => noK) (fun e => retV (C m) (resE e Tryz.f22.results.toList)) = (fun e => K22_2 m call (e 1) (e 4)) := by
  have u : compF c22_2 (C m) call (fun e => retV (C m) (resE e Tryz.f22.results.toList)) (fun _ _ => noK) (fun e => retV (C m) (resE e Tryz.f22.results.toList)) = (compF (pS1 (pS1 c22_2)) (C m) call (compF c22_4 (C m) call (compF c22_3 (C m) call (fun e => retV (C m) (resE e Tryz.f22.results.toList)) (fun _ _ => noK) (fun e => retV (C m) (resE e Tryz.f22.results.toList))) (fun _ _ => noK) (fun e => retV (C m) (resE e Tryz.f22.results.toList))) (fun _ _ => noK) (fun e => retV (C m) (resE e Tryz.f22.results.toList))) := by kernel_rfl
  rw [u, K22_3_eq m call , K22_4_eq m call ]
  show _ = _
  kernel_rfl
noncomputable def K22_1 (m : Nat) (call : CallF) (t1 : AV) : Kt :=
 dIn fun sv0 =>
 dVal (fadO (C m) 94 t1 0) fun v1 =>
 dChk (ldO (C m) 3 v1) fun v2 =>
 dEff (calO (C m) call (fnV 45) [v2, (I 4)]) fun v3 sv3 =>
 dVal (fadO (C m) 94 t1 1) fun v4 =>
 dSam (some true) (ldO (C m) 3 v4) (fun v5 => (eqIn (ldO (C m) 3 v4) v5 sv3 && (eqIn (ldO (C m) 3 v4) v5 sv0 && true))) fun v6 =>
 dEff (calO (C m) call (fnV 45) [v6, (I 4)]) fun v7 sv7 =>
 dVal (fadO (C m) 94 t1 2) fun v8 =>
 dSam (some true) (ldO (C m) 3 v8) (fun v9 => (eqIn (ldO (C m) 3 v8) v9 sv7 && (eqIn (ldO (C m) 3 v8) v9 sv3 && (eqIn (ldO (C m) 3 v8) v9 sv0 && true)))) fun v10 =>
 dEff (calO (C m) call (fnV 45) [v10, (I 4)]) fun v11 sv11 =>
 dVal (binO (C m) .add 9 v3 v7) fun v12 =>
 dVal (binO (C m) .add 9 v12 v11) fun v13 =>
 K22_2 m call t1 v13
theorem K22_1_eq (m : Nat) (call : CallF) : compF c22_1 (C m) call (fun e => retV (C m) (resE e Tryz.f22.results.toList)) (fun _ _ => noK) (fun e => retV (C m) (resE e Tryz.f22.results.toList)) = (fun e => K22_1 m call (e 1)) := by
  have u : compF c22_1 (C m) call (fun e => retV (C m) (resE e Tryz.f22.results.toList)) (fun _ _ => noK) (fun e => retV (C m) (resE e Tryz.f22.results.toList)) = (compF (pS1 c22_1) (C m) call (compF c22_2 (C m) call (fun e => retV (C m) (resE e Tryz.f22.results.toList)) (fun _ _ => noK) (fun e => retV (C m) (resE e Tryz.f22.results.toList))) (fun _ _ => noK) (fun e => retV (C m) (resE e Tryz.f22.results.toList))) := by kernel_rfl
  rw [u, K22_2_eq m call ]
  show _ = _
  kernel_rfl
noncomputable def K22_0 (m : Nat) (call : CallF) (t0 : AV) : Kt :=
 bnd (boxO 94 t0) fun v0 =>
 K22_1 m call v0
theorem K22_0_eq (m : Nat) (call : CallF) : compF c22_0 (C m) call (fun e => retV (C m) (resE e Tryz.f22.results.toList)) (fun _ _ => noK) (fun e => retV (C m) (resE e Tryz.f22.results.toList)) = (fun e => K22_0 m call (e 0)) := by
  have u : compF c22_0 (C m) call (fun e => retV (C m) (resE e Tryz.f22.results.toList)) (fun _ _ => noK) (fun e => retV (C m) (resE e Tryz.f22.results.toList)) = (compF (pS1 c22_0) (C m) call (compF c22_1 (C m) call (fun e => retV (C m) (resE e Tryz.f22.results.toList)) (fun _ _ => noK) (fun e => retV (C m) (resE e Tryz.f22.results.toList))) (fun _ _ => noK) (fun e => retV (C m) (resE e Tryz.f22.results.toList))) := by kernel_rfl
  rw [u, K22_1_eq m call ]
  show _ = _
  kernel_rfl
theorem F22_eq (m : Nat) (call : CallF) (t0 : AV) : enterK (C m) call Tryz.f22 [t0] = K22_0 m call t0 := by
  have u : enterK (C m) call Tryz.f22 [t0] = (compF c22_0 (C m) call (fun e => retV (C m) (resE e Tryz.f22.results.toList)) (fun _ _ => noK) (fun e => retV (C m) (resE e Tryz.f22.results.toList))) (argF [t0]) := by kernel_rfl
  rw [u, K22_0_eq m call]
  rfl
/-! (*strings.Builder).Len -/
noncomputable def c42_0 : Code := (bodyOf Tryz.f42)
noncomputable def K42_0 (m : Nat) (call : CallF) (t0 : AV) : Kt :=
 bnd (nilO t0) fun v0 =>
 bnd (fadO (C m) 128 v0 1) fun v1 =>
 bnd (ldO (C m) 126 v1) fun v2 =>
 bnd (bltO (C m) .len [126] [v2]) fun v3 =>
 retV (C m) [(none, v3)]
theorem K42_0_eq (m : Nat) (call : CallF) : compF c42_0 (C m) call (fun e => retV (C m) (resE e Tryz.f42.results.toList)) (fun _ _ => noK) (fun e => retV (C m) (resE e Tryz.f42.results.toList)) = (fun e => K42_0 m call (e 0)) := by
  have u : compF c42_0 (C m) call (fun e => retV (C m) (resE e Tryz.f42.results.toList)) (fun _ _ => noK) (fun e => retV (C m) (resE e Tryz.f42.results.toList)) = (compF (pS1 c42_0) (C m) call (compF (pS1 (pS2 c42_0)) (C m) call (fun e => retV (C m) (resE e Tryz.f42.results.toList)) (fun _ _ => noK) (fun e => retV (C m) (resE e Tryz.f42.results.toList))) (fun _ _ => noK) (fun e => retV (C m) (resE e Tryz.f42.results.toList))) := by kernel_rfl
  rw [u]
  show _ = _
  kernel_rfl
theorem F42_eq (m : Nat) (call : CallF) (t0 : AV) : enterK (C m) call Tryz.f42 [t0] = K42_0 m call t0 := by
  have u : enterK (C m) call Tryz.f42 [t0] = (compF c42_0 (C m) call (fun e => retV (C m) (resE e Tryz.f42.results.toList)) (fun _ _ => noK) (fun e => retV (C m) (resE e Tryz.f42.results.toList))) (argF [t0]) := by kernel_rfl
  rw [u, K42_0_eq m call]
  rfl
/-! (*strings.Builder).String -/
noncomputable def c43_0 : Code := (bodyOf Tryz.f43)
noncomputable def K43_0 (m : Nat) (call : CallF) (t0 : AV) : Kt :=
 dIn fun sv0 =>
 dVal (nilO t0) fun v1 =>
 dVal (fadO (C m) 128 v1 1) fun v2 =>
 dChk (ldO (C m) 126 v2) fun v3 =>
 dChk (bltO (C m) .unsafeSliceData [126] [v3]) fun v4 =>
 dVal (nilO t0) fun v5 =>
 dVal (fadO (C m) 128 v5 1) fun v6 =>
 dChk (ldO (C m) 126 v6) fun v7 =>
 dChk (bltO (C m) .len [126] [v7]) fun v8 =>
 dEff (bltO (C m) .unsafeString [201, 3] [v4, v8]) fun v9 sv9 =>
 retV (C m) [(none, v9)]
theorem K43_0_eq (m : Nat) (call : CallF) : compF c43_0 (C m) call (fun e => retV (C m) (resE e Tryz.f43.results.toList)) (fun _ _ => noK) (fun e => retV (C m) (resE e Tryz.f43.results.toList)) = (fun e => K43_0 m call (e 0)) := by
  have u : compF c43_0 (C m) call (fun e => retV (C m) (resE e Tryz.f43.results.toList)) (fun _ _ => noK) (fun e => retV (C m) (resE e Tryz.f43.results.toList)) = (compF (pS1 c43_0) (C m) call (compF (pS1 (pS2 c43_0)) (C m) call (fun e => retV (C m) (resE e Tryz.f43.results.toList)) (fun _ _ => noK) (fun e => retV (C m) (resE e Tryz.f43.results.toList))) (fun _ _ => noK) (fun e => retV (C m) (resE e Tryz.f43.results.toList))) := by kernel_rfl
  rw [u]
  show _ = _
  kernel_rfl
theorem F43_eq (m : Nat) (call : CallF) (t0 : AV) : enterK (C m) call Tryz.f43 [t0] = K43_0 m call t0 := by
  have u : enterK (C m) call Tryz.f43 [t0] = (compF c43_0 (C m) call (fun e => retV (C m) (resE e Tryz.f43.results.toList)) (fun _ _ => noK) (fun e => retV (C m) (resE e Tryz.f43.results.toList))) (argF [t0]) := by kernel_rfl
  rw [u, K43_0_eq m call]
  rfl
/-! rillmeter/rillmeterref22.num -/
noncomputable def c45_0 : Code := (bodyOf Tryz.f45)
noncomputable def K45_0 (m : Nat) (call : CallF) (t0 t1 : AV) : Kt :=
 bnd (calO (C m) call (fnV 24) [t0, t1]) fun v0 =>
 bnd (extO v0 0) fun v1 =>
 bnd (extO v0 1) fun v2 =>
 retV (C m) [(none, v1)]
theorem K45_0_eq (m : Nat) (call : CallF) : compF c45_0 (C m) call (fun e => retV (C m) (resE e Tryz.f45.results.toList)) (fun _ _ => noK) (fun e => retV (C m) (resE e Tryz.f45.results.toList)) = (fun e => K45_0 m call (e 0) (e 1)) := by
  have u : compF c45_0 (C m) call (fun e => retV (C m) (resE e Tryz.f45.results.toList)) (fun _ _ => noK) (fun e => retV (C m) (resE e Tryz.f45.results.toList)) = (compF (pS1 c45_0) (C m) call (compF (pS1 (pS2 c45_0)) (C m) call (compF (pS1 (pS2 (pS2 c45_0))) (C m) call (fun e => retV (C m) (resE e Tryz.f45.results.toList)) (fun _ _ => noK) (fun e => retV (C m) (resE e Tryz.f45.results.toList))) (fun _ _ => noK) (fun e => retV (C m) (resE e Tryz.f45.results.toList))) (fun _ _ => noK) (fun e => retV (C m) (resE e Tryz.f45.results.toList))) := by kernel_rfl
  rw [u]
  show _ = _
  kernel_rfl
theorem F45_eq (m : Nat) (call : CallF) (t0 t1 : AV) : enterK (C m) call Tryz.f45 [t0, t1] = K45_0 m call t0 t1 := by
  have u : enterK (C m) call Tryz.f45 [t0, t1] = (compF c45_0 (C m) call (fun e => retV (C m) (resE e Tryz.f45.results.toList)) (fun _ _ => noK) (fun e => retV (C m) (resE e Tryz.f45.results.toList))) (argF [t0, t1]) := by kernel_rfl
  rw [u, K45_0_eq m call]
  rfl
/-! rillmeter/rillmeterref22.in -/
noncomputable def c46_0 : Code := (bodyOf Tryz.f46)
noncomputable def K46_0 (m : Nat) (call : CallF) (t0 t1 t2 : AV) : Kt :=
 bnd (binO (C m) .geq 3 t0 t1) fun v0 =>
 bnd (gdO (wantV v0 true) (fun _ => .val t0)) fun v1 =>
 bnd (gdO (wantV v0 true) (fun _ => .val t2)) fun v2 =>
 bnd (gdO (wantV v0 true) (binO (C m) .leq 3 v1 v2)) fun v3 =>
 bnd (pickO v0 v3 (B false)) fun v4 =>
 retV (C m) [(none, v4)]
theorem K46_0_eq (m : Nat) (call : CallF) : compF c46_0 (C m) call (fun e => retV (C m) (resE e Tryz.f46.results.toList)) (fun _ _ => noK) (fun e => retV (C m) (resE e Tryz.f46.results.toList)) = (fun e => K46_0 m call (e 0) (e 1) (e 2)) := by
  have u : compF c46_0 (C m) call (fun e => retV (C m) (resE e Tryz.f46.results.toList)) (fun _ _ => noK) (fun e => retV (C m) (resE e Tryz.f46.results.toList)) = (compF (pS1 c46_0) (C m) call (compF (pS1 (pS2 c46_0)) (C m) call (fun e => retV (C m) (resE e Tryz.f46.results.toList)) (fun _ _ => noK) (fun e => retV (C m) (resE e Tryz.f46.results.toList))) (fun _ _ => noK) (fun e => retV (C m) (resE e Tryz.f46.results.toList))) := by kernel_rfl
  rw [u]
  show _ = _
  kernel_rfl
theorem F46_eq (m : Nat) (call : CallF) (t0 t1 t2 : AV) : enterK (C m) call Tryz.f46 [t0, t1, t2] = K46_0 m call t0 t1 t2 := by
  have u : enterK (C m) call Tryz.f46 [t0, t1, t2] = (compF c46_0 (C m) call (fun e => retV (C m) (resE e Tryz.f46.results.toList)) (fun _ _ => noK) (fun e => retV (C m) (resE e Tryz.f46.results.toList))) (argF [t0, t1, t2]) := by kernel_rfl
  rw [u, K46_0_eq m call]
  rfl
/-! rillmeter/rillmeterref04.power -/
noncomputable def c48_0 : Code := (bodyOf Tryz.f48)
noncomputable def c48_1 : Code := (pS2 c48_0)
noncomputable def c48_2 : Code := (pS2 c48_1)
noncomputable def c48_3 : Code := (pS2 c48_2)
noncomputable def c48_4 : Code := (pS2 (pS1 c48_2))
noncomputable def c48_5 : Code := (pL (pB c48_4))
noncomputable def c48_6 : Code := (pS2 c48_5)
noncomputable def c48_7 : Code := (pS2 c48_6)
noncomputable def K48_3 (m : Nat) (call : CallF) (t3 : AV) : Kt :=
 retV (C m) [(none, t3)]
theorem K48_3_eq (m : Nat) (call : CallF) : compF c48_3 (C m) call (fun e => retV (C m) (resE e Tryz.f48.results.toList)) (fun _ _ => noK) (fun e => retV (C m) (resE e Tryz.f48.results.toList)) = (fun e => K48_3 m call (e 3)) := by
  have u : compF c48_3 (C m) call (fun e => retV (C m) (resE e Tryz.f48.results.toList)) (fun _ _ => noK) (fun e => retV (C m) (resE e Tryz.f48.results.toList)) = (compF (pS1 c48_3) (C m) call (fun e => retV (C m) (resE e Tryz.f48.results.toList)) (fun _ _ => noK) (fun e => retV (C m) (resE e Tryz.f48.results.toList))) := by kernel_rfl
  rw [u]
  show _ = _
  kernel_rfl
noncomputable def K48_7 (m : Nat) (call : CallF) (h5 : AV → AV → AV → Kt) (t0 t3 t4 : AV) : Kt :=
 bnd (binO (C m) .add 3 t4 (I 1)) fun v0 =>
 h5 t0 t3 v0
theorem K48_7_eq (m : Nat) (call : CallF) (h5 : AV → AV → AV → Kt) : compF c48_7 (C m) call (fun e => h5 (e 0) (e 3) (e 4)) (exitF 0 (fun e => K48_3 m call (e 3)) (fun _ _ => noK)) (fun e => retV (C m) (resE e Tryz.f48.results.toList)) = (fun e => K48_7 m call h5 (e 0) (e 3) (e 4)) := by
  have u : compF c48_7 (C m) call (fun e => h5 (e 0) (e 3) (e 4)) (exitF 0 (fun e => K48_3 m call (e 3)) (fun _ _ => noK)) (fun e => retV (C m) (resE e Tryz.f48.results.toList)) = (compF c48_7 (C m) call (fun e => h5 (e 0) (e 3) (e 4)) (exitF 0 (fun e => K48_3 m call (e 3)) (fun _ _ => noK)) (fun e => retV (C m) (resE e Tryz.f48.results.toList))) := by kernel_rfl
  rw [u]
  show _ = _
  kernel_rfl
noncomputable def K48_6 (m : Nat) (call : CallF) (h5 : AV → AV → AV → Kt) (t0 t3 t4 : AV) : Kt :=
 bnd (binO (C m) .mul 3 t3 (I 256)) fun v0 =>
 K48_7 m call h5 t0 v0 t4
theorem K48_6_eq (m : Nat) (call : CallF) (h5 : AV → AV → AV → Kt) : compF c48_6 (C m) call (fun e => h5 (e 0) (e 3) (e 4)) (exitF 0 (fun e => K48_3 m call (e 3)) (fun _ _ => noK)) (fun e => retV (C m) (resE e Tryz.f48.results.toList)) = (fun e => K48_6 m call h5 (e 0) (e 3) (e 4)) := by
  have u : compF c48_6 (C m) call (fun e => h5 (e 0) (e 3) (e 4)) (exitF 0 (fun e => K48_3 m call (e 3)) (fun _ _ => noK)) (fun e => retV (C m) (resE e Tryz.f48.results.toList)) = (compF (pB (pS1 c48_6)) (C m) call (compF c48_7 (C m) call (fun e => h5 (e 0) (e 3) (e 4)) (exitF 0 (fun e => K48_3 m call (e 3)) (fun _ _ => noK)) (fun e => retV (C m) (resE e Tryz.f48.results.toList))) (exitF 1 (compF c48_7 (C m) call (fun e => h5 (e 0) (e 3) (e 4)) (exitF 0 (fun e => K48_3 m call (e 3)) (fun _ _ => noK)) (fun e => retV (C m) (resE e Tryz.f48.results.toList))) (exitF 0 (fun e => K48_3 m call (e 3)) (fun _ _ => noK))) (fun e => retV (C m) (resE e Tryz.f48.results.toList))) := by kernel_rfl
  rw [u, K48_7_eq m call h5 ]
  show _ = _
  kernel_rfl
noncomputable def L48_5_b (m : Nat) (call : CallF) (h5 : AV → AV → AV → Kt) (t0 t3 t4 : AV) : Kt :=
 bnd (binO (C m) .lss 3 t4 t0) fun v0 =>
 ifB v0
 ((K48_6 m call h5 t0 t3 t4))
 ((K48_3 m call t3))
noncomputable def L48_5 (m : Nat) (call : CallF) (n : Nat) : AV → AV → AV → Kt :=
 Nat.rec (motive := fun _ => AV → AV → AV → Kt) (fun t0 t3 t4 => noK) (fun _ ih => L48_5_b m call ih) n
theorem L48_5_b_eq (m : Nat) (call : CallF) (h5 : AV → AV → AV → Kt) : compF c48_5 (C m) call (fun e => h5 (e 0) (e 3) (e 4)) (exitF 0 (fun e => K48_3 m call (e 3)) (fun _ _ => noK)) (fun e => retV (C m) (resE e Tryz.f48.results.toList)) = fun e => L48_5_b m call h5 (e 0) (e 3) (e 4) := by
  have u : compF c48_5 (C m) call (fun e => h5 (e 0) (e 3) (e 4)) (exitF 0 (fun e => K48_3 m call (e 3)) (fun _ _ => noK)) (fun e => retV (C m) (resE e Tryz.f48.results.toList)) = (compF (pS1 (pS1 c48_5)) (C m) call (fun e => ifB (e 7) ((compF c48_6 (C m) call (fun e => h5 (e 0) (e 3) (e 4)) (exitF 0 (fun e => K48_3 m call (e 3)) (fun _ _ => noK)) (fun e => retV (C m) (resE e Tryz.f48.results.toList))) e) ((fun e => K48_3 m call (e 3)) e)) (exitF 0 (fun e => K48_3 m call (e 3)) (fun _ _ => noK)) (fun e => retV (C m) (resE e Tryz.f48.results.toList))) := by kernel_rfl
  rw [u, K48_6_eq m call h5 ]
  show _ = _
  kernel_rfl
theorem L48_5_eq (m : Nat) (call : CallF) (n : Nat) : (loopF (fun k => compF c48_5 (C m) call k (exitF 0 (fun e => K48_3 m call (e 3)) (fun _ _ => noK)) (fun e => retV (C m) (resE e Tryz.f48.results.toList))) n) = (fun e => L48_5 m call n (e 0) (e 3) (e 4)) := by
  induction n with
  | zero => rfl
  | succ n ih =>
    show compF c48_5 (C m) call (loopF (fun k => compF c48_5 (C m) call k (exitF 0 (fun e => K48_3 m call (e 3)) (fun _ _ => noK)) (fun e => retV (C m) (resE e Tryz.f48.results.toList))) n) (exitF 0 (fun e => K48_3 m call (e 3)) (fun _ _ => noK)) (fun e => retV (C m) (resE e Tryz.f48.results.toList)) = _
    rw [ih, L48_5_b_eq m call (L48_5 m call n)]
    rfl
theorem L48_5_succ (m : Nat) (call : CallF) (n : Nat) : L48_5 m call (n + 1) = L48_5_b m call (L48_5 m call n) := rfl
noncomputable def K48_4 (m : Nat) (call : CallF) (t0 t3 t4 : AV) : Kt :=
 L48_5 m call m t0 t3 t4
theorem K48_4_eq (m : Nat) (call : CallF) : compF c48_4 (C m) call (fun e => K48_3 m call (e 3)) (fun _ _ => noK) (fun e => retV (C m) (resE e Tryz.f48.results.toList)) = (fun e => K48_4 m call (e 0) (e 3) (e 4)) := by
  have u : compF c48_4 (C m) call (fun e => K48_3 m call (e 3)) (fun _ _ => noK) (fun e => retV (C m) (resE e Tryz.f48.results.toList)) = (loopF (fun k => compF c48_5 (C m) call k (exitF 0 (fun e => K48_3 m call (e 3)) (fun _ _ => noK)) (fun e => retV (C m) (resE e Tryz.f48.results.toList))) m) := by kernel_rfl
  rw [u, L48_5_eq m call m]
  show _ = _
  kernel_rfl
noncomputable def K48_2 (m : Nat) (call : CallF) (t0 t3 : AV) : Kt :=
 K48_4 m call t0 t3 (I 0)
theorem K48_2_eq (m : Nat) (call : CallF) : compF c48_2 (C m) call (fun e => retV (C m) (resE e Tryz.f48.results.toList)) (fun _ _ => noK) (fun e => retV (C m) (resE e Tryz.f48.results.toList)) = (fun e => K48_2 m call (e 0) (e 3)) := by
  have u : compF c48_2 (C m) call (fun e => retV (C m) (resE e Tryz.f48.results.toList)) (fun _ _ => noK) (fun e => retV (C m) (resE e Tryz.f48.results.toList)) = (compF (pS1 (pS1 c48_2)) (C m) call (compF c48_4 (C m) call (compF c48_3 (C m) call (fun e => retV (C m) (resE e Tryz.f48.results.toList)) (fun _ _ => noK) (fun e => retV (C m) (resE e Tryz.f48.results.toList))) (fun _ _ => noK) (fun e => retV (C m) (resE e Tryz.f48.results.toList))) (fun _ _ => noK) (fun e => retV (C m) (resE e Tryz.f48.results.toList))) := by kernel_rfl
  rw [u, K48_3_eq m call , K48_4_eq m call ]
  show _ = _
  kernel_rfl
noncomputable def K48_1 (m : Nat) (call : CallF) (t0 : AV) : Kt :=
 K48_2 m call t0 (I 1)
theorem K48_1_eq (m : Nat) (call : CallF) : compF c48_1 (C m) call (fun e => retV (C m) (resE e Tryz.f48.results.toList)) (fun _ _ => noK) (fun e => retV (C m) (resE e Tryz.f48.results.toList)) = (fun e => K48_1 m call (e 0)) := by
  have u : compF c48_1 (C m) call (fun e => retV (C m) (resE e Tryz.f48.results.toList)) (fun _ _ => noK) (fun e => retV (C m) (resE e Tryz.f48.results.toList)) = (compF (pS1 c48_1) (C m) call (compF c48_2 (C m) call (fun e => retV (C m) (resE e Tryz.f48.results.toList)) (fun _ _ => noK) (fun e => retV (C m) (resE e Tryz.f48.results.toList))) (fun _ _ => noK) (fun e => retV (C m) (resE e Tryz.f48.results.toList))) := by kernel_rfl
  rw [u, K48_2_eq m call ]
  show _ = _
  kernel_rfl
noncomputable def K48_0 (m : Nat) (call : CallF) (t0 : AV) : Kt :=
 K48_1 m call t0
theorem K48_0_eq (m : Nat) (call : CallF) : compF c48_0 (C m) call (fun e => retV (C m) (resE e Tryz.f48.results.toList)) (fun _ _ => noK) (fun e => retV (C m) (resE e Tryz.f48.results.toList)) = (fun e => K48_0 m call (e 0)) := by
  have u : compF c48_0 (C m) call (fun e => retV (C m) (resE e Tryz.f48.results.toList)) (fun _ _ => noK) (fun e => retV (C m) (resE e Tryz.f48.results.toList)) = (compF (pS1 c48_0) (C m) call (compF c48_1 (C m) call (fun e => retV (C m) (resE e Tryz.f48.results.toList)) (fun _ _ => noK) (fun e => retV (C m) (resE e Tryz.f48.results.toList))) (fun _ _ => noK) (fun e => retV (C m) (resE e Tryz.f48.results.toList))) := by kernel_rfl
  rw [u, K48_1_eq m call ]
  show _ = _
  kernel_rfl
theorem F48_eq (m : Nat) (call : CallF) (t0 : AV) : enterK (C m) call Tryz.f48 [t0] = K48_0 m call t0 := by
  have u : enterK (C m) call Tryz.f48 [t0] = (compF c48_0 (C m) call (fun e => retV (C m) (resE e Tryz.f48.results.toList)) (fun _ _ => noK) (fun e => retV (C m) (resE e Tryz.f48.results.toList))) (argF [t0]) := by kernel_rfl
  rw [u, K48_0_eq m call]
  rfl
/-! rillmeter/ipfix.within -/
noncomputable def c68_0 : Code := (bodyOf Tryz.f68)
noncomputable def K68_0 (m : Nat) (call : CallF) (t0 t1 t2 : AV) : Kt :=
 bnd (binO (C m) .geq 3 t0 t1) fun v0 =>
 bnd (gdO (wantV v0 true) (fun _ => .val t0)) fun v1 =>
 bnd (gdO (wantV v0 true) (fun _ => .val t2)) fun v2 =>
 bnd (gdO (wantV v0 true) (binO (C m) .lss 3 v1 v2)) fun v3 =>
 bnd (pickO v0 v3 (B false)) fun v4 =>
 retV (C m) [(none, v4)]
theorem K68_0_eq (m : Nat) (call : CallF) : compF c68_0 (C m) call (fun e => retV (C m) (resE e Tryz.f68.results.toList)) (fun _ _ => noK) (fun e => retV (C m) (resE e Tryz.f68.results.toList)) = (fun e => K68_0 m call (e 0) (e 1) (e 2)) := by
  have u : compF c68_0 (C m) call (fun e => retV (C m) (resE e Tryz.f68.results.toList)) (fun _ _ => noK) (fun e => retV (C m) (resE e Tryz.f68.results.toList)) = (compF (pS1 c68_0) (C m) call (compF (pS1 (pS2 c68_0)) (C m) call (fun e => retV (C m) (resE e Tryz.f68.results.toList)) (fun _ _ => noK) (fun e => retV (C m) (resE e Tryz.f68.results.toList))) (fun _ _ => noK) (fun e => retV (C m) (resE e Tryz.f68.results.toList))) := by kernel_rfl
  rw [u]
  show _ = _
  kernel_rfl
theorem F68_eq (m : Nat) (call : CallF) (t0 t1 t2 : AV) : enterK (C m) call Tryz.f68 [t0, t1, t2] = K68_0 m call t0 t1 t2 := by
  have u : enterK (C m) call Tryz.f68 [t0, t1, t2] = (compF c68_0 (C m) call (fun e => retV (C m) (resE e Tryz.f68.results.toList)) (fun _ _ => noK) (fun e => retV (C m) (resE e Tryz.f68.results.toList))) (argF [t0, t1, t2]) := by kernel_rfl
  rw [u, K68_0_eq m call]
  rfl
/-! slices.ContainsFunc[[]rillmeter/ipfix.Set,rillmeter/ipfix.Set] -/
noncomputable def c69_0 : Code := (bodyOf Tryz.f69)
noncomputable def K69_0 (m : Nat) (call : CallF) (t0 t1 : AV) : Kt :=
 bnd (calO (C m) call (fnV 91) [t0, t1]) fun v0 =>
 bnd (binO (C m) .geq 3 v0 (I 0)) fun v1 =>
 retV (C m) [(none, v1)]
theorem K69_0_eq (m : Nat) (call : CallF) : compF c69_0 (C m) call (fun e => retV (C m) (resE e Tryz.f69.results.toList)) (fun _ _ => noK) (fun e => retV (C m) (resE e Tryz.f69.results.toList)) = (fun e => K69_0 m call (e 0) (e 1)) := by
  have u : compF c69_0 (C m) call (fun e => retV (C m) (resE e Tryz.f69.results.toList)) (fun _ _ => noK) (fun e => retV (C m) (resE e Tryz.f69.results.toList)) = (compF (pS1 c69_0) (C m) call (compF (pS1 (pS2 c69_0)) (C m) call (fun e => retV (C m) (resE e Tryz.f69.results.toList)) (fun _ _ => noK) (fun e => retV (C m) (resE e Tryz.f69.results.toList))) (fun _ _ => noK) (fun e => retV (C m) (resE e Tryz.f69.results.toList))) := by kernel_rfl
  rw [u]
  show _ = _
  kernel_rfl
theorem F69_eq (m : Nat) (call : CallF) (t0 t1 : AV) : enterK (C m) call Tryz.f69 [t0, t1] = K69_0 m call t0 t1 := by
  have u : enterK (C m) call Tryz.f69 [t0, t1] = (compF c69_0 (C m) call (fun e => retV (C m) (resE e Tryz.f69.results.toList)) (fun _ _ => noK) (fun e => retV (C m) (resE e Tryz.f69.results.toList))) (argF [t0, t1]) := by kernel_rfl
  rw [u, K69_0_eq m call]
  rfl
/-! rillmeter/ipfix.Right$1 -/
noncomputable def c70_0 : Code := (bodyOf Tryz.f70)
noncomputable def K70_0 (m : Nat) (call : CallF) (t0 : AV) : Kt :=
 bnd (boxO 83 t0) fun v0 =>
 bnd (ldO (C m) 83 v0) fun v1 =>
 bnd (calO (C m) call (fnV 71) [v1]) fun v2 =>
 bnd (unO .not v2) fun v3 =>
 retV (C m) [(none, v3)]
theorem K70_0_eq (m : Nat) (call : CallF) : compF c70_0 (C m) call (fun e => retV (C m) (resE e Tryz.f70.results.toList)) (fun _ _ => noK) (fun e => retV (C m) (resE e Tryz.f70.results.toList)) = (fun e => K70_0 m call (e 0)) := by
  have u : compF c70_0 (C m) call (fun e => retV (C m) (resE e Tryz.f70.results.toList)) (fun _ _ => noK) (fun e => retV (C m) (resE e Tryz.f70.results.toList)) = (compF (pS1 c70_0) (C m) call (compF (pS1 (pS2 c70_0)) (C m) call (fun e => retV (C m) (resE e Tryz.f70.results.toList)) (fun _ _ => noK) (fun e => retV (C m) (resE e Tryz.f70.results.toList))) (fun _ _ => noK) (fun e => retV (C m) (resE e Tryz.f70.results.toList))) := by kernel_rfl
  rw [u]
  show _ = _
  kernel_rfl
theorem F70_eq (m : Nat) (call : CallF) (t0 : AV) : enterK (C m) call Tryz.f70 [t0] = K70_0 m call t0 := by
  have u : enterK (C m) call Tryz.f70 [t0] = (compF c70_0 (C m) call (fun e => retV (C m) (resE e Tryz.f70.results.toList)) (fun _ _ => noK) (fun e => retV (C m) (resE e Tryz.f70.results.toList))) (argF [t0]) := by kernel_rfl
  rw [u, K70_0_eq m call]
  rfl
/-! (rillmeter/ipfix.Set).right -/
noncomputable def c71_0 : Code := (bodyOf Tryz.f71)
noncomputable def K71_0 (m : Nat) (call : CallF) (t0 : AV) : Kt :=
 bnd (boxO 83 t0) fun v0 =>
 bnd (fadO (C m) 83 v0 0) fun v1 =>
 bnd (ldO (C m) 3 v1) fun v2 =>
 bnd (binO (C m) .eql 3 v2 (I 2)) fun v3 =>
 ifB v3
 ((bnd (fadO (C m) 83 v0 2) fun v4 =>
 bnd (ldO (C m) 9 v4) fun v5 =>
 bnd (binO (C m) .eql 9 v5 (S [])) fun v6 =>
 bnd (gdO (wantV v6 true) (fadO (C m) 83 v0 1)) fun v7 =>
 bnd (gdO (wantV v6 true) (ldO (C m) 81 v7)) fun v8 =>
 bnd (gdO (wantV v6 true) (bltO (C m) .len [81] [v8])) fun v9 =>
 bnd (gdO (wantV v6 true) (binO (C m) .gtr 3 v9 (I 0))) fun v10 =>
 bnd (pickO v6 v10 (B false)) fun v11 =>
 bnd (gdO (wantV v11 true) (fadO (C m) 83 v0 1)) fun v12 =>
 bnd (gdO (wantV v11 true) (ldO (C m) 81 v12)) fun v13 =>
 bnd (gdO (wantV v11 true) (calO (C m) call (fnV 92) [v13, (fnV 93)])) fun v14 =>
 bnd (gdO (wantV v11 true) (unO .not v14)) fun v15 =>
 bnd (pickO v11 v15 (B false)) fun v16 =>
 retV (C m) [(none, v16)]))
 ((bnd (fadO (C m) 83 v0 0) fun v17 =>
 bnd (ldO (C m) 3 v17) fun v18 =>
 bnd (calO (C m) call (fnV 68) [v18, (I 256), (I 65536)]) fun v19 =>
 bnd (gdO (wantV v19 true) (fadO (C m) 83 v0 1)) fun v20 =>
 bnd (gdO (wantV v19 true) (ldO (C m) 81 v20)) fun v21 =>
 bnd (gdO (wantV v19 true) (bltO (C m) .len [81] [v21])) fun v22 =>
 bnd (gdO (wantV v19 true) (binO (C m) .eql 3 v22 (I 0))) fun v23 =>
 bnd (pickO v19 v23 (B false)) fun v24 =>
 retV (C m) [(none, v24)]))
theorem K71_0_eq (m : Nat) (call : CallF) : compF c71_0 (C m) call (fun e => retV (C m) (resE e Tryz.f71.results.toList)) (fun _ _ => noK) (fun e => retV (C m) (resE e Tryz.f71.results.toList)) = (fun e => K71_0 m call (e 0)) := by
  have u : compF c71_0 (C m) call (fun e => retV (C m) (resE e Tryz.f71.results.toList)) (fun _ _ => noK) (fun e => retV (C m) (resE e Tryz.f71.results.toList)) = (compF (pS1 c71_0) (C m) call (compF (pS1 (pS1 (pS2 c71_0))) (C m) call (fun e => ifB (e 5) ((compF (pS1 (pC1 (pS2 (pS1 (pS2 c71_0))))) (C m) call (fun e => retV (C m) (resE e Tryz.f71.results.toList)) (fun _ _ => noK) (fun e => retV (C m) (resE e Tryz.f71.results.toList))) e) ((compF (pS1 (pS2 (pS2 c71_0))) (C m) call (fun e => retV (C m) (resE e Tryz.f71.results.toList)) (fun _ _ => noK) (fun e => retV (C m) (resE e Tryz.f71.results.toList))) e)) (fun _ _ => noK) (fun e => retV (C m) (resE e Tryz.f71.results.toList))) (fun _ _ => noK) (fun e => retV (C m) (resE e Tryz.f71.results.toList))) := by kernel_rfl
  rw [u]
  show _ = _
  kernel_rfl
theorem F71_eq (m : Nat) (call : CallF) (t0 : AV) : enterK (C m) call Tryz.f71 [t0] = K71_0 m call t0 := by
  have u : enterK (C m) call Tryz.f71 [t0] = (compF c71_0 (C m) call (fun e => retV (C m) (resE e Tryz.f71.results.toList)) (fun _ _ => noK) (fun e => retV (C m) (resE e Tryz.f71.results.toList))) (argF [t0]) := by kernel_rfl
  rw [u, K71_0_eq m call]
  rfl
/-! (*strings.Builder).copyCheck -/
noncomputable def c72_0 : Code := (bodyOf Tryz.f72)
noncomputable def K72_0 (m : Nat) (call : CallF) (t0 : AV) : Kt :=
 bnd (nilO t0) fun v0 =>
 bnd (fadO (C m) 128 v0 0) fun v1 =>
 bnd (ldO (C m) 125 v1) fun v2 =>
 bnd (binO (C m) .eql 125 v2 NP) fun v3 =>
 ifB v3
 ((bnd (cvO (C m) 125 230 t0) fun v4 =>
 bnd (calO (C m) call (fnV 94) [v4]) fun v5 =>
 bnd (cvO (C m) 230 125 v5) fun v6 =>
 bnd (nilO t0) fun v7 =>
 bnd (fadO (C m) 128 v7 0) fun v8 =>
 bnd (stO (C m) 125 v8 v6) fun _ =>
 retV (C m) []))
 ((bnd (nilO t0) fun v9 =>
 bnd (fadO (C m) 128 v9 0) fun v10 =>
 bnd (ldO (C m) 125 v10) fun v11 =>
 bnd (binO (C m) .neq 125 v11 t0) fun v12 =>
 ifB v12
 ((noK))
 ((retV (C m) []))))
theorem K72_0_eq (m : Nat) (call : CallF) : compF c72_0 (C m) call (fun e => retV (C m) (resE e Tryz.f72.results.toList)) (fun _ _ => noK) (fun e => retV (C m) (resE e Tryz.f72.results.toList)) = (fun e => K72_0 m call (e 0)) := by
  have u : compF c72_0 (C m) call (fun e => retV (C m) (resE e Tryz.f72.results.toList)) (fun _ _ => noK) (fun e => retV (C m) (resE e Tryz.f72.results.toList)) = (compF (pS1 c72_0) (C m) call (fun e => ifB (e 6) ((compF (pC1 (pS2 c72_0)) (C m) call (fun e => retV (C m) (resE e Tryz.f72.results.toList)) (fun _ _ => noK) (fun e => retV (C m) (resE e Tryz.f72.results.toList))) e) ((compF (pS1 (pC2 (pS2 c72_0))) (C m) call (fun e => ifB (e 19) ((compF (pC1 (pS2 (pC2 (pS2 c72_0)))) (C m) call (fun e => retV (C m) (resE e Tryz.f72.results.toList)) (fun _ _ => noK) (fun e => retV (C m) (resE e Tryz.f72.results.toList))) e) ((fun e => retV (C m) (resE e Tryz.f72.results.toList)) e)) (fun _ _ => noK) (fun e => retV (C m) (resE e Tryz.f72.results.toList))) e)) (fun _ _ => noK) (fun e => retV (C m) (resE e Tryz.f72.results.toList))) := by kernel_rfl
  rw [u]
  show _ = _
  kernel_rfl
theorem F72_eq (m : Nat) (call : CallF) (t0 : AV) : enterK (C m) call Tryz.f72 [t0] = K72_0 m call t0 := by
  have u : enterK (C m) call Tryz.f72 [t0] = (compF c72_0 (C m) call (fun e => retV (C m) (resE e Tryz.f72.results.toList)) (fun _ _ => noK) (fun e => retV (C m) (resE e Tryz.f72.results.toList))) (argF [t0]) := by kernel_rfl
  rw [u, K72_0_eq m call]
  rfl
/-! slices.IndexFunc[[]rillmeter/ipfix.Set,rillmeter/ipfix.Set] -/
noncomputable def c91_0 : Code := (bodyOf Tryz.f91)
noncomputable def c91_1 : Code := (pS2 c91_0)
noncomputable def c91_2 : Code := (pS2 c91_1)
noncomputable def c91_3 : Code := (pS2 (pS1 c91_1))
noncomputable def c91_4 : Code := (pL (pB c91_3))
noncomputable def c91_5 : Code := (pS2 c91_4)
noncomputable def c91_6 : Code := (pS2 c91_5)
noncomputable def c91_7 : Code := (pS2 c91_6)
noncomputable def K91_2 (m : Nat) (call : CallF) : Kt :=
 retV (C m) [(none, (I (-1)))]
theorem K91_2_eq (m : Nat) (call : CallF) : compF c91_2 (C m) call (fun e => retV (C m) (resE e Tryz.f91.results.toList)) (fun _ _ => noK) (fun e => retV (C m) (resE e Tryz.f91.results.toList)) = (fun e => K91_2 m call ) := by
  have u : compF c91_2 (C m) call (fun e => retV (C m) (resE e Tryz.f91.results.toList)) (fun _ _ => noK) (fun e => retV (C m) (resE e Tryz.f91.results.toList)) = (compF (pS1 c91_2) (C m) call (fun e => retV (C m) (resE e Tryz.f91.results.toList)) (fun _ _ => noK) (fun e => retV (C m) (resE e Tryz.f91.results.toList))) := by kernel_rfl
  rw [u]
  show _ = _
  kernel_rfl
noncomputable def K91_7 (m : Nat) (call : CallF) (h4 : AV → AV → AV → AV → Kt) (t0 t1 t7 t8 : AV) : Kt :=
 bnd (binO (C m) .add 3 t8 (I 1)) fun v0 =>
 h4 t0 t1 t7 v0
theorem K91_7_eq (m : Nat) (call : CallF) (h4 : AV → AV → AV → AV → Kt) : compF c91_7 (C m) call (fun e => h4 (e 0) (e 1) (e 7) (e 8)) (exitF 0 (fun e => K91_2 m call ) (fun _ _ => noK)) (fun e => retV (C m) (resE e Tryz.f91.results.toList)) = (fun e => K91_7 m call h4 (e 0) (e 1) (e 7) (e 8)) := by
  have u : compF c91_7 (C m) call (fun e => h4 (e 0) (e 1) (e 7) (e 8)) (exitF 0 (fun e => K91_2 m call ) (fun _ _ => noK)) (fun e => retV (C m) (resE e Tryz.f91.results.toList)) = (compF c91_7 (C m) call (fun e => h4 (e 0) (e 1) (e 7) (e 8)) (exitF 0 (fun e => K91_2 m call ) (fun _ _ => noK)) (fun e => retV (C m) (resE e Tryz.f91.results.toList))) := by kernel_rfl
  rw [u]
  show _ = _
  kernel_rfl
noncomputable def K91_6 (m : Nat) (call : CallF) (h4 : AV → AV → AV → AV → Kt) (t0 t1 t7 t8 : AV) : Kt :=
 bnd (iadO (C m) 84 t0 t8) fun v0 =>
 bnd (ldO (C m) 83 v0) fun v1 =>
 bnd (calO (C m) call t1 [v1]) fun v2 =>
 ifB v2
 ((retV (C m) [(none, t8)]))
 ((K91_7 m call h4 t0 t1 t7 t8))
theorem K91_6_eq (m : Nat) (call : CallF) (h4 : AV → AV → AV → AV → Kt) : compF c91_6 (C m) call (fun e => h4 (e 0) (e 1) (e 7) (e 8)) (exitF 0 (fun e => K91_2 m call ) (fun _ _ => noK)) (fun e => retV (C m) (resE e Tryz.f91.results.toList)) = (fun e => K91_6 m call h4 (e 0) (e 1) (e 7) (e 8)) := by
  have u : compF c91_6 (C m) call (fun e => h4 (e 0) (e 1) (e 7) (e 8)) (exitF 0 (fun e => K91_2 m call ) (fun _ _ => noK)) (fun e => retV (C m) (resE e Tryz.f91.results.toList)) = (compF (pS1 (pB (pS1 c91_6))) (C m) call (compF (pS1 (pS2 (pB (pS1 c91_6)))) (C m) call (fun e => ifB (e 16) ((compF (pS1 (pC1 (pS2 (pS2 (pB (pS1 c91_6)))))) (C m) call (fun e => retV (C m) (resE e Tryz.f91.results.toList)) (exitF 1 (compF c91_7 (C m) call (fun e => h4 (e 0) (e 1) (e 7) (e 8)) (exitF 0 (fun e => K91_2 m call ) (fun _ _ => noK)) (fun e => retV (C m) (resE e Tryz.f91.results.toList))) (exitF 0 (fun e => K91_2 m call ) (fun _ _ => noK))) (fun e => retV (C m) (resE e Tryz.f91.results.toList))) e) ((compF c91_7 (C m) call (fun e => h4 (e 0) (e 1) (e 7) (e 8)) (exitF 0 (fun e => K91_2 m call ) (fun _ _ => noK)) (fun e => retV (C m) (resE e Tryz.f91.results.toList))) e)) (exitF 1 (compF c91_7 (C m) call (fun e => h4 (e 0) (e 1) (e 7) (e 8)) (exitF 0 (fun e => K91_2 m call ) (fun _ _ => noK)) (fun e => retV (C m) (resE e Tryz.f91.results.toList))) (exitF 0 (fun e => K91_2 m call ) (fun _ _ => noK))) (fun e => retV (C m) (resE e Tryz.f91.results.toList))) (exitF 1 (compF c91_7 (C m) call (fun e => h4 (e 0) (e 1) (e 7) (e 8)) (exitF 0 (fun e => K91_2 m call ) (fun _ _ => noK)) (fun e => retV (C m) (resE e Tryz.f91.results.toList))) (exitF 0 (fun e => K91_2 m call ) (fun _ _ => noK))) (fun e => retV (C m) (resE e Tryz.f91.results.toList))) := by kernel_rfl
  rw [u, K91_7_eq m call h4 ]
  show _ = _
  kernel_rfl
noncomputable def K91_5 (m : Nat) (call : CallF) (h4 : AV → AV → AV → AV → Kt) (t0 t1 t7 t8 t9 : AV) : Kt :=
 ifB t9
 ((K91_6 m call h4 t0 t1 t7 t8))
 ((K91_2 m call ))
theorem K91_5_eq (m : Nat) (call : CallF) (h4 : AV → AV → AV → AV → Kt) : compF c91_5 (C m) call (fun e => h4 (e 0) (e 1) (e 7) (e 8)) (exitF 0 (fun e => K91_2 m call ) (fun _ _ => noK)) (fun e => retV (C m) (resE e Tryz.f91.results.toList)) = (fun e => K91_5 m call h4 (e 0) (e 1) (e 7) (e 8) (e 9)) := by
  have u : compF c91_5 (C m) call (fun e => h4 (e 0) (e 1) (e 7) (e 8)) (exitF 0 (fun e => K91_2 m call ) (fun _ _ => noK)) (fun e => retV (C m) (resE e Tryz.f91.results.toList)) = (fun e => ifB (e 9) ((compF c91_6 (C m) call (fun e => h4 (e 0) (e 1) (e 7) (e 8)) (exitF 0 (fun e => K91_2 m call ) (fun _ _ => noK)) (fun e => retV (C m) (resE e Tryz.f91.results.toList))) e) ((fun e => K91_2 m call ) e)) := by kernel_rfl
  rw [u, K91_6_eq m call h4 ]
  show _ = _
  kernel_rfl
noncomputable def L91_4_b (m : Nat) (call : CallF) (h4 : AV → AV → AV → AV → Kt) (t0 t1 t7 t8 : AV) : Kt :=
 bnd (binO (C m) .lss 3 t8 t7) fun v0 =>
 K91_5 m call h4 t0 t1 t7 t8 v0
noncomputable def L91_4 (m : Nat) (call : CallF) (n : Nat) : AV → AV → AV → AV → Kt :=
 Nat.rec (motive := fun _ => AV → AV → AV → AV → Kt) (fun t0 t1 t7 t8 => noK) (fun _ ih => L91_4_b m call ih) n
theorem L91_4_b_eq (m : Nat) (call : CallF) (h4 : AV → AV → AV → AV → Kt) : compF c91_4 (C m) call (fun e => h4 (e 0) (e 1) (e 7) (e 8)) (exitF 0 (fun e => K91_2 m call ) (fun _ _ => noK)) (fun e => retV (C m) (resE e Tryz.f91.results.toList)) = fun e => L91_4_b m call h4 (e 0) (e 1) (e 7) (e 8) := by
  have u : compF c91_4 (C m) call (fun e => h4 (e 0) (e 1) (e 7) (e 8)) (exitF 0 (fun e => K91_2 m call ) (fun _ _ => noK)) (fun e => retV (C m) (resE e Tryz.f91.results.toList)) = (compF (pS1 c91_4) (C m) call (compF c91_5 (C m) call (fun e => h4 (e 0) (e 1) (e 7) (e 8)) (exitF 0 (fun e => K91_2 m call ) (fun _ _ => noK)) (fun e => retV (C m) (resE e Tryz.f91.results.toList))) (exitF 0 (fun e => K91_2 m call ) (fun _ _ => noK)) (fun e => retV (C m) (resE e Tryz.f91.results.toList))) := by kernel_rfl
  rw [u, K91_5_eq m call h4 ]
  show _ = _
  kernel_rfl
theorem L91_4_eq (m : Nat) (call : CallF) (n : Nat) : (loopF (fun k => compF c91_4 (C m) call k (exitF 0 (fun e => K91_2 m call ) (fun _ _ => noK)) (fun e => retV (C m) (resE e Tryz.f91.results.toList))) n) = (fun e => L91_4 m call n (e 0) (e 1) (e 7) (e 8)) := by
  induction n with
  | zero => rfl
  | succ n ih =>
    show compF c91_4 (C m) call (loopF (fun k => compF c91_4 (C m) call k (exitF 0 (fun e => K91_2 m call ) (fun _ _ => noK)) (fun e => retV (C m) (resE e Tryz.f91.results.toList))) n) (exitF 0 (fun e => K91_2 m call ) (fun _ _ => noK)) (fun e => retV (C m) (resE e Tryz.f91.results.toList)) = _
    rw [ih, L91_4_b_eq m call (L91_4 m call n)]
    rfl
theorem L91_4_succ (m : Nat) (call : CallF) (n : Nat) : L91_4 m call (n + 1) = L91_4_b m call (L91_4 m call n) := rfl
noncomputable def K91_3 (m : Nat) (call : CallF) (t0 t1 t7 t8 : AV) : Kt :=
 L91_4 m call m t0 t1 t7 t8
theorem K91_3_eq (m : Nat) (call : CallF) : compF c91_3 (C m) call (fun e => K91_2 m call ) (fun _ _ => noK) (fun e => retV (C m) (resE e Tryz.f91.results.toList)) = (fun e => K91_3 m call (e 0) (e 1) (e 7) (e 8)) := by
  have u : compF c91_3 (C m) call (fun e => K91_2 m call ) (fun _ _ => noK) (fun e => retV (C m) (resE e Tryz.f91.results.toList)) = (loopF (fun k => compF c91_4 (C m) call k (exitF 0 (fun e => K91_2 m call ) (fun _ _ => noK)) (fun e => retV (C m) (resE e Tryz.f91.results.toList))) m) := by kernel_rfl
  rw [u, L91_4_eq m call m]
  show _ = _
  kernel_rfl
noncomputable def K91_1 (m : Nat) (call : CallF) (t0 t1 : AV) : Kt :=
 bnd (bltO (C m) .len [84] [t0]) fun v0 =>
 K91_3 m call t0 t1 v0 (I 0)
theorem K91_1_eq (m : Nat) (call : CallF) : compF c91_1 (C m) call (fun e => retV (C m) (resE e Tryz.f91.results.toList)) (fun _ _ => noK) (fun e => retV (C m) (resE e Tryz.f91.results.toList)) = (fun e => K91_1 m call (e 0) (e 1)) := by
  have u : compF c91_1 (C m) call (fun e => retV (C m) (resE e Tryz.f91.results.toList)) (fun _ _ => noK) (fun e => retV (C m) (resE e Tryz.f91.results.toList)) = (compF (pS1 (pS1 c91_1)) (C m) call (compF c91_3 (C m) call (compF c91_2 (C m) call (fun e => retV (C m) (resE e Tryz.f91.results.toList)) (fun _ _ => noK) (fun e => retV (C m) (resE e Tryz.f91.results.toList))) (fun _ _ => noK) (fun e => retV (C m) (resE e Tryz.f91.results.toList))) (fun _ _ => noK) (fun e => retV (C m) (resE e Tryz.f91.results.toList))) := by kernel_rfl
  rw [u, K91_2_eq m call , K91_3_eq m call ]
  show _ = _
  kernel_rfl
noncomputable def K91_0 (m : Nat) (call : CallF) (t0 t1 : AV) : Kt :=
 K91_1 m call t0 t1
theorem K91_0_eq (m : Nat) (call : CallF) : compF c91_0 (C m) call (fun e => retV (C m) (resE e Tryz.f91.results.toList)) (fun _ _ => noK) (fun e => retV (C m) (resE e Tryz.f91.results.toList)) = (fun e => K91_0 m call (e 0) (e 1)) := by
  have u : compF c91_0 (C m) call (fun e => retV (C m) (resE e Tryz.f91.results.toList)) (fun _ _ => noK) (fun e => retV (C m) (resE e Tryz.f91.results.toList)) = (compF (pS1 c91_0) (C m) call (compF c91_1 (C m) call (fun e => retV (C m) (resE e Tryz.f91.results.toList)) (fun _ _ => noK) (fun e => retV (C m) (resE e Tryz.f91.results.toList))) (fun _ _ => noK) (fun e => retV (C m) (resE e Tryz.f91.results.toList))) := by kernel_rfl
  rw [u, K91_1_eq m call ]
  show _ = _
  kernel_rfl
theorem F91_eq (m : Nat) (call : CallF) (t0 t1 : AV) : enterK (C m) call Tryz.f91 [t0, t1] = K91_0 m call t0 t1 := by
  have u : enterK (C m) call Tryz.f91 [t0, t1] = (compF c91_0 (C m) call (fun e => retV (C m) (resE e Tryz.f91.results.toList)) (fun _ _ => noK) (fun e => retV (C m) (resE e Tryz.f91.results.toList))) (argF [t0, t1]) := by kernel_rfl
  rw [u, K91_0_eq m call]
  rfl
end Go.Proofs.YtggjhmhjjghncaaGreat
