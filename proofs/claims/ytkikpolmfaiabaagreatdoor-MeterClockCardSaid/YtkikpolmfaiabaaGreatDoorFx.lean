/- Functions of the program as plain functions over the interpreter's words, and the theorems that they are what the interpreter makes of the code. -/
import Derived.Test.YtkikpolmfaiabaaGreatDoorCx
namespace Go.Proofs.YtkikpolmfaiabaaGreatDoor
open Go.Run
set_option maxRecDepth 100000
open Go
/-! rillmeter/rillmeterlaw21.MeterClock -/
noncomputable def c3_0 : Code := (bodyOf Tryz.f3)
noncomputable def c3_1 : Code := (pS2 c3_0)
noncomputable def c3_2 : Code := (pS2 c3_1)
noncomputable def c3_3 : Code := (pS2 c3_2)
noncomputable def c3_4 : Code := (pS2 c3_3)
noncomputable def c3_5 : Code := (pS2 c3_4)
noncomputable def c3_6 : Code := (pS2 (pS1 c3_4))
noncomputable def c3_7 : Code := (pL (pB c3_6))
noncomputable def c3_8 : Code := (pS2 c3_7)
noncomputable def c3_9 : Code := (pS2 c3_8)
noncomputable def K3_5 (m : Nat) (call : CallF) : Kt :=
 bnd (calO (C m) call (fnV 11) []) fun v0 =>
 retV (C m) [(none, v0)]
theorem K3_5_eq (m : Nat) (call : CallF) : compF c3_5 (C m) call (fun e => retV (C m) (resE e Tryz.f3.results.toList)) (fun _ _ => noK) (fun e => retV (C m) (resE e Tryz.f3.results.toList)) = (fun e => K3_5 m call ) := by
  have u : compF c3_5 (C m) call (fun e => retV (C m) (resE e Tryz.f3.results.toList)) (fun _ _ => noK) (fun e => retV (C m) (resE e Tryz.f3.results.toList)) = (compF (pS1 c3_5) (C m) call (fun e => retV (C m) (resE e Tryz.f3.results.toList)) (fun _ _ => noK) (fun e => retV (C m) (resE e Tryz.f3.results.toList))) := by kernel_rfl
  rw [u]
  show _ = _
  kernel_rfl
noncomputable def K3_9 (m : Nat) (call : CallF) (h7 : AV → AV → AV → AV → Kt) (t1 t5 t6 t7 : AV) : Kt :=
 bnd (binO (C m) .add 3 t7 (I 1)) fun v0 =>
 h7 t1 t5 t6 v0
theorem K3_9_eq (m : Nat) (call : CallF) (h7 : AV → AV → AV → AV → Kt) : compF c3_9 (C m) call (fun e => h7 (e 1) (e 5) (e 6) (e 7)) (exitF 0 (fun e => K3_5 m call ) (fun _ _ => noK)) (fun e => retV (C m) (resE e Tryz.f3.results.toList)) = (fun e => K3_9 m call h7 (e 1) (e 5) (e 6) (e 7)) := by
  have u : compF c3_9 (C m) call (fun e => h7 (e 1) (e 5) (e 6) (e 7)) (exitF 0 (fun e => K3_5 m call ) (fun _ _ => noK)) (fun e => retV (C m) (resE e Tryz.f3.results.toList)) = (compF c3_9 (C m) call (fun e => h7 (e 1) (e 5) (e 6) (e 7)) (exitF 0 (fun e => K3_5 m call ) (fun _ _ => noK)) (fun e => retV (C m) (resE e Tryz.f3.results.toList))) := by kernel_rfl
  rw [u]
  show _ = _
  kernel_rfl
noncomputable def K3_8 (m : Nat) (call : CallF) (h7 : AV → AV → AV → AV → Kt) (t1 t5 t6 t7 : AV) : Kt :=
 bnd (calO (C m) call (fnV 12) [t5]) fun v0 =>
 bnd (calO (C m) call (fnV 13) [t5]) fun v1 =>
 bnd (iadO (C m) 22 t1 t7) fun v2 =>
 bnd (ldO (C m) 3 v2) fun v3 =>
 bnd (calO (C m) call (fnV 14) [t5, v3]) fun v4 =>
 bnd (iadO (C m) 22 t1 t7) fun v5 =>
 bnd (ldO (C m) 3 v5) fun v6 =>
 bnd (bltO (C m) .min [3, 3] [v6, (I 4294967296)]) fun v7 =>
 bnd (bltO (C m) .max [3, 3] [t6, v7]) fun v8 =>
 bnd (calO (C m) call (fnV 12) [t5]) fun v9 =>
 bnd (binO (C m) .lss 3 v9 v0) fun v10 =>
 bnd (gdO (wantV v10 false) (fun _ => .val t5)) fun v11 =>
 bnd (gdO (wantV v10 false) (calO (C m) call (fnV 12) [v11])) fun v12 =>
 bnd (gdO (wantV v10 false) (fun _ => .val v8)) fun v13 =>
 bnd (gdO (wantV v10 false) (binO (C m) .neq 3 v12 v13)) fun v14 =>
 bnd (pickO v10 (B true) v14) fun v15 =>
 bnd (gdO (wantV v15 false) (fun _ => .val t5)) fun v16 =>
 bnd (gdO (wantV v15 false) (calO (C m) call (fnV 13) [v16])) fun v17 =>
 bnd (gdO (wantV v15 false) (fun _ => .val v1)) fun v18 =>
 bnd (gdO (wantV v15 false) (binO (C m) .lss 3 v17 v18)) fun v19 =>
 bnd (pickO v15 (B true) v19) fun v20 =>
 bnd (gdO (wantV v20 false) (fun _ => .val v4)) fun v21 =>
 bnd (gdO (wantV v20 false) (fun _ => .val t5)) fun v22 =>
 bnd (gdO (wantV v20 false) (calO (C m) call (fnV 13) [v22])) fun v23 =>
 bnd (gdO (wantV v20 false) (fun _ => .val v1)) fun v24 =>
 bnd (gdO (wantV v20 false) (binO (C m) .gtr 3 v23 v24)) fun v25 =>
 bnd (gdO (wantV v20 false) (binO (C m) .neq 4 v21 v25)) fun v26 =>
 bnd (pickO v20 (B true) v26) fun v27 =>
 bnd (gdO (wantV v27 false) (fun _ => .val t5)) fun v28 =>
 bnd (gdO (wantV v27 false) (calO (C m) call (fnV 15) [v28])) fun v29 =>
 bnd (gdO (wantV v27 false) (binO (C m) .gtr 3 v29 (I 64))) fun v30 =>
 bnd (pickO v27 (B true) v30) fun v31 =>
 ifB v31
 ((retV (C m) [(none, (B false))]))
 ((K3_9 m call h7 t1 t5 v8 t7))
theorem K3_8_eq (m : Nat) (call : CallF) (h7 : AV → AV → AV → AV → Kt) : compF c3_8 (C m) call (fun e => h7 (e 1) (e 5) (e 6) (e 7)) (exitF 0 (fun e => K3_5 m call ) (fun _ _ => noK)) (fun e => retV (C m) (resE e Tryz.f3.results.toList)) = (fun e => K3_8 m call h7 (e 1) (e 5) (e 6) (e 7)) := by
  have u : compF c3_8 (C m) call (fun e => h7 (e 1) (e 5) (e 6) (e 7)) (exitF 0 (fun e => K3_5 m call ) (fun _ _ => noK)) (fun e => retV (C m) (resE e Tryz.f3.results.toList)) = (compF (pS1 (pB (pS1 c3_8))) (C m) call (compF (pS1 (pS2 (pB (pS1 c3_8)))) (C m) call (compF (pS1 (pS2 (pS2 (pB (pS1 c3_8))))) (C m) call (compF (pS1 (pS2 (pS2 (pS2 (pB (pS1 c3_8)))))) (C m) call (fun e => ifB (e 80) ((compF (pS1 (pC1 (pS2 (pS2 (pS2 (pS2 (pB (pS1 c3_8)))))))) (C m) call (fun e => retV (C m) (resE e Tryz.f3.results.toList)) (exitF 1 (compF c3_9 (C m) call (fun e => h7 (e 1) (e 5) (e 6) (e 7)) (exitF 0 (fun e => K3_5 m call ) (fun _ _ => noK)) (fun e => retV (C m) (resE e Tryz.f3.results.toList))) (exitF 0 (fun e => K3_5 m call ) (fun _ _ => noK))) (fun e => retV (C m) (resE e Tryz.f3.results.toList))) e) ((compF c3_9 (C m) call (fun e => h7 (e 1) (e 5) (e 6) (e 7)) (exitF 0 (fun e => K3_5 m call ) (fun _ _ => noK)) (fun e => retV (C m) (resE e Tryz.f3.results.toList))) e)) (exitF 1 (compF c3_9 (C m) call (fun e => h7 (e 1) (e 5) (e 6) (e 7)) (exitF 0 (fun e => K3_5 m call ) (fun _ _ => noK)) (fun e => retV (C m) (resE e Tryz.f3.results.toList))) (exitF 0 (fun e => K3_5 m call ) (fun _ _ => noK))) (fun e => retV (C m) (resE e Tryz.f3.results.toList))) (exitF 1 (compF c3_9 (C m) call (fun e => h7 (e 1) (e 5) (e 6) (e 7)) (exitF 0 (fun e => K3_5 m call ) (fun _ _ => noK)) (fun e => retV (C m) (resE e Tryz.f3.results.toList))) (exitF 0 (fun e => K3_5 m call ) (fun _ _ => noK))) (fun e => retV (C m) (resE e Tryz.f3.results.toList))) (exitF 1 (compF c3_9 (C m) call (fun e => h7 (e 1) (e 5) (e 6) (e 7)) (exitF 0 (fun e => K3_5 m call ) (fun _ _ => noK)) (fun e => retV (C m) (resE e Tryz.f3.results.toList))) (exitF 0 (fun e => K3_5 m call ) (fun _ _ => noK))) (fun e => retV (C m) (resE e Tryz.f3.results.toList))) (exitF 1 (compF c3_9 (C m) call (fun e => h7 (e 1) (e 5) (e 6) (e 7)) (exitF 0 (fun e => K3_5 m call ) (fun _ _ => noK)) (fun e => retV (C m) (resE e Tryz.f3.results.toList))) (exitF 0 (fun e => K3_5 m call ) (fun _ _ => noK))) (fun e => retV (C m) (resE e Tryz.f3.results.toList))) := by kernel_rfl
  rw [u, K3_9_eq m call h7 ]
  show _ = _
  kernel_rfl
noncomputable def L3_7_b (m : Nat) (call : CallF) (h7 : AV → AV → AV → AV → Kt) (t1 t5 t6 t7 : AV) : Kt :=
 bnd (bltO (C m) .len [22] [t1]) fun v0 =>
 bnd (binO (C m) .lss 3 t7 v0) fun v1 =>
 bnd (gdO (wantV v1 true) (fun _ => .val t7)) fun v2 =>
 bnd (gdO (wantV v1 true) (binO (C m) .lss 3 v2 (I 60))) fun v3 =>
 bnd (pickO v1 v3 (B false)) fun v4 =>
 ifB v4
 ((K3_8 m call h7 t1 t5 t6 t7))
 ((K3_5 m call ))
noncomputable def L3_7 (m : Nat) (call : CallF) (n : Nat) : AV → AV → AV → AV → Kt :=
 Nat.rec (motive := fun _ => AV → AV → AV → AV → Kt) (fun t1 t5 t6 t7 => noK) (fun _ ih => L3_7_b m call ih) n
theorem L3_7_b_eq (m : Nat) (call : CallF) (h7 : AV → AV → AV → AV → Kt) : compF c3_7 (C m) call (fun e => h7 (e 1) (e 5) (e 6) (e 7)) (exitF 0 (fun e => K3_5 m call ) (fun _ _ => noK)) (fun e => retV (C m) (resE e Tryz.f3.results.toList)) = fun e => L3_7_b m call h7 (e 1) (e 5) (e 6) (e 7) := by
  have u : compF c3_7 (C m) call (fun e => h7 (e 1) (e 5) (e 6) (e 7)) (exitF 0 (fun e => K3_5 m call ) (fun _ _ => noK)) (fun e => retV (C m) (resE e Tryz.f3.results.toList)) = (compF (pS1 (pS1 c3_7)) (C m) call (fun e => ifB (e 32) ((compF c3_8 (C m) call (fun e => h7 (e 1) (e 5) (e 6) (e 7)) (exitF 0 (fun e => K3_5 m call ) (fun _ _ => noK)) (fun e => retV (C m) (resE e Tryz.f3.results.toList))) e) ((fun e => K3_5 m call ) e)) (exitF 0 (fun e => K3_5 m call ) (fun _ _ => noK)) (fun e => retV (C m) (resE e Tryz.f3.results.toList))) := by kernel_rfl
  rw [u, K3_8_eq m call h7 ]
  show _ = _
  kernel_rfl
theorem L3_7_eq (m : Nat) (call : CallF) (n : Nat) : (loopF (fun k => compF c3_7 (C m) call k (exitF 0 (fun e => K3_5 m call ) (fun _ _ => noK)) (fun e => retV (C m) (resE e Tryz.f3.results.toList))) n) = (fun e => L3_7 m call n (e 1) (e 5) (e 6) (e 7)) := by
  induction n with
  | zero => rfl
  | succ n ih =>
    show compF c3_7 (C m) call (loopF (fun k => compF c3_7 (C m) call k (exitF 0 (fun e => K3_5 m call ) (fun _ _ => noK)) (fun e => retV (C m) (resE e Tryz.f3.results.toList))) n) (exitF 0 (fun e => K3_5 m call ) (fun _ _ => noK)) (fun e => retV (C m) (resE e Tryz.f3.results.toList)) = _
    rw [ih, L3_7_b_eq m call (L3_7 m call n)]
    rfl
theorem L3_7_succ (m : Nat) (call : CallF) (n : Nat) : L3_7 m call (n + 1) = L3_7_b m call (L3_7 m call n) := rfl
noncomputable def K3_6 (m : Nat) (call : CallF) (t1 t5 t6 t7 : AV) : Kt :=
 L3_7 m call m t1 t5 t6 t7
theorem K3_6_eq (m : Nat) (call : CallF) : compF c3_6 (C m) call (fun e => K3_5 m call ) (fun _ _ => noK) (fun e => retV (C m) (resE e Tryz.f3.results.toList)) = (fun e => K3_6 m call (e 1) (e 5) (e 6) (e 7)) := by
  have u : compF c3_6 (C m) call (fun e => K3_5 m call ) (fun _ _ => noK) (fun e => retV (C m) (resE e Tryz.f3.results.toList)) = (loopF (fun k => compF c3_7 (C m) call k (exitF 0 (fun e => K3_5 m call ) (fun _ _ => noK)) (fun e => retV (C m) (resE e Tryz.f3.results.toList))) m) := by kernel_rfl
  rw [u, L3_7_eq m call m]
  show _ = _
  kernel_rfl
noncomputable def K3_4 (m : Nat) (call : CallF) (t1 t5 t6 : AV) : Kt :=
 K3_6 m call t1 t5 t6 (I 0)
theorem K3_4_eq (m : Nat) (call : CallF) : compF c3_4 (C m) call (fun e => retV (C m) (resE e Tryz.f3.results.toList)) (fun _ _ => noK) (fun e => retV (C m) (resE e Tryz.f3.results.toList)) = (fun e => K3_4 m call (e 1) (e 5) (e 6)) := by
  have u : compF c3_4 (C m) call (fun e => retV (C m) (resE e Tryz.f3.results.toList)) (fun _ _ => noK) (fun e => retV (C m) (resE e Tryz.f3.results.toList)) = (compF (pS1 (pS1 c3_4)) (C m) call (compF c3_6 (C m) call (compF c3_5 (C m) call (fun e => retV (C m) (resE e Tryz.f3.results.toList)) (fun _ _ => noK) (fun e => retV (C m) (resE e Tryz.f3.results.toList))) (fun _ _ => noK) (fun e => retV (C m) (resE e Tryz.f3.results.toList))) (fun _ _ => noK) (fun e => retV (C m) (resE e Tryz.f3.results.toList))) := by kernel_rfl
  rw [u, K3_5_eq m call , K3_6_eq m call ]
  show _ = _
  kernel_rfl
noncomputable def K3_3 (m : Nat) (call : CallF) (t1 t5 : AV) : Kt :=
 K3_4 m call t1 t5 (I 0)
theorem K3_3_eq (m : Nat) (call : CallF) : compF c3_3 (C m) call (fun e => retV (C m) (resE e Tryz.f3.results.toList)) (fun _ _ => noK) (fun e => retV (C m) (resE e Tryz.f3.results.toList)) = (fun e => K3_3 m call (e 1) (e 5)) := by
  have u : compF c3_3 (C m) call (fun e => retV (C m) (resE e Tryz.f3.results.toList)) (fun _ _ => noK) (fun e => retV (C m) (resE e Tryz.f3.results.toList)) = (compF (pS1 c3_3) (C m) call (compF c3_4 (C m) call (fun e => retV (C m) (resE e Tryz.f3.results.toList)) (fun _ _ => noK) (fun e => retV (C m) (resE e Tryz.f3.results.toList))) (fun _ _ => noK) (fun e => retV (C m) (resE e Tryz.f3.results.toList))) := by kernel_rfl
  rw [u, K3_4_eq m call ]
  show _ = _
  kernel_rfl
noncomputable def K3_2 (m : Nat) (call : CallF) (t0 t1 t5 : AV) : Kt :=
 bnd (binO (C m) .eql 23 t5 NP) fun v0 =>
 ifB v0
 ((bnd (binO (C m) .lss 3 t0 (I 1)) fun v1 =>
 bnd (gdO (wantV v1 false) (fun _ => .val t0)) fun v2 =>
 bnd (gdO (wantV v1 false) (binO (C m) .gtr 3 v2 (I 1048576))) fun v3 =>
 bnd (pickO v1 (B true) v3) fun v4 =>
 bnd (gdO (wantV v4 true) (calO (C m) call (fnV 11) [])) fun v5 =>
 bnd (pickO v4 v5 (B false)) fun v6 =>
 retV (C m) [(none, v6)]))
 ((K3_3 m call t1 t5))
theorem K3_2_eq (m : Nat) (call : CallF) : compF c3_2 (C m) call (fun e => retV (C m) (resE e Tryz.f3.results.toList)) (fun _ _ => noK) (fun e => retV (C m) (resE e Tryz.f3.results.toList)) = (fun e => K3_2 m call (e 0) (e 1) (e 5)) := by
  have u : compF c3_2 (C m) call (fun e => retV (C m) (resE e Tryz.f3.results.toList)) (fun _ _ => noK) (fun e => retV (C m) (resE e Tryz.f3.results.toList)) = (compF (pS1 (pS1 c3_2)) (C m) call (fun e => ifB (e 15) ((compF (pS1 (pC1 (pS2 (pS1 c3_2)))) (C m) call (fun e => retV (C m) (resE e Tryz.f3.results.toList)) (fun _ _ => noK) (fun e => retV (C m) (resE e Tryz.f3.results.toList))) e) ((compF c3_3 (C m) call (fun e => retV (C m) (resE e Tryz.f3.results.toList)) (fun _ _ => noK) (fun e => retV (C m) (resE e Tryz.f3.results.toList))) e)) (fun _ _ => noK) (fun e => retV (C m) (resE e Tryz.f3.results.toList))) := by kernel_rfl
  rw [u, K3_3_eq m call ]
  show _ = _
  kernel_rfl
noncomputable def K3_1 (m : Nat) (call : CallF) (t0 t1 : AV) : Kt :=
 bnd (calO (C m) call (fnV 10) []) fun v0 =>
 bnd (calO (C m) call (fnV 9) [(I 1), v0, t0]) fun v1 =>
 K3_2 m call t0 t1 v1
theorem K3_1_eq (m : Nat) (call : CallF) : compF c3_1 (C m) call (fun e => retV (C m) (resE e Tryz.f3.results.toList)) (fun _ _ => noK) (fun e => retV (C m) (resE e Tryz.f3.results.toList)) = (fun e => K3_1 m call (e 0) (e 1)) := by
  have u : compF c3_1 (C m) call (fun e => retV (C m) (resE e Tryz.f3.results.toList)) (fun _ _ => noK) (fun e => retV (C m) (resE e Tryz.f3.results.toList)) = (compF (pS1 c3_1) (C m) call (compF c3_2 (C m) call (fun e => retV (C m) (resE e Tryz.f3.results.toList)) (fun _ _ => noK) (fun e => retV (C m) (resE e Tryz.f3.results.toList))) (fun _ _ => noK) (fun e => retV (C m) (resE e Tryz.f3.results.toList))) := by kernel_rfl
  rw [u, K3_2_eq m call ]
  show _ = _
  kernel_rfl
noncomputable def K3_0 (m : Nat) (call : CallF) (t0 t1 : AV) : Kt :=
 K3_1 m call t0 t1
theorem K3_0_eq (m : Nat) (call : CallF) : compF c3_0 (C m) call (fun e => retV (C m) (resE e Tryz.f3.results.toList)) (fun _ _ => noK) (fun e => retV (C m) (resE e Tryz.f3.results.toList)) = (fun e => K3_0 m call (e 0) (e 1)) := by
  have u : compF c3_0 (C m) call (fun e => retV (C m) (resE e Tryz.f3.results.toList)) (fun _ _ => noK) (fun e => retV (C m) (resE e Tryz.f3.results.toList)) = (compF (pS1 c3_0) (C m) call (compF c3_1 (C m) call (fun e => retV (C m) (resE e Tryz.f3.results.toList)) (fun _ _ => noK) (fun e => retV (C m) (resE e Tryz.f3.results.toList))) (fun _ _ => noK) (fun e => retV (C m) (resE e Tryz.f3.results.toList))) := by kernel_rfl
  rw [u, K3_1_eq m call ]
  show _ = _
  kernel_rfl
theorem F3_eq (m : Nat) (call : CallF) (t0 t1 : AV) : enterK (C m) call Tryz.f3 [t0, t1] = K3_0 m call t0 t1 := by
  have u : enterK (C m) call Tryz.f3 [t0, t1] = (compF c3_0 (C m) call (fun e => retV (C m) (resE e Tryz.f3.results.toList)) (fun _ _ => noK) (fun e => retV (C m) (resE e Tryz.f3.results.toList))) (argF [t0, t1]) := by kernel_rfl
  rw [u, K3_0_eq m call]
  rfl
/-! rillmeter/meter.New -/
noncomputable def c9_0 : Code := (bodyOf Tryz.f9)
noncomputable def K9_0 (m : Nat) (call : CallF) (t0 t1 t2 : AV) : Kt :=
 bnd (boxO 27 t1) fun v0 =>
 bnd (ldO (C m) 27 v0) fun v1 =>
 bnd (calO (C m) call (fnV 16) [v1]) fun v2 =>
 bnd (extO v2 0) fun v3 =>
 bnd (extO v2 1) fun v4 =>
 bnd (newO (C m) 53) fun v5 =>
 bnd (stO (C m) 53 v5 v3) fun _ =>
 bnd (binO (C m) .neq 54 v4 (I 0)) fun v6 =>
 bnd (gdO (wantV v6 false) (fun _ => .val t0)) fun v7 =>
 bnd (gdO (wantV v6 false) (binO (C m) .lss 3 v7 (I 1))) fun v8 =>
 bnd (pickO v6 (B true) v8) fun v9 =>
 bnd (gdO (wantV v9 false) (fun _ => .val t0)) fun v10 =>
 bnd (gdO (wantV v9 false) (binO (C m) .gtr 3 v10 (I 3))) fun v11 =>
 bnd (pickO v9 (B true) v11) fun v12 =>
 bnd (gdO (wantV v12 false) (fun _ => .val t2)) fun v13 =>
 bnd (gdO (wantV v12 false) (binO (C m) .lss 3 v13 (I 1))) fun v14 =>
 bnd (pickO v12 (B true) v14) fun v15 =>
 bnd (gdO (wantV v15 false) (fun _ => .val t2)) fun v16 =>
 bnd (gdO (wantV v15 false) (binO (C m) .gtr 3 v16 (I 1048576))) fun v17 =>
 bnd (pickO v15 (B true) v17) fun v18 =>
 ifB v18
 ((retV (C m) [(none, NP)]))
 ((bnd (ldO (C m) 53 v5) fun v19 =>
 bnd (bldO (C m) 116 [(0, t0), (1, t2), (3, v19)]) fun v20 =>
 bnd (boxO 116 v20) fun v21 =>
 retV (C m) [(none, v21)]))
theorem K9_0_eq (m : Nat) (call : CallF) : compF c9_0 (C m) call (fun e => retV (C m) (resE e Tryz.f9.results.toList)) (fun _ _ => noK) (fun e => retV (C m) (resE e Tryz.f9.results.toList)) = (fun e => K9_0 m call (e 0) (e 1) (e 2)) := by
  have u : compF c9_0 (C m) call (fun e => retV (C m) (resE e Tryz.f9.results.toList)) (fun _ _ => noK) (fun e => retV (C m) (resE e Tryz.f9.results.toList)) = (compF (pS1 c9_0) (C m) call (compF (pS1 (pS2 c9_0)) (C m) call (compF (pS1 (pS1 (pS2 (pS2 c9_0)))) (C m) call (fun e => ifB (e 31) ((compF (pS1 (pC1 (pS2 (pS1 (pS2 (pS2 c9_0)))))) (C m) call (fun e => retV (C m) (resE e Tryz.f9.results.toList)) (fun _ _ => noK) (fun e => retV (C m) (resE e Tryz.f9.results.toList))) e) ((compF (pS1 (pS2 (pS2 (pS2 c9_0)))) (C m) call (fun e => retV (C m) (resE e Tryz.f9.results.toList)) (fun _ _ => noK) (fun e => retV (C m) (resE e Tryz.f9.results.toList))) e)) (fun _ _ => noK) (fun e => retV (C m) (resE e Tryz.f9.results.toList))) (fun _ _ => noK) (fun e => retV (C m) (resE e Tryz.f9.results.toList))) (fun _ _ => noK) (fun e => retV (C m) (resE e Tryz.f9.results.toList))) := by kernel_rfl
  rw [u]
  show _ = _
  kernel_rfl
theorem F9_eq (m : Nat) (call : CallF) (t0 t1 t2 : AV) : enterK (C m) call Tryz.f9 [t0, t1, t2] = K9_0 m call t0 t1 t2 := by
  have u : enterK (C m) call Tryz.f9 [t0, t1, t2] = (compF c9_0 (C m) call (fun e => retV (C m) (resE e Tryz.f9.results.toList)) (fun _ _ => noK) (fun e => retV (C m) (resE e Tryz.f9.results.toList))) (argF [t0, t1, t2]) := by kernel_rfl
  rw [u, K9_0_eq m call]
  rfl
/-! (*rillmeter/meter.Meter).Clock -/
noncomputable def c12_0 : Code := (bodyOf Tryz.f12)
noncomputable def K12_0 (m : Nat) (call : CallF) (t0 : AV) : Kt :=
 bnd (binO (C m) .eql 23 t0 NP) fun v0 =>
 ifB v0
 ((retV (C m) [(none, (I 0))]))
 ((bnd (nilO t0) fun v1 =>
 bnd (fadO (C m) 116 v1 2) fun v2 =>
 bnd (ldO (C m) 3 v2) fun v3 =>
 retV (C m) [(none, v3)]))
theorem K12_0_eq (m : Nat) (call : CallF) : compF c12_0 (C m) call (fun e => retV (C m) (resE e Tryz.f12.results.toList)) (fun _ _ => noK) (fun e => retV (C m) (resE e Tryz.f12.results.toList)) = (fun e => K12_0 m call (e 0)) := by
  have u : compF c12_0 (C m) call (fun e => retV (C m) (resE e Tryz.f12.results.toList)) (fun _ _ => noK) (fun e => retV (C m) (resE e Tryz.f12.results.toList)) = (compF (pS1 c12_0) (C m) call (compF (pS1 (pS1 (pS2 c12_0))) (C m) call (fun e => ifB (e 4) ((compF (pS1 (pC1 (pS2 (pS1 (pS2 c12_0))))) (C m) call (fun e => retV (C m) (resE e Tryz.f12.results.toList)) (fun _ _ => noK) (fun e => retV (C m) (resE e Tryz.f12.results.toList))) e) ((compF (pS1 (pS2 (pS2 c12_0))) (C m) call (fun e => retV (C m) (resE e Tryz.f12.results.toList)) (fun _ _ => noK) (fun e => retV (C m) (resE e Tryz.f12.results.toList))) e)) (fun _ _ => noK) (fun e => retV (C m) (resE e Tryz.f12.results.toList))) (fun _ _ => noK) (fun e => retV (C m) (resE e Tryz.f12.results.toList))) := by kernel_rfl
  rw [u]
  show _ = _
  kernel_rfl
theorem F12_eq (m : Nat) (call : CallF) (t0 : AV) : enterK (C m) call Tryz.f12 [t0] = K12_0 m call t0 := by
  have u : enterK (C m) call Tryz.f12 [t0] = (compF c12_0 (C m) call (fun e => retV (C m) (resE e Tryz.f12.results.toList)) (fun _ _ => noK) (fun e => retV (C m) (resE e Tryz.f12.results.toList))) (argF [t0]) := by kernel_rfl
  rw [u, K12_0_eq m call]
  rfl
/-! (*rillmeter/meter.Meter).Epoch -/
noncomputable def c13_0 : Code := (bodyOf Tryz.f13)
noncomputable def K13_0 (m : Nat) (call : CallF) (t0 : AV) : Kt :=
 bnd (binO (C m) .eql 23 t0 NP) fun v0 =>
 ifB v0
 ((retV (C m) [(none, (I 0))]))
 ((dVal (nilO t0) fun v1 =>
 dVal (fadO (C m) 116 v1 2) fun v2 =>
 dChk (ldO (C m) 3 v2) fun v3 =>
 dVal (nilO t0) fun v4 =>
 dVal (fadO (C m) 116 v4 1) fun v5 =>
 dChk (ldO (C m) 3 v5) fun v6 =>
 dVal (binO (C m) .quo 3 v3 v6) fun v7 =>
 retV (C m) [(none, v7)]))
theorem K13_0_eq (m : Nat) (call : CallF) : compF c13_0 (C m) call (fun e => retV (C m) (resE e Tryz.f13.results.toList)) (fun _ _ => noK) (fun e => retV (C m) (resE e Tryz.f13.results.toList)) = (fun e => K13_0 m call (e 0)) := by
  have u : compF c13_0 (C m) call (fun e => retV (C m) (resE e Tryz.f13.results.toList)) (fun _ _ => noK) (fun e => retV (C m) (resE e Tryz.f13.results.toList)) = (compF (pS1 c13_0) (C m) call (compF (pS1 (pS1 (pS2 c13_0))) (C m) call (fun e => ifB (e 4) ((compF (pS1 (pC1 (pS2 (pS1 (pS2 c13_0))))) (C m) call (fun e => retV (C m) (resE e Tryz.f13.results.toList)) (fun _ _ => noK) (fun e => retV (C m) (resE e Tryz.f13.results.toList))) e) ((compF (pS1 (pS2 (pS2 c13_0))) (C m) call (fun e => retV (C m) (resE e Tryz.f13.results.toList)) (fun _ _ => noK) (fun e => retV (C m) (resE e Tryz.f13.results.toList))) e)) (fun _ _ => noK) (fun e => retV (C m) (resE e Tryz.f13.results.toList))) (fun _ _ => noK) (fun e => retV (C m) (resE e Tryz.f13.results.toList))) := by kernel_rfl
  rw [u]
  show _ = _
  kernel_rfl
theorem F13_eq (m : Nat) (call : CallF) (t0 : AV) : enterK (C m) call Tryz.f13 [t0] = K13_0 m call t0 := by
  have u : enterK (C m) call Tryz.f13 [t0] = (compF c13_0 (C m) call (fun e => retV (C m) (resE e Tryz.f13.results.toList)) (fun _ _ => noK) (fun e => retV (C m) (resE e Tryz.f13.results.toList))) (argF [t0]) := by kernel_rfl
  rw [u, K13_0_eq m call]
  rfl
/-! (*rillmeter/meter.Meter).Tick -/
noncomputable def c14_0 : Code := (bodyOf Tryz.f14)
noncomputable def c14_1 : Code := (pS2 c14_0)
noncomputable def c14_2 : Code := (pS2 c14_1)
noncomputable def c14_3 : Code := (pS2 c14_2)
noncomputable def c14_4 : Code := (pS2 c14_3)
noncomputable def c14_5 : Code := (pS2 c14_4)
noncomputable def c14_6 : Code := (pS2 c14_5)
noncomputable def c14_7 : Code := (pS2 c14_6)
noncomputable def K14_7 (m : Nat) (call : CallF) (t0 : AV) : Kt :=
 bnd (nilO t0) fun v0 =>
 bnd (fadO (C m) 116 v0 3) fun v1 =>
 bnd (fadO (C m) 53 v1 0) fun v2 =>
 bnd (ldO (C m) 27 v2) fun v3 =>
 bnd (calO (C m) call (fnV 16) [v3]) fun v4 =>
 bnd (extO v4 0) fun v5 =>
 bnd (extO v4 1) fun v6 =>
 bnd (nilO t0) fun v7 =>
 bnd (fadO (C m) 116 v7 3) fun v8 =>
 bnd (stO (C m) 53 v8 v5) fun _ =>
 retV (C m) [(none, (B true))]
theorem K14_7_eq (m : Nat) (call : CallF) : compF c14_7 (C m) call (fun e => retV (C m) (resE e Tryz.f14.results.toList)) (fun _ _ => noK) (fun e => retV (C m) (resE e Tryz.f14.results.toList)) = (fun e => K14_7 m call (e 0)) := by
  have u : compF c14_7 (C m) call (fun e => retV (C m) (resE e Tryz.f14.results.toList)) (fun _ _ => noK) (fun e => retV (C m) (resE e Tryz.f14.results.toList)) = (compF (pS1 c14_7) (C m) call (compF (pS1 (pS2 c14_7)) (C m) call (fun e => retV (C m) (resE e Tryz.f14.results.toList)) (fun _ _ => noK) (fun e => retV (C m) (resE e Tryz.f14.results.toList))) (fun _ _ => noK) (fun e => retV (C m) (resE e Tryz.f14.results.toList))) := by kernel_rfl
  rw [u]
  show _ = _
  kernel_rfl
noncomputable def K14_6 (m : Nat) (call : CallF) (t0 t5 t6 : AV) : Kt :=
 bnd (nilO t0) fun v0 =>
 bnd (fadO (C m) 116 v0 4) fun v1 =>
 bnd (ldO (C m) 57 v1) fun v2 =>
 bnd (bltO (C m) .len [57] [v2]) fun v3 =>
 bnd (bltO (C m) .len [57] [t6]) fun v4 =>
 bnd (binO (C m) .add 3 v3 v4) fun v5 =>
 bnd (binO (C m) .gtr 3 v5 (I 64)) fun v6 =>
 ifB v6
 ((bnd (nilO t0) fun v7 =>
 bnd (fadO (C m) 116 v7 5) fun v8 =>
 bnd (ldO (C m) 22 v8) fun v9 =>
 bnd (bslO (C m) 22 1 [(0, t5)]) fun v10 =>
 bnd (bltO (C m) .append [22, 22] [v9, v10]) fun v11 =>
 bnd (nilO t0) fun v12 =>
 bnd (fadO (C m) 116 v12 5) fun v13 =>
 bnd (stO (C m) 22 v13 v11) fun _ =>
 K14_7 m call t0))
 ((bnd (nilO t0) fun v14 =>
 bnd (fadO (C m) 116 v14 4) fun v15 =>
 bnd (ldO (C m) 57 v15) fun v16 =>
 bnd (bltO (C m) .append [57, 57] [v16, t6]) fun v17 =>
 bnd (nilO t0) fun v18 =>
 bnd (fadO (C m) 116 v18 4) fun v19 =>
 bnd (stO (C m) 57 v19 v17) fun _ =>
 K14_7 m call t0))
theorem K14_6_eq (m : Nat) (call : CallF) : compF c14_6 (C m) call (fun e => retV (C m) (resE e Tryz.f14.results.toList)) (fun _ _ => noK) (fun e => retV (C m) (resE e Tryz.f14.results.toList)) = (fun e => K14_6 m call (e 0) (e 5) (e 6)) := by
  have u : compF c14_6 (C m) call (fun e => retV (C m) (resE e Tryz.f14.results.toList)) (fun _ _ => noK) (fun e => retV (C m) (resE e Tryz.f14.results.toList)) = (compF (pS1 (pS1 c14_6)) (C m) call (fun e => ifB (e 43) ((compF (pC1 (pS2 (pS1 c14_6))) (C m) call (compF c14_7 (C m) call (fun e => retV (C m) (resE e Tryz.f14.results.toList)) (fun _ _ => noK) (fun e => retV (C m) (resE e Tryz.f14.results.toList))) (fun _ _ => noK) (fun e => retV (C m) (resE e Tryz.f14.results.toList))) e) ((compF (pC2 (pS2 (pS1 c14_6))) (C m) call (compF c14_7 (C m) call (fun e => retV (C m) (resE e Tryz.f14.results.toList)) (fun _ _ => noK) (fun e => retV (C m) (resE e Tryz.f14.results.toList))) (fun _ _ => noK) (fun e => retV (C m) (resE e Tryz.f14.results.toList))) e)) (fun _ _ => noK) (fun e => retV (C m) (resE e Tryz.f14.results.toList))) := by kernel_rfl
  rw [u, K14_7_eq m call ]
  show _ = _
  kernel_rfl
noncomputable def K14_5 (m : Nat) (call : CallF) (t0 t5 : AV) : Kt :=
 dVal (nilO t0) fun v0 =>
 dVal (fadO (C m) 116 v0 0) fun v1 =>
 dChk (ldO (C m) 3 v1) fun v2 =>
 dVal (nilO t0) fun v3 =>
 dVal (fadO (C m) 116 v3 3) fun v4 =>
 dChk (ldO (C m) 53 v4) fun v5 =>
 dEff (calO (C m) call (fnV 17) [v2, t5, v5]) fun v6 =>
 K14_6 m call t0 t5 v6
theorem K14_5_eq (m : Nat) (call : CallF) : compF c14_5 (C m) call (fun e => retV (C m) (resE e Tryz.f14.results.toList)) (fun _ _ => noK) (fun e => retV (C m) (resE e Tryz.f14.results.toList)) = (fun e => K14_5 m call (e 0) (e 5)) := by
  have u : compF c14_5 (C m) call (fun e => retV (C m) (resE e Tryz.f14.results.toList)) (fun _ _ => noK) (fun e => retV (C m) (resE e Tryz.f14.results.toList)) = (compF (pS1 c14_5) (C m) call (compF c14_6 (C m) call (fun e => retV (C m) (resE e Tryz.f14.results.toList)) (fun _ _ => noK) (fun e => retV (C m) (resE e Tryz.f14.results.toList))) (fun _ _ => noK) (fun e => retV (C m) (resE e Tryz.f14.results.toList))) := by kernel_rfl
  rw [u, K14_6_eq m call ]
  show _ = _
  kernel_rfl
noncomputable def K14_4 (m : Nat) (call : CallF) (t0 t5 : AV) : Kt :=
 bnd (calO (C m) call (fnV 13) [t0]) fun v0 =>
 bnd (binO (C m) .eql 3 v0 t5) fun v1 =>
 ifB v1
 ((retV (C m) [(none, (B false))]))
 ((K14_5 m call t0 t5))
theorem K14_4_eq (m : Nat) (call : CallF) : compF c14_4 (C m) call (fun e => retV (C m) (resE e Tryz.f14.results.toList)) (fun _ _ => noK) (fun e => retV (C m) (resE e Tryz.f14.results.toList)) = (fun e => K14_4 m call (e 0) (e 5)) := by
  have u : compF c14_4 (C m) call (fun e => retV (C m) (resE e Tryz.f14.results.toList)) (fun _ _ => noK) (fun e => retV (C m) (resE e Tryz.f14.results.toList)) = (compF (pS1 (pS1 c14_4)) (C m) call (fun e => ifB (e 24) ((compF (pS1 (pC1 (pS2 (pS1 c14_4)))) (C m) call (fun e => retV (C m) (resE e Tryz.f14.results.toList)) (fun _ _ => noK) (fun e => retV (C m) (resE e Tryz.f14.results.toList))) e) ((compF c14_5 (C m) call (fun e => retV (C m) (resE e Tryz.f14.results.toList)) (fun _ _ => noK) (fun e => retV (C m) (resE e Tryz.f14.results.toList))) e)) (fun _ _ => noK) (fun e => retV (C m) (resE e Tryz.f14.results.toList))) := by kernel_rfl
  rw [u, K14_5_eq m call ]
  show _ = _
  kernel_rfl
noncomputable def K14_3 (m : Nat) (call : CallF) (t0 t1 t5 : AV) : Kt :=
 bnd (nilO t0) fun v0 =>
 bnd (fadO (C m) 116 v0 2) fun v1 =>
 bnd (ldO (C m) 3 v1) fun v2 =>
 bnd (bltO (C m) .min [3, 3] [t1, (I 4294967296)]) fun v3 =>
 bnd (bltO (C m) .max [3, 3] [v2, v3]) fun v4 =>
 bnd (nilO t0) fun v5 =>
 bnd (fadO (C m) 116 v5 2) fun v6 =>
 bnd (stO (C m) 3 v6 v4) fun _ =>
 K14_4 m call t0 t5
theorem K14_3_eq (m : Nat) (call : CallF) : compF c14_3 (C m) call (fun e => retV (C m) (resE e Tryz.f14.results.toList)) (fun _ _ => noK) (fun e => retV (C m) (resE e Tryz.f14.results.toList)) = (fun e => K14_3 m call (e 0) (e 1) (e 5)) := by
  have u : compF c14_3 (C m) call (fun e => retV (C m) (resE e Tryz.f14.results.toList)) (fun _ _ => noK) (fun e => retV (C m) (resE e Tryz.f14.results.toList)) = (compF (pS1 c14_3) (C m) call (compF c14_4 (C m) call (fun e => retV (C m) (resE e Tryz.f14.results.toList)) (fun _ _ => noK) (fun e => retV (C m) (resE e Tryz.f14.results.toList))) (fun _ _ => noK) (fun e => retV (C m) (resE e Tryz.f14.results.toList))) := by kernel_rfl
  rw [u, K14_4_eq m call ]
  show _ = _
  kernel_rfl
noncomputable def K14_2 (m : Nat) (call : CallF) (t0 t1 : AV) : Kt :=
 bnd (calO (C m) call (fnV 13) [t0]) fun v0 =>
 K14_3 m call t0 t1 v0
theorem K14_2_eq (m : Nat) (call : CallF) : compF c14_2 (C m) call (fun e => retV (C m) (resE e Tryz.f14.results.toList)) (fun _ _ => noK) (fun e => retV (C m) (resE e Tryz.f14.results.toList)) = (fun e => K14_2 m call (e 0) (e 1)) := by
  have u : compF c14_2 (C m) call (fun e => retV (C m) (resE e Tryz.f14.results.toList)) (fun _ _ => noK) (fun e => retV (C m) (resE e Tryz.f14.results.toList)) = (compF (pS1 c14_2) (C m) call (compF c14_3 (C m) call (fun e => retV (C m) (resE e Tryz.f14.results.toList)) (fun _ _ => noK) (fun e => retV (C m) (resE e Tryz.f14.results.toList))) (fun _ _ => noK) (fun e => retV (C m) (resE e Tryz.f14.results.toList))) := by kernel_rfl
  rw [u, K14_3_eq m call ]
  show _ = _
  kernel_rfl
noncomputable def K14_1 (m : Nat) (call : CallF) (t0 t1 : AV) : Kt :=
 bnd (binO (C m) .eql 23 t0 NP) fun v0 =>
 ifB v0
 ((retV (C m) [(none, (B false))]))
 ((K14_2 m call t0 t1))
theorem K14_1_eq (m : Nat) (call : CallF) : compF c14_1 (C m) call (fun e => retV (C m) (resE e Tryz.f14.results.toList)) (fun _ _ => noK) (fun e => retV (C m) (resE e Tryz.f14.results.toList)) = (fun e => K14_1 m call (e 0) (e 1)) := by
  have u : compF c14_1 (C m) call (fun e => retV (C m) (resE e Tryz.f14.results.toList)) (fun _ _ => noK) (fun e => retV (C m) (resE e Tryz.f14.results.toList)) = (compF (pS1 (pS1 c14_1)) (C m) call (fun e => ifB (e 8) ((compF (pS1 (pC1 (pS2 (pS1 c14_1)))) (C m) call (fun e => retV (C m) (resE e Tryz.f14.results.toList)) (fun _ _ => noK) (fun e => retV (C m) (resE e Tryz.f14.results.toList))) e) ((compF c14_2 (C m) call (fun e => retV (C m) (resE e Tryz.f14.results.toList)) (fun _ _ => noK) (fun e => retV (C m) (resE e Tryz.f14.results.toList))) e)) (fun _ _ => noK) (fun e => retV (C m) (resE e Tryz.f14.results.toList))) := by kernel_rfl
  rw [u, K14_2_eq m call ]
  show _ = _
  kernel_rfl
noncomputable def K14_0 (m : Nat) (call : CallF) (t0 t1 : AV) : Kt :=
 K14_1 m call t0 t1
theorem K14_0_eq (m : Nat) (call : CallF) : compF c14_0 (C m) call (fun e => retV (C m) (resE e Tryz.f14.results.toList)) (fun _ _ => noK) (fun e => retV (C m) (resE e Tryz.f14.results.toList)) = (fun e => K14_0 m call (e 0) (e 1)) := by
  have u : compF c14_0 (C m) call (fun e => retV (C m) (resE e Tryz.f14.results.toList)) (fun _ _ => noK) (fun e => retV (C m) (resE e Tryz.f14.results.toList)) = (compF (pS1 c14_0) (C m) call (compF c14_1 (C m) call (fun e => retV (C m) (resE e Tryz.f14.results.toList)) (fun _ _ => noK) (fun e => retV (C m) (resE e Tryz.f14.results.toList))) (fun _ _ => noK) (fun e => retV (C m) (resE e Tryz.f14.results.toList))) := by kernel_rfl
  rw [u, K14_1_eq m call ]
  show _ = _
  kernel_rfl
theorem F14_eq (m : Nat) (call : CallF) (t0 t1 : AV) : enterK (C m) call Tryz.f14 [t0, t1] = K14_0 m call t0 t1 := by
  have u : enterK (C m) call Tryz.f14 [t0, t1] = (compF c14_0 (C m) call (fun e => retV (C m) (resE e Tryz.f14.results.toList)) (fun _ _ => noK) (fun e => retV (C m) (resE e Tryz.f14.results.toList))) (argF [t0, t1]) := by kernel_rfl
  rw [u, K14_0_eq m call]
  rfl
/-! (*rillmeter/meter.Meter).Waiting -/
noncomputable def c15_0 : Code := (bodyOf Tryz.f15)
noncomputable def K15_0 (m : Nat) (call : CallF) (t0 : AV) : Kt :=
 bnd (binO (C m) .eql 23 t0 NP) fun v0 =>
 ifB v0
 ((retV (C m) [(none, (I 0))]))
 ((bnd (nilO t0) fun v1 =>
 bnd (fadO (C m) 116 v1 4) fun v2 =>
 bnd (ldO (C m) 57 v2) fun v3 =>
 bnd (bltO (C m) .len [57] [v3]) fun v4 =>
 retV (C m) [(none, v4)]))
theorem K15_0_eq (m : Nat) (call : CallF) : compF c15_0 (C m) call (fun e => retV (C m) (resE e Tryz.f15.results.toList)) (fun _ _ => noK) (fun e => retV (C m) (resE e Tryz.f15.results.toList)) = (fun e => K15_0 m call (e 0)) := by
  have u : compF c15_0 (C m) call (fun e => retV (C m) (resE e Tryz.f15.results.toList)) (fun _ _ => noK) (fun e => retV (C m) (resE e Tryz.f15.results.toList)) = (compF (pS1 c15_0) (C m) call (compF (pS1 (pS1 (pS2 c15_0))) (C m) call (fun e => ifB (e 4) ((compF (pS1 (pC1 (pS2 (pS1 (pS2 c15_0))))) (C m) call (fun e => retV (C m) (resE e Tryz.f15.results.toList)) (fun _ _ => noK) (fun e => retV (C m) (resE e Tryz.f15.results.toList))) e) ((compF (pS1 (pS2 (pS2 c15_0))) (C m) call (fun e => retV (C m) (resE e Tryz.f15.results.toList)) (fun _ _ => noK) (fun e => retV (C m) (resE e Tryz.f15.results.toList))) e)) (fun _ _ => noK) (fun e => retV (C m) (resE e Tryz.f15.results.toList))) (fun _ _ => noK) (fun e => retV (C m) (resE e Tryz.f15.results.toList))) := by kernel_rfl
  rw [u]
  show _ = _
  kernel_rfl
theorem F15_eq (m : Nat) (call : CallF) (t0 : AV) : enterK (C m) call Tryz.f15 [t0] = K15_0 m call t0 := by
  have u : enterK (C m) call Tryz.f15 [t0] = (compF c15_0 (C m) call (fun e => retV (C m) (resE e Tryz.f15.results.toList)) (fun _ _ => noK) (fun e => retV (C m) (resE e Tryz.f15.results.toList))) (argF [t0]) := by kernel_rfl
  rw [u, K15_0_eq m call]
  rfl
end Go.Proofs.YtkikpolmfaiabaaGreatDoor
